/- Data: a full slice made of values, appended to from own memory; nil slices. -/
import Derived.Test.YtcimbhjmjlfloaaGreatSaI
namespace Go.Proofs.YtcimbhjmjlfloaaGreat
open Go Go.RowKit
section
variable {P : Program} {ops : Array Oper} {T : TF} {B : BF}
/-- A slice made of values, full. -/
theorem sem_slit_F {dst : Option Nat} {U e : TypeId} {ps : Array (Nat × Operand)} {ty : TypeId} {pos : String} {af : Array Edge} {g : Option (Nat × Bool)} {n m by_ : Nat} {zs us : List CellD} {dps : List (Nat × D0)}
    (hU : elB P U = some (e, m, by_, zs)) (hp : partsD T ps.toList = some dps) (hf : fillD (fun i => some (i * m, m)) (List.replicate n zs).flatten dps = some us) (hl : us.length = n * m) (hn : n * m ≤ 16777216) (hm : 0 < n * m)
    (hg : gd ops ⟨dst, .buildSlice U n ps, ty, pos, af, g⟩ T = some true) : Sem P ops ⟨dst, .buildSlice U n ps, ty, pos, af, g⟩ T B (.r (.f n us)) := by
  have h := sem_slit (B := B) hU hp hf hn hm hg
  refine ⟨nop rfl, fun V β a w hs => ?_⟩
  obtain ⟨hw, hg⟩ := h V β a w hs
  refine ⟨hw, hg.mono ?_⟩
  rintro v w' ⟨vs, rfl, rfl, hr⟩
  refine ⟨⟨⟨_, rfl⟩, ?_⟩, (Below.refl _ w).alloc (Nat.le_refl _) _⟩
  have hkeep := Keep.below (av := V) ((Below.refl w.heap.size w).alloc (Nat.le_refl _) (.cells vs e))
  have hr2 := hr.keep hkeep
  have hvl : vs.size = n * m := by have := hr.1; rw [hl] at this; simpa using this
  have hn0 : 0 < n := by
    rcases Nat.eq_zero_or_pos n with h0 | h0
    · rw [h0, Nat.zero_mul] at hm; omega
    · exact h0
  have hm0 : 0 < m := by
    rcases Nat.eq_zero_or_pos m with h0 | h0
    · rw [h0, Nat.mul_zero] at hm; omega
    · exact h0
  have hnm : n ≤ n * m := Nat.le_mul_of_pos_right n hm0
  refine RdC.s w.heap.size 0 n m n _ (fun j => vs.getD j undef) hn0 (Nat.le_refl _) (by omega) hl (by simp) (fun h => by have := hs.av _ h; omega) (fun j hj => ?_) (fun j u hj => ?_)
  · rw [Nat.zero_add, cells_of_box (heap_alloc_new w (.cells vs e))]
    have : j < vs.size := by omega
    simp [Array.getD, this]
  · have hlt : j < n * m := by have := (List.getElem?_eq_some_iff.1 hj).1; omega
    refine hr2.2 j _ u ?_ hj
    rw [Array.getElem?_toList]
    have : j < vs.size := by omega
    simp [Array.getD, this]
/-- append onto a full slice. -/
theorem sem_appendFS {dst : Option Nat} {x y : Operand} {U e : TypeId} {ty : TypeId} {pos : String} {af : Array Edge} {g : Option (Nat × Bool)} {n q m by_ : Nat} {us ys zs : List CellD}
    (hU : elB P U = some (e, m, by_, zs)) (hx : opd T x = some (.f n us)) (hsc : ∀ V β a w, Sees V (Looks ops ⟨dst, .call ⟨.builtin .append, #[x, y], #[U, U]⟩, ty, pos, af, g⟩) T B β a w → ∃ V', RdC V' w (a.eval y) (.s q ys) ∧ ∀ news, RdCs V' w news ys → RdCs V w news ys)
    (hus : us.length = n * m) (hys : ys.length = q * m) (hm : 0 < m) (hn0 : 0 < n) (hbytes : (n + q) * by_ ≤ 140737488355328) (h63 : n + q ≤ maxLen)
    (hg : gd ops ⟨dst, .call ⟨.builtin .append, #[x, y], #[U, U]⟩, ty, pos, af, g⟩ T = some true) :
    Sem P ops ⟨dst, .call ⟨.builtin .append, #[x, y], #[U, U]⟩, ty, pos, af, g⟩ T B (.r (.v (.c (.s (n + q) (us ++ ys))))) := by
  refine ⟨nop rfl, fun V β a w hs => ⟨gd_want hs hg, ?_⟩⟩
  obtain ⟨⟨A, e1⟩, hxr⟩ : (∃ A, a.eval x = .slice A n n) ∧ RdV V w (a.eval x) (.c (.s n us)) := opd_reads hs (x := x) (by simp [Op.operands, Call.operands]) hx
  replace hxr : RdC V w (a.eval x) (.s n us) := hxr
  obtain ⟨V', h2, hconv⟩ := hsc _ _ _ _ hs
  obtain ⟨news, hsrc, hrn'⟩ := src_of hU h2 hys
  obtain ⟨olds, hsrc0, hro⟩ := src_of hU hxr hus
  have hrn := hconv _ hrn'
  obtain ⟨hu, i, z, hi, hz, hsz, hby, _, hzr⟩ := elB_spec hU
  subst hsz
  have hnl : news.length = q * i.size := hsrc.newsLen
  rw [e1] at hxr hsrc0
  unfold Gives
  by_cases hq : q = 0
  · subst hq
    have hn1 : news = [] := List.length_eq_zero_iff.1 (by rw [hnl, Nat.zero_mul])
    have hy1 : ys = [] := List.length_eq_zero_iff.1 (by rw [hys, Nat.zero_mul])
    subst hn1 hy1
    have hrun : (Builtin.append_ #[U, U] ty #[.slice A n n, a.eval y]).run P w = .ok (.slice A n n) w := by
      have hA : ∃ b off, A = some ⟨b, off, none⟩ := by
        generalize hv : Value.slice A n n = v at hxr
        cases hxr with
        | s0 A' c hc => omega
        | s b off c sz n' xs' cv h0 hnc hcm hlen hb hav hcell hr => injection hv with h1; exact ⟨b, off, h1⟩
      obtain ⟨b, off, rfl⟩ := hA
      rcases hsrc.kind with ⟨e', hk⟩ | hk <;> simp [Builtin.append_, run_underlying hu, sizeOf, typeInfo, hi, hsrc.len, hsrc.cells, Addr.add_lit] <;> rfl
    have hexec : (execOp a.eval ⟨dst, .call ⟨.builtin .append, #[x, y], #[U, U]⟩, ty, pos, af, g⟩).run P w = .ok (.value (.slice A n n)) w := by
      simp only [execOp, resolve, invoke, builtin, Sem.run_bind, Sem.run_pure, Result.andThen_ok, List.map_toArray, List.map_cons, List.map_nil, e1]
      rw [hrun]
      rfl
    rw [hexec]
    refine ⟨?_, Below.refl _ w⟩
    rw [List.append_nil]; exact hxr
  · have hgrow : n < n + q := by omega
    have hrun := run_append_grow_src (P := P) (w := w) U U ty e i z hu hi hz A n n _ hsrc0.cellsD (a.eval y) q news hsrc hgrow (by have : maxLen = 9223372036854775807 := rfl; omega) (growslice_fits hgrow (by rw [hby]; exact hbytes))
    have hexec : (execOp a.eval ⟨dst, .call ⟨.builtin .append, #[x, y], #[U, U]⟩, ty, pos, af, g⟩).run P w = .ok (.value (.slice (some ⟨w.heap.size, 0, none⟩) (n + q) (grownCap w (n + q) n e)))
        (w.drew.alloc (.cells ((olds ++ news).toArray ++ Builtin.zeroCells z.cells (grownCap w (n + q) n e - (n + q))) e)) := by
      simp only [execOp, resolve, invoke, builtin, Sem.run_bind, Sem.run_pure, Result.andThen_ok, List.map_toArray, List.map_cons, List.map_nil, e1]
      rw [hrun]
      rfl
    rw [hexec]
    have hbel : Below w.heap.size w (w.drew.alloc (.cells ((olds ++ news).toArray ++ Builtin.zeroCells z.cells (grownCap w (n + q) n e - (n + q))) e)) := (Below.refl _ w).drew.alloc (Nat.le_refl _) _
    refine ⟨?_, hbel⟩
    have hrd := (RdCs.append hro hrn).keep (Keep.below (av := V) hbel)
    have hlenr : (olds ++ news).length = (n + q) * i.size := by rw [List.length_append, hsrc0.newsLen, hnl, Nat.add_mul]
    refine RdC.s w.heap.size 0 (grownCap w (n + q) n e) i.size (n + q) _ (fun j => (olds ++ news).getD j undef) (by omega) (grownCap_ge _ _ _ _) (grownCap_le_maxLen _ _ _ _ h63) (by rw [← hrd.1]; exact hlenr) (by simp) (fun h => by have := hs.av _ h; omega) (fun j hj => ?_) (fun j u hj => ?_)
    · have hlt : j < (olds ++ news).length := by omega
      rw [Nat.zero_add]
      show (w.drew.alloc _).cell? ⟨w.drew.heap.size, j, none⟩ = _
      rw [cells_of_box (U := e) (vs := (olds ++ news).toArray ++ Builtin.zeroCells z.cells (grownCap w (n + q) n e - (n + q))) (heap_alloc_new w.drew _)]
      rw [Array.getElem?_append_left (by simpa using hlt)]
      simp only [List.getElem?_toArray, List.getD]
      rw [List.getElem?_eq_getElem hlt]; rfl
    · have hlt : j < (olds ++ news).length := by rw [hrd.1]; exact (List.getElem?_eq_some_iff.1 hj).1
      have hv : (olds ++ news)[j]? = some ((olds ++ news)[j]) := List.getElem?_eq_getElem hlt
      simp only [List.getD, hv, Option.getD_some]
      exact hrd.2 j _ u hv hj
theorem sem_appendF {dst : Option Nat} {x y : Operand} {U e e2 : TypeId} {ty : TypeId} {pos : String} {af : Array Edge} {g : Option (Nat × Bool)} {n q m by_ k2 off c2 : Nat} {us ys zs cs2 : List CellD}
    (hU : elB P U = some (e, m, by_, zs)) (hx : opd T x = some (.f n us)) (hy : opd T y = some (.w k2 off q c2)) (hb2 : B k2 = some (e2, cs2)) (hys : (cs2.drop off).take (q * m) = ys) (hoff : 0 < q → off + q * m ≤ cs2.length) (hqc : q ≤ c2) (hc2 : c2 ≤ maxLen) (hnum : ys.all numC = true)
    (hus : us.length = n * m) (hyl : ys.length = q * m) (hm : 0 < m) (hn0 : 0 < n) (hbytes : (n + q) * by_ ≤ 140737488355328) (h63 : n + q ≤ maxLen)
    (hg : gd ops ⟨dst, .call ⟨.builtin .append, #[x, y], #[U, U]⟩, ty, pos, af, g⟩ T = some true) :
    Sem P ops ⟨dst, .call ⟨.builtin .append, #[x, y], #[U, U]⟩, ty, pos, af, g⟩ T B (.r (.v (.c (.s (n + q) (us ++ ys))))) :=
  sem_appendFS hU hx (fun V β a w hs => by
      have hmax : maxLen = 9223372036854775807 := rfl
      refine ⟨fun b => V b ∧ b ≠ β k2, ?_, fun news h => nums_any hnum h⟩
      have e1 : a.eval y = .slice (some ⟨β k2, off, none⟩) q c2 := opd_reads hs (x := y) (by simp [Op.operands, Call.operands]) hy
      rw [e1]
      exact rdc_own hs hb2 hys hoff hqc (by omega)) hus hyl hm hn0 hbytes h63 hg
theorem sem_appendFz {dst : Option Nat} {x y : Operand} {U e : TypeId} {ty : TypeId} {pos : String} {af : Array Edge} {g : Option (Nat × Bool)} {n m by_ : Nat} {us zs : List CellD}
    (hU : elB P U = some (e, m, by_, zs)) (hx : opd T x = some (.f n us)) (hy : opd T y = some .z) (hus : us.length = n * m) (hm : 0 < m) (hn0 : 0 < n) (hbytes : n * by_ ≤ 140737488355328) (h63 : n ≤ maxLen)
    (hg : gd ops ⟨dst, .call ⟨.builtin .append, #[x, y], #[U, U]⟩, ty, pos, af, g⟩ T = some true) :
    Sem P ops ⟨dst, .call ⟨.builtin .append, #[x, y], #[U, U]⟩, ty, pos, af, g⟩ T B (.r (.v (.c (.s n us)))) := by
  have h := sem_appendFS (B := B) (q := 0) (ys := []) hU hx (fun V β a w hs => ⟨V, by
      have e1 : a.eval y = .slice none 0 0 := opd_reads hs (x := y) (by simp [Op.operands, Call.operands]) hy
      rw [e1]; exact .s0 _ _ (by decide), fun _ h => h⟩) hus (by simp) hm hn0 hbytes h63 hg
  rw [List.append_nil] at h
  exact h
/-- nil[:0], nil[0:] -/
theorem sem_slice_z {dst : Option Nat} {x h : Operand} {U : TypeId} {ty : TypeId} {pos : String} {af : Array Edge} {g : Option (Nat × Bool)} {m : Nat} {ki : IntKind}
    (hU : slB P U = some m) (hx : opd T x = some .z) (hh : opd T h = some (.v (.c (.i ki 0)))) (hg : gd ops ⟨dst, .slice U x none (some h) none, ty, pos, af, g⟩ T = some true) :
    Sem P ops ⟨dst, .slice U x none (some h) none, ty, pos, af, g⟩ T B (.r .z) :=
  sem_pure hg (fun k' e => by cases e) (fun V β a w hs => by
    have e : a.eval x = .slice none 0 0 := opd_reads hs (x := x) (by simp [Op.operands]) hx
    have h2 := RdC.int_eq (opd_reads hs (x := h) (by simp [Op.operands]) hh)
    unfold slB at hU
    split at hU
    case h_2 => cases hU
    rename_i el hul
    cases hinf : P.info? el with
    | none => rw [hinf] at hU; cases hU
    | some inf =>
      rw [hinf] at hU
      simp at hU
      have hso : ∀ w, (sizeOf el).run P w = .ok m w := fun w => by unfold sizeOf typeInfo; simp [program, Sem.run, hinf, hU]
      refine ⟨.slice none 0 0, ?_, rfl⟩
      simp [execOp, Instr.sliceAt, Instr.slice, run_underlying hul, e, h2, Instr.sliceBounds, Instr.sliceBound, asIntOf, hso])
theorem sem_slice_zw {dst : Option Nat} {x h : Operand} {U : TypeId} {ty : TypeId} {pos : String} {af : Array Edge} {g : Option (Nat × Bool)} {m : Nat} {ki : IntKind}
    (hU : slB P U = some m) (hx : opd T x = some .z) (hh : opd T h = some (.v (.c (.i ki 0)))) (hg : gd ops ⟨dst, .slice U x (some h) none none, ty, pos, af, g⟩ T = some true) :
    Sem P ops ⟨dst, .slice U x (some h) none none, ty, pos, af, g⟩ T B (.r .z) :=
  sem_pure hg (fun k' e => by cases e) (fun V β a w hs => by
    have e : a.eval x = .slice none 0 0 := opd_reads hs (x := x) (by simp [Op.operands]) hx
    have h2 := RdC.int_eq (opd_reads hs (x := h) (by simp [Op.operands]) hh)
    unfold slB at hU
    split at hU
    case h_2 => cases hU
    rename_i el hul
    cases hinf : P.info? el with
    | none => rw [hinf] at hU; cases hU
    | some inf =>
      rw [hinf] at hU
      simp at hU
      have hso : ∀ w, (sizeOf el).run P w = .ok m w := fun w => by unfold sizeOf typeInfo; simp [program, Sem.run, hinf, hU]
      refine ⟨.slice none 0 0, ?_, rfl⟩
      simp [execOp, Instr.sliceAt, Instr.slice, run_underlying hul, e, h2, Instr.sliceBounds, Instr.sliceBound, asIntOf, hso])
theorem sem_len_z {dst : Option Nat} {U : TypeId} {x : Operand} {ty : TypeId} {pos : String} {af : Array Edge} {g : Option (Nat × Bool)} {m : Nat}
    (hU : slB P U = some m) (hx : opd T x = some .z) (hg : gd ops ⟨dst, .call ⟨.builtin .len, #[x], #[U]⟩, ty, pos, af, g⟩ T = some true) : Sem P ops ⟨dst, .call ⟨.builtin .len, #[x], #[U]⟩, ty, pos, af, g⟩ T B (.r (.v (.c (.i .i64 0)))) :=
  sem_pure hg (nop rfl) (fun V β a w hs => by
    have e : a.eval x = .slice none 0 0 := opd_reads hs (x := x) (by simp [Op.operands, Call.operands]) hx
    unfold slB at hU
    split at hU
    case h_2 => cases hU
    rename_i el hul
    refine ⟨.int .i64 0, ?_, .i _ _⟩
    simp [execOp, resolve, invoke, builtin, Builtin.len_, e, run_underlying hul, goInt])
end
section
variable {P : Program} {ops : Array Oper} {os : List Oper} {K : St → Prop} {N : Nat} {tm : List (Nat × DV)} {bx : List (Nat × TypeId × List CellD)}
/-- append, the answers in other words. -/
theorem dl_growE {t : Nat} {x y : Operand} {U e : TypeId} {ty : TypeId} {pos : String} {af : Array Edge} {g : Option (Nat × Bool)} {n c q m by_ k N' : Nat} {us rest ys zs cs zs' : List CellD}
    (hU : elB P U = some (e, m, by_, zs)) (hx : opd (fun s => look s tm) x = some (.o k n c)) (hy : opd (fun s => look s tm) y = some (.v (.c (.s q ys)))) (hb : look k bx = some (e, cs)) (hcs : cs = us ++ rest) (hus : us.length = n * m) (hr : rest.length = (c - n) * m)
    (hys : ys.length = q * m) (hm : 0 < m) (hnc : n ≤ c) (hcm : c ≤ maxLen) (hbytes : (n + q) * by_ ≤ 140737488355328) (h63 : n + q ≤ maxLen) (hd : t = k ∨ look t bx = none) (hN : n + q = N') (hz : us ++ ys = zs')
    (hg : gd ops ⟨some t, .call ⟨.builtin .append, #[x, y], #[U, U]⟩, ty, pos, af, g⟩ (fun s => look s tm) = some true)
    (hk : ∀ c' rest', N' ≤ c' → c' ≤ maxLen → rest'.length = (c' - N') * m → dl P ops os ⟨N, (t, .o t N' c') :: killL k tm, (t, e, zs' ++ rest') :: dropL k bx⟩ K) :
    dl P ops (⟨some t, .call ⟨.builtin .append, #[x, y], #[U, U]⟩, ty, pos, af, g⟩ :: os) ⟨N, tm, bx⟩ K := by
  subst hcs hN hz
  exact dl_grow hU hx hy hb hus hr hys hm hnc hcm hbytes h63 hd hg hk
theorem dl_grow0E {t : Nat} {x y : Operand} {U e : TypeId} {ty : TypeId} {pos : String} {af : Array Edge} {g : Option (Nat × Bool)} {q m by_ : Nat} {ys zs zs' : List CellD}
    (hU : elB P U = some (e, m, by_, zs)) (hx : opd (fun s => look s tm) x = some .z) (hy : opd (fun s => look s tm) y = some (.v (.c (.s q ys)))) (hys : ys.length = q * m) (hq : 0 < q)
    (hbytes : q * by_ ≤ 140737488355328) (h63 : q ≤ maxLen) (hd : look t bx = none) (hz : ys = zs')
    (hg : gd ops ⟨some t, .call ⟨.builtin .append, #[x, y], #[U, U]⟩, ty, pos, af, g⟩ (fun s => look s tm) = some true)
    (hk : ∀ c' rest', q ≤ c' → c' ≤ maxLen → rest'.length = (c' - q) * m → dl P ops os ⟨N, (t, .o t q c') :: tm, (t, e, zs' ++ rest') :: bx⟩ K) :
    dl P ops (⟨some t, .call ⟨.builtin .append, #[x, y], #[U, U]⟩, ty, pos, af, g⟩ :: os) ⟨N, tm, bx⟩ K := by
  subst hz
  exact dl_grow0 hU hx hy hys hq hbytes h63 hd hg hk
end
end Go.Proofs.YtcimbhjmjlfloaaGreat
/- Plain: positions sorted by insertion into a new slice. -/
namespace Go.Proofs.YtcimbhjmjlfloaaGreat
open Go Go.RowKit
/-- An element of a slice: m cells from place j. -/
def elt (us : List CellD) (m : Nat) (j : Int) : List CellD := (us.drop (j.toNat * m)).take m
theorem elt_len {us : List CellD} {n m : Nat} {j : Int} (hl : us.length = n * m) (h0 : 0 ≤ j) (h1 : j < n) : (elt us m j).length = m := by
  have h : (j.toNat + 1) * m ≤ n * m := Nat.mul_le_mul_right _ (by omega)
  rw [Nat.add_mul] at h
  unfold elt
  rw [List.length_take, List.length_drop, hl]
  omega
def nI (xs : List Int) : List CellD := xs.map (CellD.i .i64)
theorem nI_len (xs : List Int) : (nI xs).length = xs.length := by unfold nI; simp
theorem nI_num (xs : List Int) : (nI xs).all numC = true := numC_map xs
theorem G_get {xs : List Int} {rs : List CellD} {i : Nat} (h : i < xs.length) : (nI xs ++ rs)[i * 1]? = some (.i .i64 (xs.getD i 0)) := by
  unfold nI
  rw [Nat.mul_one, List.getElem?_append_left (by simpa using h), List.getElem?_map, List.getElem?_eq_getElem h]
  simp [List.getD, h]
theorem G_split {xs : List Int} {rs : List CellD} (j : Nat) : nI xs ++ rs = nI (xs.take j) ++ (nI (xs.drop j) ++ rs) := by
  unfold nI
  rw [← List.append_assoc, ← List.map_append, List.take_append_drop]
theorem G_tail {xs : List Int} {rs : List CellD} {j p c : Nat} (hp : xs.length = p) (hj : j ≤ p) (hc : p ≤ c) : ((nI xs ++ rs).drop (if j < c then j * 1 else 0)).take ((p - j) * 1) = nI (xs.drop j) := by
  rw [Nat.mul_one, Nat.mul_one]
  by_cases h : j < c
  · rw [if_pos h, G_split j, List.drop_append_of_le_length (by rw [nI_len, List.length_take]; omega), List.drop_of_length_le (by rw [nI_len, List.length_take]; omega), List.nil_append, List.take_append_of_le_length (by rw [nI_len, List.length_drop]; omega), List.take_of_length_le (by rw [nI_len, List.length_drop]; omega)]
  · have e : j = p := by omega
    subst e
    rw [Nat.sub_self, List.take_zero, List.drop_of_length_le (by omega)]; rfl
theorem G_room {xs : List Int} {rs : List CellD} {j p c : Nat} (hp : xs.length = p) (hj : j ≤ p) (hr : rs.length = (c - p) * 1) (hc : p ≤ c) : 0 < p - j → (if j < c then j * 1 else 0) + (p - j) * 1 ≤ (nI xs ++ rs).length := by
  intro h
  rw [List.length_append, nI_len]
  split <;> omega
theorem srt_ins (C : Int → Int → Int) {p j : Nat} (h : posK (pp C (srt C p) p) p = j) : nI ((srt C p).take j) ++ ([CellD.i .i64 (p : Int)] ++ nI ((srt C p).drop j)) = nI (srt C (p + 1)) := by
  have e : srt C (p + 1) = (srt C p).take j ++ (p : Int) :: (srt C p).drop j := by
    show ins1 C (srt C p) p = _
    unfold ins1
    rw [srt_len, h]
  rw [e]
  unfold nI
  simp
theorem nI_drop {L : List Int} {k : Nat} (h : k < L.length) : (nI L).drop ((k : Int).toNat * 1) = [CellD.i .i64 (L.getD k 0)] ++ (nI L).drop (k + 1) := by
  rw [Nat.mul_one, Int.toNat_natCast, List.drop_eq_getElem_cons (by rw [nI_len]; exact h)]
  unfold nI
  simp [List.getD, h]
theorem srt_one (C : Int → Int → Int) : [CellD.i .i64 0] = nI (srt C 1) := rfl
end Go.Proofs.YtcimbhjmjlfloaaGreat
/- Sort: the reference; the closure. -/
namespace Go.Proofs.YtcimbhjmjlfloaaGreat
open Go Go.RowKit
theorem rSo_ok {n : Nat} (hn1 : 1 ≤ n) {us : List CellD} {C D : Int → Int → Int} (hl : us.length = n * 12) (hn : n ≤ 12) (hψ : ∀ x y : Int, 0 ≤ x → x < n → 0 ≤ y → y < n → Ok Tryz.prog 22 [.a (elt us 12 x), .a (elt us 12 y)] [.c (.i .i64 (D x y))]) (hD : ∀ x y : Int, 0 ≤ x → x < n → 0 ≤ y → y < n → (D x y > 0 ↔ C y x < 0))  : Ok Tryz.prog 7 [.c (.s n us)] [.c (.s n (nI (srt C n)))] := by
  refine Ok.of (by kernel_rfl) Tryz.func7 rfl rfl ?_
  rw [show Tryz.f7.ntmps = 45 from rfl, show Tryz.f7.results.toList = [.tmp 2] from rfl]
  refine dw_seq ?_
  -- region 0
  refine dw_region (by kernel_rfl) ?_
  refine dl_r (sem_assign rfl rfl) ?_
  refine dl_end ?_
  refine dw_seq ?_
  -- region 1
  refine dw_region (by kernel_rfl) ?_
  refine dl_r (sem_assign_z rfl) ?_
  refine dl_end ?_
  refine dw_seq ?_
  refine dw_seq ?_
  -- region 2
  refine dw_region (by kernel_rfl) ?_
  refine dl_r (sem_assign rfl rfl) ?_
  refine dl_end ?_
  refine dw_block ?_
  refine dw_loop1 (ι := {t : Nat × Nat × List CellD // 1 ≤ t.1 ∧ t.1 ≤ n ∧ t.1 ≤ t.2.1 ∧ t.2.1 ≤ maxLen ∧ t.2.2.length = (t.2.1 - t.1) * 1}) (fun i => ⟨45, [(0, .v (.c (.s n us))), (3, .o 43 i.1.1 i.1.2.1), (4, .v (.c (.i .i64 (i.1.1 : Int))))], [(43, 3, nI (srt C i.1.1) ++ i.1.2.2)]⟩) (fun i => n - i.1.1) (n) ?_ ?_
  · refine dw_seq ?_
    refine dw_seq ?_
    -- region 3
    refine dw_region (by kernel_rfl) ?_
    refine dl_r (sem_move rfl rfl) ?_
    refine dl_r (sem_move rfl rfl) ?_
    refine dl_r (sem_len sl22 rfl rfl) ?_
    refine dl_r (sem_cmp rfl rfl rfl rfl) ?_
    refine dl_end ?_
    refine dw_cond rfl (fun hc1 => ?_) (fun hc1 => ?_)
    · refine dw_skip ?_
      refine dw_seq ?_
      refine dw_block ?_
      refine dw_seq ?_
      -- region 5
      refine dw_region (by kernel_rfl) ?_
      refine dl_r (sem_move rfl rfl) ?_
      refine dl_r (sem_len_z sl32 rfl rfl) ?_
      refine dl_r (sem_assign rfl rfl) ?_
      refine dl_end ?_
      refine dw_seq ?_
      refine dw_block ?_
      refine dw_loop (ι := Nat) (fun i => match i with | _ => ⟨45, [(0, .v (.c (.s n us))), (3, .z), (4, .v (.c (.i .i64 0))), (5, .v (.c (.i .i64 0)))], []⟩) (fun i => 0 - i) 0 (sub_of ⟨rfl, rfl, rfl, rfl, trivial⟩ trivial rfl) ?_
      intro i
      match i with
      | _ =>
        show Dw _ _ ⟨45, [(0, .v (.c (.s n us))), (3, .z), (4, .v (.c (.i .i64 0))), (5, .v (.c (.i .i64 0)))], []⟩ _
        refine dw_seq ?_
        refine dw_seq ?_
        -- region 6
        refine dw_draw 18 [] follows_mixed (by kernel_rfl) rfl rfl ?_
        refine dq_r (sem_move rfl rfl) ?_
        refine dq_r (sem_cmp rfl rfl rfl rfl) ?_
        refine dq_r (sem_move rfl rfl) ?_
        refine dq_skip (sem_skip rfl) ?_
        refine dq_skip (sem_skip rfl) ?_
        refine dq_skip (sem_skip rfl) ?_
        refine dq_skip (sem_skip rfl) ?_
        refine dq_skip (sem_skip rfl) ?_
        refine dq_skip (sem_skip rfl) ?_
        refine dq_skip (sem_skip rfl) ?_
        refine dq_skip (sem_skip rfl) ?_
        refine dq_skip (sem_skip rfl) ?_
        refine dq_skip (sem_skip rfl) ?_
        refine dq_skip (sem_skip rfl) ?_
        refine dq_skip (sem_skip rfl) ?_
        refine dq_skip (sem_skip rfl) ?_
        refine dq_skip (sem_skip rfl) ?_
        refine dq_r (sem_pick rfl rfl rfl rfl) ?_
        refine dq_end ?_
        refine dl_start0 ?_
        refine dl_end ?_
        refine dw_false rfl ?_
        refine dw_exit ?_
        -- region 8
        refine dw_draw 9 [] follows_mixed (by kernel_rfl) rfl rfl ?_
        refine dq_r (sem_move rfl rfl) ?_
        refine dq_r (sem_move rfl rfl) ?_
        refine dq_r (sem_slice_z sl32 rfl rfl rfl) ?_
        refine dq_r (sem_move rfl rfl) ?_
        refine dq_r (sem_slit_F (us := [.i .i64 0]) el32 rfl rfl rfl (by decide) (by decide) rfl) ?_
        refine dq_r (sem_move rfl rfl) ?_
        refine dq_r (sem_move rfl rfl) ?_
        refine dq_r (sem_slice_zw sl32 rfl rfl rfl) ?_
        refine dq_r (sem_appendFz el32 rfl rfl rfl (by decide) (by decide) (by decide) (by decide) rfl) ?_
        refine dq_end ?_
        refine dl_start0 ?_
        refine dl_grow0E (q := 1) (ys := [.i .i64 0]) (zs' := nI (srt C 1)) el32 rfl rfl (rfl) (by decide) (by decide) (by decide) rfl (srt_one C) rfl (fun cg2 rg2 hga2 hgb2 hgc2 => ?_)
        refine dl_r (sem_assign rfl rfl) ?_
        refine dl_end ?_
        -- region 4
        refine dw_region (by kernel_rfl) ?_
        refine dl_r (sem_move rfl rfl) ?_
        refine dl_r (sem_ari (r := 1) rfl rfl rfl rfl) ?_
        refine dl_r (sem_assign rfl rfl) ?_
        refine dl_end ?_
        exact ⟨⟨⟨1, cg2, rg2⟩, by omega, by omega, by omega, hgb2, hgc2⟩, sub_of ⟨rfl, rfl, rfl, trivial⟩ ⟨rfl, trivial⟩ rfl, by show n - 1 < n; omega⟩
    · exact (of_decide_eq_false hc1 (by omega)).elim
  · rintro ⟨⟨p, c, rs⟩, h1, h2, h3, h4, h5⟩
    dsimp only at h1 h2 h3 h4 h5
    show Dw _ _ ⟨45, [(0, .v (.c (.s n us))), (3, .o 43 p c), (4, .v (.c (.i .i64 (p : Int))))], [(43, 3, nI (srt C p) ++ rs)]⟩ _
    refine dw_seq ?_
    refine dw_seq ?_
    -- region 3
    refine dw_region (by kernel_rfl) ?_
    refine dl_r (sem_move rfl rfl) ?_
    refine dl_r (sem_move rfl rfl) ?_
    refine dl_r (sem_len sl22 rfl rfl) ?_
    refine dl_r (sem_cmp rfl rfl rfl rfl) ?_
    refine dl_end ?_
    refine dw_cond rfl (fun hc3 => ?_) (fun hc3 => ?_)
    · have g1 : p < n := by have := of_decide_eq_true hc3; omega
      have h2c : p ≤ c := h3
      refine dw_skip ?_
      refine dw_seq ?_
      refine dw_block ?_
      refine dw_seq ?_
      -- region 5
      refine dw_region (by kernel_rfl) ?_
      refine dl_r (sem_move rfl rfl) ?_
      refine dl_r (sem_len_o sl32 rfl rfl) ?_
      refine dl_r (sem_assign rfl rfl) ?_
      refine dl_end ?_
      refine dw_seq ?_
      refine dw_block ?_
      refine dw_loop (ι := {j : Nat // j ≤ p ∧ posK (pp C (srt C p) p) p = posK (pp C (srt C p) p) j}) (fun i => ⟨45, [(0, .v (.c (.s n us))), (3, .o 43 p c), (4, .v (.c (.i .i64 (p : Int)))), (5, .v (.c (.i .i64 (i.1 : Int))))], [(43, 3, nI (srt C p) ++ rs)]⟩) (fun i => i.1) ⟨p, Nat.le_refl _, rfl⟩ (sub_of ⟨rfl, rfl, rfl, rfl, trivial⟩ ⟨rfl, trivial⟩ rfl) ?_
      rintro ⟨j, h3j, h6⟩
      replace h3j : j ≤ p := h3j
      replace h6 : posK (pp C (srt C p) p) p = posK (pp C (srt C p) p) j := h6
      show Dw _ _ ⟨45, [(0, .v (.c (.s n us))), (3, .o 43 p c), (4, .v (.c (.i .i64 (p : Int)))), (5, .v (.c (.i .i64 (j : Int))))], [(43, 3, nI (srt C p) ++ rs)]⟩ _
      refine dw_seq ?_
      refine dw_seq ?_
      -- region 6
      refine dw_draw 18 [] follows_mixed (by kernel_rfl) rfl rfl ?_
      refine dq_r (sem_move rfl rfl) ?_
      refine dq_r (sem_cmp rfl rfl rfl rfl) ?_
      refine dq_rb (sem_move rfl rfl) (fun c4 hb4 => ?_)
      cases c4
      · have g2 : j = 0 := by have := of_decide_eq_false hb4; omega
        refine dq_skip (sem_skip rfl) ?_
        refine dq_skip (sem_skip rfl) ?_
        refine dq_skip (sem_skip rfl) ?_
        refine dq_skip (sem_skip rfl) ?_
        refine dq_skip (sem_skip rfl) ?_
        refine dq_skip (sem_skip rfl) ?_
        refine dq_skip (sem_skip rfl) ?_
        refine dq_skip (sem_skip rfl) ?_
        refine dq_skip (sem_skip rfl) ?_
        refine dq_skip (sem_skip rfl) ?_
        refine dq_skip (sem_skip rfl) ?_
        refine dq_skip (sem_skip rfl) ?_
        refine dq_skip (sem_skip rfl) ?_
        refine dq_skip (sem_skip rfl) ?_
        refine dq_r (sem_pick rfl rfl rfl rfl) ?_
        refine dq_end ?_
        refine dl_start0 ?_
        refine dl_end ?_
        refine dw_false rfl ?_
        refine dw_exit ?_
        -- region 8
        refine dw_draw 9 [] follows_mixed (by kernel_rfl) rfl rfl ?_
        refine dq_r (sem_move rfl rfl) ?_
        refine dq_r (sem_move rfl rfl) ?_
        refine dq_r (sem_slice_o (q := j) sl32 rfl rfl (by omega) rfl) ?_
        refine dq_r (sem_move rfl rfl) ?_
        refine dq_r (sem_slit_F (us := [.i .i64 (p : Int)]) el32 rfl rfl rfl (by decide) (by decide) rfl) ?_
        refine dq_r (sem_move rfl rfl) ?_
        refine dq_r (sem_move rfl rfl) ?_
        refine dq_r (sem_slice_w (q := j) sl32 rfl rfl (by omega) (by omega) rfl) ?_
        refine dq_r (sem_appendF (q := p - j) (ys := nI ((srt C p).drop j)) el32 rfl rfl rfl (G_tail (srt_len C p) h3j h2c) (G_room (srt_len C p) h3j h5 h2c) (by omega) (by omega) (nI_num _) rfl (by rw [nI_len, List.length_drop, srt_len]; omega) (by decide) (by decide) (by omega) (g_max (by omega)) rfl) ?_
        refine dq_end ?_
        refine dl_start0 ?_
        refine dl_growE (n := j) (c := c) (q := 1 + (p - j)) (us := nI ((srt C p).take j)) (rest := nI ((srt C p).drop j) ++ rs) (N' := p + 1) (zs' := nI (srt C (p + 1))) el32 rfl rfl rfl (G_split j) (by rw [nI_len, List.length_take, srt_len]; omega) (by rw [List.length_append, nI_len, List.length_drop, srt_len]; omega) (by rw [List.length_append, nI_len, List.length_drop, srt_len]; simp) (by decide) (by omega) (by assumption) (by omega) (g_max (by omega)) (.inl rfl) (by omega) (srt_ins C (h6.trans (posK_f (.inl g2)))) rfl (fun cg5 rg5 hga5 hgb5 hgc5 => ?_)
        refine dl_r (sem_assign rfl rfl) ?_
        refine dl_end ?_
        -- region 4
        refine dw_region (by kernel_rfl) ?_
        refine dl_r (sem_move rfl rfl) ?_
        refine dl_r (sem_ari (r := ((p + 1 : Nat) : Int)) rfl rfl ((ari_i64_add (by omega) (by omega)).trans (congrArg some (by omega))) rfl) ?_
        refine dl_r (sem_assign rfl rfl) ?_
        refine dl_end ?_
        exact ⟨⟨⟨p + 1, cg5, rg5⟩, by omega, g1, by omega, hgb5, hgc5⟩, sub_of ⟨rfl, rfl, rfl, trivial⟩ ⟨rfl, trivial⟩ rfl, by show n - (p + 1) < n - p; omega⟩
      · have g2 : 0 < j := by have := of_decide_eq_true hb4; omega
        refine dq_r (sem_move rfl rfl) ?_
        refine dq_r (sem_move rfl rfl) ?_
        refine dq_r (sem_move rfl rfl) ?_
        refine dq_r (sem_ari (r := ((j - 1 : Nat) : Int)) rfl rfl ((ari_i64_sub (by omega) (by omega)).trans (congrArg some (by omega))) rfl) ?_
        refine dq_r (sem_index_o sl32 rfl rfl (by omega) rfl) ?_
        refine dq_r (sem_casti (c := (srt C p).getD (j - 1) 0) (sem_load1 ty3 rfl rfl (G_get (xs := srt C p) (i := (j - 1)) (by rw [srt_len]; omega)) rfl) (rfl)) ?_
        refine dq_r (sem_index (us := us.drop (((srt C p).getD (j - 1) 0).toNat * 12)) sl22 rfl rfl (by have := (srt_at C (show j - 1 < p by omega)); omega) (hl) (rfl) rfl) ?_
        refine dq_r (sem_loadq (us := elt us 12 ((srt C p).getD (j - 1) 0)) ty30 rfl rfl (elt_len hl (srt_at C (show j - 1 < p by omega)).1 (by have := (srt_at C (show j - 1 < p by omega)).2; omega)) rfl) ?_
        refine dq_r (sem_move rfl rfl) ?_
        refine dq_r (sem_move rfl rfl) ?_
        refine dq_r (sem_index (us := us.drop ((p : Int).toNat * 12)) sl22 rfl rfl (by omega) (hl) (rfl) rfl) ?_
        refine dq_r (sem_loadq (us := elt us 12 (p : Int)) ty30 rfl rfl (elt_len hl (by omega) (by omega)) rfl) ?_
        refine dq_r (sem_call rfl rfl (hψ _ _ (srt_at C (show j - 1 < p by omega)).1 (by have := (srt_at C (show j - 1 < p by omega)).2; omega) (by omega) (by omega)) rfl) ?_
        refine dq_r (sem_cmp rfl rfl rfl rfl) ?_
        refine dq_r (sem_pick rfl rfl rfl rfl) ?_
        refine dq_end ?_
        refine dl_start0 ?_
        refine dl_end ?_
        refine dw_cond rfl (fun hc6 => ?_) (fun hc6 => ?_)
        · have g3 : pp C (srt C p) p (j - 1) = true := decide_eq_true ((hD _ _ (srt_at C (show j - 1 < p by omega)).1 (by have := (srt_at C (show j - 1 < p by omega)).2; omega) (by omega) (by omega)).1 (of_decide_eq_true hc6))
          refine dw_skip ?_
          refine dw_block ?_
          -- region 7
          refine dw_region (by kernel_rfl) ?_
          refine dl_r (sem_move rfl rfl) ?_
          refine dl_r (sem_ari (r := ((j - 1 : Nat) : Int)) rfl rfl ((ari_i64_sub (by omega) (by omega)).trans (congrArg some (by omega))) rfl) ?_
          refine dl_r (sem_assign rfl rfl) ?_
          refine dl_end ?_
          exact ⟨⟨j - 1, by omega, h6.trans (posK_t g2 g3)⟩, sub_of ⟨rfl, rfl, rfl, rfl, trivial⟩ ⟨rfl, trivial⟩ rfl, by show j - 1 < j; omega⟩
        · have g3 : pp C (srt C p) p (j - 1) = false := decide_eq_false (fun h9 => of_decide_eq_false hc6 ((hD _ _ (srt_at C (show j - 1 < p by omega)).1 (by have := (srt_at C (show j - 1 < p by omega)).2; omega) (by omega) (by omega)).2 h9))
          refine dw_exit ?_
          -- region 8
          refine dw_draw 9 [] follows_mixed (by kernel_rfl) rfl rfl ?_
          refine dq_r (sem_move rfl rfl) ?_
          refine dq_r (sem_move rfl rfl) ?_
          refine dq_r (sem_slice_o (q := j) sl32 rfl rfl (by omega) rfl) ?_
          refine dq_r (sem_move rfl rfl) ?_
          refine dq_r (sem_slit_F (us := [.i .i64 (p : Int)]) el32 rfl rfl rfl (by decide) (by decide) rfl) ?_
          refine dq_r (sem_move rfl rfl) ?_
          refine dq_r (sem_move rfl rfl) ?_
          refine dq_r (sem_slice_w (q := j) sl32 rfl rfl (by omega) (by omega) rfl) ?_
          refine dq_r (sem_appendF (q := p - j) (ys := nI ((srt C p).drop j)) el32 rfl rfl rfl (G_tail (srt_len C p) h3j h2c) (G_room (srt_len C p) h3j h5 h2c) (by omega) (by omega) (nI_num _) rfl (by rw [nI_len, List.length_drop, srt_len]; omega) (by decide) (by decide) (by omega) (g_max (by omega)) rfl) ?_
          refine dq_end ?_
          refine dl_start0 ?_
          refine dl_growE (n := j) (c := c) (q := 1 + (p - j)) (us := nI ((srt C p).take j)) (rest := nI ((srt C p).drop j) ++ rs) (N' := p + 1) (zs' := nI (srt C (p + 1))) el32 rfl rfl rfl (G_split j) (by rw [nI_len, List.length_take, srt_len]; omega) (by rw [List.length_append, nI_len, List.length_drop, srt_len]; omega) (by rw [List.length_append, nI_len, List.length_drop, srt_len]; simp) (by decide) (by omega) (by assumption) (by omega) (g_max (by omega)) (.inl rfl) (by omega) (srt_ins C (h6.trans (posK_f (.inr g3)))) rfl (fun cg7 rg7 hga7 hgb7 hgc7 => ?_)
          refine dl_r (sem_assign rfl rfl) ?_
          refine dl_end ?_
          -- region 4
          refine dw_region (by kernel_rfl) ?_
          refine dl_r (sem_move rfl rfl) ?_
          refine dl_r (sem_ari (r := ((p + 1 : Nat) : Int)) rfl rfl ((ari_i64_add (by omega) (by omega)).trans (congrArg some (by omega))) rfl) ?_
          refine dl_r (sem_assign rfl rfl) ?_
          refine dl_end ?_
          exact ⟨⟨⟨p + 1, cg7, rg7⟩, by omega, g1, by omega, hgb7, hgc7⟩, sub_of ⟨rfl, rfl, rfl, trivial⟩ ⟨rfl, trivial⟩ rfl, by show n - (p + 1) < n - p; omega⟩
    · have hp : p = n := by have := of_decide_eq_false hc3; omega
      refine dw_exit ?_
      refine dw_seq ?_
      -- region 9
      refine dw_region (by kernel_rfl) ?_
      refine dl_r (sem_move rfl rfl) ?_
      refine dl_r (sem_assign rfl rfl) ?_
      refine dl_end ?_
      refine dw_release (t := 2) (m := 1) (us := nI (srt C p)) rfl rfl (g_len (n := p) (by rw [nI_len, srt_len, Nat.mul_one]) (by assumption) (by omega)) (by omega) (by assumption) (g_take (by rw [nI_len, srt_len, Nat.mul_one])) ?_
      refine dw_ret ?_
      -- path LF
      subst hp
      exact ⟨.inr rfl, (resL_tmp rfl resL_nil)⟩
theorem pS1_ok {n : Nat} {us : List CellD} {x y d : Int} (hl : us.length = n * 12) (hx0 : 0 ≤ x) (hx1 : x < n) (hy0 : 0 ≤ y) (hy1 : y < n) (hψ : Ok Tryz.prog 21 [.a (elt us 12 x), .a (elt us 12 y)] [.c (.i .i64 d)]) : Ok Tryz.prog 20 [.c (.i .i64 x), .c (.i .i64 y), .c (.p ([.s n us]))] [.c (.i .i64 d)] := by
  refine Ok.of (by kernel_rfl) Tryz.func20 rfl rfl ?_
  rw [show Tryz.f20.ntmps = 15 from rfl, show Tryz.f20.results.toList = [.tmp 5] from rfl]
  refine dw_seq ?_
  -- region 0
  refine dw_region (by kernel_rfl) ?_
  refine dl_r (sem_assign rfl rfl) ?_
  refine dl_end ?_
  refine dw_seq ?_
  -- region 1
  refine dw_draw 10 [] follows_mixed (by kernel_rfl) rfl rfl ?_
  refine dq_r (sem_loadP1 ty22 rfl rfl rfl) ?_
  refine dq_r (sem_move rfl rfl) ?_
  refine dq_r (sem_index (us := us.drop (x.toNat * 12)) sl22 rfl rfl (by omega) (hl) (rfl) rfl) ?_
  refine dq_r (sem_loadq (us := elt us 12 x) ty30 rfl rfl (elt_len hl hx0 hx1) rfl) ?_
  refine dq_r (sem_loadP1 ty22 rfl rfl rfl) ?_
  refine dq_r (sem_move rfl rfl) ?_
  refine dq_r (sem_index (us := us.drop (y.toNat * 12)) sl22 rfl rfl (by omega) (hl) (rfl) rfl) ?_
  refine dq_r (sem_loadq (us := elt us 12 y) ty30 rfl rfl (elt_len hl hy0 hy1) rfl) ?_
  refine dq_r (sem_call rfl rfl (hψ) rfl) ?_
  refine dq_r (sem_assign rfl rfl) ?_
  refine dq_end ?_
  refine dl_start0 ?_
  refine dl_end ?_
  refine dw_ret ?_
  -- path 
  exact ⟨.inr rfl, (resL_tmp rfl resL_nil)⟩
end Go.Proofs.YtcimbhjmjlfloaaGreat
/- Sort of nothing. -/
namespace Go.Proofs.YtcimbhjmjlfloaaGreat
open Go Go.RowKit
theorem iIns_0  : OkS Tryz.prog 78 3 0 0 (([] : List Int).map (CellD.i .i64)) (([] : List Int).map (CellD.i .i64)) [.c (.i .i64 0), .c (.i .i64 0), .c (.k 20 [.p ([.s 0 ([])])])] := by
  refine OkS.of (K := 100000) (by kernel_rfl) Tryz.func78 rfl rfl rfl rfl ?_
  rw [show Tryz.f78.ntmps = 53 from rfl]
  refine dw_seq ?_
  -- region 0
  refine dw_region (by kernel_rfl) ?_
  refine dl_r (sem_move rfl rfl) ?_
  refine dl_r (sem_ari (r := 1) rfl rfl rfl rfl) ?_
  refine dl_r (sem_assign rfl rfl) ?_
  refine dl_end ?_
  refine dw_block ?_
  refine dw_loop (ι := Nat) (fun i => match i with | _ => ⟨53, [(0, .o 100000 0 0), (1, .v (.c (.i .i64 0))), (2, .v (.c (.i .i64 0))), (3, .v (.c (.k 20 [.p ([.s 0 ([])])]))), (8, .v (.c (.i .i64 1)))], [(100000, 3, ([] : List Int).map (CellD.i .i64))]⟩) (fun i => 0 - i) 0 (sub_of ⟨rfl, rfl, rfl, rfl, rfl, trivial⟩ ⟨rfl, trivial⟩ rfl) ?_
  intro i
  match i with
  | _ =>
    show Dw _ _ ⟨53, [(0, .o 100000 0 0), (1, .v (.c (.i .i64 0))), (2, .v (.c (.i .i64 0))), (3, .v (.c (.k 20 [.p ([.s 0 ([])])]))), (8, .v (.c (.i .i64 1)))], [(100000, 3, ([] : List Int).map (CellD.i .i64))]⟩ _
    refine dw_seq ?_
    refine dw_seq ?_
    -- region 1
    refine dw_region (by kernel_rfl) ?_
    refine dl_r (sem_move rfl rfl) ?_
    refine dl_r (sem_move rfl rfl) ?_
    refine dl_r (sem_cmp rfl rfl rfl rfl) ?_
    refine dl_end ?_
    refine dw_false rfl ?_
    refine dw_exit ?_
    -- path L0
    exact ⟨.inl rfl, rfl⟩
theorem iSta_0  : OkS Tryz.prog 42 3 0 0 (([] : List Int).map (CellD.i .i64)) (([] : List Int).map (CellD.i .i64)) [.c (.i .i64 0), .c (.k 20 [.p ([.s 0 ([])])])] := by
  refine OkS.of (K := 100000) (by kernel_rfl) Tryz.func42 rfl rfl rfl rfl ?_
  rw [show Tryz.f42.ntmps = 63 from rfl]
  refine dw_seq ?_
  -- region 0
  refine dw_region (by kernel_rfl) ?_
  refine dl_r (sem_assign rfl rfl) ?_
  refine dl_end ?_
  refine dw_seq ?_
  -- region 1
  refine dw_region (by kernel_rfl) ?_
  refine dl_r (sem_move rfl rfl) ?_
  refine dl_r (sem_assign rfl rfl) ?_
  refine dl_r (sem_assign rfl rfl) ?_
  refine dl_end ?_
  refine dw_seq ?_
  refine dw_block ?_
  refine dw_loop (ι := Nat) (fun i => match i with | _ => ⟨63, [(0, .o 100000 0 0), (1, .v (.c (.i .i64 0))), (2, .v (.c (.k 20 [.p ([.s 0 ([])])]))), (6, .v (.c (.i .i64 20))), (7, .v (.c (.i .i64 0))), (8, .v (.c (.i .i64 20)))], [(100000, 3, ([] : List Int).map (CellD.i .i64))]⟩) (fun i => 0 - i) 0 (sub_of ⟨rfl, rfl, rfl, rfl, rfl, rfl, trivial⟩ ⟨rfl, trivial⟩ rfl) ?_
  intro i
  match i with
  | _ =>
    show Dw _ _ ⟨63, [(0, .o 100000 0 0), (1, .v (.c (.i .i64 0))), (2, .v (.c (.k 20 [.p ([.s 0 ([])])]))), (6, .v (.c (.i .i64 20))), (7, .v (.c (.i .i64 0))), (8, .v (.c (.i .i64 20)))], [(100000, 3, ([] : List Int).map (CellD.i .i64))]⟩ _
    refine dw_seq ?_
    refine dw_seq ?_
    -- region 2
    refine dw_region (by kernel_rfl) ?_
    refine dl_r (sem_move rfl rfl) ?_
    refine dl_r (sem_move rfl rfl) ?_
    refine dl_r (sem_cmp rfl rfl rfl rfl) ?_
    refine dl_end ?_
    refine dw_false rfl ?_
    refine dw_exit ?_
    refine dw_seq ?_
    -- region 6
    refine dw_region (by kernel_rfl) ?_
    refine dl_r (sem_move rfl rfl) ?_
    refine dl_r (sem_move rfl rfl) ?_
    refine dl_r (sem_move rfl rfl) ?_
    refine dl_r (sem_move rfl rfl) ?_
    refine dl_rs (sem_calls rfl rfl rfl rfl rfl (iIns_0) rfl) ?_
    refine dl_end ?_
    refine dw_block ?_
    refine dw_loop (ι := Nat) (fun i => match i with | _ => ⟨63, [(0, .o 100000 0 0), (1, .v (.c (.i .i64 0))), (2, .v (.c (.k 20 [.p ([.s 0 ([])])]))), (6, .v (.c (.i .i64 20))), (7, .v (.c (.i .i64 0))), (8, .v (.c (.i .i64 20)))], [(100000, 3, ([] : List Int).map (CellD.i .i64))]⟩) (fun i => 0 - i) 0 (sub_of ⟨rfl, rfl, rfl, rfl, rfl, rfl, trivial⟩ ⟨rfl, trivial⟩ rfl) ?_
    intro i
    match i with
    | _ =>
      show Dw _ _ ⟨63, [(0, .o 100000 0 0), (1, .v (.c (.i .i64 0))), (2, .v (.c (.k 20 [.p ([.s 0 ([])])]))), (6, .v (.c (.i .i64 20))), (7, .v (.c (.i .i64 0))), (8, .v (.c (.i .i64 20)))], [(100000, 3, ([] : List Int).map (CellD.i .i64))]⟩ _
      refine dw_seq ?_
      refine dw_seq ?_
      -- region 7
      refine dw_region (by kernel_rfl) ?_
      refine dl_r (sem_move rfl rfl) ?_
      refine dl_r (sem_move rfl rfl) ?_
      refine dl_r (sem_cmp rfl rfl rfl rfl) ?_
      refine dl_end ?_
      refine dw_false rfl ?_
      refine dw_exit ?_
      -- path L0L0
      exact ⟨.inl rfl, rfl⟩
theorem iSsf_0  : OkS Tryz.prog 19 3 0 0 (([] : List Int).map (CellD.i .i64)) (([] : List Int).map (CellD.i .i64)) [.c (.k 20 [.p ([.s 0 ([])])])] := by
  refine OkS.of (K := 100000) (by kernel_rfl) Tryz.func19 rfl rfl rfl rfl ?_
  rw [show Tryz.f19.ntmps = 9 from rfl]
  -- region 0
  refine dw_region (by kernel_rfl) ?_
  refine dl_r (sem_move rfl rfl) ?_
  refine dl_r (sem_move rfl rfl) ?_
  refine dl_r (sem_len_o sl32 rfl rfl) ?_
  refine dl_r (sem_move rfl rfl) ?_
  refine dl_rs (sem_calls rfl rfl rfl rfl rfl (iSta_0) rfl) ?_
  refine dl_end ?_
  -- path 
  exact ⟨.inl rfl, rfl⟩
theorem pSort_0  : Ok Tryz.prog 6 [.c (.s 0 ([]))] [.c (.s 0 (([] : List Int).map (CellD.i .i64)))] := by
  refine Ok.of (by kernel_rfl) Tryz.func6 rfl rfl ?_
  rw [show Tryz.f6.ntmps = 22 from rfl, show Tryz.f6.results.toList = [.tmp 2] from rfl]
  refine dw_seq ?_
  -- region 0
  refine dw_region (by kernel_rfl) ?_
  refine dl_new (sem_box_c rfl rfl) rfl ?_
  refine dl_r (sem_assign rfl rfl) ?_
  refine dl_end ?_
  refine dw_seq ?_
  -- region 1
  refine dw_region (by kernel_rfl) ?_
  refine dl_r (sem_load1 ty22 rfl rfl rfl rfl) ?_
  refine dl_r (sem_len sl22 rfl rfl) ?_
  refine dl_mk (sem_make (n := 0) el32 rfl rfl (by omega) (by omega) rfl) rfl ?_
  refine dl_r (sem_assign rfl rfl) ?_
  refine dl_end ?_
  refine dw_seq ?_
  refine dw_seq ?_
  -- region 2
  refine dw_region (by kernel_rfl) ?_
  refine dl_r (sem_move rfl rfl) ?_
  refine dl_r (sem_len_o sl32 rfl rfl) ?_
  refine dl_r (sem_move rfl rfl) ?_
  refine dl_end ?_
  refine dw_block ?_
  refine dw_loop (ι := Nat) (fun i => match i with | _ => ⟨22, [(1, .p 1 0), (3, .o 7 0 0), (9, .v (.c (.i .i64 0))), (10, .v (.c (.i .i64 0)))], [(1, 22, [.s 0 ([])]), (7, 3, ([] : List Int).map (CellD.i .i64))]⟩) (fun i => 0 - i) 0 (sub_of ⟨rfl, rfl, rfl, rfl, trivial⟩ ⟨rfl, rfl, trivial⟩ rfl) ?_
  intro i
  match i with
  | _ =>
    show Dw _ _ ⟨22, [(1, .p 1 0), (3, .o 7 0 0), (9, .v (.c (.i .i64 0))), (10, .v (.c (.i .i64 0)))], [(1, 22, [.s 0 ([])]), (7, 3, ([] : List Int).map (CellD.i .i64))]⟩ _
    refine dw_seq ?_
    -- region 3
    refine dw_region (by kernel_rfl) ?_
    refine dl_r (sem_cmp rfl rfl rfl rfl) ?_
    refine dl_end ?_
    refine dw_seq ?_
    refine dw_false rfl ?_
    refine dw_exit ?_
    refine dw_seq ?_
    -- region 7
    refine dw_freeze (t := 1) (k := 1) rfl rfl ?_
    refine dw_region (by kernel_rfl) ?_
    refine dl_r (sem_move rfl rfl) ?_
    refine dl_r (sem_mkfn (us := [.p ([.s 0 ([])])]) rfl rfl) ?_
    refine dl_rs (sem_calls rfl rfl rfl rfl rfl (iSsf_0) rfl) ?_
    refine dl_end ?_
    refine dw_seq ?_
    -- region 8
    refine dw_region (by kernel_rfl) ?_
    refine dl_r (sem_move rfl rfl) ?_
    refine dl_r (sem_assign rfl rfl) ?_
    refine dl_end ?_
    refine dw_release (t := 2) (m := 1) (us := ([] : List Int).map (CellD.i .i64)) rfl rfl (by rw [List.length_map, List.length_nil] <;> omega) (Nat.le_refl _) (by omega) (List.take_of_length_le (by rw [List.length_map, List.length_nil] <;> omega)) ?_
    refine dw_ret ?_
    -- path L0
    exact ⟨.inr rfl, (resL_tmp rfl resL_nil)⟩
theorem rSo_0  : Ok Tryz.prog 7 [.c (.s 0 ([]))] [.c (.s 0 ([]))] := by
  refine Ok.of (by kernel_rfl) Tryz.func7 rfl rfl ?_
  rw [show Tryz.f7.ntmps = 45 from rfl, show Tryz.f7.results.toList = [.tmp 2] from rfl]
  refine dw_seq ?_
  -- region 0
  refine dw_region (by kernel_rfl) ?_
  refine dl_r (sem_assign rfl rfl) ?_
  refine dl_end ?_
  refine dw_seq ?_
  -- region 1
  refine dw_region (by kernel_rfl) ?_
  refine dl_r (sem_assign_z rfl) ?_
  refine dl_end ?_
  refine dw_seq ?_
  refine dw_seq ?_
  -- region 2
  refine dw_region (by kernel_rfl) ?_
  refine dl_r (sem_assign rfl rfl) ?_
  refine dl_end ?_
  refine dw_block ?_
  refine dw_loop (ι := Nat) (fun i => match i with | _ => ⟨45, [(0, .v (.c (.s 0 ([])))), (3, .z), (4, .v (.c (.i .i64 0)))], []⟩) (fun i => 0 - i) 0 (sub_of ⟨rfl, rfl, rfl, trivial⟩ trivial rfl) ?_
  intro i
  match i with
  | _ =>
    show Dw _ _ ⟨45, [(0, .v (.c (.s 0 ([])))), (3, .z), (4, .v (.c (.i .i64 0)))], []⟩ _
    refine dw_seq ?_
    refine dw_seq ?_
    -- region 3
    refine dw_region (by kernel_rfl) ?_
    refine dl_r (sem_move rfl rfl) ?_
    refine dl_r (sem_move rfl rfl) ?_
    refine dl_r (sem_len sl22 rfl rfl) ?_
    refine dl_r (sem_cmp rfl rfl rfl rfl) ?_
    refine dl_end ?_
    refine dw_false rfl ?_
    refine dw_exit ?_
    refine dw_seq ?_
    -- region 9
    refine dw_region (by kernel_rfl) ?_
    refine dl_r (sem_move rfl rfl) ?_
    refine dl_r (sem_assign rfl rfl) ?_
    refine dl_end ?_
    refine dw_nil (t := 2) rfl ?_
    refine dw_ret ?_
    -- path L0
    exact ⟨.inr rfl, (resL_tmp rfl resL_nil)⟩
end Go.Proofs.YtcimbhjmjlfloaaGreat
/- Plain: numbers as they may come in (limbs as they are), and when they are numbers in reduced form. -/
namespace Go.Proofs.YtcimbhjmjlfloaaGreat
open Go Go.RowKit
/-- limbs are of 32 bits -/
def U32s (xs : List Int) : Prop := ∀ x ∈ xs, 0 ≤ x ∧ x ≤ 4294967295
theorem u32_getD {xs : List Int} (h : U32s xs) (i : Nat) : 0 ≤ xs.getD i 0 ∧ xs.getD i 0 ≤ 4294967295 := by
  by_cases hi : i < xs.length
  · have : xs.getD i 0 = xs[i] := by simp [List.getD, hi]
    rw [this]; exact h _ (List.getElem_mem hi)
  · have : xs.getD i 0 = 0 := by rw [List.getD, List.getElem?_eq_none (by omega)]; rfl
    rw [this]; omega
/-- a whole number in reduced form -/
def vI (neg : Bool) (xs : List Int) : Bool := xs.all (fun x => decide (x < 1000000000)) && ((trm xs).length == xs.length) && (!neg || decide (0 < xs.length))
theorem vI_bad {neg : Bool} {xs : List Int} {k : Nat} (hk : k < xs.length) (h : xs.getD k 0 ≥ 1000000000) : vI neg xs = false := by
  have h1 : xs.all (fun x => decide (x < 1000000000)) = false := by
    rw [Bool.eq_false_iff]
    intro hall
    have h2 := List.all_eq_true.1 hall xs[k] (List.getElem_mem hk)
    have h3 : xs.getD k 0 = xs[k] := by simp [List.getD, hk]
    simp only [decide_eq_true_eq] at h2
    omega
  unfold vI
  rw [h1]; rfl
theorem lim_of_all {xs : List Int} (hb : U32s xs) (h : ∀ k, k < xs.length → xs.getD k 0 < 1000000000) : Lim xs := by
  intro x hx
  obtain ⟨i, hi, rfl⟩ := List.getElem_of_mem hx
  have h1 := h i hi
  have h3 : xs.getD i 0 = xs[i] := by simp [List.getD, hi]
  have := hb xs[i] (List.getElem_mem hi)
  omega
theorem all_of_lim {xs : List Int} (h : Lim xs) : xs.all (fun x => decide (x < 1000000000)) = true := List.all_eq_true.2 fun x hx => by have := h x hx; simp; omega
theorem vI_lim {neg : Bool} {xs : List Int} (h : Lim xs) : vI neg xs = (((trm xs).length == xs.length) && (!neg || decide (0 < xs.length))) := by
  unfold vI; rw [all_of_lim h]; rfl
theorem trm_last {xs : List Int} (h : 0 < xs.length) : ((trm xs).length == xs.length) = (xs.getD (xs.length - 1) 0 != 0) := by
  cases hb : (xs.getD (xs.length - 1) 0 == 0) with
  | true =>
    have h1 := trim_step (xs := xs) (k := xs.length) h (Nat.le_refl _) (by rw [List.take_length]) (by rw [List.take_length]; exact hb)
    have h2 := trm_len (xs.take (xs.length - 1))
    rw [h1, List.length_take] at h2
    have : (trm xs).length ≠ xs.length := by omega
    simp at hb
    simp [this, hb]
  | false =>
    have h1 := trim_stop (xs := xs) (k := xs.length) h (Nat.le_refl _) (by rw [List.take_length]) (by rw [List.take_length]; exact hb)
    rw [h1, List.take_length]
    simp at hb
    simp [hb]
theorem vI_pos {neg : Bool} {xs : List Int} (h : Lim xs) (h0 : 0 < xs.length) : vI neg xs = (xs.getD (xs.length - 1) 0 != 0) := by
  rw [vI_lim h, trm_last h0]
  simp [h0]
theorem vI_nil {neg : Bool} {xs : List Int} (h0 : ¬ 0 < xs.length) : vI neg xs = !neg := by
  have : xs = [] := List.length_eq_zero_iff.1 (by omega)
  subst this
  cases neg <;> decide
theorem vI_ref {neg : Bool} {xs : List Int} (h : Lim xs) : vI neg xs = ((((lim (val xs).natAbs).length : Int) == (xs.length : Int)) && (!neg || decide ((xs.length : Int) > 0))) := by
  rw [vI_lim h, lim_trm h]
  congr 1
  · rw [Bool.eq_iff_iff, beq_iff_eq, beq_iff_eq]; omega
  · simp
theorem vI_data {neg : Bool} {xs : List Int} (hb : U32s xs) (h : vI neg xs = true) : ([CellD.b neg] ++ [cM xs]) = cI (sg neg (val xs)) ∧ xs.length = (lim (sg neg (val xs)).natAbs).length := by
  unfold vI at h
  simp only [Bool.and_eq_true, beq_iff_eq] at h
  obtain ⟨⟨h1, h2⟩, h3⟩ := h
  have hL : Lim xs := fun x hx => by
    have := List.all_eq_true.1 h1 x hx
    simp only [decide_eq_true_eq] at this
    exact ⟨(hb x hx).1, this⟩
  have hN : trm xs = xs := by
    obtain ⟨n, hn, e1, _⟩ := trm_take xs
    rw [e1, List.length_take] at h2
    rw [e1, List.take_of_length_le (by omega)]
  have hv := val_nonneg hL
  have hx : lim (val xs).natAbs = xs := by rw [← lim_trm hL, hN]
  have e : (sg neg (val xs)).natAbs = (val xs).natAbs := by cases neg <;> simp [sg]
  refine ⟨?_, by rw [e, hx]⟩
  unfold cI
  rw [cL_cM, e, hx]
  congr 2
  cases neg with
  | false => rw [sg_false]; simp; omega
  | true =>
    rw [sg_true]
    simp at h3
    have : val xs ≠ 0 := fun e0 => by
      have := hx
      rw [e0] at this
      rw [show (0 : Int).natAbs = 0 from rfl, lim_zero] at this
      rw [← this] at h3; simp at h3
    simp; omega
end Go.Proofs.YtcimbhjmjlfloaaGreat
/- Package integer: GCD. -/
namespace Go.Proofs.YtcimbhjmjlfloaaGreat
open Go Go.RowKit
theorem iGCD_ok {x y : Int} (hx : Sz 1000000 x) (hy : Sz 1000000 y) : Ok Tryz.prog 88 [dI x, dI y] [dI (Int.gcd x y : Int)] := by
  refine Ok.of (by kernel_rfl) Tryz.func88 rfl rfl ?_
  rw [show Tryz.f88.ntmps = 61 from rfl, show Tryz.f88.results.toList = [.cell 4 26] from rfl]
  refine dw_seq ?_
  -- region 0
  refine dw_region (by kernel_rfl) ?_
  refine dl_new (sem_box_a rfl rfl) rfl ?_
  refine dl_new (sem_box_a rfl rfl) rfl ?_
  refine dl_new (sem_alloc zc26 rfl) rfl ?_
  refine dl_end ?_
  refine dw_seq ?_
  -- region 1
  refine dw_draw 8 [] follows_mixed (by kernel_rfl) rfl rfl ?_
  refine dq_r (sem_field fd26_1 rfl rfl) ?_
  refine dq_r (sem_load1 ty24 rfl rfl rfl rfl) ?_
  refine dq_r (sem_call rfl rfl (iSigned_cL) rfl) ?_
  refine dq_r (sem_field fd26_1 rfl rfl) ?_
  refine dq_r (sem_load1 ty24 rfl rfl rfl rfl) ?_
  refine dq_r (sem_call rfl rfl (iSigned_cL) rfl) ?_
  refine dq_new (sem_alloc zc26 rfl) rfl ?_
  refine dq_new (sem_alloc zc26 rfl) rfl ?_
  refine dq_end ?_
  refine dl_start2 ?_
  refine dl_st (sem_store_a ty26 rfl rfl rfl rfl rfl rfl) ?_
  refine dl_st (sem_store_a ty26 rfl rfl rfl rfl rfl rfl) ?_
  refine dl_end ?_
  refine dw_seq ?_
  refine dw_block ?_
  refine dw_loop (ι := {p : Int × Int // GInv x y p.1 p.2}) (fun i => ⟨61, [(4, .p 4 0), (5, .p 5 0), (6, .p 6 0)], [(4, 26, ([.b false] ++ [.s 0 []])), (5, 26, cI i.1.1), (6, 26, cI i.1.2)]⟩) (fun i => i.1.2.toNat) ⟨(sg false (x.natAbs : Int), sg false (y.natAbs : Int)), GInv.start hx hy⟩ (sub_of ⟨rfl, rfl, rfl, trivial⟩ ⟨rfl, rfl, rfl, trivial⟩ rfl) ?_
  rintro ⟨⟨a, c⟩, hg⟩
  replace hg : GInv x y a c := hg
  have ha := hg.sa
  have hcc := hg.sc
  show Dw _ _ ⟨61, [(4, .p 4 0), (5, .p 5 0), (6, .p 6 0)], [(4, 26, ([.b false] ++ [.s 0 []])), (5, 26, cI a), (6, 26, cI c)]⟩ _
  refine dw_seq ?_
  refine dw_seq ?_
  -- region 2
  refine dw_region (by kernel_rfl) ?_
  refine dl_r (sem_field fd26_1 rfl rfl) ?_
  refine dl_r (sem_load1 ty24 rfl rfl rfl rfl) ?_
  refine dl_r (sem_len sl24 rfl rfl) ?_
  refine dl_r (sem_cmp rfl rfl rfl rfl) ?_
  refine dl_end ?_
  refine dw_cond rfl (fun hc1 => ?_) (fun hc1 => ?_)
  · have hne := lenL_pos hc1
    refine dw_skip ?_
    refine dw_block ?_
    refine dw_seq ?_
    -- region 3
    refine dw_region (by kernel_rfl) ?_
    refine dl_r (sem_load (us := cI a) ty26 rfl rfl rfl rfl rfl) ?_
    refine dl_r (sem_call rfl rfl (iWord_ok) rfl) ?_
    refine dl_r (sem_move rfl rfl) ?_
    refine dl_r (sem_extract rfl rfl rfl) ?_
    refine dl_r (sem_extract rfl rfl rfl) ?_
    refine dl_r (sem_assign rfl rfl) ?_
    refine dl_r (sem_assign rfl rfl) ?_
    refine dl_end ?_
    refine dw_seq ?_
    -- region 4
    refine dw_region (by kernel_rfl) ?_
    refine dl_r (sem_load (us := cI c) ty26 rfl rfl rfl rfl rfl) ?_
    refine dl_r (sem_call rfl rfl (iWord_ok) rfl) ?_
    refine dl_r (sem_move rfl rfl) ?_
    refine dl_r (sem_extract rfl rfl rfl) ?_
    refine dl_r (sem_extract rfl rfl rfl) ?_
    refine dl_r (sem_assign rfl rfl) ?_
    refine dl_r (sem_assign rfl rfl) ?_
    refine dl_end ?_
    refine dw_seq ?_
    refine dw_seq ?_
    -- region 5
    refine dw_region (by kernel_rfl) ?_
    refine dl_r (sem_move rfl rfl) ?_
    refine dl_rb (sem_move rfl rfl) (fun c2 hb2 => ?_)
    cases c2
    · refine dl_skip (sem_skip rfl) ?_
      refine dl_r (sem_pick rfl rfl rfl rfl) ?_
      refine dl_end ?_
      refine dw_false rfl ?_
      refine dw_skip ?_
      refine dw_seq ?_
      -- region 9
      refine dw_region (by kernel_rfl) ?_
      refine dl_r (sem_field fd26_1 rfl rfl) ?_
      refine dl_r (sem_load1 ty24 rfl rfl rfl rfl) ?_
      refine dl_r (sem_field fd26_1 rfl rfl) ?_
      refine dl_r (sem_load1 ty24 rfl rfl rfl rfl) ?_
      refine dl_r (sem_call rfl rfl (iDivide_ok (by assumption) (by assumption) (by assumption)) rfl) ?_
      refine dl_r (sem_move rfl rfl) ?_
      refine dl_r (sem_extract rfl rfl rfl) ?_
      refine dl_r (sem_extract rfl rfl rfl) ?_
      refine dl_r (sem_assign rfl rfl) ?_
      refine dl_r (sem_assign rfl rfl) ?_
      refine dl_end ?_
      -- region 10
      refine dw_draw 3 [] follows_mixed (by kernel_rfl) rfl rfl ?_
      refine dq_r (sem_load (us := cI c) ty26 rfl rfl rfl rfl rfl) ?_
      refine dq_r (sem_move rfl rfl) ?_
      refine dq_r (sem_call rfl rfl (iSigned_ok) rfl) ?_
      refine dq_end ?_
      refine dl_start0 ?_
      refine dl_st (sem_store_a ty26 rfl rfl rfl rfl rfl rfl) ?_
      refine dl_st (sem_store_a ty26 rfl rfl rfl rfl rfl rfl) ?_
      refine dl_end ?_
      exact ⟨⟨(c, sg false ((a.natAbs : Int) % c.natAbs)), hg.step hne⟩, sub_of ⟨rfl, rfl, rfl, trivial⟩ ⟨rfl, rfl, rfl, trivial⟩ rfl, hg.less hne⟩
    · refine dl_r (sem_move rfl rfl) ?_
      refine dl_r (sem_pick rfl rfl rfl rfl) ?_
      refine dl_end ?_
      refine dw_cond rfl (fun hc3 => ?_) (fun hc3 => ?_)
      · refine dw_seq ?_
        refine dw_block ?_
        refine dw_loop (ι := {p : Int × Int // GInv2 x y p.1 p.2}) (fun i => ⟨61, [(4, .p 4 0), (7, .v (.c (.i .u64 i.1.1))), (9, .v (.c (.i .u64 i.1.2)))], [(4, 26, ([.b false] ++ [.s 0 []]))]⟩) (fun i => i.1.2.toNat) ⟨(if a.natAbs < 1000000000000000000 then (a.natAbs : Int) else 0, if c.natAbs < 1000000000000000000 then (c.natAbs : Int) else 0), hg.word hb2 hc3⟩ (sub_of ⟨rfl, rfl, rfl, trivial⟩ ⟨rfl, trivial⟩ rfl) ?_
        rintro ⟨⟨u, v⟩, hw⟩
        replace hw : GInv2 x y u v := hw
        show Dw _ _ ⟨61, [(4, .p 4 0), (7, .v (.c (.i .u64 u))), (9, .v (.c (.i .u64 v)))], [(4, 26, ([.b false] ++ [.s 0 []]))]⟩ _
        refine dw_seq ?_
        refine dw_seq ?_
        -- region 6
        refine dw_region (by kernel_rfl) ?_
        refine dl_r (sem_move rfl rfl) ?_
        refine dl_r (sem_cmp rfl rfl rfl rfl) ?_
        refine dl_end ?_
        refine dw_cond rfl (fun hc4 => ?_) (fun hc4 => ?_)
        · have hv : v > 0 := by simpa using hc4
          refine dw_skip ?_
          refine dw_block ?_
          -- region 7
          refine dw_draw 6 [] follows_mixed (by kernel_rfl) rfl rfl ?_
          refine dq_r (sem_move rfl rfl) ?_
          refine dq_r (sem_move rfl rfl) ?_
          refine dq_r (sem_move rfl rfl) ?_
          refine dq_r (sem_rem rfl rfl (by omega) rfl) ?_
          refine dq_r (sem_assign rfl rfl) ?_
          refine dq_r (sem_assign rfl rfl) ?_
          refine dq_end ?_
          refine dl_start0 ?_
          refine dl_end ?_
          exact ⟨⟨(v, u.tmod v), hw.step hv⟩, sub_of ⟨rfl, rfl, rfl, trivial⟩ ⟨rfl, trivial⟩ rfl, hw.less hv⟩
        · refine dw_exit ?_
          refine dw_seq ?_
          -- region 8
          refine dw_region (by kernel_rfl) ?_
          refine dl_r (sem_move rfl rfl) ?_
          refine dl_r (sem_call rfl rfl (iSplit_ok hw.u0 hw.u1) rfl) ?_
          refine dl_r (sem_call rfl rfl (iSigned_ok) rfl) ?_
          refine dl_st (sem_store_a ty26 rfl rfl rfl rfl rfl rfl) ?_
          refine dl_end ?_
          refine dw_ret ?_
          -- path TtTF
          rw [hw.done (by simpa using hc4)]
          exact ⟨.inr rfl, (resL_cell (us := cI (sg false u)) ty26 rfl rfl rfl rfl resL_nil)⟩
      · refine dw_skip ?_
        refine dw_seq ?_
        -- region 9
        refine dw_region (by kernel_rfl) ?_
        refine dl_r (sem_field fd26_1 rfl rfl) ?_
        refine dl_r (sem_load1 ty24 rfl rfl rfl rfl) ?_
        refine dl_r (sem_field fd26_1 rfl rfl) ?_
        refine dl_r (sem_load1 ty24 rfl rfl rfl rfl) ?_
        refine dl_r (sem_call rfl rfl (iDivide_ok (by assumption) (by assumption) (by assumption)) rfl) ?_
        refine dl_r (sem_move rfl rfl) ?_
        refine dl_r (sem_extract rfl rfl rfl) ?_
        refine dl_r (sem_extract rfl rfl rfl) ?_
        refine dl_r (sem_assign rfl rfl) ?_
        refine dl_r (sem_assign rfl rfl) ?_
        refine dl_end ?_
        -- region 10
        refine dw_draw 3 [] follows_mixed (by kernel_rfl) rfl rfl ?_
        refine dq_r (sem_load (us := cI c) ty26 rfl rfl rfl rfl rfl) ?_
        refine dq_r (sem_move rfl rfl) ?_
        refine dq_r (sem_call rfl rfl (iSigned_ok) rfl) ?_
        refine dq_end ?_
        refine dl_start0 ?_
        refine dl_st (sem_store_a ty26 rfl rfl rfl rfl rfl rfl) ?_
        refine dl_st (sem_store_a ty26 rfl rfl rfl rfl rfl rfl) ?_
        refine dl_end ?_
        exact ⟨⟨(c, sg false ((a.natAbs : Int) % c.natAbs)), hg.step hne⟩, sub_of ⟨rfl, rfl, rfl, trivial⟩ ⟨rfl, rfl, rfl, trivial⟩ rfl, hg.less hne⟩
  · refine dw_exit ?_
    refine dw_seq ?_
    -- region 11
    refine dw_region (by kernel_rfl) ?_
    refine dl_r (sem_field fd26_1 rfl rfl) ?_
    refine dl_r (sem_load1 ty24 rfl rfl rfl rfl) ?_
    refine dl_r (sem_copy rfl (by assumption) rfl) ?_
    refine dl_r (sem_call rfl rfl (iSigned_cL) rfl) ?_
    refine dl_st (sem_store_a ty26 rfl rfl rfl rfl rfl rfl) ?_
    refine dl_end ?_
    refine dw_ret ?_
    -- path F
    rw [hg.done (lenL_zero hc1)]
    exact ⟨.inr rfl, (resL_cell (us := cI (sg false (a.natAbs : Int))) ty26 rfl rfl rfl rfl resL_nil)⟩
end Go.Proofs.YtcimbhjmjlfloaaGreat
/- Package rational: the small functions. -/
namespace Go.Proofs.YtcimbhjmjlfloaaGreat
open Go Go.RowKit
theorem unit_ok  : Ok Tryz.prog 89 [] [dI 1] := by
  refine Ok.of (by kernel_rfl) Tryz.func89 rfl rfl ?_
  rw [show Tryz.f89.ntmps = 2 from rfl, show Tryz.f89.results.toList = [.cell 0 26] from rfl]
  refine dw_seq ?_
  -- region 0
  refine dw_region (by kernel_rfl) ?_
  refine dl_new (sem_alloc zc26 rfl) rfl ?_
  refine dl_end ?_
  refine dw_seq ?_
  -- region 1
  refine dw_region (by kernel_rfl) ?_
  refine dl_r (sem_call rfl rfl (iFrom_ok (by omega) (by omega)) rfl) ?_
  refine dl_st (sem_store_a ty26 rfl rfl rfl rfl rfl rfl) ?_
  refine dl_end ?_
  refine dw_ret ?_
  -- path 
  exact ⟨.inr rfl, (resL_cell (us := cI 1) ty26 rfl rfl rfl rfl resL_nil)⟩
theorem rSign_ok {x : Rat} : Ok Tryz.prog 23 [dR x] [.c (.i .i64 (cmpI x.num 0))] := by
  refine Ok.of (by kernel_rfl) Tryz.func23 rfl rfl ?_
  rw [show Tryz.f23.ntmps = 6 from rfl, show Tryz.f23.results.toList = [.tmp 2] from rfl]
  refine dw_seq ?_
  -- region 0
  refine dw_region (by kernel_rfl) ?_
  refine dl_new (sem_box_a rfl rfl) rfl ?_
  refine dl_r (sem_assign rfl rfl) ?_
  refine dl_end ?_
  refine dw_seq ?_
  -- region 1
  refine dw_region (by kernel_rfl) ?_
  refine dl_r (sem_field fd28_0 rfl rfl) ?_
  refine dl_r (sem_load (us := cI x.num) ty26 rfl rfl rfl rfl rfl) ?_
  refine dl_r (sem_call rfl rfl (iSign_ok) rfl) ?_
  refine dl_r (sem_assign rfl rfl) ?_
  refine dl_end ?_
  refine dw_ret ?_
  -- path 
  exact ⟨.inr rfl, (resL_tmp rfl resL_nil)⟩
theorem isNaN_ok {m : Int} : Ok Tryz.prog 116 [.c (.i .i64 m)] [.c (.b false)] := by
  refine Ok.of (by kernel_rfl) Tryz.func116 rfl rfl ?_
  rw [show Tryz.f116.ntmps = 6 from rfl, show Tryz.f116.results.toList = [.tmp 2] from rfl]
  refine dw_seq ?_
  -- region 0
  refine dw_region (by kernel_rfl) ?_
  refine dl_r (sem_assign rfl rfl) ?_
  refine dl_end ?_
  refine dw_seq ?_
  -- region 1
  refine dw_region (by kernel_rfl) ?_
  refine dl_r (sem_move rfl rfl) ?_
  refine dl_r (sem_move rfl rfl) ?_
  refine dl_r (sem_cmp rfl rfl rfl rfl) ?_
  refine dl_r (sem_assign rfl rfl) ?_
  refine dl_end ?_
  refine dw_ret ?_
  -- path 
  exact ⟨.inr rfl, by simpa using (resL_tmp rfl resL_nil)⟩
end Go.Proofs.YtcimbhjmjlfloaaGreat
/- cmp.Compare at int. -/
namespace Go.Proofs.YtcimbhjmjlfloaaGreat
open Go Go.RowKit
theorem cmpInt_ok {m n : Int} : Ok Tryz.prog 80 [.c (.i .i64 m), .c (.i .i64 n)] [.c (.i .i64 (cmpI m n))] := by
  refine Ok.of (by kernel_rfl) Tryz.func80 rfl rfl ?_
  rw [show Tryz.f80.ntmps = 20 from rfl, show Tryz.f80.results.toList = [.tmp 4] from rfl]
  refine dw_seq ?_
  -- region 0
  refine dw_region (by kernel_rfl) ?_
  refine dl_r (sem_assign rfl rfl) ?_
  refine dl_end ?_
  refine dw_seq ?_
  -- region 1
  refine dw_region (by kernel_rfl) ?_
  refine dl_r (sem_move rfl rfl) ?_
  refine dl_r (sem_call rfl rfl (isNaN_ok) rfl) ?_
  refine dl_r (sem_assign rfl rfl) ?_
  refine dl_end ?_
  refine dw_seq ?_
  -- region 2
  refine dw_region (by kernel_rfl) ?_
  refine dl_r (sem_move rfl rfl) ?_
  refine dl_r (sem_call rfl rfl (isNaN_ok) rfl) ?_
  refine dl_r (sem_assign rfl rfl) ?_
  refine dl_end ?_
  refine dw_seq ?_
  refine dw_seq ?_
  -- region 3
  refine dw_region (by kernel_rfl) ?_
  refine dl_r (sem_move rfl rfl) ?_
  refine dl_end ?_
  refine dw_false rfl ?_
  refine dw_skip ?_
  refine dw_seq ?_
  refine dw_seq ?_
  -- region 7
  refine dw_region (by kernel_rfl) ?_
  refine dl_r (sem_move rfl rfl) ?_
  refine dl_end ?_
  refine dw_false rfl ?_
  refine dw_skip ?_
  refine dw_seq ?_
  refine dw_seq ?_
  -- region 9
  refine dw_region (by kernel_rfl) ?_
  refine dl_r (sem_move rfl rfl) ?_
  refine dl_r (sem_move rfl rfl) ?_
  refine dl_r (sem_cmp rfl rfl rfl rfl) ?_
  refine dl_end ?_
  refine dw_cond rfl (fun hc1 => ?_) (fun hc1 => ?_)
  · refine dw_seq ?_
    -- region 10
    refine dw_region (by kernel_rfl) ?_
    refine dl_r (sem_assign rfl rfl) ?_
    refine dl_end ?_
    refine dw_ret ?_
    -- path T
    rw [cmp_lt (by simpa using hc1)]
    exact ⟨.inr rfl, (resL_tmp rfl resL_nil)⟩
  · refine dw_skip ?_
    refine dw_seq ?_
    refine dw_seq ?_
    -- region 11
    refine dw_region (by kernel_rfl) ?_
    refine dl_r (sem_move rfl rfl) ?_
    refine dl_r (sem_move rfl rfl) ?_
    refine dl_r (sem_cmp rfl rfl rfl rfl) ?_
    refine dl_end ?_
    refine dw_cond rfl (fun hc2 => ?_) (fun hc2 => ?_)
    · refine dw_seq ?_
      -- region 12
      refine dw_region (by kernel_rfl) ?_
      refine dl_r (sem_assign rfl rfl) ?_
      refine dl_end ?_
      refine dw_ret ?_
      -- path FT
      rw [cmp_gt (by simpa using hc2)]
      exact ⟨.inr rfl, (resL_tmp rfl resL_nil)⟩
    · refine dw_skip ?_
      refine dw_seq ?_
      -- region 13
      refine dw_region (by kernel_rfl) ?_
      refine dl_r (sem_assign rfl rfl) ?_
      refine dl_end ?_
      refine dw_ret ?_
      -- path FF
      rw [cmp_eq (by have := hc1; have h2 := hc2; simp at this h2; omega)]
      exact ⟨.inr rfl, (resL_tmp rfl resL_nil)⟩
end Go.Proofs.YtcimbhjmjlfloaaGreat
/- Package rational. -/
namespace Go.Proofs.YtcimbhjmjlfloaaGreat
open Go Go.RowKit
theorem pUnit_ok  : Ok Tryz.prog 89 [] [dI 1] := by
  refine Ok.of (by kernel_rfl) Tryz.func89 rfl rfl ?_
  rw [show Tryz.f89.ntmps = 2 from rfl, show Tryz.f89.results.toList = [.cell 0 26] from rfl]
  refine dw_seq ?_
  -- region 0
  refine dw_region (by kernel_rfl) ?_
  refine dl_new (sem_alloc zc26 rfl) rfl ?_
  refine dl_end ?_
  refine dw_seq ?_
  -- region 1
  refine dw_region (by kernel_rfl) ?_
  refine dl_r (sem_call rfl rfl (iFrom_ok (by omega) (by omega)) rfl) ?_
  refine dl_st (sem_store_a ty26 rfl rfl rfl rfl rfl rfl) ?_
  refine dl_end ?_
  refine dw_ret ?_
  -- path 
  exact ⟨.inr rfl, (resL_cell (us := cI 1) ty26 rfl rfl rfl rfl resL_nil)⟩
theorem pSign_ok {x : Rat} : Ok Tryz.prog 23 [dR x] [.c (.i .i64 (cmpR x 0))] := by
  refine Ok.of (by kernel_rfl) Tryz.func23 rfl rfl ?_
  rw [show Tryz.f23.ntmps = 6 from rfl, show Tryz.f23.results.toList = [.tmp 2] from rfl]
  refine dw_seq ?_
  -- region 0
  refine dw_region (by kernel_rfl) ?_
  refine dl_new (sem_box_a rfl rfl) rfl ?_
  refine dl_r (sem_assign rfl rfl) ?_
  refine dl_end ?_
  refine dw_seq ?_
  -- region 1
  refine dw_region (by kernel_rfl) ?_
  refine dl_r (sem_field fd28_0 rfl rfl) ?_
  refine dl_r (sem_load (us := cI x.num) ty26 rfl rfl rfl rfl rfl) ?_
  refine dl_r (sem_call rfl rfl (iSign_ok) rfl) ?_
  refine dl_r (sem_assign rfl rfl) ?_
  refine dl_end ?_
  refine dw_ret ?_
  -- path 
  rw [← cmpR_num]
  exact ⟨.inr rfl, (resL_tmp rfl resL_nil)⟩
theorem pWhole_ok {n : Int} : Ok Tryz.prog 51 [dI n] [dR (n : Rat)] := by
  refine Ok.of (by kernel_rfl) Tryz.func51 rfl rfl ?_
  rw [show Tryz.f51.ntmps = 6 from rfl, show Tryz.f51.results.toList = [.cell 2 28] from rfl]
  refine dw_seq ?_
  -- region 0
  refine dw_region (by kernel_rfl) ?_
  refine dl_new (sem_box_a rfl rfl) rfl ?_
  refine dl_new (sem_alloc zc28 rfl) rfl ?_
  refine dl_end ?_
  refine dw_seq ?_
  -- region 1
  refine dw_draw 3 [] follows_mixed (by kernel_rfl) rfl rfl ?_
  refine dq_r (sem_load (us := cI n) ty26 rfl rfl rfl rfl rfl) ?_
  refine dq_r (sem_call rfl rfl (unit_ok) rfl) ?_
  refine dq_r (sem_build (us := cQ n 1) fs28 zc28 rfl rfl rfl) ?_
  refine dq_end ?_
  refine dl_start0 ?_
  refine dl_st (sem_store_a ty28 rfl rfl rfl rfl rfl rfl) ?_
  refine dl_end ?_
  refine dw_ret ?_
  -- path 
  rw [dR_int]
  exact ⟨.inr rfl, (resL_cell (us := cQ n 1) ty28 rfl rfl rfl rfl resL_nil)⟩
theorem pFrom_ok {n : Int} (h0 : -9223372036854775808 ≤ n) (h1 : n ≤ 9223372036854775807) : Ok Tryz.prog 26 [.c (.i .i64 n)] [dR (n : Rat)] := by
  refine Ok.of (by kernel_rfl) Tryz.func26 rfl rfl ?_
  rw [show Tryz.f26.ntmps = 6 from rfl, show Tryz.f26.results.toList = [.cell 2 28] from rfl]
  refine dw_seq ?_
  -- region 0
  refine dw_region (by kernel_rfl) ?_
  refine dl_new (sem_alloc zc28 rfl) rfl ?_
  refine dl_end ?_
  refine dw_seq ?_
  -- region 1
  refine dw_region (by kernel_rfl) ?_
  refine dl_r (sem_move rfl rfl) ?_
  refine dl_r (sem_call rfl rfl (iFrom_ok (by omega) (by omega)) rfl) ?_
  refine dl_r (sem_call rfl rfl (pWhole_ok) rfl) ?_
  refine dl_st (sem_store_a ty28 rfl rfl rfl rfl rfl rfl) ?_
  refine dl_end ?_
  refine dw_ret ?_
  -- path 
  exact ⟨.inr rfl, (resL_cell (us := cR (n : Rat)) ty28 rfl rfl rfl rfl resL_nil)⟩
theorem pExact_ok {x y : Int} (hx : Sz 1000000 x) (hy : Sz 1000000 y) (h0 : y ≠ 0) : Ok Tryz.prog 90 [dI x, dI y] [dI (x.fdiv y)] := by
  refine Ok.of (by kernel_rfl) Tryz.func90 rfl rfl ?_
  rw [show Tryz.f90.ntmps = 16 from rfl, show Tryz.f90.results.toList = [.cell 4 26] from rfl]
  refine dw_seq ?_
  -- region 0
  refine dw_region (by kernel_rfl) ?_
  refine dl_new (sem_box_a rfl rfl) rfl ?_
  refine dl_new (sem_box_a rfl rfl) rfl ?_
  refine dl_new (sem_alloc zc26 rfl) rfl ?_
  refine dl_end ?_
  refine dw_seq ?_
  -- region 1
  refine dw_region (by kernel_rfl) ?_
  refine dl_r (sem_load (us := cI x) ty26 rfl rfl rfl rfl rfl) ?_
  refine dl_r (sem_load (us := cI y) ty26 rfl rfl rfl rfl rfl) ?_
  refine dl_r (sem_call rfl rfl (iDivMod_ok (by first | assumption | exact Sz.mono hx (by decide)) (by first | assumption | exact Sz.mono hy (by decide)) (by assumption)) rfl) ?_
  refine dl_r (sem_move rfl rfl) ?_
  refine dl_r (sem_extract rfl rfl rfl) ?_
  refine dl_r (sem_extract rfl rfl rfl) ?_
  refine dl_r (sem_extract rfl rfl rfl) ?_
  refine dl_new (sem_alloc zc26 rfl) rfl ?_
  refine dl_new (sem_alloc zc26 rfl) rfl ?_
  refine dl_st (sem_store_a ty26 rfl rfl rfl rfl rfl rfl) ?_
  refine dl_st (sem_store_a ty26 rfl rfl rfl rfl rfl rfl) ?_
  refine dl_r (sem_assign rfl rfl) ?_
  refine dl_end ?_
  refine dw_seq ?_
  -- region 2
  refine dw_region (by kernel_rfl) ?_
  refine dl_r (sem_load (us := cI (x.fdiv y)) ty26 rfl rfl rfl rfl rfl) ?_
  refine dl_st (sem_store_a ty26 rfl rfl rfl rfl rfl rfl) ?_
  refine dl_end ?_
  refine dw_ret ?_
  -- path 
  exact ⟨.inr rfl, (resL_cell (us := cI (x.fdiv y)) ty26 rfl rfl rfl rfl resL_nil)⟩
theorem pReduce_ok {x y : Int} (hx : Sz 999 x) (hy : Sz 999 y) (h0 : y ≠ 0) : Ok Tryz.prog 49 [dI x, dI y] [dR (Rat.divInt x y)] := by
  have hg := gcd_ne (n := x) h0
  have hg2 := gcd_ne (n := -x) (d := -y) (by omega)
  have hgs := Sz.gcd (x := x) hy h0
  have hgs2 := Sz.gcd (x := -x) hy.neg (by omega)
  refine Ok.of (by kernel_rfl) Tryz.func49 rfl rfl ?_
  rw [show Tryz.f49.ntmps = 29 from rfl, show Tryz.f49.results.toList = [.cell 4 28] from rfl]
  refine dw_seq ?_
  -- region 0
  refine dw_region (by kernel_rfl) ?_
  refine dl_new (sem_box_a rfl rfl) rfl ?_
  refine dl_new (sem_box_a rfl rfl) rfl ?_
  refine dl_new (sem_alloc zc28 rfl) rfl ?_
  refine dl_end ?_
  refine dw_seq ?_
  refine dw_seq ?_
  -- region 1
  refine dw_region (by kernel_rfl) ?_
  refine dl_r (sem_load (us := cI y) ty26 rfl rfl rfl rfl rfl) ?_
  refine dl_r (sem_call rfl rfl (iSign_ok) rfl) ?_
  refine dl_r (sem_cmp rfl rfl rfl rfl) ?_
  refine dl_end ?_
  refine dw_cond rfl (fun hc1 => ?_) (fun hc1 => ?_)
  · have hn := t_lt hc1
    -- region 2
    refine dw_draw 4 [] follows_mixed (by kernel_rfl) rfl rfl ?_
    refine dq_r (sem_load (us := cI x) ty26 rfl rfl rfl rfl rfl) ?_
    refine dq_r (sem_call rfl rfl (iNeg_ok (by first | assumption | exact Sz.mono hx (by decide))) rfl) ?_
    refine dq_r (sem_load (us := cI y) ty26 rfl rfl rfl rfl rfl) ?_
    refine dq_r (sem_call rfl rfl (iNeg_ok (by first | assumption | exact Sz.mono hy (by decide))) rfl) ?_
    refine dq_end ?_
    refine dl_start0 ?_
    refine dl_st (sem_store_a ty26 rfl rfl rfl rfl rfl rfl) ?_
    refine dl_st (sem_store_a ty26 rfl rfl rfl rfl rfl rfl) ?_
    refine dl_end ?_
    refine dw_seq ?_
    refine dw_seq ?_
    -- region 3
    refine dw_region (by kernel_rfl) ?_
    refine dl_r (sem_load (us := cI (-x)) ty26 rfl rfl rfl rfl rfl) ?_
    refine dl_r (sem_load (us := cI (-y)) ty26 rfl rfl rfl rfl rfl) ?_
    refine dl_r (sem_call rfl rfl (iGCD_ok (by first | assumption | exact Sz.mono (Sz.neg hx) (by decide)) (by first | assumption | exact Sz.mono (Sz.neg hy) (by decide))) rfl) ?_
    refine dl_new (sem_alloc zc26 rfl) rfl ?_
    refine dl_st (sem_store_a ty26 rfl rfl rfl rfl rfl rfl) ?_
    refine dl_end ?_
    refine dw_seq ?_
    -- region 4
    refine dw_draw 4 [] follows_mixed (by kernel_rfl) rfl rfl ?_
    refine dq_r (sem_load (us := cI ((Int.gcd (-x) (-y) : Int))) ty26 rfl rfl rfl rfl rfl) ?_
    refine dq_r (sem_call rfl rfl (unit_ok) rfl) ?_
    refine dq_r (sem_call rfl rfl (iCmp_ok) rfl) ?_
    refine dq_r (sem_cmp rfl rfl rfl rfl) ?_
    refine dq_end ?_
    refine dl_start0 ?_
    refine dl_end ?_
    refine dw_cond rfl (fun hc2 => ?_) (fun hc2 => ?_)
    · -- region 5
      refine dw_draw 6 [] follows_mixed (by kernel_rfl) rfl rfl ?_
      refine dq_r (sem_load (us := cI (-x)) ty26 rfl rfl rfl rfl rfl) ?_
      refine dq_r (sem_load (us := cI ((Int.gcd (-x) (-y) : Int))) ty26 rfl rfl rfl rfl rfl) ?_
      refine dq_r (sem_call rfl rfl (pExact_ok (by first | assumption | exact Sz.mono (Sz.neg hx) (by decide)) (by first | assumption | exact Sz.mono (by assumption) (by decide)) (by first | assumption | exact neg_ne (by assumption) | exact mul_ne (by assumption) (by assumption))) rfl) ?_
      refine dq_r (sem_load (us := cI (-y)) ty26 rfl rfl rfl rfl rfl) ?_
      refine dq_r (sem_load (us := cI ((Int.gcd (-x) (-y) : Int))) ty26 rfl rfl rfl rfl rfl) ?_
      refine dq_r (sem_call rfl rfl (pExact_ok (by first | assumption | exact Sz.mono (Sz.neg hy) (by decide)) (by first | assumption | exact Sz.mono (by assumption) (by decide)) (by first | assumption | exact neg_ne (by assumption) | exact mul_ne (by assumption) (by assumption))) rfl) ?_
      refine dq_end ?_
      refine dl_start0 ?_
      refine dl_st (sem_store_a ty26 rfl rfl rfl rfl rfl rfl) ?_
      refine dl_st (sem_store_a ty26 rfl rfl rfl rfl rfl rfl) ?_
      refine dl_end ?_
      refine dw_seq ?_
      -- region 6
      refine dw_region (by kernel_rfl) ?_
      refine dl_r (sem_load (us := cI ((-x).fdiv ((Int.gcd (-x) (-y) : Int)))) ty26 rfl rfl rfl rfl rfl) ?_
      refine dl_r (sem_load (us := cI ((-y).fdiv ((Int.gcd (-x) (-y) : Int)))) ty26 rfl rfl rfl rfl rfl) ?_
      refine dl_r (sem_build (us := cQ ((-x).fdiv ((Int.gcd (-x) (-y) : Int))) ((-y).fdiv ((Int.gcd (-x) (-y) : Int)))) fs28 zc28 rfl rfl rfl) ?_
      refine dl_st (sem_store_a ty28 rfl rfl rfl rfl rfl rfl) ?_
      refine dl_end ?_
      refine dw_ret ?_
      -- path TT
      rw [dR_neg, dR_red (by omega)]
      exact ⟨.inr rfl, (resL_cell (us := cQ ((-x).fdiv ((Int.gcd (-x) (-y) : Int))) ((-y).fdiv ((Int.gcd (-x) (-y) : Int)))) ty28 rfl rfl rfl rfl resL_nil)⟩
    · refine dw_skip ?_
      refine dw_seq ?_
      -- region 6
      refine dw_region (by kernel_rfl) ?_
      refine dl_r (sem_load (us := cI (-x)) ty26 rfl rfl rfl rfl rfl) ?_
      refine dl_r (sem_load (us := cI (-y)) ty26 rfl rfl rfl rfl rfl) ?_
      refine dl_r (sem_build (us := cQ (-x) (-y)) fs28 zc28 rfl rfl rfl) ?_
      refine dl_st (sem_store_a ty28 rfl rfl rfl rfl rfl rfl) ?_
      refine dl_end ?_
      refine dw_ret ?_
      -- path TF
      rw [dR_neg, dR_red1 (by omega) (f_ne hc2)]
      exact ⟨.inr rfl, (resL_cell (us := cQ (-x) (-y)) ty28 rfl rfl rfl rfl resL_nil)⟩
  · have hn := f_lt hc1
    refine dw_skip ?_
    refine dw_seq ?_
    refine dw_seq ?_
    -- region 3
    refine dw_region (by kernel_rfl) ?_
    refine dl_r (sem_load (us := cI x) ty26 rfl rfl rfl rfl rfl) ?_
    refine dl_r (sem_load (us := cI y) ty26 rfl rfl rfl rfl rfl) ?_
    refine dl_r (sem_call rfl rfl (iGCD_ok (by first | assumption | exact Sz.mono hx (by decide)) (by first | assumption | exact Sz.mono hy (by decide))) rfl) ?_
    refine dl_new (sem_alloc zc26 rfl) rfl ?_
    refine dl_st (sem_store_a ty26 rfl rfl rfl rfl rfl rfl) ?_
    refine dl_end ?_
    refine dw_seq ?_
    -- region 4
    refine dw_draw 4 [] follows_mixed (by kernel_rfl) rfl rfl ?_
    refine dq_r (sem_load (us := cI (Int.gcd x y : Int)) ty26 rfl rfl rfl rfl rfl) ?_
    refine dq_r (sem_call rfl rfl (unit_ok) rfl) ?_
    refine dq_r (sem_call rfl rfl (iCmp_ok) rfl) ?_
    refine dq_r (sem_cmp rfl rfl rfl rfl) ?_
    refine dq_end ?_
    refine dl_start0 ?_
    refine dl_end ?_
    refine dw_cond rfl (fun hc3 => ?_) (fun hc3 => ?_)
    · -- region 5
      refine dw_draw 6 [] follows_mixed (by kernel_rfl) rfl rfl ?_
      refine dq_r (sem_load (us := cI x) ty26 rfl rfl rfl rfl rfl) ?_
      refine dq_r (sem_load (us := cI (Int.gcd x y : Int)) ty26 rfl rfl rfl rfl rfl) ?_
      refine dq_r (sem_call rfl rfl (pExact_ok (by first | assumption | exact Sz.mono hx (by decide)) (by first | assumption | exact Sz.mono (by assumption) (by decide)) (by first | assumption | exact neg_ne (by assumption) | exact mul_ne (by assumption) (by assumption))) rfl) ?_
      refine dq_r (sem_load (us := cI y) ty26 rfl rfl rfl rfl rfl) ?_
      refine dq_r (sem_load (us := cI (Int.gcd x y : Int)) ty26 rfl rfl rfl rfl rfl) ?_
      refine dq_r (sem_call rfl rfl (pExact_ok (by first | assumption | exact Sz.mono hy (by decide)) (by first | assumption | exact Sz.mono (by assumption) (by decide)) (by first | assumption | exact neg_ne (by assumption) | exact mul_ne (by assumption) (by assumption))) rfl) ?_
      refine dq_end ?_
      refine dl_start0 ?_
      refine dl_st (sem_store_a ty26 rfl rfl rfl rfl rfl rfl) ?_
      refine dl_st (sem_store_a ty26 rfl rfl rfl rfl rfl rfl) ?_
      refine dl_end ?_
      refine dw_seq ?_
      -- region 6
      refine dw_region (by kernel_rfl) ?_
      refine dl_r (sem_load (us := cI (x.fdiv (Int.gcd x y : Int))) ty26 rfl rfl rfl rfl rfl) ?_
      refine dl_r (sem_load (us := cI (y.fdiv (Int.gcd x y : Int))) ty26 rfl rfl rfl rfl rfl) ?_
      refine dl_r (sem_build (us := cQ (x.fdiv (Int.gcd x y : Int)) (y.fdiv (Int.gcd x y : Int))) fs28 zc28 rfl rfl rfl) ?_
      refine dl_st (sem_store_a ty28 rfl rfl rfl rfl rfl rfl) ?_
      refine dl_end ?_
      refine dw_ret ?_
      -- path FT
      rw [dR_red (by omega)]
      exact ⟨.inr rfl, (resL_cell (us := cQ (x.fdiv (Int.gcd x y : Int)) (y.fdiv (Int.gcd x y : Int))) ty28 rfl rfl rfl rfl resL_nil)⟩
    · refine dw_skip ?_
      refine dw_seq ?_
      -- region 6
      refine dw_region (by kernel_rfl) ?_
      refine dl_r (sem_load (us := cI x) ty26 rfl rfl rfl rfl rfl) ?_
      refine dl_r (sem_load (us := cI y) ty26 rfl rfl rfl rfl rfl) ?_
      refine dl_r (sem_build (us := cQ x y) fs28 zc28 rfl rfl rfl) ?_
      refine dl_st (sem_store_a ty28 rfl rfl rfl rfl rfl rfl) ?_
      refine dl_end ?_
      refine dw_ret ?_
      -- path FF
      rw [dR_red1 (by omega) (f_ne hc3)]
      exact ⟨.inr rfl, (resL_cell (us := cQ x y) ty28 rfl rfl rfl rfl resL_nil)⟩
theorem pMake_ok {x y : Int} (hx : Sz 999 x) (hy : Sz 999 y) (h0 : y ≠ 0) : Ok Tryz.prog 56 [dI x, dI y] [dR (Rat.divInt x y), .c (.i .i64 0)] := by
  refine Ok.of (by kernel_rfl) Tryz.func56 rfl rfl ?_
  rw [show Tryz.f56.ntmps = 13 from rfl, show Tryz.f56.results.toList = [.cell 4 28, .tmp 5] from rfl]
  refine dw_seq ?_
  -- region 0
  refine dw_region (by kernel_rfl) ?_
  refine dl_new (sem_box_a rfl rfl) rfl ?_
  refine dl_new (sem_box_a rfl rfl) rfl ?_
  refine dl_new (sem_alloc zc28 rfl) rfl ?_
  refine dl_r (sem_assign rfl rfl) ?_
  refine dl_end ?_
  refine dw_seq ?_
  refine dw_seq ?_
  -- region 1
  refine dw_region (by kernel_rfl) ?_
  refine dl_r (sem_load (us := cI y) ty26 rfl rfl rfl rfl rfl) ?_
  refine dl_r (sem_call rfl rfl (iSign_ok) rfl) ?_
  refine dl_r (sem_cmp rfl rfl rfl rfl) ?_
  refine dl_end ?_
  refine dw_cond rfl (fun hc1 => ?_) (fun hc1 => ?_)
  · exact absurd (t_eq hc1) h0
  · refine dw_skip ?_
    refine dw_seq ?_
    -- region 3
    refine dw_region (by kernel_rfl) ?_
    refine dl_r (sem_load (us := cI x) ty26 rfl rfl rfl rfl rfl) ?_
    refine dl_r (sem_load (us := cI y) ty26 rfl rfl rfl rfl rfl) ?_
    refine dl_r (sem_call rfl rfl (pReduce_ok (by first | assumption | exact Sz.mono hx (by decide)) (by first | assumption | exact Sz.mono hy (by decide)) (by first | assumption | exact neg_ne (by assumption) | exact mul_ne (by assumption) (by assumption))) rfl) ?_
    refine dl_st (sem_store_a ty28 rfl rfl rfl rfl rfl rfl) ?_
    refine dl_r (sem_assign rfl rfl) ?_
    refine dl_end ?_
    refine dw_ret ?_
    -- path F
    exact ⟨.inr rfl, (resL_cell (us := cR (Rat.divInt x y)) ty28 rfl rfl rfl rfl (resL_tmp rfl resL_nil))⟩
theorem pNeg_ok {x : Rat} (hx : Rz 300 x) : Ok Tryz.prog 29 [dR x] [dR (-x)] := by
  refine Ok.of (by kernel_rfl) Tryz.func29 rfl rfl ?_
  rw [show Tryz.f29.ntmps = 9 from rfl, show Tryz.f29.results.toList = [.cell 2 28] from rfl]
  refine dw_seq ?_
  -- region 0
  refine dw_region (by kernel_rfl) ?_
  refine dl_new (sem_box_a rfl rfl) rfl ?_
  refine dl_new (sem_alloc zc28 rfl) rfl ?_
  refine dl_end ?_
  refine dw_seq ?_
  -- region 1
  refine dw_draw 6 [] follows_mixed (by kernel_rfl) rfl rfl ?_
  refine dq_r (sem_field fd28_0 rfl rfl) ?_
  refine dq_r (sem_load (us := cI x.num) ty26 rfl rfl rfl rfl rfl) ?_
  refine dq_r (sem_call rfl rfl (iNeg_ok (by first | assumption | exact Sz.mono (Rz.n hx) (by decide))) rfl) ?_
  refine dq_r (sem_field fd28_1 rfl rfl) ?_
  refine dq_r (sem_load (us := cI (x.den : Int)) ty26 rfl rfl rfl rfl rfl) ?_
  refine dq_r (sem_build (us := cQ (-x.num) (x.den : Int)) fs28 zc28 rfl rfl rfl) ?_
  refine dq_end ?_
  refine dl_start0 ?_
  refine dl_st (sem_store_a ty28 rfl rfl rfl rfl rfl rfl) ?_
  refine dl_end ?_
  refine dw_ret ?_
  -- path 
  rw [dR_eq (Rat.neg_num x) (congrArg Int.ofNat (Rat.neg_den x))]
  exact ⟨.inr rfl, (resL_cell (us := cQ (-x.num) (x.den : Int)) ty28 rfl rfl rfl rfl resL_nil)⟩
theorem pAdd_ok {x y : Rat} (hx : Rz 300 x) (hy : Rz 300 y) : Ok Tryz.prog 37 [dR x, dR y] [dR (x + y)] := by
  have hn := mul_ne (den_ne x) (den_ne y)
  have hn1 := den_ne x
  refine Ok.of (by kernel_rfl) Tryz.func37 rfl rfl ?_
  rw [show Tryz.f37.ntmps = 36 from rfl, show Tryz.f37.results.toList = [.cell 4 28] from rfl]
  refine dw_seq ?_
  -- region 0
  refine dw_region (by kernel_rfl) ?_
  refine dl_new (sem_box_a rfl rfl) rfl ?_
  refine dl_new (sem_box_a rfl rfl) rfl ?_
  refine dl_new (sem_alloc zc28 rfl) rfl ?_
  refine dl_end ?_
  refine dw_seq ?_
  refine dw_seq ?_
  -- region 1
  refine dw_region (by kernel_rfl) ?_
  refine dl_r (sem_field fd28_1 rfl rfl) ?_
  refine dl_r (sem_load (us := cI (x.den : Int)) ty26 rfl rfl rfl rfl rfl) ?_
  refine dl_r (sem_field fd28_1 rfl rfl) ?_
  refine dl_r (sem_load (us := cI (y.den : Int)) ty26 rfl rfl rfl rfl rfl) ?_
  refine dl_r (sem_call rfl rfl (iCmp_ok) rfl) ?_
  refine dl_r (sem_cmp rfl rfl rfl rfl) ?_
  refine dl_end ?_
  refine dw_cond rfl (fun hc1 => ?_) (fun hc1 => ?_)
  · refine dw_seq ?_
    -- region 2
    refine dw_draw 8 [] follows_mixed (by kernel_rfl) rfl rfl ?_
    refine dq_r (sem_field fd28_0 rfl rfl) ?_
    refine dq_r (sem_load (us := cI x.num) ty26 rfl rfl rfl rfl rfl) ?_
    refine dq_r (sem_field fd28_0 rfl rfl) ?_
    refine dq_r (sem_load (us := cI y.num) ty26 rfl rfl rfl rfl rfl) ?_
    refine dq_r (sem_call rfl rfl (iAdd_ok (by first | assumption | exact Sz.mono (Rz.n hx) (by decide)) (by first | assumption | exact Sz.mono (Rz.n hy) (by decide))) rfl) ?_
    refine dq_r (sem_field fd28_1 rfl rfl) ?_
    refine dq_r (sem_load (us := cI (x.den : Int)) ty26 rfl rfl rfl rfl rfl) ?_
    refine dq_r (sem_call rfl rfl (pReduce_ok (by first | assumption | exact Sz.mono (Sz.addm (Rz.n hx) (Rz.n hy)) (by decide)) (by first | assumption | exact Sz.mono (Rz.d hx) (by decide)) (by first | assumption | exact neg_ne (by assumption) | exact mul_ne (by assumption) (by assumption))) rfl) ?_
    refine dq_end ?_
    refine dl_start0 ?_
    refine dl_st (sem_store_a ty28 rfl rfl rfl rfl rfl rfl) ?_
    refine dl_end ?_
    refine dw_ret ?_
    -- path T
    rw [← radd1 (t_eq hc1)]
    exact ⟨.inr rfl, (resL_cell (us := cR (Rat.divInt (x.num + y.num) (x.den : Int))) ty28 rfl rfl rfl rfl resL_nil)⟩
  · refine dw_skip ?_
    refine dw_seq ?_
    -- region 3
    refine dw_draw 17 [] follows_mixed (by kernel_rfl) rfl rfl ?_
    refine dq_r (sem_field fd28_0 rfl rfl) ?_
    refine dq_r (sem_load (us := cI x.num) ty26 rfl rfl rfl rfl rfl) ?_
    refine dq_r (sem_field fd28_1 rfl rfl) ?_
    refine dq_r (sem_load (us := cI (y.den : Int)) ty26 rfl rfl rfl rfl rfl) ?_
    refine dq_r (sem_call rfl rfl (iMul_ok (by first | assumption | exact Sz.mono (Rz.n hx) (by decide)) (by first | assumption | exact Sz.mono (Rz.d hy) (by decide))) rfl) ?_
    refine dq_r (sem_field fd28_0 rfl rfl) ?_
    refine dq_r (sem_load (us := cI y.num) ty26 rfl rfl rfl rfl rfl) ?_
    refine dq_r (sem_field fd28_1 rfl rfl) ?_
    refine dq_r (sem_load (us := cI (x.den : Int)) ty26 rfl rfl rfl rfl rfl) ?_
    refine dq_r (sem_call rfl rfl (iMul_ok (by first | assumption | exact Sz.mono (Rz.n hy) (by decide)) (by first | assumption | exact Sz.mono (Rz.d hx) (by decide))) rfl) ?_
    refine dq_r (sem_call rfl rfl (iAdd_ok (by first | assumption | exact Sz.mono (Sz.mul (Rz.n hx) (Rz.d hy)) (by decide)) (by first | assumption | exact Sz.mono (Sz.mul (Rz.n hy) (Rz.d hx)) (by decide))) rfl) ?_
    refine dq_r (sem_field fd28_1 rfl rfl) ?_
    refine dq_r (sem_load (us := cI (x.den : Int)) ty26 rfl rfl rfl rfl rfl) ?_
    refine dq_r (sem_field fd28_1 rfl rfl) ?_
    refine dq_r (sem_load (us := cI (y.den : Int)) ty26 rfl rfl rfl rfl rfl) ?_
    refine dq_r (sem_call rfl rfl (iMul_ok (by first | assumption | exact Sz.mono (Rz.d hx) (by decide)) (by first | assumption | exact Sz.mono (Rz.d hy) (by decide))) rfl) ?_
    refine dq_r (sem_call rfl rfl (pReduce_ok (by first | assumption | exact Sz.mono (Sz.addm (Sz.mul (Rz.n hx) (Rz.d hy)) (Sz.mul (Rz.n hy) (Rz.d hx))) (by decide)) (by first | assumption | exact Sz.mono (Sz.mul (Rz.d hx) (Rz.d hy)) (by decide)) (by first | assumption | exact neg_ne (by assumption) | exact mul_ne (by assumption) (by assumption))) rfl) ?_
    refine dq_end ?_
    refine dl_start0 ?_
    refine dl_st (sem_store_a ty28 rfl rfl rfl rfl rfl rfl) ?_
    refine dl_end ?_
    refine dw_ret ?_
    -- path F
    rw [← radd]
    exact ⟨.inr rfl, (resL_cell (us := cR (Rat.divInt ((x.num * (y.den : Int)) + (y.num * (x.den : Int))) ((x.den : Int) * (y.den : Int)))) ty28 rfl rfl rfl rfl resL_nil)⟩
theorem pSub_ok {x y : Rat} (hx : Rz 300 x) (hy : Rz 300 y) : Ok Tryz.prog 24 [dR x, dR y] [dR (x - y)] := by
  refine Ok.of (by kernel_rfl) Tryz.func24 rfl rfl ?_
  rw [show Tryz.f24.ntmps = 9 from rfl, show Tryz.f24.results.toList = [.cell 4 28] from rfl]
  refine dw_seq ?_
  -- region 0
  refine dw_region (by kernel_rfl) ?_
  refine dl_new (sem_box_a rfl rfl) rfl ?_
  refine dl_new (sem_box_a rfl rfl) rfl ?_
  refine dl_new (sem_alloc zc28 rfl) rfl ?_
  refine dl_end ?_
  refine dw_seq ?_
  -- region 1
  refine dw_draw 4 [] follows_mixed (by kernel_rfl) rfl rfl ?_
  refine dq_r (sem_load (us := cR x) ty28 rfl rfl rfl rfl rfl) ?_
  refine dq_r (sem_load (us := cR y) ty28 rfl rfl rfl rfl rfl) ?_
  refine dq_r (sem_call rfl rfl (pNeg_ok (by first | assumption | exact Rz.mono hy (by decide))) rfl) ?_
  refine dq_r (sem_call rfl rfl (pAdd_ok (by first | assumption | exact Rz.mono hx (by decide)) (by first | assumption | exact Rz.mono (Rz.neg hy) (by decide))) rfl) ?_
  refine dq_end ?_
  refine dl_start0 ?_
  refine dl_st (sem_store_a ty28 rfl rfl rfl rfl rfl rfl) ?_
  refine dl_end ?_
  refine dw_ret ?_
  -- path 
  rw [Rat.sub_eq_add_neg]
  exact ⟨.inr rfl, (resL_cell (us := cR (x + (-y))) ty28 rfl rfl rfl rfl resL_nil)⟩
theorem pMul_ok {x y : Rat} (hx : Rz 300 x) (hy : Rz 300 y) : Ok Tryz.prog 25 [dR x, dR y] [dR (x * y)] := by
  have hn := mul_ne (den_ne x) (den_ne y)
  refine Ok.of (by kernel_rfl) Tryz.func25 rfl rfl ?_
  rw [show Tryz.f25.ntmps = 16 from rfl, show Tryz.f25.results.toList = [.cell 4 28] from rfl]
  refine dw_seq ?_
  -- region 0
  refine dw_region (by kernel_rfl) ?_
  refine dl_new (sem_box_a rfl rfl) rfl ?_
  refine dl_new (sem_box_a rfl rfl) rfl ?_
  refine dl_new (sem_alloc zc28 rfl) rfl ?_
  refine dl_end ?_
  refine dw_seq ?_
  -- region 1
  refine dw_draw 11 [] follows_mixed (by kernel_rfl) rfl rfl ?_
  refine dq_r (sem_field fd28_0 rfl rfl) ?_
  refine dq_r (sem_load (us := cI x.num) ty26 rfl rfl rfl rfl rfl) ?_
  refine dq_r (sem_field fd28_0 rfl rfl) ?_
  refine dq_r (sem_load (us := cI y.num) ty26 rfl rfl rfl rfl rfl) ?_
  refine dq_r (sem_call rfl rfl (iMul_ok (by first | assumption | exact Sz.mono (Rz.n hx) (by decide)) (by first | assumption | exact Sz.mono (Rz.n hy) (by decide))) rfl) ?_
  refine dq_r (sem_field fd28_1 rfl rfl) ?_
  refine dq_r (sem_load (us := cI (x.den : Int)) ty26 rfl rfl rfl rfl rfl) ?_
  refine dq_r (sem_field fd28_1 rfl rfl) ?_
  refine dq_r (sem_load (us := cI (y.den : Int)) ty26 rfl rfl rfl rfl rfl) ?_
  refine dq_r (sem_call rfl rfl (iMul_ok (by first | assumption | exact Sz.mono (Rz.d hx) (by decide)) (by first | assumption | exact Sz.mono (Rz.d hy) (by decide))) rfl) ?_
  refine dq_r (sem_call rfl rfl (pReduce_ok (by first | assumption | exact Sz.mono (Sz.mul (Rz.n hx) (Rz.n hy)) (by decide)) (by first | assumption | exact Sz.mono (Sz.mul (Rz.d hx) (Rz.d hy)) (by decide)) (by first | assumption | exact neg_ne (by assumption) | exact mul_ne (by assumption) (by assumption))) rfl) ?_
  refine dq_end ?_
  refine dl_start0 ?_
  refine dl_st (sem_store_a ty28 rfl rfl rfl rfl rfl rfl) ?_
  refine dl_end ?_
  refine dw_ret ?_
  -- path 
  rw [← rmul]
  exact ⟨.inr rfl, (resL_cell (us := cR (Rat.divInt (x.num * y.num) ((x.den : Int) * (y.den : Int)))) ty28 rfl rfl rfl rfl resL_nil)⟩
theorem pDiv_ok {x y : Rat} (hx : Rz 300 x) (hy : Rz 300 y) (h0 : y ≠ 0) : Ok Tryz.prog 60 [dR x, dR y] [dR (x / y), .c (.i .i64 0)] := by
  have hn := mul_ne (den_ne x) (num_ne h0)
  refine Ok.of (by kernel_rfl) Tryz.func60 rfl rfl ?_
  rw [show Tryz.f60.ntmps = 21 from rfl, show Tryz.f60.results.toList = [.cell 4 28, .tmp 5] from rfl]
  refine dw_seq ?_
  -- region 0
  refine dw_region (by kernel_rfl) ?_
  refine dl_new (sem_box_a rfl rfl) rfl ?_
  refine dl_new (sem_box_a rfl rfl) rfl ?_
  refine dl_new (sem_alloc zc28 rfl) rfl ?_
  refine dl_r (sem_assign rfl rfl) ?_
  refine dl_end ?_
  refine dw_seq ?_
  refine dw_seq ?_
  -- region 1
  refine dw_region (by kernel_rfl) ?_
  refine dl_r (sem_load (us := cR y) ty28 rfl rfl rfl rfl rfl) ?_
  refine dl_r (sem_call rfl rfl (pSign_ok) rfl) ?_
  refine dl_r (sem_cmp rfl rfl rfl rfl) ?_
  refine dl_end ?_
  refine dw_cond rfl (fun hc1 => ?_) (fun hc1 => ?_)
  · exact absurd (cmpR_t0 hc1) h0
  · refine dw_skip ?_
    refine dw_seq ?_
    -- region 3
    refine dw_draw 11 [] follows_mixed (by kernel_rfl) rfl rfl ?_
    refine dq_r (sem_field fd28_0 rfl rfl) ?_
    refine dq_r (sem_load (us := cI x.num) ty26 rfl rfl rfl rfl rfl) ?_
    refine dq_r (sem_field fd28_1 rfl rfl) ?_
    refine dq_r (sem_load (us := cI (y.den : Int)) ty26 rfl rfl rfl rfl rfl) ?_
    refine dq_r (sem_call rfl rfl (iMul_ok (by first | assumption | exact Sz.mono (Rz.n hx) (by decide)) (by first | assumption | exact Sz.mono (Rz.d hy) (by decide))) rfl) ?_
    refine dq_r (sem_field fd28_1 rfl rfl) ?_
    refine dq_r (sem_load (us := cI (x.den : Int)) ty26 rfl rfl rfl rfl rfl) ?_
    refine dq_r (sem_field fd28_0 rfl rfl) ?_
    refine dq_r (sem_load (us := cI y.num) ty26 rfl rfl rfl rfl rfl) ?_
    refine dq_r (sem_call rfl rfl (iMul_ok (by first | assumption | exact Sz.mono (Rz.d hx) (by decide)) (by first | assumption | exact Sz.mono (Rz.n hy) (by decide))) rfl) ?_
    refine dq_r (sem_call rfl rfl (pReduce_ok (by first | assumption | exact Sz.mono (Sz.mul (Rz.n hx) (Rz.d hy)) (by decide)) (by first | assumption | exact Sz.mono (Sz.mul (Rz.d hx) (Rz.n hy)) (by decide)) (by first | assumption | exact neg_ne (by assumption) | exact mul_ne (by assumption) (by assumption))) rfl) ?_
    refine dq_end ?_
    refine dl_start0 ?_
    refine dl_st (sem_store_a ty28 rfl rfl rfl rfl rfl rfl) ?_
    refine dl_r (sem_assign rfl rfl) ?_
    refine dl_end ?_
    refine dw_ret ?_
    -- path F
    rw [← rdiv]
    exact ⟨.inr rfl, (resL_cell (us := cR (Rat.divInt (x.num * (y.den : Int)) ((x.den : Int) * y.num))) ty28 rfl rfl rfl rfl (resL_tmp rfl resL_nil))⟩
theorem pCmp_ok {x y : Rat} (hx : Rz 300 x) (hy : Rz 300 y) : Ok Tryz.prog 43 [dR x, dR y] [.c (.i .i64 (cmpR x y))] := by
  refine Ok.of (by kernel_rfl) Tryz.func43 rfl rfl ?_
  rw [show Tryz.f43.ntmps = 25 from rfl, show Tryz.f43.results.toList = [.tmp 4] from rfl]
  refine dw_seq ?_
  -- region 0
  refine dw_region (by kernel_rfl) ?_
  refine dl_new (sem_box_a rfl rfl) rfl ?_
  refine dl_new (sem_box_a rfl rfl) rfl ?_
  refine dl_r (sem_assign rfl rfl) ?_
  refine dl_end ?_
  refine dw_seq ?_
  refine dw_seq ?_
  -- region 1
  refine dw_draw 6 [] follows_mixed (by kernel_rfl) rfl rfl ?_
  refine dq_r (sem_load (us := cR x) ty28 rfl rfl rfl rfl rfl) ?_
  refine dq_r (sem_call rfl rfl (pSign_ok) rfl) ?_
  refine dq_r (sem_load (us := cR y) ty28 rfl rfl rfl rfl rfl) ?_
  refine dq_r (sem_call rfl rfl (pSign_ok) rfl) ?_
  refine dq_r (sem_call rfl rfl (cmpInt_ok) rfl) ?_
  refine dq_r (sem_assign rfl rfl) ?_
  refine dq_end ?_
  refine dl_start0 ?_
  refine dl_end ?_
  refine dw_seq ?_
  -- region 2
  refine dw_region (by kernel_rfl) ?_
  refine dl_r (sem_move rfl rfl) ?_
  refine dl_r (sem_cmp rfl rfl rfl rfl) ?_
  refine dl_end ?_
  refine dw_cond rfl (fun hc1 => ?_) (fun hc1 => ?_)
  · refine dw_seq ?_
    -- region 3
    refine dw_region (by kernel_rfl) ?_
    refine dl_r (sem_move rfl rfl) ?_
    refine dl_r (sem_assign rfl rfl) ?_
    refine dl_end ?_
    refine dw_ret ?_
    -- path T
    rw [← cmpR_signs hc1]
    exact ⟨.inr rfl, (resL_tmp rfl resL_nil)⟩
  · refine dw_skip ?_
    refine dw_seq ?_
    -- region 4
    refine dw_draw 12 [] follows_mixed (by kernel_rfl) rfl rfl ?_
    refine dq_r (sem_field fd28_0 rfl rfl) ?_
    refine dq_r (sem_load (us := cI x.num) ty26 rfl rfl rfl rfl rfl) ?_
    refine dq_r (sem_field fd28_1 rfl rfl) ?_
    refine dq_r (sem_load (us := cI (y.den : Int)) ty26 rfl rfl rfl rfl rfl) ?_
    refine dq_r (sem_call rfl rfl (iMul_ok (by first | assumption | exact Sz.mono (Rz.n hx) (by decide)) (by first | assumption | exact Sz.mono (Rz.d hy) (by decide))) rfl) ?_
    refine dq_r (sem_field fd28_0 rfl rfl) ?_
    refine dq_r (sem_load (us := cI y.num) ty26 rfl rfl rfl rfl rfl) ?_
    refine dq_r (sem_field fd28_1 rfl rfl) ?_
    refine dq_r (sem_load (us := cI (x.den : Int)) ty26 rfl rfl rfl rfl rfl) ?_
    refine dq_r (sem_call rfl rfl (iMul_ok (by first | assumption | exact Sz.mono (Rz.n hy) (by decide)) (by first | assumption | exact Sz.mono (Rz.d hx) (by decide))) rfl) ?_
    refine dq_r (sem_call rfl rfl (iCmp_ok) rfl) ?_
    refine dq_r (sem_assign rfl rfl) ?_
    refine dq_end ?_
    refine dl_start0 ?_
    refine dl_end ?_
    refine dw_ret ?_
    -- path F
    rw [cmpR_mul (x := x) (y := y)]
    exact ⟨.inr rfl, (resL_tmp rfl resL_nil)⟩
theorem pFloor_ok {x : Rat} (hx : Rz 300 x) : Ok Tryz.prog 95 [dR x] [dI (x.num.fdiv (x.den : Int))] := by
  have hn1 := den_ne x
  refine Ok.of (by kernel_rfl) Tryz.func95 rfl rfl ?_
  rw [show Tryz.f95.ntmps = 16 from rfl, show Tryz.f95.results.toList = [.cell 2 26] from rfl]
  refine dw_seq ?_
  -- region 0
  refine dw_region (by kernel_rfl) ?_
  refine dl_new (sem_box_a rfl rfl) rfl ?_
  refine dl_new (sem_alloc zc26 rfl) rfl ?_
  refine dl_end ?_
  refine dw_seq ?_
  -- region 1
  refine dw_region (by kernel_rfl) ?_
  refine dl_r (sem_field fd28_0 rfl rfl) ?_
  refine dl_r (sem_load (us := cI x.num) ty26 rfl rfl rfl rfl rfl) ?_
  refine dl_r (sem_field fd28_1 rfl rfl) ?_
  refine dl_r (sem_load (us := cI (x.den : Int)) ty26 rfl rfl rfl rfl rfl) ?_
  refine dl_r (sem_call rfl rfl (iDivMod_ok (by first | assumption | exact Sz.mono (Rz.n hx) (by decide)) (by first | assumption | exact Sz.mono (Rz.d hx) (by decide)) (by assumption)) rfl) ?_
  refine dl_r (sem_move rfl rfl) ?_
  refine dl_r (sem_extract rfl rfl rfl) ?_
  refine dl_r (sem_extract rfl rfl rfl) ?_
  refine dl_r (sem_extract rfl rfl rfl) ?_
  refine dl_new (sem_alloc zc26 rfl) rfl ?_
  refine dl_new (sem_alloc zc26 rfl) rfl ?_
  refine dl_st (sem_store_a ty26 rfl rfl rfl rfl rfl rfl) ?_
  refine dl_st (sem_store_a ty26 rfl rfl rfl rfl rfl rfl) ?_
  refine dl_r (sem_assign rfl rfl) ?_
  refine dl_end ?_
  refine dw_seq ?_
  -- region 2
  refine dw_region (by kernel_rfl) ?_
  refine dl_r (sem_load (us := cI (x.num.fdiv (x.den : Int))) ty26 rfl rfl rfl rfl rfl) ?_
  refine dl_st (sem_store_a ty26 rfl rfl rfl rfl rfl rfl) ?_
  refine dl_end ?_
  refine dw_ret ?_
  -- path 
  exact ⟨.inr rfl, (resL_cell (us := cI (x.num.fdiv (x.den : Int))) ty26 rfl rfl rfl rfl resL_nil)⟩
-- no function swarf/rational.side in this seat
-- no function swarf/rational.Sqrt in this seat
end Go.Proofs.YtcimbhjmjlfloaaGreat
/- Numbers in reduced form: integer.Valid, swarfref01.Valid. -/
namespace Go.Proofs.YtcimbhjmjlfloaaGreat
open Go Go.RowKit
-- no function swarf/integer.Valid in this seat
theorem nValid_ok {neg : Bool} {xs : List Int} (hb : U32s xs) (hn : xs.length ≤ 1000) : Ok Tryz.prog 75 [.a ([.b neg] ++ [cM xs])] [.c (.b (vI neg xs))] := by
  refine Ok.of (by kernel_rfl) Tryz.func75 rfl rfl ?_
  rw [show Tryz.f75.ntmps = 36 from rfl, show Tryz.f75.results.toList = [.tmp 2] from rfl]
  refine dw_seq ?_
  -- region 0
  refine dw_region (by kernel_rfl) ?_
  refine dl_new (sem_box_a rfl rfl) rfl ?_
  refine dl_r (sem_assign rfl rfl) ?_
  refine dl_end ?_
  refine dw_seq ?_
  refine dw_seq ?_
  -- region 1
  refine dw_region (by kernel_rfl) ?_
  refine dl_r (sem_assign rfl rfl) ?_
  refine dl_end ?_
  refine dw_block ?_
  refine dw_loop (ι := {k : Nat // k ≤ xs.length ∧ ∀ j, j < k → xs.getD j 0 < 1000000000}) (fun i => ⟨36, [(1, .p 1 0), (3, .v (.c (.i .i64 (i.1 : Int))))], [(1, 26, ([.b neg] ++ [cM xs]))]⟩) (fun i => xs.length - i.1) ⟨0, Nat.zero_le _, fun j hj => by omega⟩ (sub_of ⟨rfl, rfl, trivial⟩ ⟨rfl, trivial⟩ rfl) ?_
  rintro ⟨k, hk0, hall⟩
  replace hk0 : k ≤ xs.length := hk0
  replace hall : ∀ j, j < k → xs.getD j 0 < 1000000000 := hall
  have hg := u32_getD hb k
  show Dw _ _ ⟨36, [(1, .p 1 0), (3, .v (.c (.i .i64 (k : Int))))], [(1, 26, ([.b neg] ++ [cM xs]))]⟩ _
  refine dw_seq ?_
  refine dw_seq ?_
  -- region 2
  refine dw_region (by kernel_rfl) ?_
  refine dl_r (sem_move rfl rfl) ?_
  refine dl_r (sem_field fd26_1 rfl rfl) ?_
  refine dl_r (sem_load1 ty24 rfl rfl rfl rfl) ?_
  refine dl_r (sem_len sl24 rfl rfl) ?_
  refine dl_r (sem_cmp rfl rfl rfl rfl) ?_
  refine dl_end ?_
  refine dw_cond rfl (fun hc1 => ?_) (fun hc1 => ?_)
  · have hk : k < xs.length := by simp only [decide_eq_true_eq] at hc1; omega
    refine dw_skip ?_
    refine dw_seq ?_
    refine dw_block ?_
    refine dw_seq ?_
    -- region 4
    refine dw_region (by kernel_rfl) ?_
    refine dl_r (sem_field fd26_1 rfl rfl) ?_
    refine dl_r (sem_load1 ty24 rfl rfl rfl rfl) ?_
    refine dl_r (sem_move rfl rfl) ?_
    refine dl_r (sem_index sl24 rfl rfl (by omega) (M_len _) rfl rfl) ?_
    refine dl_r (sem_loadq1 ty119 rfl (M_get (i := k) (by omega)) rfl) ?_
    refine dl_r (sem_cmp rfl rfl rfl rfl) ?_
    refine dl_end ?_
    refine dw_cond rfl (fun hc2 => ?_) (fun hc2 => ?_)
    · have hbad : xs.getD k 0 ≥ 1000000000 := by simpa using hc2
      refine dw_seq ?_
      -- region 5
      refine dw_region (by kernel_rfl) ?_
      refine dl_r (sem_assign rfl rfl) ?_
      refine dl_end ?_
      refine dw_ret ?_
      -- path TT
      rw [vI_bad hk hbad]
      exact ⟨.inr rfl, (resL_tmp rfl resL_nil)⟩
    · have hok : ¬ xs.getD k 0 ≥ 1000000000 := by simpa using hc2
      have hstep : ∀ j, j < k + 1 → xs.getD j 0 < 1000000000 := fun j hj => by
        rcases Nat.lt_or_ge j k with h1 | h1
        · exact hall j h1
        · rw [show j = k from by omega]; omega
      refine dw_skip ?_
      -- region 3
      refine dw_region (by kernel_rfl) ?_
      refine dl_r (sem_move rfl rfl) ?_
      refine dl_r (sem_ari (r := (k : Int) + 1) rfl rfl (ari_i64_add (by omega) (by omega)) rfl) ?_
      refine dl_r (sem_assign rfl rfl) ?_
      refine dl_end ?_
      exact ⟨⟨k + 1, hk, hstep⟩, sub_of ⟨rfl, by rw [show ((k + 1 : Nat) : Int) = (k : Int) + 1 from by omega]; rfl, trivial⟩ ⟨rfl, trivial⟩ rfl, by show xs.length - (k + 1) < xs.length - k; omega⟩
  · have hk : k = xs.length := by simp only [decide_eq_false_iff_not] at hc1; omega
    have hL : Lim xs := lim_of_all hb (by rw [← hk]; exact hall)
    refine dw_exit ?_
    refine dw_seq ?_
    -- region 6
    refine dw_draw 20 [] follows_mixed (by kernel_rfl) rfl rfl ?_
    refine dq_r (sem_field fd26_1 rfl rfl) ?_
    refine dq_r (sem_load1 ty24 rfl rfl rfl rfl) ?_
    refine dq_r (sem_call rfl rfl (rTrim_ok hL (by omega)) rfl) ?_
    refine dq_r (sem_len sl24 rfl rfl) ?_
    refine dq_r (sem_field fd26_1 rfl rfl) ?_
    refine dq_r (sem_load1 ty24 rfl rfl rfl rfl) ?_
    refine dq_r (sem_len sl24 rfl rfl) ?_
    refine dq_r (sem_cmp rfl rfl rfl rfl) ?_
    refine dq_rb (sem_move rfl rfl) (fun c3 hb3 => ?_)
    cases c3
    · refine dq_skip (sem_skip rfl) ?_
      refine dq_skip (sem_skip rfl) ?_
      refine dq_skip (sem_skip rfl) ?_
      refine dq_skip (sem_skip rfl) ?_
      refine dq_skip (sem_skip rfl) ?_
      refine dq_skip (sem_skip rfl) ?_
      refine dq_skip (sem_skip rfl) ?_
      refine dq_skip (sem_skip rfl) ?_
      refine dq_skip (sem_skip rfl) ?_
      refine dq_r (sem_pick rfl rfl rfl rfl) ?_
      refine dq_r (sem_assign rfl rfl) ?_
      refine dq_end ?_
      refine dl_start0 ?_
      refine dl_end ?_
      refine dw_ret ?_
      -- path Ff
      rw [vI_ref hL, hb3, Bool.false_and]
      exact ⟨.inr rfl, (resL_tmp rfl resL_nil)⟩
    · refine dq_r (sem_field fd26_0 rfl rfl) ?_
      refine dq_r (sem_load1 ty4 rfl rfl rfl rfl) ?_
      refine dq_r (sem_not rfl rfl) ?_
      refine dq_rb (sem_move rfl rfl) (fun c4 hb4 => ?_)
      cases c4
      · refine dq_r (sem_field fd26_1 rfl rfl) ?_
        refine dq_r (sem_load1 ty24 rfl rfl rfl rfl) ?_
        refine dq_r (sem_len sl24 rfl rfl) ?_
        refine dq_r (sem_cmp rfl rfl rfl rfl) ?_
        refine dq_r (sem_pick rfl rfl rfl rfl) ?_
        refine dq_r (sem_pick rfl rfl rfl rfl) ?_
        refine dq_r (sem_assign rfl rfl) ?_
        refine dq_end ?_
        refine dl_start0 ?_
        refine dl_end ?_
        refine dw_ret ?_
        -- path Ftf
        rw [vI_ref hL, hb3, hb4, Bool.false_or, Bool.true_and]
        exact ⟨.inr rfl, (resL_tmp rfl resL_nil)⟩
      · refine dq_skip (sem_skip rfl) ?_
        refine dq_skip (sem_skip rfl) ?_
        refine dq_skip (sem_skip rfl) ?_
        refine dq_skip (sem_skip rfl) ?_
        refine dq_r (sem_pick rfl rfl rfl rfl) ?_
        refine dq_r (sem_pick rfl rfl rfl rfl) ?_
        refine dq_r (sem_assign rfl rfl) ?_
        refine dq_end ?_
        refine dl_start0 ?_
        refine dl_end ?_
        refine dw_ret ?_
        -- path Ftt
        rw [vI_ref hL, hb3, hb4, Bool.true_or, Bool.true_and]
        exact ⟨.inr rfl, (resL_tmp rfl resL_nil)⟩
end Go.Proofs.YtcimbhjmjlfloaaGreat
/- Plain: fractions as they may come in, and when they are in reduced form. -/
namespace Go.Proofs.YtcimbhjmjlfloaaGreat
open Go Go.RowKit
structure RN where
  n1 : Bool
  x1 : List Int
  n2 : Bool
  x2 : List Int
def cN (r : RN) : List CellD := ([.b r.n1] ++ [cM r.x1]) ++ ([.b r.n2] ++ [cM r.x2])
structure RN.Wf (r : RN) : Prop where
  u1 : U32s r.x1
  u2 : U32s r.x2
def vQ (x y : Int) : Bool := decide (0 < y) && (((Int.gcd x y : Nat) : Int) == 1)
def RN.vv (r : RN) : Bool := vI r.n1 r.x1 && vI r.n2 r.x2
def RN.a (r : RN) : Int := sg r.n1 (val r.x1)
def RN.b (r : RN) : Int := sg r.n2 (val r.x2)
def RN.v (r : RN) : Bool := r.vv && vQ r.a r.b
def RN.s (r : RN) (k : Int) : Bool := decide ((r.x1.length : Int) ≤ k) && decide ((r.x2.length : Int) ≤ k) && r.v
theorem vv_data {r : RN} (h : r.Wf) (hv : r.vv = true) : cN r = cQ r.a r.b ∧ (lim r.a.natAbs).length = r.x1.length ∧ (lim r.b.natAbs).length = r.x2.length := by
  unfold RN.vv at hv
  rw [Bool.and_eq_true] at hv
  obtain ⟨h1, h2⟩ := vI_data h.u1 hv.1
  obtain ⟨h3, h4⟩ := vI_data h.u2 hv.2
  refine ⟨?_, h2.symm, h4.symm⟩
  unfold cN cQ
  rw [h1, h3]; rfl
theorem vI_I {x : Int} : vI (decide (x < 0)) (lim x.natAbs) = true := by
  unfold vI
  rw [all_of_lim (lim_lim _), show trm (lim x.natAbs) = lim x.natAbs from nrm_lim _]
  by_cases h : x < 0
  · have : lim x.natAbs ≠ [] := fun e => by have := lim_eq_nil.1 e; omega
    have := List.length_pos_iff.2 this
    simp [h, this]
  · simp [h]
theorem u32_lim (v : Nat) : U32s (lim v) := fun x hx => by have := lim_lim v x hx; omega
theorem nValid_I {x : Int} (hx : Sz 1000 x) : Ok Tryz.prog 75 [dI x] [.c (.b true)] := by
  have := nValid_ok (neg := decide (x < 0)) (xs := lim x.natAbs) (u32_lim _) (lim_len hx)
  rw [vI_I] at this; exact this
theorem sg_lim (x : Int) : sg (decide (x < 0)) (val (lim x.natAbs)) = x := by
  rw [val_lim]
  by_cases h : x < 0
  · rw [show decide (x < 0) = true from by simpa using h, sg_true]; omega
  · rw [show decide (x < 0) = false from by simpa using h, sg_false]; omega
theorem vv_f1 {r : RN} (h : r.vv = false) (h1 : (!vI r.n1 r.x1) = false) : (!vI r.n2 r.x2) = true := by
  unfold RN.vv at h
  simp at h1
  rw [h1, Bool.true_and] at h
  rw [h]; rfl
theorem sz_of_len {x : Int} {k : Nat} (h : (lim x.natAbs).length ≤ k) : Sz k x := by
  have h1 := val_lt (lim_lim x.natAbs)
  rw [val_lim] at h1
  have h2 := pw_le h
  exact ⟨by omega, by omega⟩
/-- a fraction in reduced form is a number -/
theorem vQ_R {x y : Int} (h : vQ x y = true) : cQ x y = cR (Rat.divInt x y) := by
  unfold vQ at h
  simp only [Bool.and_eq_true, decide_eq_true_eq, beq_iff_eq] at h
  have := dR_red1 (n := x) h.1 h.2
  unfold dR dQ at this
  injection this with this
  exact this.symm
theorem vQ_of (x : Rat) : vQ x.num (x.den : Int) = true := by
  unfold vQ
  simp only [Bool.and_eq_true, decide_eq_true_eq, beq_iff_eq]
  refine ⟨den_pos x, ?_⟩
  have : Int.gcd x.num (x.den : Int) = 1 := x.reduced
  rw [this]; rfl
theorem vQ_parts {x y : Int} (h : vQ x y = true) : (Rat.divInt x y).num = x ∧ ((Rat.divInt x y).den : Int) = y := by
  unfold vQ at h
  simp only [Bool.and_eq_true, decide_eq_true_eq, beq_iff_eq] at h
  obtain ⟨h1, h2⟩ := h
  have h3 : Int.gcd x y = 1 := by omega
  rw [Rat.num_divInt, Rat.den_divInt, if_neg (by omega), Int.sign_eq_one_of_pos h1, Int.one_mul, Int.gcd_comm y x, h3]
  simp; omega
/-- what is small is a number of few limbs -/
theorem s_data {r : RN} {k : Nat} (h : r.Wf) (hs : r.s (k : Int) = true) : ∃ x : Rat, Rz k x ∧ cN r = cR x := by
  unfold RN.s RN.v at hs
  simp only [Bool.and_eq_true, decide_eq_true_eq] at hs
  obtain ⟨⟨h1, h2⟩, h3, h4⟩ := hs
  obtain ⟨e1, e2, e3⟩ := vv_data h h3
  obtain ⟨p1, p2⟩ := vQ_parts h4
  refine ⟨Rat.divInt r.a r.b, ⟨?_, ?_⟩, by rw [e1, vQ_R h4]⟩
  · rw [p1]; exact sz_of_len (by omega)
  · rw [p2]; exact sz_of_len (by omega)
theorem vQ_le {x y : Int} (h : decide (cmpI y 0 ≤ 0) = true) : vQ x y = false := by
  unfold vQ
  have := t_le h
  rw [show decide (0 < y) = false from by simpa using this]; rfl
theorem vQ_gt {x y : Int} (h : decide (cmpI y 0 ≤ 0) = false) : vQ x y = (cmpI ((Int.gcd x y : Nat) : Int) 1 == 0) := by
  unfold vQ
  have := f_le h
  rw [show decide (0 < y) = true from by simpa using this, Bool.true_and, Bool.eq_iff_iff, beq_iff_eq, beq_iff_eq, cmpI_eq0]
theorem vQ_n1 {x y : Int} (h : (cmpI y 0 != 1) = true) : vQ x y = false := by
  unfold vQ
  have h1 : ¬ 0 < y := fun e => by rw [cmp_gt e] at h; cases h
  rw [show decide (0 < y) = false from by simpa using h1]; rfl
theorem n1_ne {y : Int} (h : (cmpI y 0 != 1) = false) : y ≠ 0 := fun e => by rw [cmp_eq e] at h; cases h
theorem vQ_e1 {x y : Int} (h : (cmpI y 0 != 1) = false) : vQ x y = (((Int.gcd x y : Nat) : Int) == 1) := by
  unfold vQ
  have h1 : 0 < y := by
    rcases Int.lt_trichotomy y 0 with e | e | e
    · rw [cmp_lt e] at h; cases h
    · rw [cmp_eq e] at h; cases h
    · exact e
  rw [show decide (0 < y) = true from by simpa using h1, Bool.true_and]
end Go.Proofs.YtcimbhjmjlfloaaGreat
