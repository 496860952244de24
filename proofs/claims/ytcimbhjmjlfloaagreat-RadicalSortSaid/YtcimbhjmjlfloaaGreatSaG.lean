/- Data: lists of limbs as slices; machine arithmetic that does not wrap. -/
import Derived.Test.YtcimbhjmjlfloaaGreatSaF
namespace Go.Proofs.YtcimbhjmjlfloaaGreat
open Go Go.RowKit
theorem lim_trm {xs : List Int} (h : Lim xs) : trm xs = lim (val xs).natAbs := by
  have h0 := val_nonneg h
  rw [lim_of (nrm_trm xs) h.trm, val_trm]
  congr 1; omega
def cM (xs : List Int) : CellD := .s xs.length (xs.map (CellD.i .u32))
theorem cL_cM (e : Int) : cL e = cM (lim e.natAbs) := rfl
theorem cL_trm {xs : List Int} (h : Lim xs) : cL (val xs) = cM (trm xs) := by rw [cL_cM, lim_trm h]
theorem M_len (xs : List Int) : (xs.map (CellD.i .u32)).length = xs.length * 1 := by simp
theorem M_get {xs : List Int} {i : Nat} (h : i < xs.length) : ((xs.map (CellD.i .u32)).drop (i * 1))[0]? = some (.i .u32 (xs.getD i 0)) := by
  rw [Nat.mul_one, List.getElem?_drop, Nat.add_zero, List.getElem?_map, List.getElem?_eq_getElem h]
  simp [List.getD, h]
theorem O_get {xs : List Int} {i : Nat} (h : i < xs.length) : (xs.map (CellD.i .u32))[i * 1]? = some (.i .u32 (xs.getD i 0)) := by
  rw [Nat.mul_one, List.getElem?_map, List.getElem?_eq_getElem h]
  simp [List.getD, h]
theorem O_set {xs : List Int} {i : Nat} {x : Int} (h : i < xs.length) : (xs.map (CellD.i .u32)).take (i * 1) ++ [CellD.i .u32 x] ++ (xs.map (CellD.i .u32)).drop (i * 1 + 1) = (xs.set i x).map (CellD.i .u32) := by
  rw [Nat.mul_one, ← List.map_take, ← List.map_drop, ← List.map_singleton, ← List.map_append, ← List.map_append]
  congr 1
  rw [List.set_eq_take_append_cons_drop, if_pos h]
  simp
theorem lim_getD {xs : List Int} (h : Lim xs) (i : Nat) : 0 ≤ xs.getD i 0 ∧ xs.getD i 0 < 1000000000 := by
  rw [List.getD]
  cases hx : xs[i]? with
  | none => simp
  | some x => exact h.at_ hx
theorem getD_some {xs : List Int} {i : Nat} (h : i < xs.length) : xs[i]? = some (xs.getD i 0) := by
  rw [List.getElem?_eq_getElem h]; simp [List.getD, h]
theorem nw64 {x : Int} (h0 : -9223372036854775808 ≤ x) (h1 : x ≤ 9223372036854775807) : IntKind.i64.wrap x = x := by unfold IntKind.wrap; simp [IntKind.bits, IntKind.signed]; omega
theorem nwu64 {x : Int} (h0 : 0 ≤ x) (h1 : x ≤ 18446744073709551615) : IntKind.u64.wrap x = x := by unfold IntKind.wrap; simp [IntKind.bits, IntKind.signed]; omega
theorem nwu32 {x : Int} (h0 : 0 ≤ x) (h1 : x ≤ 4294967295) : IntKind.u32.wrap x = x := by unfold IntKind.wrap; simp [IntKind.bits, IntKind.signed]; omega
theorem ari_i64_add {a b : Int} (h0 : -9223372036854775808 ≤ a + b) (h1 : a + b ≤ 9223372036854775807) : iari .add .i64 a b = some (a + b) := congrArg some (nw64 h0 h1)
theorem ari_i64_sub {a b : Int} (h0 : -9223372036854775808 ≤ a - b) (h1 : a - b ≤ 9223372036854775807) : iari .sub .i64 a b = some (a - b) := congrArg some (nw64 h0 h1)
theorem ari_u64_add {a b : Int} (h0 : 0 ≤ a + b) (h1 : a + b ≤ 18446744073709551615) : iari .add .u64 a b = some (a + b) := congrArg some (nwu64 h0 h1)
theorem ari_u64_sub {a b : Int} (h0 : 0 ≤ a - b) (h1 : a - b ≤ 18446744073709551615) : iari .sub .u64 a b = some (a - b) := congrArg some (nwu64 h0 h1)
theorem ari_u64_mul {a b : Int} (h0 : 0 ≤ a * b) (h1 : a * b ≤ 18446744073709551615) : iari .mul .u64 a b = some (a * b) := congrArg some (nwu64 h0 h1)
theorem ari_u32_add {a b : Int} (h0 : 0 ≤ a + b) (h1 : a + b ≤ 4294967295) : iari .add .u32 a b = some (a + b) := congrArg some (nwu32 h0 h1)
theorem ari_u32_sub {a b : Int} (h0 : 0 ≤ a - b) (h1 : a - b ≤ 4294967295) : iari .sub .u32 a b = some (a - b) := congrArg some (nwu32 h0 h1)
theorem ari_u32_mul {a b : Int} (h0 : 0 ≤ a * b) (h1 : a * b ≤ 4294967295) : iari .mul .u32 a b = some (a * b) := congrArg some (nwu32 h0 h1)

theorem trim_step {xs : List Int} {k : Nat} (h1 : 0 < k) (hk : k ≤ xs.length) (hT : trm (xs.take k) = trm xs) (h : ((xs.take k).getD (k - 1) 0 == 0) = true) : trm (xs.take (k - 1)) = trm xs := by
  obtain ⟨j, rfl⟩ : ∃ j, k = j + 1 := ⟨k - 1, by omega⟩
  rw [Nat.add_sub_cancel] at *
  have hx := getD_some (xs := xs) (i := j) (by omega)
  have e : (xs.take (j + 1)).getD j 0 = xs.getD j 0 := by simp [List.getD]
  rw [e] at h
  rw [← hT, trm_step_zero hx (by simpa using h)]
theorem trim_stop {xs : List Int} {k : Nat} (h1 : 0 < k) (hk : k ≤ xs.length) (hT : trm (xs.take k) = trm xs) (h : ((xs.take k).getD (k - 1) 0 == 0) = false) : trm xs = xs.take k := by
  obtain ⟨j, rfl⟩ : ∃ j, k = j + 1 := ⟨k - 1, by omega⟩
  rw [Nat.add_sub_cancel] at *
  have hx := getD_some (xs := xs) (i := j) (by omega)
  have e : (xs.take (j + 1)).getD j 0 = xs.getD j 0 := by simp [List.getD]
  rw [e] at h
  rw [← hT, trm_step_stop hx (by simpa using h)]

section
variable {P : Program} {ops : Array Oper} {T : TF} {B : BF}
theorem sem_quo' {dst : Option Nat} {xt yt : TypeId} {x y : Operand} {ty : TypeId} {pos : String} {af : Array Edge} {g : Option (Nat × Bool)} {k : IntKind} {m n r : Int}
    (hx : opd T x = some (.v (.c (.i k m)))) (hy : opd T y = some (.v (.c (.i k n)))) (h0 : n ≠ 0) (hr : k.wrap (m.tdiv n) = r) (hg : gd ops ⟨dst, .binOp .quo xt x y yt, ty, pos, af, g⟩ T = some true) :
    Sem P ops ⟨dst, .binOp .quo xt x y yt, ty, pos, af, g⟩ T B (.r (.v (.c (.i k r)))) := by subst hr; exact sem_quo hx hy h0 hg
theorem sem_rem' {dst : Option Nat} {xt yt : TypeId} {x y : Operand} {ty : TypeId} {pos : String} {af : Array Edge} {g : Option (Nat × Bool)} {k : IntKind} {m n r : Int}
    (hx : opd T x = some (.v (.c (.i k m)))) (hy : opd T y = some (.v (.c (.i k n)))) (h0 : n ≠ 0) (hr : m.tmod n = r) (hg : gd ops ⟨dst, .binOp .rem xt x y yt, ty, pos, af, g⟩ T = some true) :
    Sem P ops ⟨dst, .binOp .rem xt x y yt, ty, pos, af, g⟩ T B (.r (.v (.c (.i k r)))) := by subst hr; exact sem_rem hx hy h0 hg
theorem sem_conv' {dst : Option Nat} {t1 t2 : TypeId} {x : Operand} {ty : TypeId} {pos : String} {af : Array Edge} {g : Option (Nat × Bool)} {k1 k2 k : IntKind} {m r : Int}
    (h1 : P.underlying t1 = some (.int k1)) (h2 : P.underlying t2 = some (.int k2)) (hx : opd T x = some (.v (.c (.i k m)))) (hr : k2.wrap m = r) (hg : gd ops ⟨dst, .convert t1 t2 x, ty, pos, af, g⟩ T = some true) :
    Sem P ops ⟨dst, .convert t1 t2 x, ty, pos, af, g⟩ T B (.r (.v (.c (.i k2 r)))) := by subst hr; exact sem_conv h1 h2 hx hg
/-- A slice literal of one limb, read as data. -/
theorem sem_slit_M {dst : Option Nat} {U e : TypeId} {x : Operand} {ty : TypeId} {pos : String} {af : Array Edge} {g : Option (Nat × Bool)} {by_ : Nat} {z : CellD} {m : Int}
    (hU : elB P U = some (e, 1, by_, [z])) (hx : opd T x = some (.v (.c (.i .u32 m)))) (hg : gd ops ⟨dst, .buildSlice U 1 #[(0, x)], ty, pos, af, g⟩ T = some true) :
    Sem P ops ⟨dst, .buildSlice U 1 #[(0, x)], ty, pos, af, g⟩ T B (.r (.v (.c (cM [m])))) := by
  have h := sem_slit (B := B) (n := 1) (us := [.i .u32 m]) (dps := [(0, .c (.i .u32 m))]) hU (by unfold partsD; rw [hx]; rfl) rfl (by omega) (by omega) hg
  refine ⟨nop rfl, fun V β a w hs => ?_⟩
  obtain ⟨hw, hg⟩ := h V β a w hs
  refine ⟨hw, hg.mono ?_⟩
  rintro v w' ⟨vs, rfl, rfl, hr⟩
  refine ⟨?_, (Below.refl _ w).alloc (Nat.le_refl _) _⟩
  have hkeep := Keep.below (av := V) ((Below.refl w.heap.size w).alloc (Nat.le_refl _) (.cells vs e))
  have hr2 := hr.keep hkeep
  have hvl : vs.size = 1 := by have := hr.1; simpa using this
  refine .s w.heap.size 0 1 1 1 _ (fun j => vs.getD j undef) (by omega) (by omega) (by omega) rfl (by simp) (fun h => by have := hs.av _ h; omega) (fun j hj => ?_) (fun j u hj => ?_)
  · rw [Nat.zero_add, cells_of_box (heap_alloc_new w (.cells vs e))]
    have : j < vs.size := by omega
    simp [Array.getD, this]
  · have hlt : j < 1 := by have := (List.getElem?_eq_some_iff.1 hj).1; simpa using this
    refine hr2.2 j _ u ?_ hj
    rw [Array.getElem?_toList]
    have : j < vs.size := by omega
    simp [Array.getD, this]
/-- append of nothing: the own array itself, given out. -/
theorem sem_append_0 {dst : Option Nat} {x y : Operand} {U e : TypeId} {ty : TypeId} {pos : String} {af : Array Edge} {g : Option (Nat × Bool)} {n m by_ k : Nat} {cs zs : List CellD}
    (hU : elB P U = some (e, m, by_, zs)) (hx : opd T x = some (.o k n n)) (hy : opd T y = some (.v (.c (.s 0 [])))) (hb : B k = some (e, cs)) (hcs : cs.length = n * m) (hn : 0 < n) (hn2 : n ≤ 9223372036854775807)
    (hg : gd ops ⟨dst, .call ⟨.builtin .append, #[x, y], #[U, U]⟩, ty, pos, af, g⟩ T = some true) :
    Sem P ops ⟨dst, .call ⟨.builtin .append, #[x, y], #[U, U]⟩, ty, pos, af, g⟩ T B (.c k (.v (.c (.s n cs)))) := by
  refine ⟨rfl, by rw [hb]; simp, fun V β a w hs => ⟨gd_want hs hg, ?_⟩⟩
  have e1 : a.eval x = .slice (some ⟨β k, 0, none⟩) n n := opd_reads hs (x := x) (by simp [Op.operands, Call.operands]) hx
  have h2 : RdC V w (a.eval y) (.s 0 []) := opd_reads hs (x := y) (by simp [Op.operands, Call.operands]) hy
  have h3 : ∃ A c, a.eval y = .slice A 0 c := by
    generalize a.eval y = v at h2
    cases h2 with
    | s0 A c _ => exact ⟨A, c, rfl⟩
    | s b off c sz _ _ cv h0 => omega
  obtain ⟨A, c, e2⟩ := h3
  obtain ⟨hu, i, z, hi, hz, hsz, hby, _, hzr⟩ := elB_spec hU
  obtain ⟨hvk, vs, ev, hr⟩ := hs.box k e cs hb
  have hfirst : ∀ w, (Builtin.firstCells m 0 (.slice A 0 c)).run P w = .ok #[] w := by
    intro w
    cases A with
    | none => rfl
    | some A => simp [Builtin.firstCells, loadCells, loadCellsFrom]
  have hexec : (execOp a.eval ⟨dst, .call ⟨.builtin .append, #[x, y], #[U, U]⟩, ty, pos, af, g⟩).run P w = .ok (.value (.slice (some ⟨β k, 0, none⟩) n n)) w := by
    simp only [execOp, resolve, invoke, builtin, Sem.run_bind, Sem.run_pure, Result.andThen_ok, List.map_toArray, List.map_cons, List.map_nil, e1, e2]
    simp [Builtin.append_, run_underlying hu, sizeOf, typeInfo, program, Sem.run, hi, hsz, Builtin.lenOf, hfirst, storeCells]
  unfold Gives
  rw [hexec]
  refine ⟨?_, Below.refl _ _⟩
  have hkeep : Keep V (fun b => V b ∧ b ≠ β k) w w := ⟨Nat.le_refl _, fun _ _ _ => rfl, fun _ _ h => h.1⟩
  have hr2 := hr.keep hkeep
  have hvl : vs.size = n * m := by have := hr.1; simp at this; omega
  refine .s (β k) 0 n m n cs (fun j => vs.getD j undef) hn (Nat.le_refl _) hn2 hcs (hs.av _ hvk) (fun h => h.2 rfl) (fun j hj => ?_) (fun j u hj => ?_)
  · rw [Nat.zero_add, cells_of_box ev]
    have : j < vs.size := by omega
    simp [Array.getD, this]
  · have hlt : j < cs.length := (List.getElem?_eq_some_iff.1 hj).1
    refine hr2.2 j _ u ?_ hj
    rw [Array.getElem?_toList]
    have : j < vs.size := by omega
    simp [Array.getD, this]
/-- append([]uint32{d}, rest...) -/
theorem sem_append_1M {dst : Option Nat} {x y : Operand} {U e : TypeId} {ty : TypeId} {pos : String} {af : Array Edge} {g : Option (Nat × Bool)} {k : Nat} {z : CellD} {d : Int} {rs : List Int}
    (hU : elB P U = some (e, 1, 4, [z])) (hx : opd T x = some (.o k 1 1)) (hy : opd T y = some (.v (.c (cM rs)))) (hb : B k = some (e, [.i .u32 d])) (hl : rs.length ≤ 10000000)
    (hg : gd ops ⟨dst, .call ⟨.builtin .append, #[x, y], #[U, U]⟩, ty, pos, af, g⟩ T = some true) :
    Sem P ops ⟨dst, .call ⟨.builtin .append, #[x, y], #[U, U]⟩, ty, pos, af, g⟩ T B (.c k (.v (.c (cM (d :: rs))))) := by
  cases rs with
  | nil => exact sem_append_0 (n := 1) hU hx hy hb rfl (by omega) (by omega) hg
  | cons r rs =>
    have := sem_append_c (us := (d :: r :: rs).map (CellD.i .u32)) hU hx hy hb rfl (M_len _) (by omega) (by simp) (by omega) (by simp at hl ⊢; omega) (by simp at hl ⊢; unfold maxLen; omega) rfl hg
    unfold cM
    rw [show (d :: r :: rs).length = 1 + (r :: rs).length from by simp; omega]
    exact this
/-- An own array of limbs given out. -/
theorem dw_relM {c : Code} {Q : Exit → St → Prop} {N t k n' c' : Nat} {tm : List (Nat × DV)} {bx : List (Nat × TypeId × List CellD)} {U : TypeId} {zs ys : List Int}
    (ht : look t tm = some (.o k n' c')) (hb : look k bx = some (U, zs.map (CellD.i .u32))) (hm : zs.length = c') (hn : n' ≤ c') (hc : c' ≤ 9223372036854775807) (hu : zs.take n' = ys)
    (h : Dw P c ⟨N, (t, .v (.c (cM ys))) :: killL k tm, dropL k bx⟩ Q) : Dw P c ⟨N, tm, bx⟩ Q := by
  refine dw_release ht hb (m := 1) (us := ys.map (CellD.i .u32)) (by simp [hm]) hn hc (by rw [Nat.mul_one, ← List.map_take, hu]) ?_
  have e : n' = ys.length := by rw [← hu, List.length_take]; omega
  unfold cM at h
  rw [← e] at h
  exact h
/-- x[:h] of a list of limbs. -/
theorem sem_slice_M {dst : Option Nat} {x h : Operand} {U : TypeId} {ty : TypeId} {pos : String} {af : Array Edge} {g : Option (Nat × Bool)} {xs : List Int} {j : Nat} {ki : IntKind}
    (hU : slB P U = some 1) (hx : opd T x = some (.v (.c (cM xs)))) (hh : opd T h = some (.v (.c (.i ki j)))) (hj : j ≤ xs.length) (hg : gd ops ⟨dst, .slice U x none (some h) none, ty, pos, af, g⟩ T = some true) :
    Sem P ops ⟨dst, .slice U x none (some h) none, ty, pos, af, g⟩ T B (.r (.v (.c (cM (xs.take j))))) := by
  have := sem_slice_s (B := B) hU hx hh (by omega) (M_len xs) rfl hg
  have e : CellD.s ((j : Int).toNat) ((xs.map (CellD.i .u32)).take ((j : Int).toNat * 1)) = cM (xs.take j) := by
    unfold cM
    rw [Int.toNat_natCast, Nat.mul_one, List.length_take, Nat.min_eq_left hj, List.map_take]
  rw [e] at this; exact this
/-- x[:h] of an own slice. -/
theorem sem_slice_o {dst : Option Nat} {x h : Operand} {U : TypeId} {ty : TypeId} {pos : String} {af : Array Edge} {g : Option (Nat × Bool)} {k n c q m : Nat} {ki : IntKind}
    (hU : slB P U = some m) (hx : opd T x = some (.o k n c)) (hh : opd T h = some (.v (.c (.i ki q)))) (hq : q ≤ c) (hg : gd ops ⟨dst, .slice U x none (some h) none, ty, pos, af, g⟩ T = some true) :
    Sem P ops ⟨dst, .slice U x none (some h) none, ty, pos, af, g⟩ T B (.r (.o k q c)) :=
  sem_pure hg (fun k' e => by
      obtain rfl : k = k' := by injection e
      exact opd_ptr (ops := ops) (o := ⟨dst, .slice U x none (some h) none, ty, pos, af, g⟩) (by simp [Op.operands]) hx rfl) (fun V β a w hs => by
    have e : a.eval x = .slice (some ⟨β k, 0, none⟩) n c := opd_reads hs (x := x) (by simp [Op.operands]) hx
    have h2 := RdC.int_eq (opd_reads hs (x := h) (by simp [Op.operands]) hh)
    unfold slB at hU
    split at hU
    case h_2 => cases hU
    rename_i el hul
    cases hinf : P.info? el with
    | none => rw [hinf] at hU; cases hU
    | some inf =>
      rw [hinf] at hU
      simp at hU
      have hso : ∀ w, (sizeOf el).run P w = .ok m w := fun w => by unfold sizeOf typeInfo; simp [program, Sem.run, hinf, hU]
      refine ⟨.slice (some ⟨β k, 0, none⟩) q c, ?_, rfl⟩
      simp [execOp, Instr.sliceAt, Instr.slice, run_underlying hul, e, h2, Instr.sliceBounds, Instr.sliceBound, asIntOf, hq, hso, Addr.add])
end
end Go.Proofs.YtcimbhjmjlfloaaGreat
/- Package swarfref01: trim, signed, compare. -/
namespace Go.Proofs.YtcimbhjmjlfloaaGreat
open Go Go.RowKit
theorem rTrim_ok {xs : List Int} (hL : Lim xs) (hn : xs.length ≤ 10000000) : Ok Tryz.prog 105 [.c (cM xs)] [.c (cL (val xs))] := by
  refine Ok.of (by kernel_rfl) Tryz.func105 rfl rfl ?_
  rw [show Tryz.f105.ntmps = 21 from rfl, show Tryz.f105.results.toList = [.tmp 2] from rfl]
  refine dw_seq ?_
  -- region 0
  refine dw_region (by kernel_rfl) ?_
  refine dl_r (sem_assign rfl rfl) ?_
  refine dl_end ?_
  refine dw_seq ?_
  refine dw_block ?_
  refine dw_loop (ι := {k : Nat // k ≤ xs.length ∧ trm (xs.take k) = trm xs}) (fun i => ⟨21, [(0, .v (.c (cM (xs.take i.1))))], []⟩) (fun i => i.1) ⟨xs.length, Nat.le_refl _, by rw [List.take_length]⟩ (sub_of ⟨by rw [List.take_length]; rfl, trivial⟩ trivial rfl) ?_
  rintro ⟨k, hk0, hT⟩
  have hk : (xs.take k).length = k := by rw [List.length_take]; omega
  show Dw _ _ ⟨21, [(0, .v (.c (cM (xs.take k))))], []⟩ _
  refine dw_seq ?_
  refine dw_seq ?_
  -- region 1
  refine dw_region (by kernel_rfl) ?_
  refine dl_r (sem_move rfl rfl) ?_
  refine dl_r (sem_len sl24 rfl rfl) ?_
  refine dl_r (sem_cmp rfl rfl rfl rfl) ?_
  refine dl_rb (sem_move rfl rfl) (fun c1 hb1 => ?_)
  cases c1
  · have hz : k = 0 := by simp only [decide_eq_false_iff_not] at hb1; omega
    have hfin : cL (val xs) = cM (xs.take k) := by rw [cL_trm hL, ← hT, hz]; rfl
    refine dl_skip (sem_skip rfl) ?_
    refine dl_skip (sem_skip rfl) ?_
    refine dl_skip (sem_skip rfl) ?_
    refine dl_skip (sem_skip rfl) ?_
    refine dl_skip (sem_skip rfl) ?_
    refine dl_skip (sem_skip rfl) ?_
    refine dl_skip (sem_skip rfl) ?_
    refine dl_r (sem_pick rfl rfl rfl rfl) ?_
    refine dl_end ?_
    refine dw_false rfl ?_
    refine dw_exit ?_
    refine dw_seq ?_
    -- region 3
    refine dw_region (by kernel_rfl) ?_
    refine dl_r (sem_move rfl rfl) ?_
    refine dl_r (sem_assign rfl rfl) ?_
    refine dl_end ?_
    refine dw_ret ?_
    -- path f
    rw [hfin]
    exact ⟨.inr rfl, (resL_tmp rfl resL_nil)⟩
  · have h1 : 0 < k := by simp only [decide_eq_true_eq] at hb1; omega
    refine dl_r (sem_move rfl rfl) ?_
    refine dl_r (sem_move rfl rfl) ?_
    refine dl_r (sem_len sl24 rfl rfl) ?_
    refine dl_r (sem_ari (r := ((k - 1 : Nat) : Int)) rfl rfl (by rw [hk, show ((k - 1 : Nat) : Int) = (k : Int) - 1 from by omega]; exact ari_i64_sub (by omega) (by omega)) rfl) ?_
    refine dl_r (sem_index sl24 rfl rfl (by omega) (M_len _) rfl rfl) ?_
    refine dl_r (sem_loadq1 ty119 rfl (M_get (i := (k - 1)) (by omega)) rfl) ?_
    refine dl_r (sem_cmp rfl rfl rfl rfl) ?_
    refine dl_r (sem_pick rfl rfl rfl rfl) ?_
    refine dl_end ?_
    refine dw_cond rfl (fun hc2 => ?_) (fun hc2 => ?_)
    · have hstep := trim_step h1 hk0 hT hc2
      refine dw_skip ?_
      refine dw_block ?_
      -- region 2
      refine dw_region (by kernel_rfl) ?_
      refine dl_r (sem_move rfl rfl) ?_
      refine dl_r (sem_move rfl rfl) ?_
      refine dl_r (sem_len sl24 rfl rfl) ?_
      refine dl_r (sem_ari (r := ((k - 1 : Nat) : Int)) rfl rfl (by rw [hk, show ((k - 1 : Nat) : Int) = (k : Int) - 1 from by omega]; exact ari_i64_sub (by omega) (by omega)) rfl) ?_
      refine dl_r (sem_slice_M (xs := xs.take k) (j := (k - 1)) sl24 rfl rfl (by omega) rfl) ?_
      refine dl_r (sem_assign rfl rfl) ?_
      refine dl_end ?_
      exact ⟨⟨k - 1, by omega, hstep⟩, sub_of ⟨by rw [show xs.take (k - 1) = (xs.take k).take (k - 1) from by rw [List.take_take, Nat.min_eq_left (by omega)]]; rfl, trivial⟩ trivial rfl, by show k - 1 < k; omega⟩
    · have hfin : cL (val xs) = cM (xs.take k) := by rw [cL_trm hL]; exact congrArg cM (trim_stop h1 hk0 hT hc2)
      refine dw_exit ?_
      refine dw_seq ?_
      -- region 3
      refine dw_region (by kernel_rfl) ?_
      refine dl_r (sem_move rfl rfl) ?_
      refine dl_r (sem_assign rfl rfl) ?_
      refine dl_end ?_
      refine dw_ret ?_
      -- path tF
      rw [hfin]
      exact ⟨.inr rfl, (resL_tmp rfl resL_nil)⟩
end Go.Proofs.YtcimbhjmjlfloaaGreat
/- Plain: what the loops of the reference's plus, minus, times, compare, short keep. -/
namespace Go.Proofs.YtcimbhjmjlfloaaGreat
open Go Go.RowKit
theorem take_getD {xs : List Int} {k : Nat} (h : k < xs.length) : val (xs.take (k + 1)) = val (xs.take k) + pw k * xs.getD k 0 := val_take_succ (getD_some h)
theorem take_getD' {xs : List Int} (k : Nat) : val (xs.take (k + 1)) = val (xs.take k) + pw k * xs.getD k 0 := by
  by_cases h : k < xs.length
  · exact take_getD h
  · rw [val_take_more (by omega), List.getD, List.getElem?_eq_none (by omega)]; simp
structure PInv (p q : List Int) (k : Nat) (c : Int) (zs : List Int) : Prop where
  le : k ≤ p.length
  c0 : 0 ≤ c
  c1 : c ≤ 1
  L : Lim zs
  len : zs.length = k
  v : val zs + pw k * c = val (p.take k) + val (q.take k)
theorem PInv.step {p q zs : List Int} {k : Nat} {c S : Int} (h : PInv p q k c zs) (hp : Lim p) (hq : Lim q) (hk : k < p.length) (hS : S = c + p.getD k 0 + q.getD k 0) : PInv p q (k + 1) (S / 1000000000) (zs ++ [S % 1000000000]) := by
  have h1 := lim_getD hp k
  have h2 := lim_getD hq k
  have := h.c0
  have := h.c1
  refine ⟨hk, by omega, by omega, h.L.snoc (by omega) (by omega), by simp [h.len], ?_⟩
  rw [take_getD' k, take_getD' k, digit h.len h.v (d := S % 1000000000) (c' := S / 1000000000) (t := p.getD k 0 + q.getD k 0) (by omega)]
  rw [Int.mul_add]; omega
theorem PInv.done {p q zs : List Int} {k : Nat} {c : Int} (h : PInv p q k c zs) (hk : k = p.length) (hq : q.length ≤ p.length) : val (zs ++ [c]) = val p + val q := by
  have := h.v
  rw [val_snoc, h.len, this, hk, val_take_all (Nat.le_refl _), val_take_all hq]
structure SInv (p q : List Int) (k : Nat) (c : Int) (zs : List Int) : Prop where
  le : k ≤ p.length
  c0 : 0 ≤ c
  c1 : c ≤ 1
  L : Lim zs
  len : zs.length = k
  v : val zs - pw k * c = val (p.take k) - val (q.take k)
theorem SInv.step {p q zs : List Int} {k : Nat} {c d c' : Int} (h : SInv p q k c zs) (hk : k < p.length) (hd : 0 ≤ d) (hd2 : d < 1000000000) (hc0 : 0 ≤ c') (hc1 : c' ≤ 1) (hS : d - 1000000000 * c' = p.getD k 0 - c - q.getD k 0) : SInv p q (k + 1) c' (zs ++ [d]) := by
  refine ⟨hk, hc0, hc1, h.L.snoc hd hd2, by simp [h.len], ?_⟩
  have h1 := digit (zs := zs) (k := k) (c := -c) (S := val (p.take k) - val (q.take k)) (t := p.getD k 0 - q.getD k 0) (d := d) (c' := -c') h.len (by rw [Int.mul_neg]; have := h.v; omega) (by omega)
  rw [Int.mul_neg] at h1
  rw [take_getD' k, take_getD' k]
  rw [Int.mul_sub] at h1
  omega
theorem SInv.done {p q zs : List Int} {k : Nat} {c : Int} (h : SInv p q k c zs) (hk : k = p.length) (hq : q.length ≤ p.length) (hv : val q ≤ val p) : val zs = val p - val q := by
  have h1 := h.v
  rw [hk, val_take_all (Nat.le_refl _), val_take_all hq] at h1
  have h2 := val_lt h.L
  have h3 := val_nonneg h.L
  rw [h.len, hk] at h2
  have h4 := h.c0
  have h5 := h.c1
  have : c = 0 ∨ c = 1 := by omega
  rcases this with rfl | rfl
  · omega
  · rw [Int.mul_one] at h1; omega
/-- the row of times: the digits so far, the carry, the partial products -/
structure TInv (p q : List Int) (i k : Nat) (c : Int) (zs : List Int) : Prop where
  ik : i ≤ p.length
  kk : k ≤ q.length
  c0 : 0 ≤ c
  c1 : c < 1000000000
  L : Lim zs
  len : zs.length = p.length + q.length
  z : Zr zs (i + q.length)
  v : val zs + pw (i + k) * c = val (p.take i) * val q + pw i * (p.getD i 0 * val (q.take k))
theorem TInv.start {p q : List Int} : TInv p q 0 0 0 (List.replicate (p.length + q.length) 0) :=
  ⟨Nat.zero_le _, Nat.zero_le _, by omega, by omega, Lim.zeros _, by simp, Zr.zeros _ _, by rw [val_zeros]; simp [val]⟩
theorem tstep_alg {Z a b c d o c' x y Q M S : Int} (hv : Z + a * b * c = M + a * (x * Q)) (e1 : d + 1000000000 * c' = S) (hS : S = c + o + x * y) : Z + a * b * (d - o) + 1000000000 * (a * b) * c' = M + a * (x * (Q + b * y)) := by
  grind
theorem TInv.step {p q zs : List Int} {i k : Nat} {c S : Int} (h : TInv p q i k c zs) (hp : Lim p) (hq : Lim q) (hi : i < p.length) (hk : k < q.length) (hS : S = c + zs.getD (i + k) 0 + p.getD i 0 * q.getD k 0) :
    TInv p q i (k + 1) (S / 1000000000) (zs.set (i + k) (S % 1000000000)) := by
  have h1 := lim_getD hp i
  have h2 := lim_getD hq k
  have h3 := lim_getD h.L (i + k)
  have hc0 := h.c0
  have hc1 := h.c1
  have hm0 : 0 ≤ p.getD i 0 * q.getD k 0 := Int.mul_nonneg h1.1 h2.1
  have hm1 : p.getD i 0 * q.getD k 0 ≤ 999999999 * 999999999 := Int.mul_le_mul (by omega) (by omega) h2.1 (by omega)
  have hlt : i + k < zs.length := by rw [h.len]; omega
  refine ⟨h.ik, hk, by omega, by omega, h.L.set (by omega) (by omega), by simp [h.len], h.z.set (by omega), ?_⟩
  rw [val_set (getD_some hlt), take_getD hk, show i + (k + 1) = i + k + 1 from by omega, pw_succ]
  have hv := h.v
  have e1 : S % 1000000000 + 1000000000 * (S / 1000000000) = S := Int.emod_add_mul_ediv S 1000000000
  rw [pw_add i k] at *
  exact tstep_alg hv e1 hS
theorem TInv.row {p q zs : List Int} {i k : Nat} {c : Int} (h : TInv p q i k c zs) (hi : i < p.length) (hk : k = q.length) : TInv p q (i + 1) 0 0 (zs.set (i + q.length) c) := by
  subst hk
  have hlt : i + q.length < zs.length := by rw [h.len]; omega
  have hz : zs.getD (i + q.length) 0 = 0 := h.z (i + q.length) _ (Nat.le_refl _) (getD_some hlt)
  refine ⟨hi, Nat.zero_le _, by omega, by omega, h.L.set h.c0 h.c1, by simp [h.len], ?_, ?_⟩
  · rw [show i + 1 + q.length = i + q.length + 1 from by omega]; exact h.z.set_at
  · rw [val_set (getD_some hlt), hz, take_getD hi]
    have hv := h.v
    rw [val_take_all (Nat.le_refl _)] at hv
    simp only [List.take_zero, val, Int.mul_zero, Int.add_zero, Int.sub_zero]
    generalize pw (i + q.length) = a at *
    generalize pw i = b at *
    generalize p.getD i 0 = x at *
    generalize val q = Q at *
    generalize val zs = Z at *
    generalize val (p.take i) = M at *
    grind
theorem TInv.done {p q zs : List Int} {i : Nat} (h : TInv p q i 0 0 zs) (hi : i = p.length) : val zs = val p * val q := by
  have hv := h.v
  subst hi
  rw [val_take_all (Nat.le_refl _)] at hv
  simp [val] at hv
  exact hv
/-- compare from the top -/
theorem drop_step {xs ys : List Int} {i : Nat} (hx : i < xs.length) (hy : i < ys.length) (h : xs.drop (i + 1) = ys.drop (i + 1)) (he : xs.getD i 0 = ys.getD i 0) : xs.drop i = ys.drop i := by
  rw [List.drop_eq_getElem_cons hx, List.drop_eq_getElem_cons hy, h]
  congr 1
  simpa [List.getD, hx, hy] using he
theorem sg_data {v : Int} (h : 0 ≤ v) : dI (sg true v) = .a ([.b (decide (((lim v.natAbs).length : Int) > 0))] ++ [cL v]) := by
  rw [sg_true]
  unfold dI cI
  have e1 : cL (-v) = cL v := by unfold cL; rw [Int.natAbs_neg]
  rw [e1]
  have e2 : decide (-v < 0) = decide (((lim v.natAbs).length : Int) > 0) := by
    by_cases h0 : v = 0
    · subst h0; simp [lim_zero]
    · have : (lim v.natAbs).length ≠ 0 := fun e => h0 (lenL_eq.1 e)
      rw [show decide (-v < 0) = true from by simp; omega, show decide (((lim v.natAbs).length : Int) > 0) = true from by simp only [decide_eq_true_eq]; omega]
  rw [e2]; rfl
/-- short: from the top -/
structure ShInv (xs : List Int) (j : Nat) (r : Int) : Prop where
  le : j ≤ xs.length
  r0 : 0 ≤ r
  v : r * pw j + val (xs.take j) = val xs
theorem ShInv.step {xs : List Int} {i : Nat} {r : Int} (h : ShInv xs (i + 1) r) (hL : Lim xs) : ShInv xs i (r * 1000000000 + xs.getD i 0) := by
  have h1 := lim_getD hL i
  refine ⟨by have := h.le; omega, by have := h.r0; omega, ?_⟩
  have hv := h.v
  rw [take_getD' i, pw_succ] at hv
  rw [← hv]
  generalize pw i = a at *
  grind
theorem ShInv.bound {xs : List Int} {j : Nat} {r : Int} (h : ShInv xs j r) (hL : Lim xs) : r ≤ val xs := by
  have := h.v
  have h1 := pw_pos j
  have h2 := val_nonneg (hL.take j)
  have h3 := Int.mul_le_mul_of_nonneg_left h1 h.r0
  rw [Int.mul_one] at h3
  omega
end Go.Proofs.YtcimbhjmjlfloaaGreat
/- Package swarfref01: plus, minus. -/
namespace Go.Proofs.YtcimbhjmjlfloaaGreat
open Go Go.RowKit
theorem rPlus_ok {xs ys : List Int} (hLxs : Lim xs) (hLys : Lim ys) (hn : xs.length ≤ 1000000) (hm : ys.length ≤ 1000000) : Ok Tryz.prog 124 [.c (cM xs), .c (cM ys)] [.c (cL (val xs + val ys))] := by
  refine Ok.of (by kernel_rfl) Tryz.func124 rfl rfl ?_
  rw [show Tryz.f124.ntmps = 55 from rfl, show Tryz.f124.results.toList = [.tmp 4] from rfl]
  refine dw_seq ?_
  -- region 0
  refine dw_region (by kernel_rfl) ?_
  refine dl_r (sem_assign rfl rfl) ?_
  refine dl_end ?_
  refine dw_seq ?_
  refine dw_seq ?_
  -- region 1
  refine dw_region (by kernel_rfl) ?_
  refine dl_r (sem_move rfl rfl) ?_
  refine dl_r (sem_len sl24 rfl rfl) ?_
  refine dl_r (sem_move rfl rfl) ?_
  refine dl_r (sem_len sl24 rfl rfl) ?_
  refine dl_r (sem_cmp rfl rfl rfl rfl) ?_
  refine dl_end ?_
  refine dw_cond rfl (fun hc1 => ?_) (fun hc1 => ?_)
  · have hlt : xs.length < ys.length := by simp only [decide_eq_true_eq] at hc1; omega
    -- region 2
    refine dw_region (by kernel_rfl) ?_
    refine dl_r (sem_move rfl rfl) ?_
    refine dl_r (sem_move rfl rfl) ?_
    refine dl_r (sem_assign rfl rfl) ?_
    refine dl_r (sem_assign rfl rfl) ?_
    refine dl_end ?_
    refine dw_seq ?_
    -- region 3
    refine dw_region (by kernel_rfl) ?_
    refine dl_r (sem_move rfl rfl) ?_
    refine dl_r (sem_len sl24 rfl rfl) ?_
    refine dl_r (sem_ari (r := (ys.length : Int) + 1) rfl rfl (ari_i64_add (by (first | omega | (simp; omega))) (by (first | omega | (simp; omega)))) rfl) ?_
    refine dl_mk (sem_make (n := ys.length + 1) el24 rfl rfl (by (first | omega | (simp; omega))) (by (first | omega | (simp; omega))) rfl) rfl ?_
    refine dl_r (sem_assign rfl rfl) ?_
    refine dl_end ?_
    refine dw_seq ?_
    -- region 4
    refine dw_region (by kernel_rfl) ?_
    refine dl_r (sem_assign rfl rfl) ?_
    refine dl_end ?_
    refine dw_seq ?_
    refine dw_seq ?_
    -- region 5
    refine dw_region (by kernel_rfl) ?_
    refine dl_r (sem_assign rfl rfl) ?_
    refine dl_end ?_
    refine dw_block ?_
    refine dw_loop (ι := {t : Nat × Int × List Int // PInv ys xs t.1 t.2.1 t.2.2}) (fun i => ⟨55, [(0, .v (.c (cM ys))), (1, .v (.c (cM xs))), (5, .o 18 (ys.length + 1) (ys.length + 1)), (6, .v (.c (.i .u32 i.1.2.1))), (7, .v (.c (.i .i64 (i.1.1 : Int))))], [(18, 119, (i.1.2.2 ++ List.replicate (ys.length + 1 - i.1.1) 0).map (CellD.i .u32))]⟩) (fun i => ys.length - i.1.1) ⟨(0, 0, []), ⟨Nat.zero_le _, Int.le_refl 0, by decide, Lim.nil, rfl, by simp [val]⟩⟩ (sub_of ⟨rfl, rfl, rfl, rfl, rfl, trivial⟩ ⟨by rw [show (List.replicate (ys.length + 1) (CellD.i .u32 0)) = (([] : List Int) ++ List.replicate (ys.length + 1 - 0) 0).map (CellD.i .u32) from by simp]; rfl, trivial⟩ rfl) ?_
    rintro ⟨⟨k, c, zs⟩, hI⟩
    replace hI : PInv ys xs k c zs := hI
    have g1 := lim_getD hLys k
    have g2 := lim_getD hLxs k
    have g3 := hI.c0
    have g4 := hI.c1
    have g5 := hI.le
    have g6 := hI.len
    show Dw _ _ ⟨55, [(0, .v (.c (cM ys))), (1, .v (.c (cM xs))), (5, .o 18 (ys.length + 1) (ys.length + 1)), (6, .v (.c (.i .u32 c))), (7, .v (.c (.i .i64 (k : Int))))], [(18, 119, (zs ++ List.replicate (ys.length + 1 - k) 0).map (CellD.i .u32))]⟩ _
    refine dw_seq ?_
    refine dw_seq ?_
    -- region 6
    refine dw_region (by kernel_rfl) ?_
    refine dl_r (sem_move rfl rfl) ?_
    refine dl_r (sem_move rfl rfl) ?_
    refine dl_r (sem_len sl24 rfl rfl) ?_
    refine dl_r (sem_cmp rfl rfl rfl rfl) ?_
    refine dl_end ?_
    refine dw_cond rfl (fun hc2 => ?_) (fun hc2 => ?_)
    · have hk : k < ys.length := by simp only [decide_eq_true_eq] at hc2; omega
      refine dw_skip ?_
      refine dw_seq ?_
      refine dw_block ?_
      refine dw_seq ?_
      -- region 8
      refine dw_region (by kernel_rfl) ?_
      refine dl_r (sem_move rfl rfl) ?_
      refine dl_r (sem_move rfl rfl) ?_
      refine dl_r (sem_move rfl rfl) ?_
      refine dl_r (sem_index sl24 rfl rfl (by (first | omega | (simp; omega))) (M_len _) rfl rfl) ?_
      refine dl_r (sem_loadq1 ty119 rfl (M_get (i := k) (by (first | omega | (simp; omega)))) rfl) ?_
      refine dl_r (sem_ari (r := c + (ys.getD k 0)) rfl rfl (ari_u32_add (by (first | omega | (simp; omega))) (by (first | omega | (simp; omega)))) rfl) ?_
      refine dl_r (sem_assign rfl rfl) ?_
      refine dl_end ?_
      refine dw_seq ?_
      refine dw_seq ?_
      -- region 9
      refine dw_region (by kernel_rfl) ?_
      refine dl_r (sem_move rfl rfl) ?_
      refine dl_r (sem_move rfl rfl) ?_
      refine dl_r (sem_len sl24 rfl rfl) ?_
      refine dl_r (sem_cmp rfl rfl rfl rfl) ?_
      refine dl_end ?_
      refine dw_cond rfl (fun hc3 => ?_) (fun hc3 => ?_)
      · have hkq : k < xs.length := by simp only [decide_eq_true_eq] at hc3; omega
        have hS : c + ys.getD k 0 + xs.getD k 0 = c + ys.getD k 0 + xs.getD k 0 := rfl
        have hb : c + ys.getD k 0 + xs.getD k 0 ≤ 4294967295 := by omega
        -- region 10
        refine dw_region (by kernel_rfl) ?_
        refine dl_r (sem_move rfl rfl) ?_
        refine dl_r (sem_move rfl rfl) ?_
        refine dl_r (sem_move rfl rfl) ?_
        refine dl_r (sem_index sl24 rfl rfl (by (first | omega | (simp; omega))) (M_len _) rfl rfl) ?_
        refine dl_r (sem_loadq1 ty119 rfl (M_get (i := k) (by (first | omega | (simp; omega)))) rfl) ?_
        refine dl_r (sem_ari (r := (c + (ys.getD k 0)) + (xs.getD k 0)) rfl rfl (ari_u32_add (by (first | omega | (simp; omega))) (by (first | omega | (simp; omega)))) rfl) ?_
        refine dl_r (sem_assign rfl rfl) ?_
        refine dl_end ?_
        refine dw_seq ?_
        -- region 11
        refine dw_region (by kernel_rfl) ?_
        refine dl_r (sem_move rfl rfl) ?_
        refine dl_r (sem_move rfl rfl) ?_
        refine dl_r (sem_move rfl rfl) ?_
        refine dl_r (sem_rem' (r := (c + ys.getD k 0 + xs.getD k 0) % 1000000000) rfl rfl (by omega) (Int.tmod_eq_emod_of_nonneg (by omega)) rfl) ?_
        refine dl_r (sem_index_o sl24 rfl rfl (by (first | omega | (simp; omega))) rfl) ?_
        refine dl_st (sem_store (us := ((zs ++ List.replicate (ys.length + 1 - k) 0).set k ((c + ys.getD k 0 + xs.getD k 0) % 1000000000)).map (CellD.i .u32)) ty119 rfl rfl rfl rfl (by simp; omega) (O_set (by (first | omega | (simp; omega)))) rfl) ?_
        refine dl_end ?_
        -- region 12
        refine dw_region (by kernel_rfl) ?_
        refine dl_r (sem_move rfl rfl) ?_
        refine dl_r (sem_quo' (r := (c + ys.getD k 0 + xs.getD k 0) / 1000000000) rfl rfl (by omega) (by rw [Int.tdiv_eq_ediv_of_nonneg (by omega)]; exact nwu32 (by omega) (by omega)) rfl) ?_
        refine dl_r (sem_assign rfl rfl) ?_
        refine dl_end ?_
        -- region 7
        refine dw_region (by kernel_rfl) ?_
        refine dl_r (sem_move rfl rfl) ?_
        refine dl_r (sem_ari (r := (k : Int) + 1) rfl rfl (ari_i64_add (by (first | omega | (simp; omega))) (by (first | omega | (simp; omega)))) rfl) ?_
        refine dl_r (sem_assign rfl rfl) ?_
        refine dl_end ?_
        exact ⟨⟨(k + 1, (c + ys.getD k 0 + xs.getD k 0) / 1000000000, zs ++ [(c + ys.getD k 0 + xs.getD k 0) % 1000000000]), hI.step hLys hLxs hk hS⟩, sub_of ⟨rfl, rfl, rfl, rfl, by rw [show ((k + 1 : Nat) : Int) = (k : Int) + 1 from by omega]; rfl, trivial⟩ ⟨by rw [show ys.length + 1 - (k + 1) = ys.length - k from by omega, ← set_end (m := ys.length - k) (d := (c + ys.getD k 0 + xs.getD k 0) % 1000000000) g6, show ys.length - k + 1 = ys.length + 1 - k from by omega]; rfl, trivial⟩ rfl, by show ys.length - (k + 1) < ys.length - k; omega⟩
      · have hkq : ¬ k < xs.length := by simp only [decide_eq_false_iff_not] at hc3; omega
        have hq0 : xs.getD k 0 = 0 := by rw [List.getD, List.getElem?_eq_none (by omega)]; rfl
        have hS : c + ys.getD k 0 = c + ys.getD k 0 + xs.getD k 0 := by omega
        refine dw_skip ?_
        refine dw_seq ?_
        -- region 11
        refine dw_region (by kernel_rfl) ?_
        refine dl_r (sem_move rfl rfl) ?_
        refine dl_r (sem_move rfl rfl) ?_
        refine dl_r (sem_move rfl rfl) ?_
        refine dl_r (sem_rem' (r := (c + ys.getD k 0) % 1000000000) rfl rfl (by omega) (Int.tmod_eq_emod_of_nonneg (by omega)) rfl) ?_
        refine dl_r (sem_index_o sl24 rfl rfl (by (first | omega | (simp; omega))) rfl) ?_
        refine dl_st (sem_store (us := ((zs ++ List.replicate (ys.length + 1 - k) 0).set k ((c + ys.getD k 0) % 1000000000)).map (CellD.i .u32)) ty119 rfl rfl rfl rfl (by simp; omega) (O_set (by (first | omega | (simp; omega)))) rfl) ?_
        refine dl_end ?_
        -- region 12
        refine dw_region (by kernel_rfl) ?_
        refine dl_r (sem_move rfl rfl) ?_
        refine dl_r (sem_quo' (r := (c + ys.getD k 0) / 1000000000) rfl rfl (by omega) (by rw [Int.tdiv_eq_ediv_of_nonneg (by omega)]; exact nwu32 (by omega) (by omega)) rfl) ?_
        refine dl_r (sem_assign rfl rfl) ?_
        refine dl_end ?_
        -- region 7
        refine dw_region (by kernel_rfl) ?_
        refine dl_r (sem_move rfl rfl) ?_
        refine dl_r (sem_ari (r := (k : Int) + 1) rfl rfl (ari_i64_add (by (first | omega | (simp; omega))) (by (first | omega | (simp; omega)))) rfl) ?_
        refine dl_r (sem_assign rfl rfl) ?_
        refine dl_end ?_
        exact ⟨⟨(k + 1, (c + ys.getD k 0) / 1000000000, zs ++ [(c + ys.getD k 0) % 1000000000]), hI.step hLys hLxs hk hS⟩, sub_of ⟨rfl, rfl, rfl, rfl, by rw [show ((k + 1 : Nat) : Int) = (k : Int) + 1 from by omega]; rfl, trivial⟩ ⟨by rw [show ys.length + 1 - (k + 1) = ys.length - k from by omega, ← set_end (m := ys.length - k) (d := (c + ys.getD k 0) % 1000000000) g6, show ys.length - k + 1 = ys.length + 1 - k from by omega]; rfl, trivial⟩ rfl, by show ys.length - (k + 1) < ys.length - k; omega⟩
    · have hk : k = ys.length := by simp only [decide_eq_false_iff_not] at hc2; omega
      have hfin : (val xs + val ys : Int) = val ((zs ++ List.replicate (ys.length + 1 - k) 0).set ys.length c) := by rw [show ys.length + 1 - k = 0 + 1 from by omega, set_end (by omega)]; simp only [List.replicate_zero, List.append_nil]; rw [hI.done hk (by omega)]; omega
      have hLf : Lim ((zs ++ List.replicate (ys.length + 1 - k) 0).set ys.length c) := (hI.L.append (Lim.zeros _)).set g3 (by omega)
      refine dw_exit ?_
      refine dw_seq ?_
      -- region 13
      refine dw_region (by kernel_rfl) ?_
      refine dl_r (sem_move rfl rfl) ?_
      refine dl_r (sem_move rfl rfl) ?_
      refine dl_r (sem_len sl24 rfl rfl) ?_
      refine dl_r (sem_move rfl rfl) ?_
      refine dl_r (sem_index_o sl24 rfl rfl (by (first | omega | (simp; omega))) rfl) ?_
      refine dl_st (sem_store (us := ((zs ++ List.replicate (ys.length + 1 - k) 0).set ys.length c).map (CellD.i .u32)) ty119 rfl rfl rfl rfl (by simp; omega) (O_set (by (first | omega | (simp; omega)))) rfl) ?_
      refine dl_end ?_
      refine dw_seq ?_
      -- region 14
      refine dw_relM (t := 5) (zs := (zs ++ List.replicate (ys.length + 1 - k) 0).set ys.length c) (ys := (zs ++ List.replicate (ys.length + 1 - k) 0).set ys.length c) rfl rfl (by first | omega | (simp; omega) | simp) (by omega) (by omega) (List.take_of_length_le (by first | omega | (simp; omega) | simp)) ?_
      refine dw_region (by kernel_rfl) ?_
      refine dl_r (sem_move rfl rfl) ?_
      refine dl_r (sem_call rfl rfl (rTrim_ok hLf (by simp; omega)) rfl) ?_
      refine dl_r (sem_assign rfl rfl) ?_
      refine dl_end ?_
      refine dw_ret ?_
      -- path TF
      rw [hfin]
      exact ⟨.inr rfl, (resL_tmp rfl resL_nil)⟩
  · have hlt : ys.length ≤ xs.length := by simp only [decide_eq_false_iff_not] at hc1; omega
    refine dw_skip ?_
    refine dw_seq ?_
    -- region 3
    refine dw_region (by kernel_rfl) ?_
    refine dl_r (sem_move rfl rfl) ?_
    refine dl_r (sem_len sl24 rfl rfl) ?_
    refine dl_r (sem_ari (r := (xs.length : Int) + 1) rfl rfl (ari_i64_add (by (first | omega | (simp; omega))) (by (first | omega | (simp; omega)))) rfl) ?_
    refine dl_mk (sem_make (n := xs.length + 1) el24 rfl rfl (by (first | omega | (simp; omega))) (by (first | omega | (simp; omega))) rfl) rfl ?_
    refine dl_r (sem_assign rfl rfl) ?_
    refine dl_end ?_
    refine dw_seq ?_
    -- region 4
    refine dw_region (by kernel_rfl) ?_
    refine dl_r (sem_assign rfl rfl) ?_
    refine dl_end ?_
    refine dw_seq ?_
    refine dw_seq ?_
    -- region 5
    refine dw_region (by kernel_rfl) ?_
    refine dl_r (sem_assign rfl rfl) ?_
    refine dl_end ?_
    refine dw_block ?_
    refine dw_loop (ι := {t : Nat × Int × List Int // PInv xs ys t.1 t.2.1 t.2.2}) (fun i => ⟨55, [(0, .v (.c (cM xs))), (1, .v (.c (cM ys))), (5, .o 18 (xs.length + 1) (xs.length + 1)), (6, .v (.c (.i .u32 i.1.2.1))), (7, .v (.c (.i .i64 (i.1.1 : Int))))], [(18, 119, (i.1.2.2 ++ List.replicate (xs.length + 1 - i.1.1) 0).map (CellD.i .u32))]⟩) (fun i => xs.length - i.1.1) ⟨(0, 0, []), ⟨Nat.zero_le _, Int.le_refl 0, by decide, Lim.nil, rfl, by simp [val]⟩⟩ (sub_of ⟨rfl, rfl, rfl, rfl, rfl, trivial⟩ ⟨by rw [show (List.replicate (xs.length + 1) (CellD.i .u32 0)) = (([] : List Int) ++ List.replicate (xs.length + 1 - 0) 0).map (CellD.i .u32) from by simp]; rfl, trivial⟩ rfl) ?_
    rintro ⟨⟨k, c, zs⟩, hI⟩
    replace hI : PInv xs ys k c zs := hI
    have g1 := lim_getD hLxs k
    have g2 := lim_getD hLys k
    have g3 := hI.c0
    have g4 := hI.c1
    have g5 := hI.le
    have g6 := hI.len
    show Dw _ _ ⟨55, [(0, .v (.c (cM xs))), (1, .v (.c (cM ys))), (5, .o 18 (xs.length + 1) (xs.length + 1)), (6, .v (.c (.i .u32 c))), (7, .v (.c (.i .i64 (k : Int))))], [(18, 119, (zs ++ List.replicate (xs.length + 1 - k) 0).map (CellD.i .u32))]⟩ _
    refine dw_seq ?_
    refine dw_seq ?_
    -- region 6
    refine dw_region (by kernel_rfl) ?_
    refine dl_r (sem_move rfl rfl) ?_
    refine dl_r (sem_move rfl rfl) ?_
    refine dl_r (sem_len sl24 rfl rfl) ?_
    refine dl_r (sem_cmp rfl rfl rfl rfl) ?_
    refine dl_end ?_
    refine dw_cond rfl (fun hc4 => ?_) (fun hc4 => ?_)
    · have hk : k < xs.length := by simp only [decide_eq_true_eq] at hc4; omega
      refine dw_skip ?_
      refine dw_seq ?_
      refine dw_block ?_
      refine dw_seq ?_
      -- region 8
      refine dw_region (by kernel_rfl) ?_
      refine dl_r (sem_move rfl rfl) ?_
      refine dl_r (sem_move rfl rfl) ?_
      refine dl_r (sem_move rfl rfl) ?_
      refine dl_r (sem_index sl24 rfl rfl (by (first | omega | (simp; omega))) (M_len _) rfl rfl) ?_
      refine dl_r (sem_loadq1 ty119 rfl (M_get (i := k) (by (first | omega | (simp; omega)))) rfl) ?_
      refine dl_r (sem_ari (r := c + (xs.getD k 0)) rfl rfl (ari_u32_add (by (first | omega | (simp; omega))) (by (first | omega | (simp; omega)))) rfl) ?_
      refine dl_r (sem_assign rfl rfl) ?_
      refine dl_end ?_
      refine dw_seq ?_
      refine dw_seq ?_
      -- region 9
      refine dw_region (by kernel_rfl) ?_
      refine dl_r (sem_move rfl rfl) ?_
      refine dl_r (sem_move rfl rfl) ?_
      refine dl_r (sem_len sl24 rfl rfl) ?_
      refine dl_r (sem_cmp rfl rfl rfl rfl) ?_
      refine dl_end ?_
      refine dw_cond rfl (fun hc5 => ?_) (fun hc5 => ?_)
      · have hkq : k < ys.length := by simp only [decide_eq_true_eq] at hc5; omega
        have hS : c + xs.getD k 0 + ys.getD k 0 = c + xs.getD k 0 + ys.getD k 0 := rfl
        have hb : c + xs.getD k 0 + ys.getD k 0 ≤ 4294967295 := by omega
        -- region 10
        refine dw_region (by kernel_rfl) ?_
        refine dl_r (sem_move rfl rfl) ?_
        refine dl_r (sem_move rfl rfl) ?_
        refine dl_r (sem_move rfl rfl) ?_
        refine dl_r (sem_index sl24 rfl rfl (by (first | omega | (simp; omega))) (M_len _) rfl rfl) ?_
        refine dl_r (sem_loadq1 ty119 rfl (M_get (i := k) (by (first | omega | (simp; omega)))) rfl) ?_
        refine dl_r (sem_ari (r := (c + (xs.getD k 0)) + (ys.getD k 0)) rfl rfl (ari_u32_add (by (first | omega | (simp; omega))) (by (first | omega | (simp; omega)))) rfl) ?_
        refine dl_r (sem_assign rfl rfl) ?_
        refine dl_end ?_
        refine dw_seq ?_
        -- region 11
        refine dw_region (by kernel_rfl) ?_
        refine dl_r (sem_move rfl rfl) ?_
        refine dl_r (sem_move rfl rfl) ?_
        refine dl_r (sem_move rfl rfl) ?_
        refine dl_r (sem_rem' (r := (c + xs.getD k 0 + ys.getD k 0) % 1000000000) rfl rfl (by omega) (Int.tmod_eq_emod_of_nonneg (by omega)) rfl) ?_
        refine dl_r (sem_index_o sl24 rfl rfl (by (first | omega | (simp; omega))) rfl) ?_
        refine dl_st (sem_store (us := ((zs ++ List.replicate (xs.length + 1 - k) 0).set k ((c + xs.getD k 0 + ys.getD k 0) % 1000000000)).map (CellD.i .u32)) ty119 rfl rfl rfl rfl (by simp; omega) (O_set (by (first | omega | (simp; omega)))) rfl) ?_
        refine dl_end ?_
        -- region 12
        refine dw_region (by kernel_rfl) ?_
        refine dl_r (sem_move rfl rfl) ?_
        refine dl_r (sem_quo' (r := (c + xs.getD k 0 + ys.getD k 0) / 1000000000) rfl rfl (by omega) (by rw [Int.tdiv_eq_ediv_of_nonneg (by omega)]; exact nwu32 (by omega) (by omega)) rfl) ?_
        refine dl_r (sem_assign rfl rfl) ?_
        refine dl_end ?_
        -- region 7
        refine dw_region (by kernel_rfl) ?_
        refine dl_r (sem_move rfl rfl) ?_
        refine dl_r (sem_ari (r := (k : Int) + 1) rfl rfl (ari_i64_add (by (first | omega | (simp; omega))) (by (first | omega | (simp; omega)))) rfl) ?_
        refine dl_r (sem_assign rfl rfl) ?_
        refine dl_end ?_
        exact ⟨⟨(k + 1, (c + xs.getD k 0 + ys.getD k 0) / 1000000000, zs ++ [(c + xs.getD k 0 + ys.getD k 0) % 1000000000]), hI.step hLxs hLys hk hS⟩, sub_of ⟨rfl, rfl, rfl, rfl, by rw [show ((k + 1 : Nat) : Int) = (k : Int) + 1 from by omega]; rfl, trivial⟩ ⟨by rw [show xs.length + 1 - (k + 1) = xs.length - k from by omega, ← set_end (m := xs.length - k) (d := (c + xs.getD k 0 + ys.getD k 0) % 1000000000) g6, show xs.length - k + 1 = xs.length + 1 - k from by omega]; rfl, trivial⟩ rfl, by show xs.length - (k + 1) < xs.length - k; omega⟩
      · have hkq : ¬ k < ys.length := by simp only [decide_eq_false_iff_not] at hc5; omega
        have hq0 : ys.getD k 0 = 0 := by rw [List.getD, List.getElem?_eq_none (by omega)]; rfl
        have hS : c + xs.getD k 0 = c + xs.getD k 0 + ys.getD k 0 := by omega
        refine dw_skip ?_
        refine dw_seq ?_
        -- region 11
        refine dw_region (by kernel_rfl) ?_
        refine dl_r (sem_move rfl rfl) ?_
        refine dl_r (sem_move rfl rfl) ?_
        refine dl_r (sem_move rfl rfl) ?_
        refine dl_r (sem_rem' (r := (c + xs.getD k 0) % 1000000000) rfl rfl (by omega) (Int.tmod_eq_emod_of_nonneg (by omega)) rfl) ?_
        refine dl_r (sem_index_o sl24 rfl rfl (by (first | omega | (simp; omega))) rfl) ?_
        refine dl_st (sem_store (us := ((zs ++ List.replicate (xs.length + 1 - k) 0).set k ((c + xs.getD k 0) % 1000000000)).map (CellD.i .u32)) ty119 rfl rfl rfl rfl (by simp; omega) (O_set (by (first | omega | (simp; omega)))) rfl) ?_
        refine dl_end ?_
        -- region 12
        refine dw_region (by kernel_rfl) ?_
        refine dl_r (sem_move rfl rfl) ?_
        refine dl_r (sem_quo' (r := (c + xs.getD k 0) / 1000000000) rfl rfl (by omega) (by rw [Int.tdiv_eq_ediv_of_nonneg (by omega)]; exact nwu32 (by omega) (by omega)) rfl) ?_
        refine dl_r (sem_assign rfl rfl) ?_
        refine dl_end ?_
        -- region 7
        refine dw_region (by kernel_rfl) ?_
        refine dl_r (sem_move rfl rfl) ?_
        refine dl_r (sem_ari (r := (k : Int) + 1) rfl rfl (ari_i64_add (by (first | omega | (simp; omega))) (by (first | omega | (simp; omega)))) rfl) ?_
        refine dl_r (sem_assign rfl rfl) ?_
        refine dl_end ?_
        exact ⟨⟨(k + 1, (c + xs.getD k 0) / 1000000000, zs ++ [(c + xs.getD k 0) % 1000000000]), hI.step hLxs hLys hk hS⟩, sub_of ⟨rfl, rfl, rfl, rfl, by rw [show ((k + 1 : Nat) : Int) = (k : Int) + 1 from by omega]; rfl, trivial⟩ ⟨by rw [show xs.length + 1 - (k + 1) = xs.length - k from by omega, ← set_end (m := xs.length - k) (d := (c + xs.getD k 0) % 1000000000) g6, show xs.length - k + 1 = xs.length + 1 - k from by omega]; rfl, trivial⟩ rfl, by show xs.length - (k + 1) < xs.length - k; omega⟩
    · have hk : k = xs.length := by simp only [decide_eq_false_iff_not] at hc4; omega
      have hfin : (val xs + val ys : Int) = val ((zs ++ List.replicate (xs.length + 1 - k) 0).set xs.length c) := by rw [show xs.length + 1 - k = 0 + 1 from by omega, set_end (by omega)]; simp only [List.replicate_zero, List.append_nil]; rw [hI.done hk (by omega)]
      have hLf : Lim ((zs ++ List.replicate (xs.length + 1 - k) 0).set xs.length c) := (hI.L.append (Lim.zeros _)).set g3 (by omega)
      refine dw_exit ?_
      refine dw_seq ?_
      -- region 13
      refine dw_region (by kernel_rfl) ?_
      refine dl_r (sem_move rfl rfl) ?_
      refine dl_r (sem_move rfl rfl) ?_
      refine dl_r (sem_len sl24 rfl rfl) ?_
      refine dl_r (sem_move rfl rfl) ?_
      refine dl_r (sem_index_o sl24 rfl rfl (by (first | omega | (simp; omega))) rfl) ?_
      refine dl_st (sem_store (us := ((zs ++ List.replicate (xs.length + 1 - k) 0).set xs.length c).map (CellD.i .u32)) ty119 rfl rfl rfl rfl (by simp; omega) (O_set (by (first | omega | (simp; omega)))) rfl) ?_
      refine dl_end ?_
      refine dw_seq ?_
      -- region 14
      refine dw_relM (t := 5) (zs := (zs ++ List.replicate (xs.length + 1 - k) 0).set xs.length c) (ys := (zs ++ List.replicate (xs.length + 1 - k) 0).set xs.length c) rfl rfl (by first | omega | (simp; omega) | simp) (by omega) (by omega) (List.take_of_length_le (by first | omega | (simp; omega) | simp)) ?_
      refine dw_region (by kernel_rfl) ?_
      refine dl_r (sem_move rfl rfl) ?_
      refine dl_r (sem_call rfl rfl (rTrim_ok hLf (by simp; omega)) rfl) ?_
      refine dl_r (sem_assign rfl rfl) ?_
      refine dl_end ?_
      refine dw_ret ?_
      -- path FF
      rw [hfin]
      exact ⟨.inr rfl, (resL_tmp rfl resL_nil)⟩
theorem rMinus_ok {xs ys : List Int} (hLxs : Lim xs) (hLys : Lim ys) (hn : xs.length ≤ 1000000) (hlen : ys.length ≤ xs.length) (hle : val ys ≤ val xs) : Ok Tryz.prog 123 [.c (cM xs), .c (cM ys)] [.c (cL (val xs - val ys))] := by
  refine Ok.of (by kernel_rfl) Tryz.func123 rfl rfl ?_
  rw [show Tryz.f123.ntmps = 45 from rfl, show Tryz.f123.results.toList = [.tmp 4] from rfl]
  refine dw_seq ?_
  -- region 0
  refine dw_region (by kernel_rfl) ?_
  refine dl_r (sem_assign rfl rfl) ?_
  refine dl_end ?_
  refine dw_seq ?_
  -- region 1
  refine dw_region (by kernel_rfl) ?_
  refine dl_r (sem_move rfl rfl) ?_
  refine dl_r (sem_len sl24 rfl rfl) ?_
  refine dl_mk (sem_make (n := xs.length) el24 rfl rfl (by (first | omega | (simp; omega))) (by (first | omega | (simp; omega))) rfl) rfl ?_
  refine dl_r (sem_assign rfl rfl) ?_
  refine dl_end ?_
  refine dw_seq ?_
  -- region 2
  refine dw_region (by kernel_rfl) ?_
  refine dl_r (sem_assign rfl rfl) ?_
  refine dl_end ?_
  refine dw_seq ?_
  refine dw_seq ?_
  -- region 3
  refine dw_region (by kernel_rfl) ?_
  refine dl_r (sem_assign rfl rfl) ?_
  refine dl_end ?_
  refine dw_block ?_
  refine dw_loop (ι := {t : Nat × Int × List Int // SInv xs ys t.1 t.2.1 t.2.2}) (fun i => ⟨45, [(0, .v (.c (cM xs))), (1, .v (.c (cM ys))), (5, .o 11 xs.length xs.length), (6, .v (.c (.i .u32 i.1.2.1))), (7, .v (.c (.i .i64 (i.1.1 : Int))))], [(11, 119, (i.1.2.2 ++ List.replicate (xs.length - i.1.1) 0).map (CellD.i .u32))]⟩) (fun i => xs.length - i.1.1) ⟨(0, 0, []), ⟨Nat.zero_le _, Int.le_refl 0, by decide, Lim.nil, rfl, by simp [val]⟩⟩ (sub_of ⟨rfl, rfl, rfl, rfl, rfl, trivial⟩ ⟨by rw [show (List.replicate xs.length (CellD.i .u32 0)) = (([] : List Int) ++ List.replicate (xs.length - 0) 0).map (CellD.i .u32) from by simp]; rfl, trivial⟩ rfl) ?_
  rintro ⟨⟨k, c, zs⟩, hI⟩
  replace hI : SInv xs ys k c zs := hI
  have g1 := lim_getD hLxs k
  have g2 := lim_getD hLys k
  have g3 := hI.c0
  have g4 := hI.c1
  have g5 := hI.le
  have g6 := hI.len
  show Dw _ _ ⟨45, [(0, .v (.c (cM xs))), (1, .v (.c (cM ys))), (5, .o 11 xs.length xs.length), (6, .v (.c (.i .u32 c))), (7, .v (.c (.i .i64 (k : Int))))], [(11, 119, (zs ++ List.replicate (xs.length - k) 0).map (CellD.i .u32))]⟩ _
  refine dw_seq ?_
  refine dw_seq ?_
  -- region 4
  refine dw_region (by kernel_rfl) ?_
  refine dl_r (sem_move rfl rfl) ?_
  refine dl_r (sem_move rfl rfl) ?_
  refine dl_r (sem_len sl24 rfl rfl) ?_
  refine dl_r (sem_cmp rfl rfl rfl rfl) ?_
  refine dl_end ?_
  refine dw_cond rfl (fun hc1 => ?_) (fun hc1 => ?_)
  · have hk : k < xs.length := by simp only [decide_eq_true_eq] at hc1; omega
    refine dw_skip ?_
    refine dw_seq ?_
    refine dw_block ?_
    refine dw_seq ?_
    -- region 6
    refine dw_region (by kernel_rfl) ?_
    refine dl_r (sem_move rfl rfl) ?_
    refine dl_r (sem_move rfl rfl) ?_
    refine dl_r (sem_index sl24 rfl rfl (by (first | omega | (simp; omega))) (M_len _) rfl rfl) ?_
    refine dl_r (sem_loadq1 ty119 rfl (M_get (i := k) (by (first | omega | (simp; omega)))) rfl) ?_
    refine dl_r (sem_ari (r := (xs.getD k 0) + 1000000000) rfl rfl (ari_u32_add (by (first | omega | (simp; omega))) (by (first | omega | (simp; omega)))) rfl) ?_
    refine dl_r (sem_move rfl rfl) ?_
    refine dl_r (sem_ari (r := ((xs.getD k 0) + 1000000000) - c) rfl rfl (ari_u32_sub (by (first | omega | (simp; omega))) (by (first | omega | (simp; omega)))) rfl) ?_
    refine dl_r (sem_assign rfl rfl) ?_
    refine dl_end ?_
    refine dw_seq ?_
    refine dw_seq ?_
    -- region 7
    refine dw_region (by kernel_rfl) ?_
    refine dl_r (sem_move rfl rfl) ?_
    refine dl_r (sem_move rfl rfl) ?_
    refine dl_r (sem_len sl24 rfl rfl) ?_
    refine dl_r (sem_cmp rfl rfl rfl rfl) ?_
    refine dl_end ?_
    refine dw_cond rfl (fun hc2 => ?_) (fun hc2 => ?_)
    · have hkq : k < ys.length := by simp only [decide_eq_true_eq] at hc2; omega
      -- region 8
      refine dw_region (by kernel_rfl) ?_
      refine dl_r (sem_move rfl rfl) ?_
      refine dl_r (sem_move rfl rfl) ?_
      refine dl_r (sem_move rfl rfl) ?_
      refine dl_r (sem_index sl24 rfl rfl (by (first | omega | (simp; omega))) (M_len _) rfl rfl) ?_
      refine dl_r (sem_loadq1 ty119 rfl (M_get (i := k) (by (first | omega | (simp; omega)))) rfl) ?_
      refine dl_r (sem_ari (r := (((xs.getD k 0) + 1000000000) - c) - (ys.getD k 0)) rfl rfl (ari_u32_sub (by (first | omega | (simp; omega))) (by (first | omega | (simp; omega)))) rfl) ?_
      refine dl_r (sem_assign rfl rfl) ?_
      refine dl_end ?_
      refine dw_seq ?_
      -- region 9
      refine dw_region (by kernel_rfl) ?_
      refine dl_r (sem_assign rfl rfl) ?_
      refine dl_end ?_
      refine dw_seq ?_
      refine dw_seq ?_
      -- region 10
      refine dw_region (by kernel_rfl) ?_
      refine dl_r (sem_move rfl rfl) ?_
      refine dl_r (sem_cmp rfl rfl rfl rfl) ?_
      refine dl_end ?_
      refine dw_cond rfl (fun hc3 => ?_) (fun hc3 => ?_)
      · simp only [decide_eq_true_eq] at hc3
        have hd1 : 0 ≤ xs.getD k 0 + 1000000000 - c - ys.getD k 0 - 1000000000 := by omega
        have hd2 : xs.getD k 0 + 1000000000 - c - ys.getD k 0 - 1000000000 < 1000000000 := by omega
        have hd3 : (0 : Int) ≤ 0 := by omega
        have hd4 : (0 : Int) ≤ 1 := by omega
        have hdS : xs.getD k 0 + 1000000000 - c - ys.getD k 0 - 1000000000 - 1000000000 * 0 = xs.getD k 0 - c - ys.getD k 0 := by omega
        -- region 11
        refine dw_region (by kernel_rfl) ?_
        refine dl_r (sem_move rfl rfl) ?_
        refine dl_r (sem_ari (r := ((((xs.getD k 0) + 1000000000) - c) - (ys.getD k 0)) - 1000000000) rfl rfl (ari_u32_sub (by (first | omega | (simp; omega))) (by (first | omega | (simp; omega)))) rfl) ?_
        refine dl_r (sem_assign rfl rfl) ?_
        refine dl_r (sem_assign rfl rfl) ?_
        refine dl_end ?_
        -- region 12
        refine dw_region (by kernel_rfl) ?_
        refine dl_r (sem_move rfl rfl) ?_
        refine dl_r (sem_move rfl rfl) ?_
        refine dl_r (sem_move rfl rfl) ?_
        refine dl_r (sem_index_o sl24 rfl rfl (by (first | omega | (simp; omega))) rfl) ?_
        refine dl_st (sem_store (us := ((zs ++ List.replicate (xs.length - k) 0).set k (((((xs.getD k 0) + 1000000000) - c) - (ys.getD k 0)) - 1000000000)).map (CellD.i .u32)) ty119 rfl rfl rfl rfl (by simp; omega) (O_set (by (first | omega | (simp; omega)))) rfl) ?_
        refine dl_end ?_
        -- region 5
        refine dw_region (by kernel_rfl) ?_
        refine dl_r (sem_move rfl rfl) ?_
        refine dl_r (sem_ari (r := (k : Int) + 1) rfl rfl (ari_i64_add (by (first | omega | (simp; omega))) (by (first | omega | (simp; omega)))) rfl) ?_
        refine dl_r (sem_assign rfl rfl) ?_
        refine dl_end ?_
        exact ⟨⟨(k + 1, 0, zs ++ [xs.getD k 0 + 1000000000 - c - ys.getD k 0 - 1000000000]), hI.step hk hd1 hd2 hd3 hd4 hdS⟩, sub_of ⟨rfl, rfl, rfl, rfl, by rw [show ((k + 1 : Nat) : Int) = (k : Int) + 1 from by omega]; rfl, trivial⟩ ⟨by rw [show xs.length - (k + 1) = xs.length - k - 1 from by omega, ← set_end (m := xs.length - k - 1) (d := xs.getD k 0 + 1000000000 - c - ys.getD k 0 - 1000000000) g6, show xs.length - k - 1 + 1 = xs.length - k from by omega]; rfl, trivial⟩ rfl, by show xs.length - (k + 1) < xs.length - k; omega⟩
      · simp only [decide_eq_false_iff_not] at hc3
        have hd1 : 0 ≤ xs.getD k 0 + 1000000000 - c - ys.getD k 0 := by omega
        have hd2 : xs.getD k 0 + 1000000000 - c - ys.getD k 0 < 1000000000 := by omega
        have hd3 : (0 : Int) ≤ 1 := by omega
        have hd4 : (1 : Int) ≤ 1 := by omega
        have hdS : xs.getD k 0 + 1000000000 - c - ys.getD k 0 - 1000000000 * 1 = xs.getD k 0 - c - ys.getD k 0 := by omega
        refine dw_skip ?_
        -- region 12
        refine dw_region (by kernel_rfl) ?_
        refine dl_r (sem_move rfl rfl) ?_
        refine dl_r (sem_move rfl rfl) ?_
        refine dl_r (sem_move rfl rfl) ?_
        refine dl_r (sem_index_o sl24 rfl rfl (by (first | omega | (simp; omega))) rfl) ?_
        refine dl_st (sem_store (us := ((zs ++ List.replicate (xs.length - k) 0).set k ((((xs.getD k 0) + 1000000000) - c) - (ys.getD k 0))).map (CellD.i .u32)) ty119 rfl rfl rfl rfl (by simp; omega) (O_set (by (first | omega | (simp; omega)))) rfl) ?_
        refine dl_end ?_
        -- region 5
        refine dw_region (by kernel_rfl) ?_
        refine dl_r (sem_move rfl rfl) ?_
        refine dl_r (sem_ari (r := (k : Int) + 1) rfl rfl (ari_i64_add (by (first | omega | (simp; omega))) (by (first | omega | (simp; omega)))) rfl) ?_
        refine dl_r (sem_assign rfl rfl) ?_
        refine dl_end ?_
        exact ⟨⟨(k + 1, 1, zs ++ [xs.getD k 0 + 1000000000 - c - ys.getD k 0]), hI.step hk hd1 hd2 hd3 hd4 hdS⟩, sub_of ⟨rfl, rfl, rfl, rfl, by rw [show ((k + 1 : Nat) : Int) = (k : Int) + 1 from by omega]; rfl, trivial⟩ ⟨by rw [show xs.length - (k + 1) = xs.length - k - 1 from by omega, ← set_end (m := xs.length - k - 1) (d := xs.getD k 0 + 1000000000 - c - ys.getD k 0) g6, show xs.length - k - 1 + 1 = xs.length - k from by omega]; rfl, trivial⟩ rfl, by show xs.length - (k + 1) < xs.length - k; omega⟩
    · have hkq : ¬ k < ys.length := by simp only [decide_eq_false_iff_not] at hc2; omega
      have hq0 : ys.getD k 0 = 0 := by rw [List.getD, List.getElem?_eq_none (by omega)]; rfl
      refine dw_skip ?_
      refine dw_seq ?_
      -- region 9
      refine dw_region (by kernel_rfl) ?_
      refine dl_r (sem_assign rfl rfl) ?_
      refine dl_end ?_
      refine dw_seq ?_
      refine dw_seq ?_
      -- region 10
      refine dw_region (by kernel_rfl) ?_
      refine dl_r (sem_move rfl rfl) ?_
      refine dl_r (sem_cmp rfl rfl rfl rfl) ?_
      refine dl_end ?_
      refine dw_cond rfl (fun hc4 => ?_) (fun hc4 => ?_)
      · simp only [decide_eq_true_eq] at hc4
        have hd1 : 0 ≤ xs.getD k 0 + 1000000000 - c - 1000000000 := by omega
        have hd2 : xs.getD k 0 + 1000000000 - c - 1000000000 < 1000000000 := by omega
        have hd3 : (0 : Int) ≤ 0 := by omega
        have hd4 : (0 : Int) ≤ 1 := by omega
        have hdS : xs.getD k 0 + 1000000000 - c - 1000000000 - 1000000000 * 0 = xs.getD k 0 - c - ys.getD k 0 := by omega
        -- region 11
        refine dw_region (by kernel_rfl) ?_
        refine dl_r (sem_move rfl rfl) ?_
        refine dl_r (sem_ari (r := (((xs.getD k 0) + 1000000000) - c) - 1000000000) rfl rfl (ari_u32_sub (by (first | omega | (simp; omega))) (by (first | omega | (simp; omega)))) rfl) ?_
        refine dl_r (sem_assign rfl rfl) ?_
        refine dl_r (sem_assign rfl rfl) ?_
        refine dl_end ?_
        -- region 12
        refine dw_region (by kernel_rfl) ?_
        refine dl_r (sem_move rfl rfl) ?_
        refine dl_r (sem_move rfl rfl) ?_
        refine dl_r (sem_move rfl rfl) ?_
        refine dl_r (sem_index_o sl24 rfl rfl (by (first | omega | (simp; omega))) rfl) ?_
        refine dl_st (sem_store (us := ((zs ++ List.replicate (xs.length - k) 0).set k ((((xs.getD k 0) + 1000000000) - c) - 1000000000)).map (CellD.i .u32)) ty119 rfl rfl rfl rfl (by simp; omega) (O_set (by (first | omega | (simp; omega)))) rfl) ?_
        refine dl_end ?_
        -- region 5
        refine dw_region (by kernel_rfl) ?_
        refine dl_r (sem_move rfl rfl) ?_
        refine dl_r (sem_ari (r := (k : Int) + 1) rfl rfl (ari_i64_add (by (first | omega | (simp; omega))) (by (first | omega | (simp; omega)))) rfl) ?_
        refine dl_r (sem_assign rfl rfl) ?_
        refine dl_end ?_
        exact ⟨⟨(k + 1, 0, zs ++ [xs.getD k 0 + 1000000000 - c - 1000000000]), hI.step hk hd1 hd2 hd3 hd4 hdS⟩, sub_of ⟨rfl, rfl, rfl, rfl, by rw [show ((k + 1 : Nat) : Int) = (k : Int) + 1 from by omega]; rfl, trivial⟩ ⟨by rw [show xs.length - (k + 1) = xs.length - k - 1 from by omega, ← set_end (m := xs.length - k - 1) (d := xs.getD k 0 + 1000000000 - c - 1000000000) g6, show xs.length - k - 1 + 1 = xs.length - k from by omega]; rfl, trivial⟩ rfl, by show xs.length - (k + 1) < xs.length - k; omega⟩
      · simp only [decide_eq_false_iff_not] at hc4
        have hd1 : 0 ≤ xs.getD k 0 + 1000000000 - c := by omega
        have hd2 : xs.getD k 0 + 1000000000 - c < 1000000000 := by omega
        have hd3 : (0 : Int) ≤ 1 := by omega
        have hd4 : (1 : Int) ≤ 1 := by omega
        have hdS : xs.getD k 0 + 1000000000 - c - 1000000000 * 1 = xs.getD k 0 - c - ys.getD k 0 := by omega
        refine dw_skip ?_
        -- region 12
        refine dw_region (by kernel_rfl) ?_
        refine dl_r (sem_move rfl rfl) ?_
        refine dl_r (sem_move rfl rfl) ?_
        refine dl_r (sem_move rfl rfl) ?_
        refine dl_r (sem_index_o sl24 rfl rfl (by (first | omega | (simp; omega))) rfl) ?_
        refine dl_st (sem_store (us := ((zs ++ List.replicate (xs.length - k) 0).set k (((xs.getD k 0) + 1000000000) - c)).map (CellD.i .u32)) ty119 rfl rfl rfl rfl (by simp; omega) (O_set (by (first | omega | (simp; omega)))) rfl) ?_
        refine dl_end ?_
        -- region 5
        refine dw_region (by kernel_rfl) ?_
        refine dl_r (sem_move rfl rfl) ?_
        refine dl_r (sem_ari (r := (k : Int) + 1) rfl rfl (ari_i64_add (by (first | omega | (simp; omega))) (by (first | omega | (simp; omega)))) rfl) ?_
        refine dl_r (sem_assign rfl rfl) ?_
        refine dl_end ?_
        exact ⟨⟨(k + 1, 1, zs ++ [xs.getD k 0 + 1000000000 - c]), hI.step hk hd1 hd2 hd3 hd4 hdS⟩, sub_of ⟨rfl, rfl, rfl, rfl, by rw [show ((k + 1 : Nat) : Int) = (k : Int) + 1 from by omega]; rfl, trivial⟩ ⟨by rw [show xs.length - (k + 1) = xs.length - k - 1 from by omega, ← set_end (m := xs.length - k - 1) (d := xs.getD k 0 + 1000000000 - c) g6, show xs.length - k - 1 + 1 = xs.length - k from by omega]; rfl, trivial⟩ rfl, by show xs.length - (k + 1) < xs.length - k; omega⟩
  · have hk : k = xs.length := by simp only [decide_eq_false_iff_not] at hc1; omega
    have hfin : val xs - val ys = val (zs ++ List.replicate (xs.length - k) 0) := by rw [show xs.length - k = 0 from by omega]; simp only [List.replicate_zero, List.append_nil]; rw [hI.done hk hlen hle]
    have hLf : Lim (zs ++ List.replicate (xs.length - k) 0) := hI.L.append (Lim.zeros _)
    refine dw_exit ?_
    refine dw_seq ?_
    -- region 13
    refine dw_relM (t := 5) (zs := zs ++ List.replicate (xs.length - k) 0) (ys := zs ++ List.replicate (xs.length - k) 0) rfl rfl (by first | omega | (simp; omega) | simp) (by omega) (by omega) (List.take_of_length_le (by first | omega | (simp; omega) | simp)) ?_
    refine dw_region (by kernel_rfl) ?_
    refine dl_r (sem_move rfl rfl) ?_
    refine dl_r (sem_call rfl rfl (rTrim_ok hLf (by simp; omega)) rfl) ?_
    refine dl_r (sem_assign rfl rfl) ?_
    refine dl_end ?_
    refine dw_ret ?_
    -- path F
    rw [hfin]
    exact ⟨.inr rfl, (resL_tmp rfl resL_nil)⟩
end Go.Proofs.YtcimbhjmjlfloaaGreat
/- Package swarfref01: times, by, compare, short, signed. -/
namespace Go.Proofs.YtcimbhjmjlfloaaGreat
open Go Go.RowKit
theorem rTimes_ok {xs ys : List Int} (hLxs : Lim xs) (hLys : Lim ys) (hn : xs.length ≤ 1000000) (hm : ys.length ≤ 1000000) : Ok Tryz.prog 114 [.c (cM xs), .c (cM ys)] [.c (cL (val xs * val ys))] := by
  refine Ok.of (by kernel_rfl) Tryz.func114 rfl rfl ?_
  rw [show Tryz.f114.ntmps = 68 from rfl, show Tryz.f114.results.toList = [.tmp 4] from rfl]
  refine dw_seq ?_
  -- region 0
  refine dw_region (by kernel_rfl) ?_
  refine dl_r (sem_assign rfl rfl) ?_
  refine dl_end ?_
  refine dw_seq ?_
  -- region 1
  refine dw_region (by kernel_rfl) ?_
  refine dl_r (sem_move rfl rfl) ?_
  refine dl_r (sem_len sl24 rfl rfl) ?_
  refine dl_r (sem_move rfl rfl) ?_
  refine dl_r (sem_len sl24 rfl rfl) ?_
  refine dl_r (sem_ari (r := (xs.length : Int) + (ys.length : Int)) rfl rfl (ari_i64_add (by (first | omega | (simp; omega))) (by (first | omega | (simp; omega)))) rfl) ?_
  refine dl_mk (sem_make (n := xs.length + ys.length) el24 rfl rfl (by (first | omega | (simp; omega))) (by (first | omega | (simp; omega))) rfl) rfl ?_
  refine dl_r (sem_assign rfl rfl) ?_
  refine dl_end ?_
  refine dw_seq ?_
  refine dw_seq ?_
  -- region 2
  refine dw_region (by kernel_rfl) ?_
  refine dl_r (sem_assign rfl rfl) ?_
  refine dl_end ?_
  refine dw_block ?_
  refine dw_loop (ι := {t : Nat × List Int // TInv xs ys t.1 0 0 t.2}) (fun i => ⟨68, [(0, .v (.c (cM xs))), (1, .v (.c (cM ys))), (5, .o 14 (xs.length + ys.length) (xs.length + ys.length)), (6, .v (.c (.i .i64 (i.1.1 : Int))))], [(14, 119, i.1.2.map (CellD.i .u32))]⟩) (fun i => xs.length - i.1.1) ⟨(0, List.replicate (xs.length + ys.length) 0), TInv.start⟩ (sub_of ⟨rfl, rfl, rfl, rfl, trivial⟩ ⟨by rw [show (List.replicate (xs.length + ys.length) (CellD.i .u32 0)) = (List.replicate (xs.length + ys.length) 0).map (CellD.i .u32) from by simp]; rfl, trivial⟩ rfl) ?_
  rintro ⟨⟨j, zs⟩, hI⟩
  replace hI : TInv xs ys j 0 0 zs := hI
  have g5 := hI.ik
  have g6 := hI.len
  show Dw _ _ ⟨68, [(0, .v (.c (cM xs))), (1, .v (.c (cM ys))), (5, .o 14 (xs.length + ys.length) (xs.length + ys.length)), (6, .v (.c (.i .i64 (j : Int))))], [(14, 119, zs.map (CellD.i .u32))]⟩ _
  refine dw_seq ?_
  refine dw_seq ?_
  -- region 3
  refine dw_region (by kernel_rfl) ?_
  refine dl_r (sem_move rfl rfl) ?_
  refine dl_r (sem_move rfl rfl) ?_
  refine dl_r (sem_len sl24 rfl rfl) ?_
  refine dl_r (sem_cmp rfl rfl rfl rfl) ?_
  refine dl_end ?_
  refine dw_cond rfl (fun hc1 => ?_) (fun hc1 => ?_)
  · have hj : j < xs.length := by simp only [decide_eq_true_eq] at hc1; omega
    refine dw_skip ?_
    refine dw_seq ?_
    refine dw_block ?_
    refine dw_seq ?_
    -- region 5
    refine dw_region (by kernel_rfl) ?_
    refine dl_r (sem_assign rfl rfl) ?_
    refine dl_end ?_
    refine dw_seq ?_
    refine dw_seq ?_
    -- region 6
    refine dw_region (by kernel_rfl) ?_
    refine dl_r (sem_assign rfl rfl) ?_
    refine dl_end ?_
    refine dw_block ?_
    refine dw_loop (ι := {t : Nat × Int × List Int // TInv xs ys j t.1 t.2.1 t.2.2}) (fun i => ⟨68, [(0, .v (.c (cM xs))), (1, .v (.c (cM ys))), (5, .o 14 (xs.length + ys.length) (xs.length + ys.length)), (6, .v (.c (.i .i64 (j : Int)))), (7, .v (.c (.i .u64 i.1.2.1))), (8, .v (.c (.i .i64 (i.1.1 : Int))))], [(14, 119, i.1.2.2.map (CellD.i .u32))]⟩) (fun i => ys.length - i.1.1) ⟨(0, 0, zs), hI⟩ (sub_of ⟨rfl, rfl, rfl, rfl, rfl, rfl, trivial⟩ ⟨rfl, trivial⟩ rfl) ?_
    clear hI g6
    rintro ⟨⟨k, c, zs⟩, hI⟩
    replace hI : TInv xs ys j k c zs := hI
    have g1 := lim_getD hLxs j
    have g2 := lim_getD hLys k
    have g8 := lim_getD hI.L (j + k)
    have g3 := hI.c0
    have g4 := hI.c1
    have g5 := hI.ik
    have g7 := hI.kk
    have g6 := hI.len
    show Dw _ _ ⟨68, [(0, .v (.c (cM xs))), (1, .v (.c (cM ys))), (5, .o 14 (xs.length + ys.length) (xs.length + ys.length)), (6, .v (.c (.i .i64 (j : Int)))), (7, .v (.c (.i .u64 c))), (8, .v (.c (.i .i64 (k : Int))))], [(14, 119, zs.map (CellD.i .u32))]⟩ _
    refine dw_seq ?_
    refine dw_seq ?_
    -- region 7
    refine dw_region (by kernel_rfl) ?_
    refine dl_r (sem_move rfl rfl) ?_
    refine dl_r (sem_move rfl rfl) ?_
    refine dl_r (sem_len sl24 rfl rfl) ?_
    refine dl_r (sem_cmp rfl rfl rfl rfl) ?_
    refine dl_end ?_
    refine dw_cond rfl (fun hc2 => ?_) (fun hc2 => ?_)
    · have hk : k < ys.length := by simp only [decide_eq_true_eq] at hc2; omega
      have hm0 : 0 ≤ xs.getD j 0 * ys.getD k 0 := Int.mul_nonneg g1.1 g2.1
      have hm1 : xs.getD j 0 * ys.getD k 0 ≤ 999999999 * 999999999 := Int.mul_le_mul (by omega) (by omega) g2.1 (by omega)
      refine dw_skip ?_
      refine dw_seq ?_
      refine dw_block ?_
      refine dw_seq ?_
      -- region 9
      refine dw_draw 22 [] follows_mixed (by kernel_rfl) rfl rfl ?_
      refine dq_r (sem_move rfl rfl) ?_
      refine dq_r (sem_move rfl rfl) ?_
      refine dq_r (sem_move rfl rfl) ?_
      refine dq_r (sem_move rfl rfl) ?_
      refine dq_r (sem_ari (r := (j : Int) + (k : Int)) rfl rfl (ari_i64_add (by omega) (by omega)) rfl) ?_
      refine dq_r (sem_index_o sl24 rfl rfl (by (first | omega | (simp; omega))) rfl) ?_
      refine dq_r (sem_load1 ty119 rfl rfl (O_get (i := j + k) (by (first | omega | (simp; omega)))) rfl) ?_
      refine dq_r (sem_conv' (r := zs.getD (j + k) 0) und119 und90 rfl (nwu64 (by (first | omega | (simp; omega))) (by (first | omega | (simp; omega)))) rfl) ?_
      refine dq_r (sem_ari (r := c + (zs.getD (j + k) 0)) rfl rfl (ari_u64_add (by (first | omega | (simp; omega))) (by (first | omega | (simp; omega)))) rfl) ?_
      refine dq_r (sem_move rfl rfl) ?_
      refine dq_r (sem_move rfl rfl) ?_
      refine dq_r (sem_index sl24 rfl rfl (by (first | omega | (simp; omega))) (M_len _) rfl rfl) ?_
      refine dq_r (sem_loadq1 ty119 rfl (M_get (i := j) (by (first | omega | (simp; omega)))) rfl) ?_
      refine dq_r (sem_conv' (r := xs.getD j 0) und119 und90 rfl (nwu64 (by (first | omega | (simp; omega))) (by (first | omega | (simp; omega)))) rfl) ?_
      refine dq_r (sem_move rfl rfl) ?_
      refine dq_r (sem_move rfl rfl) ?_
      refine dq_r (sem_index sl24 rfl rfl (by (first | omega | (simp; omega))) (M_len _) rfl rfl) ?_
      refine dq_r (sem_loadq1 ty119 rfl (M_get (i := k) (by (first | omega | (simp; omega)))) rfl) ?_
      refine dq_r (sem_conv' (r := ys.getD k 0) und119 und90 rfl (nwu64 (by (first | omega | (simp; omega))) (by (first | omega | (simp; omega)))) rfl) ?_
      refine dq_r (sem_ari (r := (xs.getD j 0) * (ys.getD k 0)) rfl rfl (ari_u64_mul (by (first | omega | (simp; omega))) (by (first | omega | (simp; omega)))) rfl) ?_
      refine dq_r (sem_ari (r := (c + (zs.getD (j + k) 0)) + ((xs.getD j 0) * (ys.getD k 0))) rfl rfl (ari_u64_add (by (first | omega | (simp; omega))) (by (first | omega | (simp; omega)))) rfl) ?_
      refine dq_r (sem_assign rfl rfl) ?_
      refine dq_end ?_
      refine dl_start0 ?_
      refine dl_end ?_
      refine dw_seq ?_
      -- region 10
      refine dw_region (by kernel_rfl) ?_
      refine dl_r (sem_move rfl rfl) ?_
      refine dl_r (sem_move rfl rfl) ?_
      refine dl_r (sem_move rfl rfl) ?_
      refine dl_r (sem_ari (r := (j : Int) + (k : Int)) rfl rfl (ari_i64_add (by omega) (by omega)) rfl) ?_
      refine dl_r (sem_move rfl rfl) ?_
      refine dl_r (sem_rem' (r := (c + zs.getD (j + k) 0 + xs.getD j 0 * ys.getD k 0) % 1000000000) rfl rfl (by omega) (Int.tmod_eq_emod_of_nonneg (by omega)) rfl) ?_
      refine dl_r (sem_conv' (r := (c + zs.getD (j + k) 0 + xs.getD j 0 * ys.getD k 0) % 1000000000) und90 und119 rfl (nwu32 (by omega) (by omega)) rfl) ?_
      refine dl_r (sem_index_o sl24 rfl rfl (by (first | omega | (simp; omega))) rfl) ?_
      refine dl_st (sem_store (us := (zs.set (j + k) ((c + zs.getD (j + k) 0 + xs.getD j 0 * ys.getD k 0) % 1000000000)).map (CellD.i .u32)) ty119 rfl rfl rfl rfl (by simp; omega) (O_set (by (first | omega | (simp; omega)))) rfl) ?_
      refine dl_end ?_
      -- region 11
      refine dw_region (by kernel_rfl) ?_
      refine dl_r (sem_move rfl rfl) ?_
      refine dl_r (sem_quo' (r := (c + zs.getD (j + k) 0 + xs.getD j 0 * ys.getD k 0) / 1000000000) rfl rfl (by omega) (by rw [Int.tdiv_eq_ediv_of_nonneg (by omega)]; exact nwu64 (by omega) (by omega)) rfl) ?_
      refine dl_r (sem_assign rfl rfl) ?_
      refine dl_end ?_
      -- region 8
      refine dw_region (by kernel_rfl) ?_
      refine dl_r (sem_move rfl rfl) ?_
      refine dl_r (sem_ari (r := (k : Int) + 1) rfl rfl (ari_i64_add (by (first | omega | (simp; omega))) (by (first | omega | (simp; omega)))) rfl) ?_
      refine dl_r (sem_assign rfl rfl) ?_
      refine dl_end ?_
      exact ⟨⟨(k + 1, (c + zs.getD (j + k) 0 + xs.getD j 0 * ys.getD k 0) / 1000000000, zs.set (j + k) ((c + zs.getD (j + k) 0 + xs.getD j 0 * ys.getD k 0) % 1000000000)), hI.step hLxs hLys hj hk rfl⟩, sub_of ⟨rfl, rfl, rfl, rfl, rfl, by rw [show ((k + 1 : Nat) : Int) = (k : Int) + 1 from by omega]; rfl, trivial⟩ ⟨rfl, trivial⟩ rfl, by show ys.length - (k + 1) < ys.length - k; omega⟩
    · have hk : k = ys.length := by simp only [decide_eq_false_iff_not] at hc2; omega
      refine dw_exit ?_
      -- region 12
      refine dw_region (by kernel_rfl) ?_
      refine dl_r (sem_move rfl rfl) ?_
      refine dl_r (sem_move rfl rfl) ?_
      refine dl_r (sem_move rfl rfl) ?_
      refine dl_r (sem_len sl24 rfl rfl) ?_
      refine dl_r (sem_ari (r := (j : Int) + (ys.length : Int)) rfl rfl (ari_i64_add (by (first | omega | (simp; omega))) (by (first | omega | (simp; omega)))) rfl) ?_
      refine dl_r (sem_move rfl rfl) ?_
      refine dl_r (sem_conv' (r := c) und90 und119 rfl (nwu32 (by omega) (by omega)) rfl) ?_
      refine dl_r (sem_index_o sl24 rfl rfl (by (first | omega | (simp; omega))) rfl) ?_
      refine dl_st (sem_store (us := (zs.set (j + ys.length) c).map (CellD.i .u32)) ty119 rfl rfl rfl rfl (by simp; omega) (O_set (by (first | omega | (simp; omega)))) rfl) ?_
      refine dl_end ?_
      -- region 4
      refine dw_region (by kernel_rfl) ?_
      refine dl_r (sem_move rfl rfl) ?_
      refine dl_r (sem_ari (r := (j : Int) + 1) rfl rfl (ari_i64_add (by (first | omega | (simp; omega))) (by (first | omega | (simp; omega)))) rfl) ?_
      refine dl_r (sem_assign rfl rfl) ?_
      refine dl_end ?_
      exact ⟨⟨(j + 1, zs.set (j + ys.length) c), hI.row hj hk⟩, sub_of ⟨rfl, rfl, rfl, by rw [show ((j + 1 : Nat) : Int) = (j : Int) + 1 from by omega]; rfl, trivial⟩ ⟨rfl, trivial⟩ rfl, by show xs.length - (j + 1) < xs.length - j; omega⟩
  · have hj : j = xs.length := by simp only [decide_eq_false_iff_not] at hc1; omega
    have hfin : val xs * val ys = val zs := (hI.done hj).symm
    have hLf : Lim zs := hI.L
    refine dw_exit ?_
    refine dw_seq ?_
    -- region 13
    refine dw_relM (t := 5) (zs := zs) (ys := zs) rfl rfl (by first | omega | (simp; omega) | simp) (by omega) (by omega) (List.take_of_length_le (by first | omega | (simp; omega) | simp)) ?_
    refine dw_region (by kernel_rfl) ?_
    refine dl_r (sem_move rfl rfl) ?_
    refine dl_r (sem_call rfl rfl (rTrim_ok hLf (by omega)) rfl) ?_
    refine dl_r (sem_assign rfl rfl) ?_
    refine dl_end ?_
    refine dw_ret ?_
    -- path F
    rw [hfin]
    exact ⟨.inr rfl, (resL_tmp rfl resL_nil)⟩
theorem rBy_ok {xs : List Int} {m : Int} (hLxs : Lim xs) (hn : xs.length ≤ 1000000) (h0 : 0 ≤ m) (h1 : m < 1000000000) : Ok Tryz.prog 122 [.c (cM xs), .c (.i .u32 m)] [.c (cL (val xs * m))] := by
  have hv1 : val [m] = m := by simp [val]
  refine Ok.of (by kernel_rfl) Tryz.func122 rfl rfl ?_
  rw [show Tryz.f122.ntmps = 10 from rfl, show Tryz.f122.results.toList = [.tmp 4] from rfl]
  refine dw_seq ?_
  -- region 0
  refine dw_region (by kernel_rfl) ?_
  refine dl_r (sem_assign rfl rfl) ?_
  refine dl_end ?_
  refine dw_seq ?_
  -- region 1
  refine dw_region (by kernel_rfl) ?_
  refine dl_r (sem_move rfl rfl) ?_
  refine dl_r (sem_move rfl rfl) ?_
  refine dl_r (sem_slit_M el24 rfl rfl) ?_
  refine dl_r (sem_call rfl rfl (rTrim_ok (Lim.nil.cons h0 h1) (Nat.le_of_ble_eq_true rfl)) rfl) ?_
  refine dl_r (sem_call rfl rfl (rTimes_ok hLxs (lim_lim _) hn (lim_len (x := val [m]) (k := 1000000) (by rw [hv1]; exact Sz.small (by omega) (by omega) (by omega)))) rfl) ?_
  refine dl_r (sem_assign rfl rfl) ?_
  refine dl_end ?_
  refine dw_ret ?_
  -- path 
  rw [show val xs * m = val xs * val (lim (val [m]).natAbs) from by rw [val_lim, show (((val [m]).natAbs : Nat) : Int) = m from by simp [val]; omega]]
  exact ⟨.inr rfl, (resL_tmp rfl resL_nil)⟩
theorem rCompare_ok {xs ys : List Int} (hLxs : Lim xs) (hLys : Lim ys) (nX : Nrm xs) (nY : Nrm ys) (hn : xs.length ≤ 1000000) (_hm : ys.length ≤ 1000000) : Ok Tryz.prog 74 [.c (cM xs), .c (cM ys)] [.c (.i .i64 (cmpI (val xs) (val ys)))] := by
  refine Ok.of (by kernel_rfl) Tryz.func74 rfl rfl ?_
  rw [show Tryz.f74.ntmps = 41 from rfl, show Tryz.f74.results.toList = [.tmp 4] from rfl]
  refine dw_seq ?_
  -- region 0
  refine dw_region (by kernel_rfl) ?_
  refine dl_r (sem_assign rfl rfl) ?_
  refine dl_end ?_
  refine dw_seq ?_
  refine dw_seq ?_
  -- region 1
  refine dw_region (by kernel_rfl) ?_
  refine dl_r (sem_move rfl rfl) ?_
  refine dl_r (sem_len sl24 rfl rfl) ?_
  refine dl_r (sem_move rfl rfl) ?_
  refine dl_r (sem_len sl24 rfl rfl) ?_
  refine dl_r (sem_cmp rfl rfl rfl rfl) ?_
  refine dl_end ?_
  refine dw_cond rfl (fun hc1 => ?_) (fun hc1 => ?_)
  · have hne : xs.length ≠ ys.length := by simp only [bne_iff_ne, ne_eq] at hc1; omega
    refine dw_seq ?_
    refine dw_seq ?_
    -- region 2
    refine dw_region (by kernel_rfl) ?_
    refine dl_r (sem_move rfl rfl) ?_
    refine dl_r (sem_len sl24 rfl rfl) ?_
    refine dl_r (sem_move rfl rfl) ?_
    refine dl_r (sem_len sl24 rfl rfl) ?_
    refine dl_r (sem_cmp rfl rfl rfl rfl) ?_
    refine dl_end ?_
    refine dw_cond rfl (fun hc2 => ?_) (fun hc2 => ?_)
    · have hfin : cmpI (val xs) (val ys) = -1 := cmp_lt (cmp_len nY hLxs hLys (by simp only [decide_eq_true_eq] at hc2; omega))
      refine dw_seq ?_
      -- region 3
      refine dw_region (by kernel_rfl) ?_
      refine dl_r (sem_assign rfl rfl) ?_
      refine dl_end ?_
      refine dw_ret ?_
      -- path TT
      rw [hfin]
      exact ⟨.inr rfl, (resL_tmp rfl resL_nil)⟩
    · have hfin : cmpI (val xs) (val ys) = 1 := cmp_gt (cmp_len nX hLys hLxs (by simp only [decide_eq_false_iff_not] at hc2; omega))
      refine dw_skip ?_
      refine dw_seq ?_
      -- region 4
      refine dw_region (by kernel_rfl) ?_
      refine dl_r (sem_assign rfl rfl) ?_
      refine dl_end ?_
      refine dw_ret ?_
      -- path TF
      rw [hfin]
      exact ⟨.inr rfl, (resL_tmp rfl resL_nil)⟩
  · have heq : xs.length = ys.length := by simp only [bne_eq_false_iff_eq] at hc1; omega
    refine dw_skip ?_
    refine dw_seq ?_
    refine dw_seq ?_
    -- region 5
    refine dw_region (by kernel_rfl) ?_
    refine dl_r (sem_move rfl rfl) ?_
    refine dl_r (sem_len sl24 rfl rfl) ?_
    refine dl_r (sem_ari (r := (xs.length : Int) - 1) rfl rfl (ari_i64_sub (by (first | omega | (simp; omega))) (by (first | omega | (simp; omega)))) rfl) ?_
    refine dl_r (sem_assign rfl rfl) ?_
    refine dl_end ?_
    refine dw_block ?_
    refine dw_loop (ι := {j : Nat // j ≤ xs.length ∧ xs.drop j = ys.drop j}) (fun i => ⟨41, [(0, .v (.c (cM xs))), (1, .v (.c (cM ys))), (5, .v (.c (.i .i64 ((i.1 : Int) - 1))))], []⟩) (fun i => i.1) ⟨xs.length, Nat.le_refl _, by rw [List.drop_eq_nil_of_le (Nat.le_refl _), List.drop_eq_nil_of_le (by omega)]⟩ (sub_of ⟨rfl, rfl, rfl, trivial⟩ trivial rfl) ?_
    rintro ⟨j, hj, hD⟩
    show Dw _ _ ⟨41, [(0, .v (.c (cM xs))), (1, .v (.c (cM ys))), (5, .v (.c (.i .i64 ((j : Int) - 1))))], []⟩ _
    refine dw_seq ?_
    refine dw_seq ?_
    -- region 6
    refine dw_region (by kernel_rfl) ?_
    refine dl_r (sem_move rfl rfl) ?_
    refine dl_r (sem_cmp rfl rfl rfl rfl) ?_
    refine dl_end ?_
    refine dw_cond rfl (fun hc3 => ?_) (fun hc3 => ?_)
    · obtain ⟨q, rfl⟩ : ∃ q, j = q + 1 := ⟨j - 1, by simp only [decide_eq_true_eq] at hc3; omega⟩
      have e1 := getD_some (xs := xs) (i := q) (by omega)
      have e2 := getD_some (xs := ys) (i := q) (by omega)
      refine Dw.weak (σ' := ⟨41, [(0, .v (.c (cM xs))), (1, .v (.c (cM ys))), (5, .v (.c (.i .i64 (q : Int))))], []⟩) (sub_of ⟨rfl, rfl, by rw [show (q : Int) = ((q + 1 : Nat) : Int) - 1 from by omega]; rfl, trivial⟩ trivial rfl) ?_
      refine dw_skip ?_
      refine dw_seq ?_
      refine dw_block ?_
      refine dw_seq ?_
      refine dw_seq ?_
      -- region 8
      refine dw_draw 9 [] follows_mixed (by kernel_rfl) rfl rfl ?_
      refine dq_r (sem_move rfl rfl) ?_
      refine dq_r (sem_move rfl rfl) ?_
      refine dq_r (sem_index sl24 rfl rfl (by (first | omega | (simp; omega))) (M_len _) rfl rfl) ?_
      refine dq_r (sem_loadq1 ty119 rfl (M_get (i := q) (by (first | omega | (simp; omega)))) rfl) ?_
      refine dq_r (sem_move rfl rfl) ?_
      refine dq_r (sem_move rfl rfl) ?_
      refine dq_r (sem_index sl24 rfl rfl (by (first | omega | (simp; omega))) (M_len _) rfl rfl) ?_
      refine dq_r (sem_loadq1 ty119 rfl (M_get (i := q) (by (first | omega | (simp; omega)))) rfl) ?_
      refine dq_r (sem_cmp rfl rfl rfl rfl) ?_
      refine dq_end ?_
      refine dl_start0 ?_
      refine dl_end ?_
      refine dw_cond rfl (fun hc4 => ?_) (fun hc4 => ?_)
      · have hfin : cmpI (val xs) (val ys) = -1 := cmp_lt (cmp_at hLxs hLys e1 e2 hD (by simpa using hc4))
        refine dw_seq ?_
        -- region 9
        refine dw_region (by kernel_rfl) ?_
        refine dl_r (sem_assign rfl rfl) ?_
        refine dl_end ?_
        refine dw_ret ?_
        -- path FTT
        rw [hfin]
        exact ⟨.inr rfl, (resL_tmp rfl resL_nil)⟩
      · have hlt : ¬ xs.getD q 0 < ys.getD q 0 := by simpa using hc4
        refine dw_skip ?_
        refine dw_seq ?_
        -- region 10
        refine dw_draw 9 [] follows_mixed (by kernel_rfl) rfl rfl ?_
        refine dq_r (sem_move rfl rfl) ?_
        refine dq_r (sem_move rfl rfl) ?_
        refine dq_r (sem_index sl24 rfl rfl (by (first | omega | (simp; omega))) (M_len _) rfl rfl) ?_
        refine dq_r (sem_loadq1 ty119 rfl (M_get (i := q) (by (first | omega | (simp; omega)))) rfl) ?_
        refine dq_r (sem_move rfl rfl) ?_
        refine dq_r (sem_move rfl rfl) ?_
        refine dq_r (sem_index sl24 rfl rfl (by (first | omega | (simp; omega))) (M_len _) rfl rfl) ?_
        refine dq_r (sem_loadq1 ty119 rfl (M_get (i := q) (by (first | omega | (simp; omega)))) rfl) ?_
        refine dq_r (sem_cmp rfl rfl rfl rfl) ?_
        refine dq_end ?_
        refine dl_start0 ?_
        refine dl_end ?_
        refine dw_cond rfl (fun hc5 => ?_) (fun hc5 => ?_)
        · have hfin : cmpI (val xs) (val ys) = 1 := cmp_gt (cmp_at hLys hLxs e2 e1 hD.symm (by simpa using hc5))
          refine dw_seq ?_
          -- region 11
          refine dw_region (by kernel_rfl) ?_
          refine dl_r (sem_assign rfl rfl) ?_
          refine dl_end ?_
          refine dw_ret ?_
          -- path FTFT
          rw [hfin]
          exact ⟨.inr rfl, (resL_tmp rfl resL_nil)⟩
        · have hgt : ¬ xs.getD q 0 > ys.getD q 0 := by simpa using hc5
          refine dw_skip ?_
          -- region 7
          refine dw_region (by kernel_rfl) ?_
          refine dl_r (sem_move rfl rfl) ?_
          refine dl_r (sem_ari (r := (q : Int) - 1) rfl rfl (ari_i64_sub (by (first | omega | (simp; omega))) (by (first | omega | (simp; omega)))) rfl) ?_
          refine dl_r (sem_assign rfl rfl) ?_
          refine dl_end ?_
          exact ⟨⟨q, by omega, drop_step (by omega) (by omega) hD (by omega)⟩, sub_of ⟨rfl, rfl, rfl, trivial⟩ trivial rfl, by show q < q + 1; omega⟩
    · have hz : j = 0 := by simp only [decide_eq_false_iff_not] at hc3; omega
      have hfin : cmpI (val xs) (val ys) = 0 := by subst hz; simp only [List.drop_zero] at hD; rw [hD]; exact cmp_eq rfl
      refine dw_exit ?_
      refine dw_seq ?_
      -- region 12
      refine dw_region (by kernel_rfl) ?_
      refine dl_r (sem_assign rfl rfl) ?_
      refine dl_end ?_
      refine dw_ret ?_
      -- path FF
      rw [hfin]
      exact ⟨.inr rfl, (resL_tmp rfl resL_nil)⟩
theorem rShort_ok {xs : List Int} (hLxs : Lim xs) (hn : xs.length ≤ 1000000) (hb : val xs ≤ 18446744073709551615) : Ok Tryz.prog 102 [.c (cM xs)] [.c (.i .u64 (val xs))] := by
  refine Ok.of (by kernel_rfl) Tryz.func102 rfl rfl ?_
  rw [show Tryz.f102.ntmps = 21 from rfl, show Tryz.f102.results.toList = [.tmp 2] from rfl]
  refine dw_seq ?_
  -- region 0
  refine dw_region (by kernel_rfl) ?_
  refine dl_r (sem_assign rfl rfl) ?_
  refine dl_end ?_
  refine dw_seq ?_
  -- region 1
  refine dw_region (by kernel_rfl) ?_
  refine dl_r (sem_assign rfl rfl) ?_
  refine dl_end ?_
  refine dw_seq ?_
  refine dw_seq ?_
  -- region 2
  refine dw_region (by kernel_rfl) ?_
  refine dl_r (sem_move rfl rfl) ?_
  refine dl_r (sem_len sl24 rfl rfl) ?_
  refine dl_r (sem_ari (r := (xs.length : Int) - 1) rfl rfl (ari_i64_sub (by (first | omega | (simp; omega))) (by (first | omega | (simp; omega)))) rfl) ?_
  refine dl_r (sem_assign rfl rfl) ?_
  refine dl_end ?_
  refine dw_block ?_
  refine dw_loop (ι := {t : Nat × Int // ShInv xs t.1 t.2}) (fun i => ⟨21, [(0, .v (.c (cM xs))), (3, .v (.c (.i .u64 i.1.2))), (4, .v (.c (.i .i64 ((i.1.1 : Int) - 1))))], []⟩) (fun i => i.1.1) ⟨(xs.length, 0), ⟨Nat.le_refl _, Int.le_refl 0, by rw [List.take_length]; simp⟩⟩ (sub_of ⟨rfl, rfl, rfl, trivial⟩ trivial rfl) ?_
  rintro ⟨⟨j, r⟩, hI⟩
  replace hI : ShInv xs j r := hI
  have g5 := hI.le
  have g3 := hI.r0
  show Dw _ _ ⟨21, [(0, .v (.c (cM xs))), (3, .v (.c (.i .u64 r))), (4, .v (.c (.i .i64 ((j : Int) - 1))))], []⟩ _
  refine dw_seq ?_
  refine dw_seq ?_
  -- region 3
  refine dw_region (by kernel_rfl) ?_
  refine dl_r (sem_move rfl rfl) ?_
  refine dl_r (sem_cmp rfl rfl rfl rfl) ?_
  refine dl_end ?_
  refine dw_cond rfl (fun hc1 => ?_) (fun hc1 => ?_)
  · obtain ⟨q, rfl⟩ : ∃ q, j = q + 1 := ⟨j - 1, by simp only [decide_eq_true_eq] at hc1; omega⟩
    have hS := hI.step hLxs
    have hB := hS.bound hLxs
    have g1 := lim_getD hLxs q
    refine Dw.weak (σ' := ⟨21, [(0, .v (.c (cM xs))), (3, .v (.c (.i .u64 r))), (4, .v (.c (.i .i64 (q : Int))))], []⟩) (sub_of ⟨rfl, rfl, by rw [show (q : Int) = ((q + 1 : Nat) : Int) - 1 from by omega]; rfl, trivial⟩ trivial rfl) ?_
    refine dw_skip ?_
    refine dw_seq ?_
    refine dw_block ?_
    -- region 5
    refine dw_region (by kernel_rfl) ?_
    refine dl_r (sem_move rfl rfl) ?_
    refine dl_r (sem_ari (r := r * 1000000000) rfl rfl (ari_u64_mul (by (first | omega | (simp; omega))) (by (first | omega | (simp; omega)))) rfl) ?_
    refine dl_r (sem_move rfl rfl) ?_
    refine dl_r (sem_move rfl rfl) ?_
    refine dl_r (sem_index sl24 rfl rfl (by (first | omega | (simp; omega))) (M_len _) rfl rfl) ?_
    refine dl_r (sem_loadq1 ty119 rfl (M_get (i := q) (by (first | omega | (simp; omega)))) rfl) ?_
    refine dl_r (sem_conv' (r := xs.getD q 0) und119 und90 rfl (nwu64 (by (first | omega | (simp; omega))) (by (first | omega | (simp; omega)))) rfl) ?_
    refine dl_r (sem_ari (r := (r * 1000000000) + (xs.getD q 0)) rfl rfl (ari_u64_add (by (first | omega | (simp; omega))) (by (first | omega | (simp; omega)))) rfl) ?_
    refine dl_r (sem_assign rfl rfl) ?_
    refine dl_end ?_
    -- region 4
    refine dw_region (by kernel_rfl) ?_
    refine dl_r (sem_move rfl rfl) ?_
    refine dl_r (sem_ari (r := (q : Int) - 1) rfl rfl (ari_i64_sub (by (first | omega | (simp; omega))) (by (first | omega | (simp; omega)))) rfl) ?_
    refine dl_r (sem_assign rfl rfl) ?_
    refine dl_end ?_
    exact ⟨⟨(q, r * 1000000000 + xs.getD q 0), hS⟩, sub_of ⟨rfl, rfl, rfl, trivial⟩ trivial rfl, by show q < q + 1; omega⟩
  · have hz : j = 0 := by simp only [decide_eq_false_iff_not] at hc1; omega
    have hfin : val xs = r := by subst hz; have := hI.v; simp [val, pw_zero] at this; omega
    refine dw_exit ?_
    refine dw_seq ?_
    -- region 6
    refine dw_region (by kernel_rfl) ?_
    refine dl_r (sem_move rfl rfl) ?_
    refine dl_r (sem_assign rfl rfl) ?_
    refine dl_end ?_
    refine dw_ret ?_
    -- path F
    rw [hfin]
    exact ⟨.inr rfl, (resL_tmp rfl resL_nil)⟩
theorem rSigned_ok {neg : Bool} {xs : List Int} (hL : Lim xs) (hn : xs.length ≤ 10000000) : Ok Tryz.prog 64 [.c (.b neg), .c (cM xs)] [dI (sg neg (val xs))] := by
  refine Ok.of (by kernel_rfl) Tryz.func64 rfl rfl ?_
  rw [show Tryz.f64.ntmps = 15 from rfl, show Tryz.f64.results.toList = [.cell 4 26] from rfl]
  refine dw_seq ?_
  -- region 0
  refine dw_region (by kernel_rfl) ?_
  refine dl_new (sem_alloc zc26 rfl) rfl ?_
  refine dl_end ?_
  refine dw_seq ?_
  -- region 1
  refine dw_region (by kernel_rfl) ?_
  refine dl_r (sem_move rfl rfl) ?_
  refine dl_r (sem_call rfl rfl (rTrim_ok hL (by omega)) rfl) ?_
  refine dl_r (sem_assign rfl rfl) ?_
  refine dl_end ?_
  refine dw_seq ?_
  -- region 2
  refine dw_region (by kernel_rfl) ?_
  refine dl_r (sem_move rfl rfl) ?_
  refine dl_rb (sem_move rfl rfl) (fun c1 hb1 => ?_)
  cases c1
  · have hfin : dI (sg neg (val xs)) = .a ([.b false] ++ [cL (val xs)]) := by rw [hb1, sg_false]; unfold dI cI; rw [show decide (val xs < 0) = false from by have := val_nonneg hL; simp; omega]; rfl
    refine dl_skip (sem_skip rfl) ?_
    refine dl_skip (sem_skip rfl) ?_
    refine dl_skip (sem_skip rfl) ?_
    refine dl_r (sem_pick rfl rfl rfl rfl) ?_
    refine dl_r (sem_move rfl rfl) ?_
    refine dl_r (sem_build (us := ([.b false] ++ [cL (val xs)])) fs26 zc26 rfl rfl rfl) ?_
    refine dl_st (sem_store_a ty26 rfl rfl rfl rfl rfl rfl) ?_
    refine dl_end ?_
    refine dw_ret ?_
    -- path f
    rw [hfin]
    exact ⟨.inr rfl, (resL_cell (us := ([.b false] ++ [cL (val xs)])) ty26 rfl rfl rfl rfl resL_nil)⟩
  · have hfin : dI (sg neg (val xs)) = .a ([.b (decide (((lim (val xs).natAbs).length : Int) > 0))] ++ [cL (val xs)]) := by rw [hb1]; exact sg_data (val_nonneg hL)
    refine dl_r (sem_move rfl rfl) ?_
    refine dl_r (sem_len sl24 rfl rfl) ?_
    refine dl_r (sem_cmp rfl rfl rfl rfl) ?_
    refine dl_r (sem_pick rfl rfl rfl rfl) ?_
    refine dl_r (sem_move rfl rfl) ?_
    refine dl_r (sem_build (us := ([.b (decide ((((lim (val xs).natAbs).length : Int)) > 0))] ++ [cL (val xs)])) fs26 zc26 rfl rfl rfl) ?_
    refine dl_st (sem_store_a ty26 rfl rfl rfl rfl rfl rfl) ?_
    refine dl_end ?_
    refine dw_ret ?_
    -- path t
    rw [hfin]
    exact ⟨.inr rfl, (resL_cell (us := ([.b (decide ((((lim (val xs).natAbs).length : Int)) > 0))] ++ [cL (val xs)])) ty26 rfl rfl rfl rfl resL_nil)⟩
end Go.Proofs.YtcimbhjmjlfloaaGreat
/- Reference layer 1: the limbs of a machine number (a walk of memory). -/
namespace Go.Proofs.YtcimbhjmjlfloaaGreat
open Go Go.RowKit
theorem lim_step {r : Int} (h : 0 < r) : lim r.toNat = (r % 1000000000) :: lim (r / 1000000000).toNat := by
  rw [lim_pos (by omega)]
  congr 1
  · omega
  · congr 1; omega
set_option maxHeartbeats 1000000 in
set_option maxRecDepth 10000 in
theorem rlimbs_any (u : Int) (w : World) (h0 : 0 ≤ u) (h1 : u ≤ 18446744073709551615) :
    Calls Tryz.prog 65 #[.int .u64 u] w fun e w' => ∃ v, e = .returned v ∧ w'.ownsRow w.heap.size 119 1 v (lim u.toNat).length ((lim u.toNat).map (Value.int .u32)) ∧ Below w.heap.size w w' := by
  obtain ⟨i0, hi0, hz0, hz1, hz2⟩ := info_parts info_u32
  have hlen : (lim u.toNat).length ≤ 3 := by
    refine (nrm_lim _).len (lim_lim _) ?_
    rw [val_lim]
    have h3 : pw 3 = 1000000000000000000000000000 := by decide
    omega
  go_enter Tryz.func65, Tryz.ntmps65
  go_wp2_with fail
  go_loopw [0, 3] (fun n v wr => ∃ (r : Int) (k : Nat) (zs : List Int), n = .int .u64 r ∧ 0 ≤ r ∧ r ≤ u ∧ wr.ownsRow w.heap.size 119 1 v k (zs.map (Value.int .u32)) ∧ Below w.heap.size w wr ∧ Hid (zs.length = k ∧ lim u.toNat = zs ++ lim r.toNat))
    (fun n _ _ => (intOf n).toNat)
  case atStart => exact ⟨u, 0, [], rfl, h0, Int.le_refl _, own_nil _ _ _ _, Below.refl _ _, rfl, rfl⟩
  case round =>
    obtain ⟨r, k, zs, rfl, hr0, hru, hown, hbel, H⟩ := hrel
    have hz := hbel.size
    by_cases hr : 0 < r
    · have Hs : Hid ((zs ++ [r % 1000000000]).length = k + 1 ∧ lim u.toNat = (zs ++ [r % 1000000000]) ++ lim (r / 1000000000).toNat) := by
        obtain ⟨l1, l2⟩ := H.out
        refine ⟨by simp [l1], ?_⟩
        rw [l2, lim_step hr]; simp
      have hk : k ≤ 3 := by
        obtain ⟨l1, l2⟩ := H.out
        rw [l2] at hlen
        simp at hlen; omega
      clear H
      have e1 : r.tmod 1000000000 = r % 1000000000 := Int.tmod_eq_emod_of_nonneg hr0
      have e2 : IntKind.u32.wrap (r % 1000000000) = r % 1000000000 := nwu32 (by omega) (by omega)
      have e3 : r.tdiv 1000000000 = r / 1000000000 := Int.tdiv_eq_ediv_of_nonneg hr0
      have e4 : IntKind.u64.wrap (r / 1000000000) = r / 1000000000 := nwu64 (by omega) (by omega)
      go_wp2_with (at_builtin; go_must (refine wpList_append_own _ rfl _ _ 24 rfl w.heap.size 119 i0 (.int .u32 0) 1 4 Tryz.underlying24 hi0 hz0 hz1 hz2 rfl (by decide) _ _ _ rfl (hown.alloc _) ⟨wr.heap.size, 0, none⟩ 1 1 [.int .u32 _] rfl rfl (cell_one_new _ _ _) (by simp [Value.oneCell']) (by unfold maxLen; omega) (by omega) (by simp; omega) ?_); intro v' w1 hown' hgrow' _)
      go_roundw
      case rel => exact ⟨r / 1000000000, k + 1, _, by first | rfl | (simp [e3, e4]), by omega, by omega, by simpa using hown', below_append hown hbel hz hgrow', Hs⟩
      case measure => simp [intOf] <;> omega
    · obtain rfl : r = 0 := by omega
      have Hs : Hid (zs.length = k ∧ lim u.toNat = zs) := by
        obtain ⟨l1, l2⟩ := H.out
        refine ⟨l1, ?_⟩
        rw [l2]; simp [lim_zero]
      clear H
      go_wp2
      go_ret
      obtain ⟨l1, l2⟩ := Hs.out
      exact ⟨_, rfl, by rw [l2, l1]; exact hown, hbel⟩
theorem rLimbs_ok {u : Int} (h0 : 0 ≤ u) (h1 : u ≤ 18446744073709551615) : Ok Tryz.prog 65 [.c (.i .u64 u)] [.c (cL u)] := ⟨by kernel_rfl, fun av vs w hav h => by
  obtain ⟨vs⟩ := vs
  match vs, h.1, h with
  | [v], _, h =>
    obtain rfl := RdC.int_eq h.uncons.1
    refine (rlimbs_any u w h0 h1).mono ?_
    rintro e w' ⟨v, rfl, g1, g2⟩
    obtain ⟨A, c, rfl⟩ := own_form g1
    refine ⟨_, rfl, ?_, g2⟩
    have hn : u.natAbs = u.toNat := by omega
    have hsl := Ow.sl ⟨g1, lim_lim _⟩
    have := rdc_of_rdi (av := av) hsl.1 hsl.2.1 hsl.2.2.1 (fun b off e hV => by have := Ow.fresh (k := w.heap.size) (⟨g1, lim_lim _⟩ : Ow w' w.heap.size _ _ _) (Nat.le_refl _) b off e; have := hav b hV; omega)
    show RdC av w' _ (cL u)
    unfold cL
    rw [hn]; exact this⟩
end Go.Proofs.YtcimbhjmjlfloaaGreat
/- Plain: the reference's long division. -/
namespace Go.Proofs.YtcimbhjmjlfloaaGreat
open Go Go.RowKit
structure DInv (us : List Int) (V : Int) (N j : Nat) (R : Int) (zs : List Int) : Prop where
  le : j ≤ us.length
  R0 : 0 ≤ R
  RV : R < V
  L : Lim zs
  len : zs.length = N
  hN : us.length ≤ N
  v : val (us.drop j) = val ((zs.take us.length).drop j) * V + R
theorem drop_getD {xs : List Int} {i : Nat} (h : i < xs.length) : val (xs.drop i) = xs.getD i 0 + 1000000000 * val (xs.drop (i + 1)) := by
  rw [List.drop_eq_getElem_cons h, val_cons]
  simp [List.getD, h]
theorem DInv.start {us : List Int} {V : Int} {N : Nat} (hV : 0 < V) (hN : us.length ≤ N) : DInv us V N us.length 0 (List.replicate N 0) :=
  ⟨Nat.le_refl _, Int.le_refl _, hV, Lim.zeros _, by simp, hN, by rw [List.drop_eq_nil_of_le (Nat.le_refl _), List.drop_eq_nil_of_le (by simp; omega)]; simp [val]⟩
theorem DInv.step {us zs : List Int} {V R q R' : Int} {N i : Nat} (h : DInv us V N (i + 1) R zs) (_hL : Lim us) (hq0 : 0 ≤ q) (hq1 : q < 1000000000) (hR0 : 0 ≤ R') (hRV : R' < V) (he : us.getD i 0 + 1000000000 * R = q * V + R') : DInv us V N i R' (zs.set i q) := by
  have hi : i < us.length := h.le
  have hlen := h.len
  have hN := h.hN
  refine ⟨by omega, hR0, hRV, h.L.set hq0 hq1, by simp [hlen], hN, ?_⟩
  have e1 : ((zs.set i q).take us.length) = (zs.take us.length).set i q := by rw [List.take_set]
  have hi2 : i < ((zs.take us.length).set i q).length := by simp; omega
  rw [drop_getD hi, h.v, e1, drop_getD hi2]
  have e2 : ((zs.take us.length).set i q).getD i 0 = q := by
    have : i < (zs.take us.length).length := by rw [List.length_take]; omega
    rw [List.getD, List.getElem?_set_self this]; rfl
  have e3 : ((zs.take us.length).set i q).drop (i + 1) = (zs.take us.length).drop (i + 1) := by rw [List.drop_set_of_lt (by omega)]
  rw [e2, e3]
  generalize val ((zs.take us.length).drop (i + 1)) = Q at *
  have : (q + 1000000000 * Q) * V = q * V + 1000000000 * (Q * V) := by rw [Int.add_mul, Int.mul_assoc]
  rw [this]
  omega
theorem DInv.done {us zs : List Int} {V R : Int} {N : Nat} (h : DInv us V N 0 R zs) : val us / V = val (zs.take us.length) ∧ val us % V = R := by
  have hv := h.v
  simp only [List.drop_zero] at hv
  have h0 := h.R0
  have h1 := h.RV
  exact (Int.ediv_emod_unique (show 0 < V by omega)).2 ⟨by rw [hv, Int.mul_comm V]; omega, h0, h1⟩
/-- The digit: q is the quotient of rest by V -/
theorem quo_bound {R V d : Int} (hR : 0 ≤ R) (hV : R < V) (hd : 0 ≤ d) (hd1 : d < 1000000000) : 0 ≤ (d + 1000000000 * R) / V ∧ (d + 1000000000 * R) / V ≤ 999999999 := by
  refine ⟨Int.ediv_nonneg (by omega) (by omega), ?_⟩
  have : (d + 1000000000 * R) / V < 1000000000 := Int.ediv_lt_of_lt_mul (by omega) (by omega)
  omega
theorem est_ge {T V hi top : Int} {n : Nat} (hV : top * pw n ≤ V) (htop : 0 < top) (hT : T < (hi + 1) * pw n) (hT0 : 0 ≤ T) (hVp : 0 < V) : T / V ≤ hi / top := by
  have h1 : T / V * V ≤ T := Int.ediv_mul_le _ (by omega)
  have h0 : 0 ≤ T / V := Int.ediv_nonneg hT0 (by omega)
  generalize T / V = q at *
  have h2 : q * (top * pw n) ≤ q * V := Int.mul_le_mul_of_nonneg_left hV h0
  have hp := pw_pos n
  have h3 : q * top * pw n < (hi + 1) * pw n := by rw [Int.mul_assoc]; omega
  have h4 : q * top < hi + 1 := Int.lt_of_mul_lt_mul_right h3 (by omega)
  exact (Int.le_ediv_iff_mul_le htop).2 (by omega)
/-- What the top of the rest says. -/
structure HInv (rs : List Int) (n : Nat) (H : Int) : Prop where
  h0 : 0 ≤ H
  h1 : H ≤ 999999999999999999
  h : val rs < (H + 1) * pw (n - 1)
theorem top_two {rs : List Int} {n : Nat} (hL : Lim rs) (hn : 1 ≤ n) (hl : rs.length = n + 1) : HInv rs n (rs.getD n 0 * 1000000000 + rs.getD (n - 1) 0) := by
  have g1 := lim_getD hL n
  have g2 := lim_getD hL (n - 1)
  refine ⟨by omega, by omega, ?_⟩
  obtain ⟨k, rfl⟩ : ∃ k, n = k + 1 := ⟨n - 1, by omega⟩
  rw [Nat.add_sub_cancel] at *
  have e1 := take_getD (xs := rs) (k := k + 1) (by omega)
  have e2 := take_getD (xs := rs) (k := k) (by omega)
  rw [val_take_all (by omega), e2] at e1
  have h1 := val_lt (hL.take k)
  rw [List.length_take, Nat.min_eq_left (by omega)] at h1
  rw [e1, pw_succ]
  generalize pw k = b at *
  generalize rs.getD (k + 1) 0 = x at *
  generalize rs.getD k 0 = y at *
  have : (x * 1000000000 + y + 1) * b = 1000000000 * b * x + b * y + b := by grind
  omega
theorem top_one {rs : List Int} {n : Nat} (hL : Lim rs) (hn : 1 ≤ n) (hl : rs.length = n) : HInv rs n (rs.getD (n - 1) 0) := by
  have g2 := lim_getD hL (n - 1)
  refine ⟨by omega, by omega, ?_⟩
  obtain ⟨k, rfl⟩ : ∃ k, n = k + 1 := ⟨n - 1, by omega⟩
  rw [Nat.add_sub_cancel] at *
  have e2 := take_getD (xs := rs) (k := k) (by omega)
  rw [val_take_all (by omega)] at e2
  have h1 := val_lt (hL.take k)
  rw [List.length_take, Nat.min_eq_left (by omega)] at h1
  rw [e2]
  generalize pw k = b at *
  generalize rs.getD k 0 = y at *
  have : (y + 1) * b = b * y + b := by grind
  omega
theorem top_none {rs : List Int} {n : Nat} (hL : Lim rs) (hl : rs.length < n) : HInv rs n 0 := by
  refine ⟨by omega, by omega, ?_⟩
  have h1 := val_lt hL
  have := pw_le (n := rs.length) (m := n - 1) (by omega)
  omega
/-- a divisor's top limb -/
theorem top_limb {vs : List Int} (hL : Lim vs) (hN : Nrm vs) (hne : vs ≠ []) : 0 < vs.getD (vs.length - 1) 0 ∧ vs.getD (vs.length - 1) 0 * pw (vs.length - 1) ≤ val vs := by
  obtain ⟨ys, y, e, hy⟩ := hN.last hne
  have hl : vs.length = ys.length + 1 := by rw [e]; simp
  have hk : vs.length - 1 < vs.length := by omega
  have e1 := take_getD hk
  rw [show vs.length - 1 + 1 = vs.length from by omega, val_take_all (Nat.le_refl _)] at e1
  have h1 := val_nonneg (hL.take (vs.length - 1))
  have h2 := lim_getD hL (vs.length - 1)
  have e3 : vs.getD (vs.length - 1) 0 = y := by rw [e]; simp [List.getD]
  refine ⟨by rw [e3] at h2 ⊢; omega, ?_⟩
  rw [Int.mul_comm]; omega
theorem len_of_lt {n : Nat} {r : Int} (h0 : 0 ≤ r) (h : r < pw n) : (lim r.natAbs).length ≤ n := by
  refine (nrm_lim _).len (lim_lim _) ?_
  rw [val_lim]; omega
theorem lim_val {xs : List Int} (h : Nrm xs) (hL : Lim xs) : lim (val xs).natAbs = xs := by
  have h0 := val_nonneg hL
  have := lim_of h hL
  rw [show (val xs).natAbs = (val xs).toNat from by omega]; exact this.symm
theorem scaled {x y s : Int} (hs : 0 < s) : (x * s) / (y * s) = x / y ∧ (x * s) % (y * s) = x % y * s := by
  refine ⟨Int.mul_ediv_mul_of_pos_left x y hs, ?_⟩
  rw [Int.mul_comm x, Int.mul_comm y, Int.mul_emod_mul_of_pos _ _ hs, Int.mul_comm]
end Go.Proofs.YtcimbhjmjlfloaaGreat
/- Reference layer 1: the functions on limbs, at numbers. -/
namespace Go.Proofs.YtcimbhjmjlfloaaGreat
open Go Go.RowKit
theorem nat_sz {a : Int} {k : Nat} (h : Sz k a) : Sz k (a.natAbs : Int) := h.of_le (by omega)
theorem rCompare_c {a b : Int} (ha : Sz 1000000 a) (hb : Sz 1000000 b) : Ok Tryz.prog 74 [.c (cL a), .c (cL b)] [.c (.i .i64 (cmpI a.natAbs b.natAbs))] := by
  have := rCompare_ok (lim_lim a.natAbs) (lim_lim b.natAbs) (nrm_lim _) (nrm_lim _) (lim_len ha) (lim_len hb)
  rw [val_lim, val_lim] at this
  exact this
theorem rPlus_c {a b : Int} (ha : Sz 1000000 a) (hb : Sz 1000000 b) : Ok Tryz.prog 124 [.c (cL a), .c (cL b)] [.c (cL ((a.natAbs : Int) + b.natAbs))] := by
  have := rPlus_ok (lim_lim a.natAbs) (lim_lim b.natAbs) (lim_len ha) (lim_len hb)
  rw [val_lim, val_lim] at this
  exact this
theorem rMinus_c {a b : Int} (ha : Sz 1000000 a) (h : b.natAbs ≤ a.natAbs) : Ok Tryz.prog 123 [.c (cL a), .c (cL b)] [.c (cL ((a.natAbs : Int) - b.natAbs))] := by
  have := rMinus_ok (lim_lim a.natAbs) (lim_lim b.natAbs) (lim_len ha) ((nrm_lim _).len (lim_lim _) (by have := val_lt (lim_lim a.natAbs); rw [val_lim] at this ⊢; omega)) (by rw [val_lim, val_lim]; omega)
  rw [val_lim, val_lim] at this
  exact this
theorem rTimes_c {a b : Int} (ha : Sz 1000000 a) (hb : Sz 1000000 b) : Ok Tryz.prog 114 [.c (cL a), .c (cL b)] [.c (cL ((a.natAbs : Int) * b.natAbs))] := by
  have := rTimes_ok (lim_lim a.natAbs) (lim_lim b.natAbs) (lim_len ha) (lim_len hb)
  rw [val_lim, val_lim] at this
  exact this
theorem rBy_c {a m : Int} (ha : Sz 1000000 a) (h0 : 0 ≤ m) (h1 : m < 1000000000) : Ok Tryz.prog 122 [.c (cL a), .c (.i .u32 m)] [.c (cL ((a.natAbs : Int) * m))] := by
  have := rBy_ok (lim_lim a.natAbs) (lim_len ha) h0 h1
  rw [val_lim] at this
  exact this
theorem rSigned_c {neg : Bool} {a : Int} (ha : Sz 1000000 a) : Ok Tryz.prog 64 [.c (.b neg), .c (cL a)] [dI (sg neg (a.natAbs : Int))] := by
  have := rSigned_ok (neg := neg) (lim_lim a.natAbs) (by have := lim_len ha; omega)
  rw [val_lim] at this
  exact this
theorem rTrim_cM {d : Int} {r : Int} (hr : 0 ≤ r) (h0 : 0 ≤ d) (h1 : d < 1000000000) (hl : (lim r.natAbs).length ≤ 1000000) : Ok Tryz.prog 105 [.c (cM (d :: lim r.natAbs))] [.c (cL (d + 1000000000 * r))] := by
  have := rTrim_ok (Lim.cons h0 h1 (lim_lim r.natAbs)) (by simp; omega)
  rw [val_cons, val_lim] at this
  rw [show ((r.natAbs : Nat) : Int) = r from by omega] at this
  exact this
theorem rShort_c {a : Int} (ha : a.natAbs ≤ 18446744073709551615) : Ok Tryz.prog 102 [.c (cL a)] [.c (.i .u64 (a.natAbs : Int))] := by
  have := rShort_ok (lim_lim a.natAbs) (by have h3 : pw 3 = 1000000000000000000000000000 := by decide
                                           have := (nrm_lim a.natAbs).len (lim_lim _) (k := 3) (by rw [val_lim]; omega)
                                           omega) (by rw [val_lim]; omega)
  rw [val_lim] at this
  exact this
end Go.Proofs.YtcimbhjmjlfloaaGreat
