/- A run on known values: clear, the least and the greatest, tables of bytes, arrays. -/
import Derived.Test.YthhhlpdbainlaaaGreatTaQ
import Derived.LoopN
namespace Go.Proofs.YthhhlpdbainlaaaGreat
open Go Go.RowKit
section
variable {P : Program} {ops : Array Oper} {o : Oper} {TT : TX} {m N : Nat} {L : LX} {T : Tr XV} {H : Tr Bx} {x : XV}
variable {N' : Nat} {H' : Tr Bx} {g : Lg} {call : CallX}
variable {dst : Option Nat} {ty : TypeId} {pos : String} {af : Array Edge} {gd : Option (Nat × Bool)}
theorem tup0 {A Z : Nat → Prop} {w : World} {β : Nat → Pl} : RdX2 A Z w β (.tuple #[]) (.t []) := ⟨#[], rfl, RdDs.nil⟩
theorem clr_exec {U : TypeId} {y : Operand} {a : Act} {w w' : World} (h : (Builtin.clear_ #[U] ty #[a.eval y]).run P w = .ok (.tuple #[]) w') : (execOp a.eval ⟨dst, .call ⟨.builtin .clear, #[y], #[U]⟩, ty, pos, af, gd⟩).run P w = .ok (.value (.tuple #[])) w' := by
  simp only [execOp, resolve, invoke, builtin, Sem.run_bind, Sem.run_pure, Result.andThen_ok, List.map_toArray, List.map_cons, List.map_nil]
  rw [h]
  rfl
theorem s_clr (_hT : TOk (TS m L T)) (hO : HOk H) (hL : HLt N H) {U e : TypeId} {sz by_ : Nat} {zs : List AV} {y : Operand} {xo : XO} {x : XV} (hU : elA P U = some (e, sz, by_, zs)) (h1 : cO m y = some xo)
    (h : opClr sz (ofL zs) xo call L T N H = some (.mk x N' H' g)) : Good P ops ⟨dst, .call ⟨.builtin .clear, #[y], #[U]⟩, ty, pos, af, gd⟩ (TS m L T) N H x N' H' g := by
  obtain ⟨v, hv, h⟩ := oO_some h
  obtain ⟨a, q1, h3⟩ := xC_some h
  subst q1
  obtain ⟨hu, i, zv, hi, hz, hsz, hby, hzl, h0, hzr⟩ := elA_spec hU
  have hmy : y ∈ (Op.call ⟨.builtin .clear, #[y], #[U]⟩).operands := by simp [Op.operands, Call.operands]
  have hempty : ∀ (w : World) (A : Option Addr) (c : Nat), (Builtin.clear_ #[U] ty #[.slice A 0 c]).run P w = .ok (.tuple #[]) w := fun w A c => by
    cases A <;> simp [Builtin.clear_, run_underlying hu]
  rcases aS_some h3 with ⟨k, off, n, lo, ex, m', rfl, h4⟩ | ⟨rfl, h4⟩ | ⟨rfl, h4⟩
  · rw [bI_eq] at h4
    split at h4
    · rename_i hn
      have hn := Nat.eq_of_beq_eq_true hn
      subst hn
      obtain ⟨rfl, rfl, rfl, rfl⟩ := pR_some h4
      refine good_pure hO hL (fun d hd => by cases hd) fun A Z w β ac ht => ?_
      obtain ⟨c, e1, _⟩ := RdA.s_eq (cO_reads (o := ⟨dst, .call ⟨.builtin .clear, #[y], #[U]⟩, ty, pos, af, gd⟩) hmy h1 hv ht)
      exact ⟨_, clr_exec (by rw [e1]; exact hempty _ _ _), tup0⟩
    · rename_i hn
      have hn : n ≠ 0 := fun e => by subst e; exact hn rfl
      obtain ⟨b, hb, h5⟩ := oO_some h4
      obtain ⟨g1, h6⟩ := bT_some h5
      obtain ⟨g2, h7⟩ := bT_some h6
      obtain ⟨rfl, rfl, rfl, rfl⟩ := cR_some h7
      have g1 := Nat.eq_of_beq_eq_true g1
      subst g1
      rw [ble_iff] at g2
      have g2 : off + n * sz ≤ b.n := g2
      obtain ⟨hb1, hb2⟩ := hO k b hb
      obtain ⟨z1, z2⟩ := ofL_spec zs
      obtain ⟨r1, r2⟩ := repR_spec (m := sz) (z := ofL zs) (by rw [z2, hzl]) z1 n
      have r2' : (repR sz (ofL zs) n).flat = repA zs n := by rw [r2, z2]
      have hrl : n * sz = (repR sz (ofL zs) n).flat.length := by rw [r2', repA_len, hzl]
      obtain ⟨u1, u2⟩ := updR_spec r1 b.r b.n off (n * sz) hb1 hb2 hrl g2
      have hkk := HS_get hb
      have g2' : off + n * sz ≤ b.r.flat.length := by rw [← hb2]; exact g2
      have hlen : b.n = (updR (repR sz (ofL zs) n) b.r b.n off (n * sz)).flat.length := by rw [u2, hb2]; simp; omega
      refine good_c (fun d hd => by cases hd) (HOk_set hO u1 hlen) (HLt_set hL (Nat.le_refl _) (hL k b hb)) (Nat.le_refl _) fun V A β ac w hA hm ht => ?_
      obtain ⟨c, e1, hk, c1, c2, c3, c4, c5⟩ := RdA.s_eq (cO_reads (o := ⟨dst, .call ⟨.builtin .clear, #[y], #[U]⟩, ty, pos, af, gd⟩) hmy h1 hv ht)
      obtain ⟨vs, ev, hvz, hvl, hrd⟩ := hm.box k b.U b.r.flat hkk
      have hrow := zero_row hzl (hzr A (Zs V (HS H) β) w β) n
      have hzs : zv.cells.size = sz := by have := (hzr A (Zs V (HS H) β) w β).1; rw [hzl] at this; simpa using this
      have hzc : (Builtin.zeroCells zv.cells n).toList = (List.range (n * sz)).map (fun j => zv.cells[j % zv.cells.size]!) := by
        unfold Builtin.zeroCells
        rw [hzs]; simp
      rw [← hzc] at hrow
      have hzlen : (Builtin.zeroCells zv.cells n).toList.length = n * sz := by rw [hzc]; simp
      have hst := run_storeCells_at P (β k).b off b.U (Builtin.zeroCells zv.cells n).toList 0 vs w ev (by omega) hrow.one
      simp only [Nat.add_zero] at hst
      have hrun : (Builtin.clear_ #[U] ty #[.slice (some ⟨(β k).b, off, none⟩) n c]).run P w = .ok (.tuple #[]) (w.setRow (β k).b (vs.toList.take off ++ (Builtin.zeroCells zv.cells n).toList ++ vs.toList.drop (off + (Builtin.zeroCells zv.cells n).toList.length)).toArray) := by
        simp [Builtin.clear_, run_underlying hu, hn, zeroValue, typeInfo, hi, hz]
        rw [hst]
        simp
      have hex := clr_exec (dst := dst) (pos := pos) (af := af) (gd := gd) (a := ac) (y := y) (by rw [e1]; exact hrun)
      unfold Gives
      rw [hex]
      obtain ⟨m1, m2⟩ := mem_store (N := _) (cs := (updR (repR sz (ofL zs) n) b.r b.n off (n * sz)).flat) hm hkk (vs := (vs.toList.take off ++ (Builtin.zeroCells zv.cells n).toList ++ vs.toList.drop (off + (Builtin.zeroCells zv.cells n).toList.length)).toArray)
        (by simp only [List.size_toArray, List.length_append, hzlen]; simp; omega) (setRow_heap_set ev) rfl rfl rfl (by rw [← hlen, hb2]; simp only [List.size_toArray, List.length_append, hzlen]; simp; omega) (by
          rw [← hlen, u2, r2']
          have hw := RdAs.append (RdAs.append (pre_reads (off := 0) (n := off) hrd (by omega)) hrow) (hrd.drop (off + n * sz))
          have e4 : ((vs.toList.take off ++ (Builtin.zeroCells zv.cells n).toList ++ vs.toList.drop (off + (Builtin.zeroCells zv.cells n).toList.length)).toArray).toList.take b.n = (vs.toList.drop 0).take off ++ (Builtin.zeroCells zv.cells n).toList ++ (vs.toList.take b.r.flat.length).drop (off + n * sz) := by
            show (vs.toList.take off ++ (Builtin.zeroCells zv.cells n).toList ++ vs.toList.drop (off + (Builtin.zeroCells zv.cells n).toList.length)).take b.n = _
            rw [List.take_append, List.take_of_length_le (l := vs.toList.take off ++ (Builtin.zeroCells zv.cells n).toList) (by rw [List.length_append, hzlen]; simp; omega), List.drop_take, List.drop_zero, hzlen]
            congr 2
            rw [List.length_append, hzlen]; simp; omega
          rw [e4]; simpa using hw)
      have hsub : ∀ j d, HS (H.set ⟨b.U, b.n, updR (repR sz (ofL zs) n) b.r b.n off (n * sz)⟩ k) j = some d → (if j = k then some (b.U, (updR (repR sz (ofL zs) n) b.r b.n off (n * sz)).flat) else HS H j) = some d := by
        intro j d hj
        rcases HS_set hj with ⟨q1, q2⟩ | ⟨q1, q2⟩
        · rw [if_pos q1, q2]
        · rw [if_neg q1]; exact q2
      exact ⟨A, β, fun _ h => h, fun _ h => .inl h, m1.sub hsub, m2.less hsub, tup0⟩
  · obtain ⟨rfl, rfl, rfl, rfl⟩ := pR_some h4
    refine good_pure hO hL (fun d hd => by cases hd) fun A Z w β ac ht => ?_
    have e1 := RdA.z_eq (cO_reads (o := ⟨dst, .call ⟨.builtin .clear, #[y], #[U]⟩, ty, pos, af, gd⟩) hmy h1 hv ht)
    exact ⟨_, clr_exec (by rw [e1]; exact hempty _ _ _), tup0⟩
  · obtain ⟨rfl, rfl, rfl, rfl⟩ := pR_some h4
    refine good_pure hO hL (fun d hd => by cases hd) fun A Z w β ac ht => ?_
    obtain ⟨b, c, e1, _⟩ := RdA.ev_eq (cO_reads (o := ⟨dst, .call ⟨.builtin .clear, #[y], #[U]⟩, ty, pos, af, gd⟩) hmy h1 hv ht)
    exact ⟨_, clr_exec (by rw [e1]; exact hempty _ _ _), tup0⟩
theorem mm_run {mx : Bool} {k : IntKind} {A Z : Nat → Prop} {w : World} {β : Nat → Pl} : ∀ {vs : List XV} {us : List Value} {a r : Int}, RdXs A Z w β us vs → mmX mx k vs a = some r → (us.foldlM (if mx then Builtin.max2 else Builtin.min2) (.int k a)).run P w = .ok (.int k r) w
  | [], [], a, r, _, h => by
    have h : some a = some r := h
    injection h with h
    subst h; rfl
  | [], _ :: _, a, r, hr, _ => by have := hr.1; simp at this
  | _ :: _, [], a, r, hr, _ => by have := hr.1; simp at this
  | v :: vs, y :: us, a, r, hr, h => by
    obtain ⟨k', b, q, h2⟩ := xI_some (show xI v (fun k' b => bT (Nat.beq (kN k) (kN k')) (mmX mx k vs (bI mx (bI (ltI a b) b a) (bI (ltI b a) b a)))) = some r from h)
    subst q
    obtain ⟨hk, h3⟩ := bT_some h2
    have hk := kN_inj hk
    subst hk
    have e1 : y = .int k b := RdA.i_eq (hr.2 0 y (.c (.i k b)) rfl rfl)
    subst e1
    have hrr : RdXs A Z w β us vs := ⟨by have := hr.1; simpa using this, fun j v x hv hx => hr.2 (j + 1) v x (by simpa using hv) (by simpa using hx)⟩
    have ih := mm_run hrr h3
    rw [List.foldlM_cons]
    cases mx with
    | true =>
      have e2 : Builtin.max2 (.int k a) (.int k b) = pure (.int k (bI true (bI (ltI a b) b a) (bI (ltI b a) b a))) := by
        show pure (Value.int k (if b > a then b else a)) = pure (Value.int k (bI (ltI a b) b a))
        rw [bI_eq, ltI_eq]
        by_cases hab : a < b
        · rw [if_pos (by omega), if_pos (by simpa using hab)]
        · rw [if_neg (by omega), if_neg (by simpa using hab)]
      show (do let s' ← Builtin.max2 (.int k a) (.int k b); List.foldlM Builtin.max2 s' us : Go.Sem Value).run P w = _
      rw [e2]
      exact ih
    | false =>
      have e2 : Builtin.min2 (.int k a) (.int k b) = pure (.int k (bI false (bI (ltI a b) b a) (bI (ltI b a) b a))) := by
        show pure (Value.int k (if b < a then b else a)) = pure (Value.int k (bI (ltI b a) b a))
        rw [bI_eq, ltI_eq]
        by_cases hab : b < a
        · rw [if_pos hab, if_pos (by simpa using hab)]
        · rw [if_neg hab, if_neg (by simpa using hab)]
      show (do let s' ← Builtin.min2 (.int k a) (.int k b); List.foldlM Builtin.min2 s' us : Go.Sem Value).run P w = _
      rw [e2]
      exact ih
theorem s_max (_hT : TOk (TS m L T)) (hO : HOk H) (hL : HLt N H) {ys : Array Operand} {ts : Array TypeId} {y : Operand} {zs : List Operand} {xo : XO} {xs : List XO} {x : XV} (hys : ys.toList = y :: zs) (h1 : cO m y = some xo) (h2 : allO (cO m) zs = some xs)
    (h : opMm true xo xs call L T N H = some (.mk x N' H' g)) : Good P ops ⟨dst, .call ⟨.builtin .max, ys, ts⟩, ty, pos, af, gd⟩ (TS m L T) N H x N' H' g := by
  obtain ⟨v, hv, h⟩ := oO_some h
  obtain ⟨k, a, q1, h3⟩ := xI_some h
  subst q1
  obtain ⟨vs, hvs, h4⟩ := oO_some h3
  obtain ⟨r, hr, h5⟩ := oO_some h4
  obtain ⟨rfl, rfl, rfl, rfl⟩ := pR_some h5
  have hmem : ∀ z ∈ ys.toList, z ∈ (Op.call ⟨.builtin .max, ys, ts⟩).operands := fun z hz => by have := Array.mem_toList_iff.1 hz; simp [Op.operands, Call.operands, this]
  refine good_pure hO hL trivial fun A Z w β ac ht => ?_
  have e1 : ac.eval y = .int k a := RdA.i_eq (cO_reads (o := ⟨dst, .call ⟨.builtin .max, ys, ts⟩, ty, pos, af, gd⟩) (hmem y (by rw [hys]; simp)) h1 hv ht)
  have hrd := args_reads (o := ⟨dst, .call ⟨.builtin .max, ys, ts⟩, ty, pos, af, gd⟩) (fun z hz => hmem z (by rw [hys]; simp [hz])) h2 hvs ht
  refine ⟨.int k r, ?_, .i _ _⟩
  have hrun := mm_run (P := P) (mx := true) hrd hr
  have e2 : (ys.map ac.eval).toList = ac.eval y :: zs.map ac.eval := by rw [Array.toList_map, hys]; rfl
  show (do let r ← Builtin.max_ ts ty (ys.map ac.eval); pure (Next.value r) : Go.Sem Next).run P w = _
  unfold Builtin.max_
  rw [e2, e1, Sem.run_bind]
  show ((List.foldlM Builtin.max2 (.int k a) (zs.map ac.eval)).run P w).andThen _ = _
  rw [show (List.foldlM Builtin.max2 (Value.int k a) (zs.map ac.eval)).run P w = .ok (.int k r) w from hrun]
  rfl
theorem s_min (_hT : TOk (TS m L T)) (hO : HOk H) (hL : HLt N H) {ys : Array Operand} {ts : Array TypeId} {y : Operand} {zs : List Operand} {xo : XO} {xs : List XO} {x : XV} (hys : ys.toList = y :: zs) (h1 : cO m y = some xo) (h2 : allO (cO m) zs = some xs)
    (h : opMm false xo xs call L T N H = some (.mk x N' H' g)) : Good P ops ⟨dst, .call ⟨.builtin .min, ys, ts⟩, ty, pos, af, gd⟩ (TS m L T) N H x N' H' g := by
  obtain ⟨v, hv, h⟩ := oO_some h
  obtain ⟨k, a, q1, h3⟩ := xI_some h
  subst q1
  obtain ⟨vs, hvs, h4⟩ := oO_some h3
  obtain ⟨r, hr, h5⟩ := oO_some h4
  obtain ⟨rfl, rfl, rfl, rfl⟩ := pR_some h5
  have hmem : ∀ z ∈ ys.toList, z ∈ (Op.call ⟨.builtin .min, ys, ts⟩).operands := fun z hz => by have := Array.mem_toList_iff.1 hz; simp [Op.operands, Call.operands, this]
  refine good_pure hO hL trivial fun A Z w β ac ht => ?_
  have e1 : ac.eval y = .int k a := RdA.i_eq (cO_reads (o := ⟨dst, .call ⟨.builtin .min, ys, ts⟩, ty, pos, af, gd⟩) (hmem y (by rw [hys]; simp)) h1 hv ht)
  have hrd := args_reads (o := ⟨dst, .call ⟨.builtin .min, ys, ts⟩, ty, pos, af, gd⟩) (fun z hz => hmem z (by rw [hys]; simp [hz])) h2 hvs ht
  refine ⟨.int k r, ?_, .i _ _⟩
  have hrun := mm_run (P := P) (mx := false) hrd hr
  have e2 : (ys.map ac.eval).toList = ac.eval y :: zs.map ac.eval := by rw [Array.toList_map, hys]; rfl
  show (do let r ← Builtin.min_ ts ty (ys.map ac.eval); pure (Next.value r) : Go.Sem Next).run P w = _
  unfold Builtin.min_
  rw [e2, e1, Sem.run_bind]
  show ((List.foldlM Builtin.min2 (.int k a) (zs.map ac.eval)).run P w).andThen _ = _
  rw [show (List.foldlM Builtin.min2 (Value.int k a) (zs.map ac.eval)).run P w = .ok (.int k r) w from hrun]
  rfl
theorem bytes_at (s : ByteArray) (j : Nat) : s[j]? = s.data.toList[j]? := by
  rw [Array.getElem?_toList]
  by_cases h : j < s.size
  · have h2 : j < s.data.size := h
    rw [getElem?_pos s j h, Array.getElem?_eq_getElem h2]; rfl
  · have h2 : ¬ j < s.data.size := h
    rw [getElem?_neg s j h, Array.getElem?_eq_none (by omega)]
theorem s_sidx (_hT : TOk (TS m L T)) (hO : HOk H) (hL : HLt N H) {U : TypeId} {s : ByteArray} {y : Operand} {xo : XO} {x : XV} (hU : P.underlying U = some .string) (h1 : cO m y = some xo)
    (h : opSidx s xo call L T N H = some (.mk x N' H' g)) : Good P ops ⟨dst, .index U (.const (.string s)) y, ty, pos, af, gd⟩ (TS m L T) N H x N' H' g := by
  obtain ⟨v, hv, h⟩ := oO_some h
  obtain ⟨k, j, q1, h3⟩ := xN_some h
  subst q1
  obtain ⟨b, hb, h4⟩ := oO_some h3
  obtain ⟨rfl, rfl, rfl, rfl⟩ := pR_some h4
  refine good_pure hO hL trivial fun A Z w β ac ht => ?_
  have e1 : ac.eval y = .int k (j : Int) := RdA.i_eq (cO_reads (o := ⟨dst, .index U (.const (.string s)) y, ty, pos, af, gd⟩) (by simp [Op.operands]) h1 hv ht)
  have e2 : ac.eval (.const (.string s)) = .string s := rfl
  have e3 : s[j]? = some b := by rw [bytes_at]; exact hb
  refine ⟨.int .u8 b.toNat, ?_, .i _ _⟩
  simp [execOp, Instr.index, e1, e2, asIntOf, run_underlying hU, e3]
theorem s_iar (_hT : TOk (TS m L T)) (hO : HOk H) (hL : HLt N H) {U : TypeId} {n sz : Nat} {y z : Operand} {xo yo : XO} {x : XV} (hU : arA P U = some (n, sz)) (h1 : cO m y = some xo) (h2 : cO m z = some yo)
    (h : opIar n sz xo yo call L T N H = some (.mk x N' H' g)) : Good P ops ⟨dst, .indexAddr U y z, ty, pos, af, gd⟩ (TS m L T) N H x N' H' g := by
  obtain ⟨v, hv, h⟩ := oO_some h
  obtain ⟨v2, hv2, h⟩ := oO_some h
  obtain ⟨k, off, q1, h3⟩ := xP_some h
  obtain ⟨ki, j, q2, h4⟩ := xN_some h3
  subst q1 q2
  obtain ⟨hj, h5⟩ := bT_some h4
  obtain ⟨rfl, rfl, rfl, rfl⟩ := pR_some h5
  rw [blt_iff] at hj
  refine good_pure hO hL trivial fun A Z w β ac ht => ?_
  obtain ⟨e1, hk⟩ := RdA.p_eq (cO_reads (o := ⟨dst, .indexAddr U y z, ty, pos, af, gd⟩) (by simp [Op.operands]) h1 hv ht)
  have e2 : ac.eval z = .int ki (j : Int) := RdA.i_eq (cO_reads (o := ⟨dst, .indexAddr U y z, ty, pos, af, gd⟩) (by simp [Op.operands]) h2 hv2 ht)
  unfold arA at hU
  split at hU
  case h_2 => cases hU
  rename_i n' el hul
  cases hinf : P.info? el with
  | none => rw [hinf] at hU; cases hU
  | some inf =>
    rw [hinf] at hU
    simp at hU
    obtain ⟨q1, q2⟩ := hU
    subst q1
    have hso : ∀ w, (sizeOf el).run P w = .ok sz w := fun w => by unfold sizeOf typeInfo; simp [program, Sem.run, hinf, q2]
    have hj0 : (0 : Int) ≤ (j : Int) := by omega
    have hj1 : (j : Int) < (n' : Int) := by omega
    refine ⟨.pointer (some ⟨(β k).b, off + j * sz, none⟩), ?_, .p _ _ hk⟩
    simp [execOp, Instr.indexAt, e1, e2, asIntOf, run_underlying hul, Instr.sureAddr, hj0, hso, addr_add, hj]
end
section
variable {P : Program} {ops : Array Oper} {o : Oper} {TT : TX} {m N : Nat} {L : LX} {T : Tr XV} {H : Tr Bx} {x : XV}
variable {N' : Nat} {H' : Tr Bx} {g : Lg} {call : CallX}
theorem map_some {α β : Type} {f : α → β} {x : Option α} {y : β} (h : x.map f = some y) : ∃ v, x = some v ∧ f v = y := by
  cases x with
  | none => cases h
  | some v => injection h with h; exact ⟨v, rfl, h⟩
theorem arr1 {α : Type} {a : Array α} {x : α} (h : a.toList = [x]) : a = #[x] := by
  apply Array.ext'; exact h
theorem arr2 {α : Type} {a : Array α} {x y : α} (h : a.toList = [x, y]) : a = #[x, y] := by
  apply Array.ext'; exact h
theorem cOp_sound (hT : TOk (TS m L T)) (hO : HOk H) (hL : HLt N H) (hcall : CallOk P call) {k : OpK} (hc : cOp P m o.op = some k) (h : k call L T N H = some (.mk x N' H' g)) : Good P ops o (TS m L T) N H x N' H' g := by
  obtain ⟨dst, op, ty, pos, af, gd⟩ := o
  change cOp P m op = some k at hc
  cases op
  case move y => obtain ⟨xo, h1, rfl⟩ := o1_some hc; exact s_move hT hO hL h1 h
  case assign y => obtain ⟨xo, h1, rfl⟩ := o1_some hc; exact s_assign hT hO hL h1 h
  case pick c y z =>
    unfold cOp at hc
    dsimp only at hc
    split at hc
    · rename_i co h1
      obtain ⟨xo, yo, h2, h3, rfl⟩ := o2_some hc
      exact s_pick hT hO hL h1 h2 h3 h
    · cases hc
  case alloc U => obtain ⟨zs, h1, rfl⟩ := map_some hc; exact s_alloc hO hL h1 h
  case box U y => obtain ⟨xo, h1, rfl⟩ := o1_some hc; exact s_box hT hO hL h1 h
  case build U ps =>
    unfold cOp at hc
    dsimp only at hc
    split at hc
    · rename_i pl zs h1 h2
      obtain ⟨qs, h3, rfl⟩ := map_some hc
      exact s_build hT hO hL h1 h2 h3 h
    · cases hc
  case buildSlice U n ps =>
    unfold cOp at hc
    dsimp only at hc
    split at hc
    · rename_i e sz by_ zs h1
      cases hb : Nat.ble (n * sz) 10000 with
      | false => rw [hb] at hc; cases hc
      | true =>
        rw [hb] at hc
        obtain ⟨qs, h3, rfl⟩ := map_some hc
        exact s_bsl hT hO hL h1 (ble_iff.1 hb) h3 h
    · cases hc
  case load U y =>
    unfold cOp at hc
    dsimp only at hc
    split at hc
    · rename_i n h1; obtain ⟨xo, h2, rfl⟩ := o1_some hc; exact s_lda hT hO hL h1 h2 h
    · rename_i n h1; obtain ⟨xo, h2, rfl⟩ := o1_some hc; exact s_ld1 hT hO hL h1 h2 h
    · cases hc
  case store U a y =>
    unfold cOp at hc
    dsimp only at hc
    split at hc
    · rename_i q n h1; obtain ⟨xo, yo, h2, h3, rfl⟩ := o2_some hc; exact s_st hT hO hL h1 h2 h3 h
    · cases hc
  case nilCheck y => obtain ⟨xo, h1, rfl⟩ := o1_some hc; exact s_nilc hT hO hL h1 h
  case binOp op U y z yt =>
    unfold cOp at hc
    dsimp only at hc
    split at hc
    · rename_i h1
      split at hc
      · obtain ⟨xo, yo, h2, h3, rfl⟩ := o2_some hc; exact s_beq hT hO hL h1 h2 h3 h
      · obtain ⟨xo, yo, h2, h3, rfl⟩ := o2_some hc; exact s_bne hT hO hL h1 h2 h3 h
      · cases hc
    · rename_i k1 h1
      split at hc
      · rename_i f hf; obtain ⟨xo, yo, h2, h3, rfl⟩ := o2_some hc; exact s_bin hT hO hL hf h2 h3 h
      · split at hc
        · rename_i f hf; obtain ⟨xo, yo, h2, h3, rfl⟩ := o2_some hc; exact s_shf hT hO hL hf h2 h3 h
        · cases hc
    · rename_i e h1
      split at hc
      · obtain ⟨xo, h2, rfl⟩ := o1_some hc; exact s_eqn hT hO hL h1 h2 h
      · obtain ⟨xo, h2, rfl⟩ := o1_some hc; exact s_nen hT hO hL h1 h2 h
      · cases hc
    · cases hc
  case unOp op t y =>
    cases op <;> first | (obtain ⟨xo, h1, rfl⟩ := o1_some hc; exact s_not hT hO hL h1 h) | (obtain ⟨xo, h1, rfl⟩ := o1_some hc; exact s_neg hT hO hL h1 h) | cases hc
  case convert s d y =>
    unfold cOp at hc
    dsimp only at hc
    split at hc
    · rename_i k0 k1 h1 h2; obtain ⟨xo, h3, rfl⟩ := o1_some hc; exact s_conv hT hO hL h1 h2 h3 h
    · cases hc
  case makeFunc fn first cs =>
    cases fn with
    | func f =>
      unfold cOp at hc
      dsimp only at hc
      cases hb : first.isEmpty with
      | false => rw [hb] at hc; cases hc
      | true =>
        rw [hb] at hc
        obtain ⟨xs, h1, rfl⟩ := map_some hc
        exact s_mkf hT hO hL hb h1 h
    | _ => cases hc
  case makeSlice U y z =>
    unfold cOp at hc
    dsimp only at hc
    split at hc
    · rename_i e sz by_ zs h1; obtain ⟨xo, yo, h2, h3, rfl⟩ := o2_some hc; exact s_mks hT hO hL h1 h2 h3 h
    · cases hc
  case slice U y lo hi mx =>
    unfold cOp at hc
    dsimp only at hc
    split at hc
    · rename_i sz xo lo' hi' h1 h2 h3 h4 h5
      injection hc with hc
      subst hc
      have : mx = none := by
        cases mx with
        | none => rfl
        | some z => cases hz : cO m z with
          | none => simp [cOo, hz] at h5
          | some w => simp [cOo, hz] at h5
      subst this
      exact s_slc hT hO hL h1 h2 h3 h4 h
    · rename_i sz xo lo' ho Mo h1 h2 h3 h4 h5
      injection hc with hc
      subst hc
      cases hi with
      | none => simp [cOo] at h4
      | some zh =>
        cases mx with
        | none => simp [cOo] at h5
        | some zM =>
          have g4 : cO m zh = some ho := by
            cases hz : cO m zh with
            | none => simp [cOo, hz] at h4
            | some w => simp [cOo, hz] at h4; rw [h4]
          have g5 : cO m zM = some Mo := by
            cases hz : cO m zM with
            | none => simp [cOo, hz] at h5
            | some w => simp [cOo, hz] at h5; rw [h5]
          exact s_sl3 hT hO hL h1 h2 h3 g4 g5 h
    · cases hc
  case fieldAddr U y f =>
    unfold cOp at hc
    dsimp only at hc
    split at hc
    · rename_i off h1; obtain ⟨xo, h2, rfl⟩ := o1_some hc; exact s_fa hT hO hL h1 h2 h
    · cases hc
  case field U y f =>
    unfold cOp at hc
    dsimp only at hc
    split at hc
    · rename_i off n h1; obtain ⟨xo, h2, rfl⟩ := o1_some hc; exact s_fld hT hO hL h1 h2 h
    · rename_i off n h1; obtain ⟨xo, h2, rfl⟩ := o1_some hc; exact s_fl1 hT hO hL h1 h2 h
    · cases hc
  case indexAddr U y z =>
    unfold cOp at hc
    dsimp only at hc
    split at hc
    · rename_i sz h1; obtain ⟨xo, yo, h2, h3, rfl⟩ := o2_some hc; exact s_ia hT hO hL h1 h2 h3 h
    · split at hc
      · rename_i n sz h1; obtain ⟨xo, yo, h2, h3, rfl⟩ := o2_some hc; exact s_iar hT hO hL h1 h2 h3 h
      · cases hc
  case index U y z =>
    cases y with
    | const v =>
      cases v with
      | string b =>
        unfold cOp at hc
        dsimp only at hc
        split at hc
        · rename_i h1; obtain ⟨xo, h2, rfl⟩ := o1_some hc; exact s_sidx hT hO hL h1 h2 h
        · cases hc
      | _ => cases hc
    | _ => cases hc
  case extract y i => obtain ⟨xo, h1, rfl⟩ := o1_some hc; exact s_ext hT hO hL h1 h
  case call c =>
    obtain ⟨callee, ys, ts⟩ := c
    cases callee with
    | value f =>
      cases f with
      | func f =>
        obtain ⟨xs, h1, rfl⟩ := map_some (show (allO (cO m) ys.toList).map (opCall f) = some k from hc)
        exact s_call hT hO hL hcall h1 h
      | tmp t =>
        unfold cOp at hc
        dsimp only at hc
        split at hc
        · rename_i fo xs h1 h2
          injection hc with hc
          subst hc
          exact s_calv hT hO hL hcall h1 h2 h
        · cases hc
      | _ => cases hc
    | invoke r mt => cases hc
    | builtin b =>
      cases b
      case len =>
        unfold cOp at hc
        dsimp only at hc
        split at hc
        · rename_i y U h1 h2
          split at hc
          · rename_i sz h3
            obtain ⟨xo, h4, rfl⟩ := o1_some hc
            rw [arr1 h1, arr1 h2]
            exact s_len hT hO hL h3 h4 h
          · cases hc
        · cases hc
      case cap =>
        unfold cOp at hc
        dsimp only at hc
        split at hc
        · rename_i y U h1 h2
          split at hc
          · rename_i sz h3
            obtain ⟨xo, h4, rfl⟩ := o1_some hc
            rw [arr1 h1, arr1 h2]
            exact s_cap hT hO hL h3 h4 h
          · cases hc
        · cases hc
      case append =>
        unfold cOp at hc
        dsimp only at hc
        split at hc
        · rename_i y z U W h1 h2
          split at hc
          · rename_i e sz by_ zs h3
            cases hb : Nat.beq U W with
            | false =>
              rw [hb] at hc
              dsimp only [cond_false] at hc
              split at hc
              · rename_i kk h6
                obtain ⟨xo, yo, h4, h5, rfl⟩ := o2_some hc
                rw [arr2 h1, arr2 h2]
                exact s_apz hT hO hL h3 h6 h4 h5 h
              · cases hc
            | true =>
              rw [hb] at hc
              obtain ⟨xo, yo, h4, h5, rfl⟩ := o2_some hc
              have e := Nat.eq_of_beq_eq_true hb
              subst e
              rw [arr2 h1, arr2 h2]
              exact s_app hT hO hL h3 h4 h5 h
          · cases hc
        · cases hc
      case max =>
        unfold cOp at hc
        dsimp only at hc
        split at hc
        · rename_i y r h1
          split at hc
          · rename_i xo xs h2 h3
            injection hc with hc
            subst hc
            exact s_max hT hO hL h1 h2 h3 h
          · cases hc
        · cases hc
      case min =>
        unfold cOp at hc
        dsimp only at hc
        split at hc
        · rename_i y r h1
          split at hc
          · rename_i xo xs h2 h3
            injection hc with hc
            subst hc
            exact s_min hT hO hL h1 h2 h3 h
          · cases hc
        · cases hc
      case clear =>
        unfold cOp at hc
        dsimp only at hc
        split at hc
        · rename_i y U h1 h2
          split at hc
          · rename_i e sz by_ zs h3
            obtain ⟨xo, h4, rfl⟩ := o1_some hc
            rw [arr1 h1, arr1 h2]
            exact s_clr hT hO hL h3 h4 h
          · cases hc
        · cases hc
      all_goals cases hc
  all_goals cases hc
end
section
variable {P : Program} {ops : Array Oper} {o : Oper} {TT : TX} {n m N : Nat} {L : LX} {T : Tr XV} {H : Tr Bx} {x : XV}
variable {N' : Nat} {H' : Tr Bx} {g : Lg} {call : CallX}
theorem gdX_want {A Z : Nat → Prop} {w : World} {β : Nat → Pl} {a : Act} {gq : Option (XO × Bool)} {b : Bool} (hc : cG m ops o = some gq) (hb : gdX gq L T = some b) (ht : TmpX A Z w β (Looks ops o) (TS m L T) a) : want o ops a = b := by
  unfold cG at hc
  unfold want Region.wanted
  cases hg : o.guard with
  | none =>
    rw [hg] at hc
    injection hc with hc
    subst hc
    injection hb with hb
  | some gb =>
    obtain ⟨gi, gv⟩ := gb
    rw [hg] at hc
    dsimp only at hc ⊢
    unfold yielded
    cases h1 : (ops[gi]?).bind (·.dst) with
    | none => rw [h1] at hc; cases hc
    | some t =>
      rw [h1] at hc
      obtain ⟨xo, h2, h3⟩ := map_some hc
      subst h3
      try dsimp only
      obtain ⟨v, hv, hb⟩ := oO_some (show oO (xo.get L T) (fun v => @XV.rec (fun _ => Option Bool) (fun a => aB a fun b => some (b == gv)) (fun _ _ => none) (fun _ => none) (some false) v) = some b from hb)
      have hl : Looks ops o t := List.mem_append_right _ (by rw [hg]; simp [h1])
      obtain ⟨u, e, hr⟩ := ht t v hl (TS_tmp h2 hv)
      simp only [Option.bind_some, e]
      cases v with
      | c a' =>
        obtain ⟨c, q, hb⟩ := aB_some hb
        subst q
        have hu : u = .bool c := RdA.b_eq hr
        subst hu
        injection hb with hb
      | a _ _ => cases hb
      | t _ => cases hb
      | u =>
        have hu : u = undef := hr
        subst hu
        injection hb with hb
theorem lookA_cons (t d : Nat) (y : XV) (L : LX) : lookA t ((d, y) :: L) = if d = t then some y else lookA t L := by
  show @Bool.rec (fun _ => Option XV) (lookA t L) (some y) (Nat.beq d t) = _
  rw [beq_if]
theorem setD_spec {d : Option Nat} {κ : LX → Tr XV → Ro} : ∃ L' T', setD d (dstL m d) x L T κ = κ L' T' ∧ ∀ t y, TS m L' T' t = some y → upT d x (TS m L T) t = some y := by
  cases d with
  | none => exact ⟨L, T, rfl, fun t y h => h⟩
  | some d =>
    show ∃ L' T', @Bool.rec (fun _ => Ro) (κ L (T.set x d)) (κ ((d, x) :: L) T) (m.testBit d) = κ L' T' ∧ _
    cases hb : m.testBit d with
    | true =>
      refine ⟨(d, x) :: L, T, rfl, fun t y h => ?_⟩
      unfold TS at h
      unfold upT TS
      cases ht : m.testBit t with
      | true =>
        rw [ht] at h
        have h : lookA t ((d, x) :: L) = some y := h
        rw [lookA_cons] at h
        by_cases e : d = t
        · rw [if_pos e] at h; rw [if_pos (by rw [e])]; exact h
        · rw [if_neg e] at h; rw [if_neg (by simpa using e)]; exact h
      | false =>
        rw [ht] at h
        rw [if_neg (by intro e; injection e with e; subst e; rw [hb] at ht; cases ht)]
        exact h
    | false =>
      refine ⟨L, T.set x d, rfl, fun t y h => ?_⟩
      unfold TS at h
      unfold upT TS
      cases ht : m.testBit t with
      | true =>
        rw [ht] at h
        rw [if_neg (by intro e; injection e with e; subst e; rw [hb] at ht; cases ht)]
        exact h
      | false =>
        rw [ht] at h
        rcases Tr.set_get T d t h with ⟨e1, e2⟩ | ⟨e1, e2⟩
        · subst e1; rw [if_pos rfl, e2]
        · rw [if_neg (by intro e; injection e with e; exact e1 e.symm)]; exact e2
theorem cI2_some {i : XI} (h : cI2 P n m ops o = some i) : (∀ t, o.dst = some t → t < n) ∧ i.dst = o.dst ∧ i.lo = dstL m o.dst ∧ cG m ops o = some i.g ∧ (cOp P m o.op = some i.k ∨ i.k = opBad) := by
  unfold cI2 at h
  cases hb : dstB2 n o.dst with
  | false => rw [hb] at h; cases h
  | true =>
    rw [hb] at h
    dsimp only [cond] at h
    split at h
    · rename_i gq k h1 h2
      injection h with h
      subst h
      refine ⟨fun t ht => ?_, rfl, rfl, h1, .inl h2⟩
      rw [ht] at hb
      exact blt_iff.1 hb
    · rename_i gq h1 h2
      injection h with h
      subst h
      refine ⟨fun t ht => ?_, rfl, rfl, h1, .inr rfl⟩
      rw [ht] at hb
      exact blt_iff.1 hb
    · cases h
structure Did (P : Program) (ops : Array Oper) (o : Oper) (n m : Nat) (L : LX) (T : Tr XV) (N : Nat) (H : Tr Bx) (e : Evt) (L' : LX) (T' : Tr XV) (H' : Tr Bx) (g : Lg) : Prop where
  run : Runs P ops o (TS m L T) e ∨ Skips ops o (TS m L T) e
  nm : e.N = N
  le : N ≤ e.N'
  tmp : ∀ t y, TS m L' T' t = some y → upT o.dst e.x (TS m L T) t = some y
  tok : TOk (TS m L' T')
  hok : HOk H'
  hlt : HLt e.N' H'
  sub : ∀ k c, e.Hv k = some c → HS H k = some c
  put : ∀ k c, HS H' k = some c → put2 (HS H) e.Hv e.Hv' k = some c
  foot : Foot N e.N' H H' e.Hv e.Hv' g
  dn : ∀ t, o.dst = some t → t < n
theorem opG_sound (hT : TOk (TS m L T)) (hO : HOk H) (hL : HLt N H) (hcall : CallOk P call) {i : XI} (hi : cI2 P n m ops o = some i) {κ : LX → Tr XV → Nat → Tr Bx → Lg → Ro} (hr : opG call i L T N H κ ≠ .no) :
    ∃ e L' T' H' g, opG call i L T N H κ = κ L' T' e.N' H' g ∧ Did P ops o n m L T N H e L' T' H' g := by
  obtain ⟨hdn, hd, hlo, hg, hk⟩ := cI2_some hi
  have htok : ∀ {x : XV} {L' T'}, xok x → (∀ t y, TS m L' T' t = some y → upT o.dst x (TS m L T) t = some y) → TOk (TS m L' T') := by
    intro x L' T' hx h t y ht
    have := h t y ht
    unfold upT at this
    split at this
    · injection this with e; subst e; exact hx
    · exact hT t y this
  cases hgd : gdX i.g L T with
  | none =>
    exfalso
    apply hr
    show @Option.rec Bool (fun _ => Ro) .no _ (gdX i.g L T) = .no
    rw [hgd]
  | some b =>
    cases b with
    | false =>
      have e1 : opG call i L T N H κ = setD i.dst i.lo .u L T fun L T => κ L T N H .p := by
        show @Option.rec Bool (fun _ => Ro) .no _ (gdX i.g L T) = _
        rw [hgd]
      rw [hd, hlo] at e1
      obtain ⟨L', T', e2, hts⟩ := setD_spec (m := m) (x := .u) (L := L) (T := T) (d := o.dst) (κ := fun L T => κ L T N H .p)
      have hf : Foot N N H H e0 e0 .p := ⟨rfl, rfl, rfl⟩
      refine ⟨⟨.u, e0, e0, N, N⟩, L', T', H, .p, e1.trans e2, .inr ⟨rfl, rfl, fun V A β a w ht => ?_⟩, rfl, Nat.le_refl _, hts, htok (x := .u) trivial hts, hO, hL, fun k c h => (by cases h), fun k c h => (by show put2 (HS H) e0 e0 k = _; rw [put2_e0]; exact h), hf, hdn⟩
      exact gdX_want hg hgd ht
    | true =>
      have e1 : opG call i L T N H κ = @Option.rec Rs (fun _ => Ro) .no (fun r => @Rs.rec (fun _ => Ro) (fun x N' H' g => setD i.dst i.lo x L T fun L T => κ L T N' H' g) r) (i.k call L T N H) := by
        show @Option.rec Bool (fun _ => Ro) .no _ (gdX i.g L T) = _
        rw [hgd]
      cases hkk : i.k call L T N H with
      | none =>
        exfalso
        apply hr
        rw [e1, hkk]
      | some r =>
        obtain ⟨x, N', H', g⟩ := r
        have hk : cOp P m o.op = some i.k := by
          rcases hk with hk | hk
          · exact hk
          · rw [hk] at hkk; cases hkk
        have e2 : opG call i L T N H κ = setD i.dst i.lo x L T fun L T => κ L T N' H' g := by rw [e1, hkk]
        rw [hd, hlo] at e2
        obtain ⟨L', T', e3, hts⟩ := setD_spec (m := m) (x := x) (L := L) (T := T) (d := o.dst) (κ := fun L T => κ L T N' H' g)
        obtain ⟨h1, h2, h3, h4, Hv, Hv', h5, h6, h7, h8⟩ := cOp_sound (ops := ops) hT hO hL hcall hk hkk
        exact ⟨⟨x, Hv, Hv', N, N'⟩, L', T', H', g, e2.trans e3, .inl fun V A β a w hA hm ht => ⟨gdX_want hg hgd ht, h5 V A β a w hA hm ht⟩, rfl, h1, hts, htok h2 hts, h3, h4, h6, h7, h8, hdn⟩
theorem StX.less {V A : Nat → Prop} {T1 T2 : TX} {H1 H2 : HF} {β : Nat → Pl} {a : Act} {w : World} (h : StX V A n T1 H1 β a w) (hT : ∀ t y, T2 t = some y → T1 t = some y) (hH : ∀ k c, H2 k = some c → H1 k = some c) : StX V A n T2 H2 β a w := by
  refine ⟨h.mem.sub hH, h.dfr, h.siz, fun t y ht => ?_⟩
  obtain ⟨v, e, hr⟩ := h.tmp t y (hT t y ht)
  have hk2 : Keep (Zs V H1 β) (Zs V H2 β) w w := ⟨Nat.le_refl _, fun _ _ _ => rfl, fun b _ hb => hb.imp id fun ⟨k, hk, e⟩ => ⟨k, (by
    cases q : H2 k with
    | none => exact absurd q hk
    | some c => rw [hH k c q]; simp), e⟩⟩
  exact ⟨v, e, hr.mono hk2 (fun _ h => h) (fun _ _ => rfl)⟩
def Ends (_P : Program) (n _m : Nat) (V A : Nat → Prop) (N : Nat) (H : HF) (β : Nat → Pl) (w : World) (N' : Nat) (T' : TX) (H' : HF) (a' : Act) (w' : World) : Prop :=
  ∃ A' β', (∀ k, A k → A' k) ∧ (∀ k, A' k → Ad A N N' k) ∧ Hst N N' A H β w H' β' w' ∧ StX V A' n T' H' β' a' w'
theorem fresh_next {A A' : Nat → Prop} {N N1 N2 : Nat} (hA : ∀ k, A k → ¬ (N ≤ k ∧ k < N2)) (h : ∀ k, A' k → Ad A N N1 k) (hle : N ≤ N1) : ∀ k, A' k → ¬ (N1 ≤ k ∧ k < N2) := by
  intro k hk ⟨g1, g2⟩
  rcases h k hk with h | h
  · exact hA k h ⟨by omega, g2⟩
  · omega
theorem Ad_mid {A A' : Nat → Prop} {N N1 N2 : Nat} (h : ∀ k, A' k → Ad A N N1 k) (h1 : N ≤ N1) (h2 : N1 ≤ N2) : ∀ k, Ad A' N1 N2 k → Ad A N N2 k := by
  intro k hk
  rcases hk with hk | hk
  · rcases h k hk with g | g
    · exact .inl g
    · exact .inr ⟨g.1, by omega⟩
  · exact .inr ⟨by omega, hk.2⟩
theorem TS_nil {t : Nat} {y : XV} (h : TS m [] T t = some y) : TS m L T t = some y := by
  unfold TS at h ⊢
  cases hb : m.testBit t with
  | true => rw [hb] at h; cases h
  | false => rw [hb] at h; exact h
theorem runL_sound (hcall : CallOk P call) {Q : Exit → Act → World → Prop} : ∀ (l : List Oper) (is : List XI) (L : LX) (T : Tr XV) (N : Nat) (H : Tr Bx), allO (cI2 P n m ops) l = some is → TOk (TS m L T) → HOk H → HLt N H → runL call is L T N H ≠ .no →
    ∃ T' N' H', runL call is L T N H = .n T' N' H' ∧ N ≤ N' ∧ TOk (TS m [] T') ∧ HOk H' ∧ HLt N' H' ∧ ∀ V A β a w, (∀ k, A k → ¬ (N ≤ k ∧ k < N')) → StX V A n (TS m L T) (HS H) β a w →
      (∀ a' w', Ends P n m V A N (HS H) β w N' (TS m [] T') (HS H') a' w' → Q .normal a' w') → wpList P ops Q l a w
  | [], is, L, T, N, H, hl, hT, hO, hL, _ => by
    injection hl with hl
    subst hl
    refine ⟨T, N, H, rfl, Nat.le_refl _, fun t y h => hT t y (TS_nil h), hO, hL, fun V A β a w _ hst hQ => ?_⟩
    exact hQ a w ⟨A, β, fun _ h => h, fun _ h => .inl h, Hst.refl, hst.less (fun t y h => TS_nil h) (fun _ _ h => h)⟩
  | o :: l, is, L, T, N, H, hl, hT, hO, hL, hr => by
    unfold allO at hl
    split at hl
    · cases hl
    · rename_i i hi
      split at hl
      · cases hl
      · rename_i is' his
        injection hl with hl
        subst hl
        have e0' : runL call (i :: is') L T N H = opG call i L T N H fun L T N H _ => runL call is' L T N H := rfl
        rw [e0'] at hr
        obtain ⟨e, L', T', H', g, e1, hd⟩ := opG_sound (ops := ops) hT hO hL hcall hi hr
        rw [e1] at hr
        obtain ⟨T2, N2, H2, e2, k1, k2, k3, k4, k5⟩ := runL_sound hcall (Q := Q) l is' L' T' e.N' H' his hd.tok hd.hok hd.hlt hr
        refine ⟨T2, N2, H2, e0'.trans (e1.trans e2), Nat.le_trans hd.le k1, k2, k3, k4, fun V A β a w hA hst hQ => ?_⟩
        unfold wpList
        have hf : ∀ k, A k → ¬ (e.N ≤ k ∧ k < e.N') := fun k hk hh => hA k hk ⟨by rw [← hd.nm]; exact hh.1, Nat.lt_of_lt_of_le hh.2 k1⟩
        refine hst.step hd.run (fun t y _ h => h) hd.sub hf hd.dn (fun A' β' a' w' g1 g2 g3 g4 => ?_)
        rw [hd.nm] at g2 g3
        refine k5 V A' β' a' w' (fresh_next hA g2 hd.le) (g4.less hd.tmp hd.put) (fun a2 w2 ⟨A2, β2, f1, f2, f3, f4⟩ => ?_)
        refine hQ a2 w2 ⟨A2, β2, fun k hk => f1 k (g1 k hk), fun k hk => Ad_mid g2 hd.le k1 k (f2 k hk), ?_, f4⟩
        exact ((g3.less hd.put).wide (Nat.le_refl _) k1).trans g1 (f3.wide hd.le (Nat.le_refl _))
end
abbrev PE := Oper × Evt
def fT (l : List PE) (T : TX) : TX := l.foldl (fun T p => upT p.1.dst p.2.x T) T
def fH (l : List PE) (H : HF) : HF := l.foldl (fun H p => put2 H p.2.Hv p.2.Hv') H
section
variable {γ : Type}
def stepU (F : Nat → Option γ) (u : Nat → Option (Option γ)) : Nat → Option γ := fun t => (u t).getD (F t)
theorem upf_take : ∀ (us : List (Nat → Option (Option γ))) (i : Nat) (F : Nat → Option γ), upf (fun j => decide (j < i)) 0 us F = (us.take i).foldl stepU F
  | [], i, F => by simp [upf]
  | u :: us, 0, F => by
    rw [List.take_zero]
    exact funext fun t => upf_none _ _ _ (fun j u _ hm => by simp at hm)
  | u :: us, i + 1, F => by
    rw [List.take_succ_cons, List.foldl_cons, ← upf_take us i]
    show upf (fun j => decide (j < i + 1)) (0 + 1) us (if decide (0 < i + 1) = true then (fun t => (u t).getD (F t)) else F) = _
    rw [upf_shift, if_pos (by simp)]
    congr 1
    funext j
    simp
theorem upf_all : ∀ (us : List (Nat → Option (Option γ))) (F : Nat → Option γ), upf (fun _ => true) 0 us F = us.foldl stepU F
  | [], F => rfl
  | u :: us, F => by
    rw [List.foldl_cons, ← upf_all us]
    show upf (fun _ => true) (0 + 1) us (if true = true then (fun t => (u t).getD (F t)) else F) = _
    rw [upf_shift, if_pos rfl]; rfl
end
section
variable {P : Program} {ops : Array Oper} {n m : Nat} {call : CallX}
theorem zip_pairs {δ : Type} (f : Oper → Evt → δ) : ∀ (l : List PE), List.zipWith f (l.map Prod.fst) (l.map Prod.snd) = l.map fun p => f p.1 p.2
  | [] => rfl
  | p :: l => by simp [zip_pairs f l]
theorem stepT (T : TX) (p : PE) : stepU T (uT2 p.1.dst p.2) = upT p.1.dst p.2.x T := by
  funext t
  unfold stepU uT2 upT
  split <;> rfl
theorem foldT : ∀ (l : List PE) (T : TX), (l.map fun p => uT2 p.1.dst p.2).foldl stepU T = fT l T
  | [], _ => rfl
  | p :: l, T => by
    rw [List.map_cons, List.foldl_cons, foldT l, stepT]; rfl
theorem stepH {H : HF} {e : Evt} (h : ∀ k c, e.Hv k = some c → H k = some c) : stepU H (uH e) = put2 H e.Hv e.Hv' := by
  funext k
  unfold stepU
  by_cases hch : e.Hv' k = e.Hv k
  · rw [show uH e k = none from by unfold uH; rw [if_pos hch]]
    show H k = _
    unfold put2
    rw [hch]
    cases h2 : e.Hv k with
    | none => rfl
    | some c => exact h k c h2
  · rw [uH_eq hch]
    show e.Hv' k = _
    unfold put2
    cases h2 : e.Hv' k with
    | some c => rfl
    | none =>
      cases h3 : e.Hv k with
      | some c => rfl
      | none => exact absurd (h2.trans h3.symm) hch
theorem foldH : ∀ (l : List PE) (H : HF), (∀ (j : Nat) (p : PE), l[j]? = some p → ∀ k c, p.2.Hv k = some c → fH (l.take j) H k = some c) → (l.map fun p => uH p.2).foldl stepU H = fH l H
  | [], _, _ => rfl
  | p :: l, H, h => by
    have h0 : ∀ k c, p.2.Hv k = some c → H k = some c := h 0 p rfl
    rw [List.map_cons, List.foldl_cons, stepH h0, foldH l _ (fun j q hq => h (j + 1) q (by simpa using hq))]; rfl
def FootC (Hv Hv' : HF) : Lg → Prop
  | .p => Hv = e0 ∧ Hv' = e0
  | .r k => (∀ j, j ≠ k → Hv j = none) ∧ Hv' = Hv
  | .w k => ∀ j, j ≠ k → Hv j = none ∧ Hv' j = none
  | .nw k => Hv = e0 ∧ ∀ j, j ≠ k → Hv' j = none
  | .c K K' => Hv = HS K ∧ Hv' = HS K'
theorem Foot.c {N N' : Nat} {H H' : Tr Bx} {Hv Hv' : HF} {g : Lg} (h : Foot N N' H H' Hv Hv' g) : FootC Hv Hv' g := by
  cases g with
  | p => exact ⟨h.1, h.2.1⟩
  | r k => exact ⟨h.1, h.2.1⟩
  | w k => exact h.1
  | nw k => exact ⟨h.2.2.1, h.2.2.2⟩
  | c K K' => exact ⟨h.1, h.2.1⟩
def Clear (Hv Hv' Hw Hw' : HF) : Prop := ∀ k, (Hv' k ≠ Hv k → Hw k = none ∧ Hw' k = none) ∧ (Hw' k ≠ Hw k → Hv k = none ∧ Hv' k = none)
theorem avEq_eq : ∀ {x y : AV}, avEq x y = true → x = y
  | .b _, y, h => by cases y <;> simp [avEq] at h; subst h; rfl
  | .i _ _, y, h => by cases y <;> simp [avEq] at h; obtain ⟨h1, h2⟩ := h; subst h1 h2; rfl
  | .l _, y, h => by cases y <;> simp [avEq] at h; subst h; rfl
  | .p _ _, y, h => by cases y <;> simp [avEq] at h; obtain ⟨h1, h2⟩ := h; subst h1 h2; rfl
  | .s _ _ _ _ _ _, y, h => by cases y <;> simp [avEq] at h; obtain ⟨⟨⟨⟨⟨h1, h2⟩, h3⟩, h4⟩, h5⟩, h6⟩ := h; subst h1 h2 h3 h4 h5 h6; rfl
  | .z, y, h => by cases y <;> simp [avEq] at h; rfl
  | .ev, y, h => by cases y <;> simp [avEq] at h
  | .np, y, h => by cases y <;> simp [avEq] at h; rfl
  | .f0 _, y, h => by cases y <;> simp [avEq] at h; subst h; rfl
  | .fc a b, y, h => by
    cases y <;> simp [avEq] at h
    obtain ⟨h1, h2⟩ := h
    rw [avEq_eq h1, avEq_eq h2]
theorem rpEq_eq : ∀ {x y : Rp}, rpEq x y = true → x.flat = y.flat
  | .e, y, h => by cases y <;> simp [rpEq] at h; rfl
  | .c _, y, h => by cases y <;> simp [rpEq] at h; rw [avEq_eq h]
  | .n _ _ l r, y, h => by
    cases y <;> simp [rpEq] at h
    obtain ⟨h1, h2⟩ := h
    show l.flat ++ r.flat = _
    rw [rpEq_eq h1, rpEq_eq h2]; rfl
theorem bxEq_HS {K K' : Tr Bx} {k : Nat} (h : bxEq (K.get k) (K'.get k) = true) : HS K k = HS K' k := by
  unfold HS
  cases h1 : K.get k with
  | none =>
    cases h2 : K'.get k with
    | none => rfl
    | some b => rw [h1, h2] at h; simp [bxEq] at h
  | some b =>
    cases h2 : K'.get k with
    | none => rw [h1, h2] at h; simp [bxEq] at h
    | some b' =>
      rw [h1, h2] at h
      simp [bxEq] at h
      obtain ⟨h3, h4⟩ := h
      show some (b.U, b.r.flat) = some (b'.U, b'.r.flat)
      rw [h3, rpEq_eq h4]
theorem noBx_HS {K : Tr Bx} {k : Nat} (h : noBx K k = true) : HS K k = none := by
  unfold noBx at h
  unfold HS
  cases h1 : K.get k with
  | none => rfl
  | some b => rw [h1] at h; cases h
theorem clear_p {Hw Hw' : HF} : Clear e0 e0 Hw Hw' := fun _k => ⟨fun h => absurd rfl h, fun _ => ⟨rfl, rfl⟩⟩
theorem Clear.symm {Hv Hv' Hw Hw' : HF} (h : Clear Hv Hv' Hw Hw') : Clear Hw Hw' Hv Hv' := fun k => ⟨(h k).2, (h k).1⟩
theorem nbeq {a b : Nat} (h : (!Nat.beq a b) = true) : a ≠ b := fun e => by subst e; rw [Nat.beq_refl] at h; cases h
theorem clear_rw {Hv Hv' Hw Hw' : HF} {k k' : Nat} (h1 : FootC Hv Hv' (.r k)) (h2 : ∀ j, j ≠ k' → Hw j = none ∧ Hw' j = none) (hne : k ≠ k') : Clear Hv Hv' Hw Hw' := fun j => by
  obtain ⟨h1, e⟩ := h1
  subst e
  refine ⟨fun h => absurd rfl h, fun h => ?_⟩
  by_cases ej : j = k
  · exact absurd (by rw [(h2 j (by omega)).1, (h2 j (by omega)).2]) h
  · exact ⟨h1 j ej, h1 j ej⟩
theorem clear_ww {Hv Hv' Hw Hw' : HF} {k k' : Nat} (h1 : ∀ j, j ≠ k → Hv j = none ∧ Hv' j = none) (h2 : ∀ j, j ≠ k' → Hw j = none ∧ Hw' j = none) (hne : k ≠ k') : Clear Hv Hv' Hw Hw' := fun j => by
  constructor
  · intro h
    by_cases ej : j = k'
    · exact absurd (by rw [(h1 j (by omega)).1, (h1 j (by omega)).2]) h
    · exact h2 j ej
  · intro h
    by_cases ej : j = k
    · exact absurd (by rw [(h2 j (by omega)).1, (h2 j (by omega)).2]) h
    · exact h1 j ej
theorem clear_wc {Hv Hv' Hw Hw' : HF} {k : Nat} (h1 : ∀ j, j ≠ k → Hv j = none ∧ Hv' j = none) (h2 : Hw k = none) (h3 : Hw' k = none) : Clear Hv Hv' Hw Hw' := fun j => by
  constructor
  · intro h
    by_cases ej : j = k
    · subst ej; exact ⟨h2, h3⟩
    · exact absurd (by rw [(h1 j ej).1, (h1 j ej).2]) h
  · intro h
    by_cases ej : j = k
    · subst ej; exact absurd (by rw [h2, h3]) h
    · exact h1 j ej
theorem clear_rc {Hv Hv' Hw Hw' : HF} {k : Nat} (h1 : FootC Hv Hv' (.r k)) (h2 : Hw k = Hw' k) : Clear Hv Hv' Hw Hw' := fun j => by
  obtain ⟨h1, e⟩ := h1
  subst e
  refine ⟨fun h => absurd rfl h, fun h => ?_⟩
  by_cases ej : j = k
  · subst ej; exact absurd h2.symm h
  · exact ⟨h1 j ej, h1 j ej⟩
theorem nw2 {Hv Hv' : HF} {k : Nat} (h : FootC Hv Hv' (.nw k)) : ∀ j, j ≠ k → Hv j = none ∧ Hv' j = none := fun j hj => ⟨by rw [h.1]; rfl, h.2 j hj⟩
theorem apart_clear {g g' : Lg} {Hv Hv' Hw Hw' : HF} (h1 : FootC Hv Hv' g) (h2 : FootC Hw Hw' g') (h : apart g g' = true) : Clear Hv Hv' Hw Hw' := by
  cases g with
  | p => obtain ⟨rfl, rfl⟩ := h1; exact clear_p
  | r k =>
    cases g' with
    | p => obtain ⟨rfl, rfl⟩ := h2; exact clear_p.symm
    | r k' =>
      obtain ⟨_, rfl⟩ := h1
      obtain ⟨_, rfl⟩ := h2
      exact fun j => ⟨fun h => absurd rfl h, fun h => absurd rfl h⟩
    | w k' => exact clear_rw h1 h2 (nbeq h)
    | nw k' => exact clear_rw h1 (nw2 h2) (nbeq h)
    | c K K' => obtain ⟨rfl, rfl⟩ := h2; exact clear_rc h1 (bxEq_HS h)
  | w k =>
    cases g' with
    | p => obtain ⟨rfl, rfl⟩ := h2; exact clear_p.symm
    | r k' => exact (clear_rw h2 h1 (nbeq h)).symm
    | w k' => exact clear_ww h1 h2 (nbeq h)
    | nw k' => exact clear_ww h1 (nw2 h2) (nbeq h)
    | c K K' =>
      obtain ⟨rfl, rfl⟩ := h2
      have h : (noBx K k && noBx K' k) = true := h
      rw [Bool.and_eq_true] at h
      exact clear_wc h1 (noBx_HS h.1) (noBx_HS h.2)
  | nw k =>
    cases g' with
    | p => obtain ⟨rfl, rfl⟩ := h2; exact clear_p.symm
    | r k' => exact (clear_rw h2 (nw2 h1) (nbeq h)).symm
    | w k' => exact clear_ww (nw2 h1) h2 (Ne.symm (nbeq h))
    | nw k' => exact clear_ww (nw2 h1) (nw2 h2) (nbeq h)
    | c K K' =>
      obtain ⟨rfl, rfl⟩ := h2
      have h : (noBx K k && noBx K' k) = true := h
      rw [Bool.and_eq_true] at h
      exact clear_wc (nw2 h1) (noBx_HS h.1) (noBx_HS h.2)
  | c K K' =>
    cases g' with
    | p => obtain ⟨rfl, rfl⟩ := h2; exact clear_p.symm
    | r k' => obtain ⟨rfl, rfl⟩ := h1; exact (clear_rc h2 (bxEq_HS h)).symm
    | w k' =>
      obtain ⟨rfl, rfl⟩ := h1
      have h : (noBx K k' && noBx K' k') = true := h
      rw [Bool.and_eq_true] at h
      exact (clear_wc h2 (noBx_HS h.1) (noBx_HS h.2)).symm
    | nw k' =>
      obtain ⟨rfl, rfl⟩ := h1
      have h : (noBx K k' && noBx K' k') = true := h
      rw [Bool.and_eq_true] at h
      exact (clear_wc (nw2 h2) (noBx_HS h.1) (noBx_HS h.2)).symm
    | c _ _ => cases h
theorem chkL_spec {mk : Nat} {g : Lg} : ∀ {l : LgL}, chkL mk g l = true → ∀ j g', (j, g') ∈ l → mk.testBit j = false → apart g' g = true
  | [], _, j, g', h, _ => by cases h
  | (i, q) :: l, hc, j, g', h, hb => by
    have hc : @Bool.rec (fun _ => Bool) (bA (apart q g) (chkL mk g l)) (chkL mk g l) (mk.testBit i) = true := hc
    rcases List.mem_cons.1 h with h | h
    · injection h with h1 h2
      subst h1 h2
      rw [hb] at hc
      have hc : bA (apart g' g) (chkL mk g l) = true := hc
      rw [bA_eq, Bool.and_eq_true] at hc
      exact hc.1
    · refine chkL_spec (l := l) ?_ j g' h hb
      cases hq : mk.testBit i with
      | true => rw [hq] at hc; exact hc
      | false =>
        rw [hq] at hc
        have hc : bA (apart q g) (chkL mk g l) = true := hc
        rw [bA_eq, Bool.and_eq_true] at hc
        exact hc.2
end
section
variable {P : Program} {ops : Array Oper} {o : Oper} {n m N : Nat} {L : LX} {T : Tr XV} {H : Tr Bx} {call : CallX}
theorem mask_fold {acc : List Nat} {j : Nat} : ∀ (l : List Nat) (m0 : Nat), (l.foldl (fun m j => m ||| 2 ^ j ||| acc.getD j 0) m0).testBit j = true → m0.testBit j = true ∨ ∃ b ∈ l, j = b ∨ (acc.getD b 0).testBit j = true
  | [], m0, h => .inl h
  | b :: l, m0, h => by
    rcases mask_fold l _ h with h | ⟨b', hb, h⟩
    · rw [Nat.testBit_or, Nat.testBit_or, Bool.or_eq_true, Bool.or_eq_true] at h
      rcases h with (h | h) | h
      · exact .inl h
      · rw [Nat.testBit_two_pow] at h
        have h : b = j := by simpa using h
        exact .inr ⟨b, List.mem_cons_self .., .inl h.symm⟩
      · exact .inr ⟨b, List.mem_cons_self .., .inr h⟩
    · exact .inr ⟨b', List.mem_cons_of_mem _ hb, h⟩
def InvM (ops : Array Oper) (acc : List Nat) : Prop := ∀ (i mk : Nat), acc[i]? = some mk → ∀ j, mk.testBit j = true → Prec ops j i
theorem masks_spec : ∀ (l : List Oper) (acc : List Nat), (∀ k, k < l.length → l[k]? = ops[acc.length + k]?) → InvM ops acc → InvM ops (l.foldl (fun acc o => acc ++ [mask1 acc o]) acc) ∧ (l.foldl (fun acc o => acc ++ [mask1 acc o]) acc).length = acc.length + l.length
  | [], acc, _, hi => ⟨hi, rfl⟩
  | o :: l, acc, hl, hi => by
    have ho : ops[acc.length]? = some o := by have := hl 0 (by simp); simpa using this.symm
    have hi2 : InvM ops (acc ++ [mask1 acc o]) := by
      intro i mk hmk j hj
      by_cases hlt : i < acc.length
      · rw [List.getElem?_append_left hlt] at hmk
        exact hi i mk hmk j hj
      · have hlen := (List.getElem?_eq_some_iff.1 hmk).1
        have e : i = acc.length := by simp at hlen; omega
        subst e
        rw [List.getElem?_append_right (Nat.le_refl _)] at hmk
        simp at hmk
        subst hmk
        rcases mask_fold (binding o) 0 hj with h | ⟨b, hb, h⟩
        · simp at h
        · rcases h with h | h
          · subst h; exact .one ho hb
          · refine Prec.tr ?_ (.one ho hb)
            cases hq : acc[b]? with
            | none => rw [List.getD_eq_getElem?_getD, hq] at h; simp at h
            | some mk => rw [List.getD_eq_getElem?_getD, hq] at h; exact hi b mk hq j h
    obtain ⟨h1, h2⟩ := masks_spec l (acc ++ [mask1 acc o]) (fun k hk => by
      have := hl (k + 1) (by simpa using hk)
      rw [List.length_append]
      simp only [List.length_cons, List.length_nil]
      rw [show acc.length + (0 + 1) + k = acc.length + (k + 1) by omega]
      simpa using this) hi2
    refine ⟨h1, ?_⟩
    rw [List.foldl_cons, h2]; simp; omega
structure DidC (P : Program) (ops : Array Oper) (o : Oper) (n m : Nat) (L : LX) (T : Tr XV) (N : Nat) (H : Tr Bx) (e : Evt) (L' : LX) (T' : Tr XV) (H' : Tr Bx) (g : Lg) : Prop where
  run : Runs P ops o (TS m L T) e ∨ Skips ops o (TS m L T) e
  nm : e.N = N
  le : N ≤ e.N'
  tmp : ∀ t y, TS m L' T' t = some y → upT o.dst e.x (TS m L T) t = some y
  tok : TOk (TS m L' T')
  hok : HOk H'
  hlt : HLt e.N' H'
  sub : ∀ k c, e.Hv k = some c → HS H k = some c
  put : ∀ k c, HS H' k = some c → put2 (HS H) e.Hv e.Hv' k = some c
  foot : FootC e.Hv e.Hv' g
theorem del_HS {k j : Nat} {c} (h : HS (H.del k) j = some c) : j ≠ k ∧ HS H j = some c := by
  unfold HS at h ⊢
  cases h9 : (H.del k).get j with
  | none => rw [h9] at h; cases h
  | some b' =>
    rw [h9] at h
    injection h with h
    obtain ⟨r1, r2⟩ := Tr.del_get H k j h9
    refine ⟨r1, ?_⟩
    rw [r2, ← h]; rfl
theorem delL_HS : ∀ {hs : List Nat} {H : Tr Bx} {j : Nat} {c}, HS (delL H hs) j = some c → j ∉ hs ∧ HS H j = some c
  | [], H, j, c, h => ⟨by simp, h⟩
  | k :: hs, H, j, c, h => by
    obtain ⟨h1, h2⟩ := delL_HS (hs := hs) (H := H.del k) h
    obtain ⟨h3, h4⟩ := del_HS h2
    exact ⟨by simp [h3, h1], h4⟩
theorem delL_get : ∀ {hs : List Nat} {H : Tr Bx} {j : Nat} {b : Bx}, (delL H hs).get j = some b → H.get j = some b
  | [], _H, _j, _b, h => h
  | k :: hs, H, j, _b, h => (Tr.del_get H k j (delL_get (hs := hs) (H := H.del k) h)).2
theorem addL_spec {H0 Hc : Tr Bx} (hO0 : HOk H0) (hL0 : HLt N H0) : ∀ {hs : List Nat} {H H2 : Tr Bx}, addL H0 Hc hs H = some H2 → HOk H → HLt N H → HOk H2 ∧ HLt N H2 ∧ ∀ j c, HS H2 j = some c → HS H j = some c ∨ (j ∈ hs ∧ HS H0 j = some c ∧ HS Hc j = none)
  | [], H, H2, h, hO, hL => by
    injection h with h
    subst h
    exact ⟨hO, hL, fun j c h => .inl h⟩
  | k :: hs, H, H2, h, hO, hL => by
    unfold addL at h
    split at h
    · rename_i b h1 h2
      obtain ⟨g1, g2, g3⟩ := addL_spec hO0 hL0 (hs := hs) h (HOk_set hO (hO0 k b h2).1 (hO0 k b h2).2) (HLt_set hL (Nat.le_refl _) (hL0 k b h2))
      refine ⟨g1, g2, fun j c hj => ?_⟩
      rcases g3 j c hj with q | ⟨q1, q2, q3⟩
      · rcases HS_set q with ⟨e1, e2⟩ | ⟨_, e2⟩
        · subst e1 e2
          exact .inr ⟨by simp, HS_get h2, by unfold HS; rw [h1]; rfl⟩
        · exact .inl e2
      · exact .inr ⟨by simp [q1], q2, q3⟩
    · cases h
theorem hidD_sound (hT : TOk (TS m L T)) (hO : HOk H) (hL : HLt N H) (hcall : CallOk P call) {i : XI} (hi : cI2 P n m ops o = some i) {hs : List Nat} {κ : LX → Tr XV → Nat → Tr Bx → Lg → Ro} (hr : hidD call i hs L T N H κ ≠ .no) :
    ∃ e L' T' H' g, hidD call i hs L T N H κ = κ L' T' e.N' H' g ∧ DidC P ops o n m L T N H e L' T' H' g := by
  cases hs with
  | nil =>
    obtain ⟨e, L', T', H', g, e1, hd⟩ := opG_sound (ops := ops) (n := n) hT hO hL hcall hi (κ := κ) hr
    exact ⟨e, L', T', H', g, e1, hd.run, hd.nm, hd.le, hd.tmp, hd.tok, hd.hok, hd.hlt, hd.sub, hd.put, hd.foot.c⟩
  | cons h t =>
    have hO2 : HOk (delL H (h :: t)) := fun j b hj => hO j b (delL_get hj)
    have hL2 : HLt N (delL H (h :: t)) := fun j b hj => hL j b (delL_get hj)
    obtain ⟨e, L', T', H', g, e1, hd⟩ := opG_sound (ops := ops) (n := n) hT hO2 hL2 hcall hi (κ := fun L T N H' g => bI (isCL g) (@Option.rec (Tr Bx) (fun _ => Ro) .no (fun H2 => κ L T N H2 g) (addL H H' (h :: t) H')) .no) hr
    have hr1 : hidD call i (h :: t) L T N H κ = bI (isCL g) (@Option.rec (Tr Bx) (fun _ => Ro) .no (fun H2 => κ L' T' e.N' H2 g) (addL H H' (h :: t) H')) .no := e1
    have hcl : isCL g = true := by
      cases hq : isCL g with
      | true => rfl
      | false => rw [hr1, hq] at hr; exact absurd rfl hr
    have hr2 : hidD call i (h :: t) L T N H κ = @Option.rec (Tr Bx) (fun _ => Ro) .no (fun H2 => κ L' T' e.N' H2 g) (addL H H' (h :: t) H') := by rw [hr1, hcl]; rfl
    cases ha : addL H H' (h :: t) H' with
    | none => rw [hr2, ha] at hr; exact absurd rfl hr
    | some H2 =>
      rw [ha] at hr2
      have hLe : HLt e.N' H := fun j b hj => Nat.lt_of_lt_of_le (hL j b hj) hd.le
      obtain ⟨g1, g2, g3⟩ := addL_spec hO hLe ha hd.hok hd.hlt
      refine ⟨e, L', T', H2, g, hr2, hd.run, hd.nm, hd.le, hd.tmp, hd.tok, g1, g2, fun k c hk => (delL_HS (hd.sub k c hk)).2, fun k c hk => ?_, hd.foot.c⟩
      rcases g3 k c hk with q | ⟨q1, q2, q3⟩
      · have hp := hd.put k c q
        rcases put2_some hp with r | ⟨r1, r2, r3⟩
        · unfold put2; rw [r]
        · unfold put2; rw [r1, r2]; exact (delL_HS r3).2
      · -- a hidden box
        have hv : e.Hv k = none := by
          cases hx : e.Hv k with
          | none => rfl
          | some d => exact absurd q1 (delL_HS (hd.sub k d hx)).1
        have hv' : e.Hv' k = none := by
          cases hx : e.Hv' k with
          | none => rfl
          | some d =>
            exfalso
            have hf := hd.foot
            cases g with
            | p => obtain ⟨_, h2, _⟩ := hf; rw [h2] at hx; cases hx
            | r b => obtain ⟨_, h2, _⟩ := hf; rw [h2, hv] at hx; cases hx
            | w b => cases hcl
            | nw b => cases hcl
            | c K K' => obtain ⟨_, h2, _, h4⟩ := hf; rw [h2, h4, q3] at hx; cases hx
        unfold put2; rw [hv', hv]; exact q2
end
section
variable {P : Program} {ops : Array Oper} {n m : Nat} {call : CallX}
def Logged (lr lw : LgL) (j : Nat) (g : Lg) : Prop := (j, g) ∈ lw ∨ ((j, g) ∈ lr ∧ ∃ b, g = .r b)
theorem bI_no {b : Bool} {x : Ro} (h : bI b x .no ≠ .no) : b = true := by
  cases b with
  | true => rfl
  | false => exact absurd rfl h
theorem logB_spec {mk k : Nat} {g : Lg} {lr lw : LgL} {κ : LgL → LgL → Ro} (h : logB mk k g lr lw κ ≠ .no) : logB mk k g lr lw κ = κ lr ((k, g) :: lw) ∧ ∀ j g' Hv Hv' Hw Hw', Logged lr lw j g' → mk.testBit j = false → FootC Hv Hv' g' → FootC Hw Hw' g → Clear Hv Hv' Hw Hw' := by
  have h1 := bI_no (b := chkL mk g lw) (x := bI (chkL mk g lr) (κ lr ((k, g) :: lw)) .no) h
  have e1 : logB mk k g lr lw κ = bI (chkL mk g lr) (κ lr ((k, g) :: lw)) .no := by unfold logB; rw [h1]; rfl
  rw [e1] at h
  have h2 := bI_no h
  refine ⟨by rw [e1, h2]; rfl, fun j g' Hv Hv' Hw Hw' hl hb f1 f2 => ?_⟩
  rcases hl with hl | ⟨hl, _⟩
  · exact apart_clear f1 f2 (chkL_spec h1 j g' hl hb)
  · exact apart_clear f1 f2 (chkL_spec h2 j g' hl hb)
theorem logD_spec {mk k : Nat} {g : Lg} {lr lw : LgL} {κ : LgL → LgL → Ro} (h : logD mk k g lr lw κ ≠ .no) : ∃ lr' lw', logD mk k g lr lw κ = κ lr' lw' ∧ (∀ j g', Logged lr lw j g' → Logged lr' lw' j g') ∧ (g = .p ∨ Logged lr' lw' k g) ∧
    ∀ j g' Hv Hv' Hw Hw', Logged lr lw j g' → mk.testBit j = false → FootC Hv Hv' g' → FootC Hw Hw' g → Clear Hv Hv' Hw Hw' := by
  have hB : ∀ {g : Lg}, logB mk k g lr lw κ ≠ .no → ∃ lr' lw', logB mk k g lr lw κ = κ lr' lw' ∧ (∀ j g', Logged lr lw j g' → Logged lr' lw' j g') ∧ (g = .p ∨ Logged lr' lw' k g) ∧
      ∀ j g' Hv Hv' Hw Hw', Logged lr lw j g' → mk.testBit j = false → FootC Hv Hv' g' → FootC Hw Hw' g → Clear Hv Hv' Hw Hw' := fun {g} h => by
    obtain ⟨h1, h2⟩ := logB_spec h
    exact ⟨lr, (k, g) :: lw, h1, fun j g' hl => hl.imp (fun q => List.mem_cons_of_mem _ q) id, .inr (.inl (List.mem_cons_self ..)), h2⟩
  cases g with
  | p => exact ⟨lr, lw, rfl, fun _ _ h => h, .inl rfl, fun j g' Hv Hv' Hw Hw' _ _ _ f2 => by obtain ⟨rfl, rfl⟩ := f2; exact clear_p.symm⟩
  | r b =>
    have h1 := bI_no (b := chkL mk (.r b) lw) (x := κ ((k, .r b) :: lr) lw) h
    refine ⟨(k, .r b) :: lr, lw, ?_, fun j g' hl => hl.imp id fun q => ⟨List.mem_cons_of_mem _ q.1, q.2⟩, .inr (.inr ⟨List.mem_cons_self .., b, rfl⟩), fun j g' Hv Hv' Hw Hw' hl hb f1 f2 => ?_⟩
    · show bI (chkL mk (.r b) lw) (κ ((k, .r b) :: lr) lw) .no = _
      rw [h1]; rfl
    · rcases hl with hl | ⟨hl, b', rfl⟩
      · exact apart_clear f1 f2 (chkL_spec h1 j g' hl hb)
      · exact apart_clear f1 f2 rfl
  | w b => exact hB h
  | nw b => exact hB h
  | c K K' => exact hB h
def PM (ops : Array Oper) (j i : Nat) : Prop := ((masks ops.toList).getD i 0).testBit j = true
structure InvD (P : Program) (ops : Array Oper) (T0 : TX) (H0 : HF) (N0 : Nat) (full : List PE) (N : Nat) : Prop where
  all : ∀ (j : Nat) (p : PE), full[j]? = some p → ∃ Tl, (Runs P ops p.1 Tl p.2 ∨ Skips ops p.1 Tl p.2) ∧ (∀ t x, Tl t = some x → fT (full.take j) T0 t = some x) ∧ ∀ k c, p.2.Hv k = some c → fH (full.take j) H0 k = some c
  nm : ∀ (j : Nat) (p : PE), full[j]? = some p → N0 ≤ p.2.N ∧ p.2.N ≤ p.2.N' ∧ p.2.N' ≤ N
  mono : ∀ (j i : Nat) (p q : PE), j < i → full[j]? = some p → full[i]? = some q → p.2.N' ≤ q.2.N
  con : ∀ (j i : Nat) (p q : PE), j < i → ¬ PM ops j i → full[j]? = some p → full[i]? = some q → Clear p.2.Hv p.2.Hv' q.2.Hv q.2.Hv'
theorem fT_snoc (l : List PE) (p : PE) (T : TX) : fT (l ++ [p]) T = upT p.1.dst p.2.x (fT l T) := by unfold fT; rw [List.foldl_append]; rfl
theorem fH_snoc (l : List PE) (p : PE) (H : HF) : fH (l ++ [p]) H = put2 (fH l H) p.2.Hv p.2.Hv' := by unfold fH; rw [List.foldl_append]; rfl
theorem upT_mono {d : Option Nat} {x : XV} {T1 T2 : TX} (h : ∀ t y, T1 t = some y → T2 t = some y) : ∀ t y, upT d x T1 t = some y → upT d x T2 t = some y := by
  intro t y ht
  unfold upT at ht ⊢
  split at ht
  · rename_i e; rw [if_pos e]; exact ht
  · rename_i e; rw [if_neg e]; exact h t y ht
theorem put2_mono {H1 H2 Hv Hv' : HF} (h : ∀ k c, H1 k = some c → H2 k = some c) : ∀ k c, put2 H1 Hv Hv' k = some c → put2 H2 Hv Hv' k = some c := by
  intro k c hk
  rcases put2_some hk with r | ⟨r1, r2, r3⟩
  · unfold put2; rw [r]
  · unfold put2; rw [r1, r2]; exact h k c r3
theorem runD_sound (hcall : CallOk P call) {T0 : TX} {H0 : HF} {N0 : Nat} : ∀ (l : List Oper) (ms : List Nat) (js : List XJ) (pre : List PE) (L : LX) (T : Tr XV) (N : Nat) (H : Tr Bx) (lr lw : LgL),
    withMk P n m ops ms l = some js → ms.length = l.length → (∀ k, k < l.length → ms[k]? = (masks ops.toList)[pre.length + k]?) → ops.toList = pre.map Prod.fst ++ l →
    TOk (TS m L T) → HOk H → HLt N H → N0 ≤ N → InvD P ops T0 H0 N0 pre N → (∀ t y, TS m L T t = some y → fT pre T0 t = some y) → (∀ k c, HS H k = some c → fH pre H0 k = some c) →
    (∀ (j : Nat) (p : PE), pre[j]? = some p → (p.2.Hv = e0 ∧ p.2.Hv' = e0) ∨ ∃ g, FootC p.2.Hv p.2.Hv' g ∧ Logged lr lw j g) → runD call js pre.length L T N H lr lw ≠ .no →
    ∃ full T' N' H', runD call js pre.length L T N H lr lw = .n T' N' H' ∧ N ≤ N' ∧ InvD P ops T0 H0 N0 full N' ∧ full.map Prod.fst = ops.toList ∧ TOk (TS m [] T') ∧ HOk H' ∧ HLt N' H' ∧
      (∀ t y, TS m [] T' t = some y → fT full T0 t = some y) ∧ ∀ k c, HS H' k = some c → fH full H0 k = some c
  | [], ms, js, pre, L, T, N, H, lr, lw, hw, hml, hms, ho, hT, hO, hL, hN, hi, hts, hhs, hlg, hr => by
    have : js = [] := by
      cases ms with
      | nil => injection hw with hw; exact hw.symm
      | cons a b => simp at hml
    subst this
    refine ⟨pre, T, N, H, rfl, Nat.le_refl _, hi, by rw [ho]; simp, fun t y h => hT t y (TS_nil h), hO, hL, fun t y h => hts t y (TS_nil h), hhs⟩
  | o :: l, [], js, pre, L, T, N, H, lr, lw, hw, hml, hms, ho, hT, hO, hL, hN, hi, hts, hhs, hlg, hr => by simp at hml
  | o :: l, mk :: ms, js, pre, L, T, N, H, lr, lw, hw, hml, hms, ho, hT, hO, hL, hN, hi, hts, hhs, hlg, hr => by
    unfold withMk at hw
    split at hw
    · cases hw
    · rename_i x hx
      split at hw
      · cases hw
      · rename_i xs hxs
        injection hw with hw
        subst hw
        have e1 : runD call (⟨x, isCallO o.op, mk⟩ :: xs) pre.length L T N H lr lw = hidD call x (@Bool.rec (fun _ => List Nat) [] (hidM mk lw) (isCallO o.op)) L T N H fun L T N H g => logD mk pre.length g lr lw fun lr lw => runD call xs (pre.length + 1) L T N H lr lw := rfl
        rw [e1] at hr
        obtain ⟨e, L', T', H', g, e2, hd⟩ := hidD_sound (ops := ops) (n := n) hT hO hL hcall hx hr
        rw [e2] at hr
        obtain ⟨lr', lw', e3, g1, g2, g3⟩ := logD_spec hr
        rw [e3] at hr
        have hmk : (masks ops.toList)[pre.length]? = some mk := by have := hms 0 (by simp); simpa using this.symm
        have hlen : (pre ++ [(o, e)]).length = pre.length + 1 := by simp
        have hin : ∀ (j : Nat) (p : PE), (pre ++ [(o, e)])[j]? = some p → (j < pre.length ∧ pre[j]? = some p) ∨ (j = pre.length ∧ p = (o, e)) := by
          intro j p hj
          by_cases hlt : j < pre.length
          · rw [List.getElem?_append_left hlt] at hj; exact .inl ⟨hlt, hj⟩
          · have h1 := (List.getElem?_eq_some_iff.1 hj).1
            have ej : j = pre.length := by simp at h1; omega
            subst ej
            rw [List.getElem?_append_right (Nat.le_refl _)] at hj
            simp at hj
            exact .inr ⟨rfl, hj.symm⟩
        have htk : ∀ j, j ≤ pre.length → (pre ++ [(o, e)]).take j = pre.take j := fun j hj => List.take_append_of_le_length hj
        have hne : N ≤ e.N' := hd.le
        have hi2 : InvD P ops T0 H0 N0 (pre ++ [(o, e)]) e.N' := by
          refine ⟨fun j p hj => ?_, fun j p hj => ?_, fun j i p q hji hj hq => ?_, fun j i p q hji hpm hj hq => ?_⟩
          · rcases hin j p hj with ⟨hlt, hj⟩ | ⟨rfl, rfl⟩
            · rw [htk j (Nat.le_of_lt hlt)]; exact hi.all j p hj
            · rw [htk pre.length (Nat.le_refl _), List.take_length]
              exact ⟨TS m L T, hd.run, hts, fun k c hk => hhs k c (hd.sub k c hk)⟩
          · rcases hin j p hj with ⟨hlt, hj⟩ | ⟨rfl, rfl⟩
            · have := hi.nm j p hj; exact ⟨this.1, this.2.1, Nat.le_trans this.2.2 hne⟩
            · refine ⟨by show N0 ≤ e.N; rw [hd.nm]; exact hN, by show e.N ≤ e.N'; rw [hd.nm]; exact hne, Nat.le_refl _⟩
          · rcases hin i q hq with ⟨hlt, hq⟩ | ⟨rfl, rfl⟩
            · rcases hin j p hj with ⟨_, hj⟩ | ⟨rfl, rfl⟩
              · exact hi.mono j i p q hji hj hq
              · omega
            · rcases hin j p hj with ⟨_, hj⟩ | ⟨rfl, rfl⟩
              · show p.2.N' ≤ e.N
                rw [hd.nm]; exact (hi.nm j p hj).2.2
              · omega
          · rcases hin i q hq with ⟨hlt, hq⟩ | ⟨rfl, rfl⟩
            · rcases hin j p hj with ⟨_, hj⟩ | ⟨rfl, rfl⟩
              · exact hi.con j i p q hji hpm hj hq
              · omega
            · rcases hin j p hj with ⟨_, hj⟩ | ⟨rfl, rfl⟩
              · rcases hlg j p hj with ⟨h1, h2⟩ | ⟨g', f1, hl⟩
                · rw [h1, h2]; exact clear_p
                · refine g3 j g' _ _ _ _ hl ?_ f1 hd.foot
                  cases hb : mk.testBit j with
                  | false => rfl
                  | true =>
                    exfalso
                    apply hpm
                    unfold PM
                    rw [List.getD_eq_getElem?_getD, hmk]; exact hb
              · omega
        have hlg2 : ∀ (j : Nat) (p : PE), (pre ++ [(o, e)])[j]? = some p → (p.2.Hv = e0 ∧ p.2.Hv' = e0) ∨ ∃ g, FootC p.2.Hv p.2.Hv' g ∧ Logged lr' lw' j g := by
          intro j p hj
          rcases hin j p hj with ⟨hlt, hj⟩ | ⟨rfl, rfl⟩
          · rcases hlg j p hj with h | ⟨g', f1, hl⟩
            · exact .inl h
            · exact .inr ⟨g', f1, g1 j g' hl⟩
          · rcases g2 with rfl | h
            · exact .inl hd.foot
            · exact .inr ⟨g, hd.foot, h⟩
        rw [← hlen] at hr
        obtain ⟨full, T2, N2, H2, e4, k1, k2, k3, k4, k5, k6, k7, k8⟩ := runD_sound hcall l ms xs (pre ++ [(o, e)]) L' T' e.N' H' lr' lw' hxs (by simpa using hml) (fun k hk => by
            have := hms (k + 1) (by simpa using hk)
            rw [hlen, show pre.length + 1 + k = pre.length + (k + 1) by omega]
            simpa using this) (by rw [ho]; simp) hd.tok hd.hok hd.hlt (Nat.le_trans hN hne) hi2
          (fun t y h => by rw [fT_snoc]; exact upT_mono hts t y (hd.tmp t y h)) (fun k c h => by rw [fH_snoc]; exact put2_mono hhs k c (hd.put k c h)) hlg2 hr
        rw [hlen] at e4
        exact ⟨full, T2, N2, H2, e1.trans (e2.trans (e3.trans e4)), Nat.le_trans hne k1, k2, k3, k4, k5, k6, k7, k8⟩
end
section
variable {P : Program} {ops : Array Oper} {n m N : Nat} {T : Tr XV} {H : Tr Bx} {call : CallX}
theorem withMk_at : ∀ {ms : List Nat} {l : List Oper} {js : List XJ}, withMk P n m ops ms l = some js → ms.length = l.length → ∀ o ∈ l, ∃ x, cI2 P n m ops o = some x
  | _, [], _, _, _, o, ho => by cases ho
  | [], _ :: _, _, _, hl, o, ho => by simp at hl
  | mk :: ms, o' :: l, js, h, hl, o, ho => by
    unfold withMk at h
    split at h
    · cases h
    · rename_i x hx
      split at h
      · cases h
      · rename_i xs hxs
        rcases List.mem_cons.1 ho with rfl | ho
        · exact ⟨x, hx⟩
        · exact withMk_at hxs (by simpa using hl) o ho
theorem dstIn_spec {d : Option Nat} {l : List Nat} (h : dstIn d l = false) : ∀ t, d = some t → t ∉ l := by
  intro t ht hm
  subst ht
  have : l.any (Nat.beq t) = true := any_beq.2 hm
  rw [show dstIn (some t) l = l.any (Nat.beq t) from rfl, this] at h
  cases h
theorem unB_spec {ms : List Nat} {l : List Oper} {i : Nat} {q : Oper} (h : unB ops ms l i = true) (hq : l[i]? = some q) : (∀ j ∈ binding q, j < i) ∧ ∀ j p, j < i → (ms.getD i 0).testBit j = false → l[j]? = some p → indB ops p q = true := by
  unfold unB at h
  rw [hq] at h
  dsimp only at h
  rw [Bool.and_eq_true] at h
  refine ⟨fun j hj => blt_iff.1 (List.all_eq_true.1 h.1 j hj), fun j p hji hb hp => ?_⟩
  have := List.all_eq_true.1 h.2 j (List.mem_range.2 hji)
  rw [hb, hp] at this
  simpa using this
theorem drw_sound (hfol : P.follows .mixedOrders = true) (hcall : CallOk P call) (hchk : (List.range ops.size).all (unB ops (masks ops.toList) ops.toList) = true) {js : List XJ} (hw : withMk P n m ops (masks ops.toList) ops.toList = some js)
    (hT : TOk (TS m [] T)) (hO : HOk H) (hL : HLt N H) (hr : runD call js 0 [] T N H [] [] ≠ .no) {Q : Exit → Act → World → Prop} {id : Nat} :
    ∃ T' N' H', runD call js 0 [] T N H [] [] = .n T' N' H' ∧ N ≤ N' ∧ TOk (TS m [] T') ∧ HOk H' ∧ HLt N' H' ∧ ∀ V A β a w, (∀ k, A k → ¬ (N ≤ k ∧ k < N')) → StX V A n (TS m [] T) (HS H) β a w →
      (∀ a' w', Ends P n m V A N (HS H) β w N' (TS m [] T') (HS H') a' w' → Q .normal a' w') → (Code.region id ops true).wp P Q a w := by
  obtain ⟨hM, hMl⟩ := masks_spec (ops := ops) ops.toList [] (fun k hk => by simp) (fun i mk h => by simp at h)
  have hMl : (masks ops.toList).length = ops.toList.length := by rw [show (masks ops.toList).length = _ from hMl]; simp
  have hi0 : InvD P ops (TS m [] T) (HS H) N [] N := ⟨fun j p h => by simp at h, fun j p h => by simp at h, fun j i p q _ h => by simp at h, fun j i p q _ _ h => by simp at h⟩
  obtain ⟨full, T', N', H', e1, k1, k2, k3, k4, k5, k6, k7, k8⟩ := runD_sound (P := P) (ops := ops) (n := n) hcall (T0 := TS m [] T) (H0 := HS H) (N0 := N) ops.toList (masks ops.toList) js [] [] T N H [] [] hw hMl (fun k _ => by simp) rfl hT hO hL (Nat.le_refl _) hi0
    (fun t y h => h) (fun k c h => h) (fun j p h => by simp at h) hr
  refine ⟨T', N', H', e1, k1, k4, k5, k6, fun V A β a w hA hst hQ => ?_⟩
  have hfl : full.length = ops.size := by have := congrArg List.length k3; simpa using this
  have hget : ∀ {i : Nat} {o : Oper} {e : Evt}, ops[i]? = some o → (full.map Prod.snd)[i]? = some e → full[i]? = some (o, e) := by
    intro i o e ho he
    have h1 : (full.map Prod.fst)[i]? = some o := by rw [k3, Array.getElem?_toList]; exact ho
    rw [List.getElem?_map] at h1 he
    cases hf : full[i]? with
    | none => rw [hf] at he; cases he
    | some p =>
      rw [hf] at h1 he
      injection h1 with h1
      injection he with he
      rw [← h1, ← he]
  have hgete : ∀ {i : Nat} {e : Evt}, (full.map Prod.snd)[i]? = some e → ∃ o, full[i]? = some (o, e) := by
    intro i e he
    rw [List.getElem?_map] at he
    cases hf : full[i]? with
    | none => rw [hf] at he; cases he
    | some p => rw [hf] at he; injection he with he; exact ⟨p.1, by rw [← he]⟩
  have hU : uT2s ops.toList (full.map Prod.snd) = full.map fun p => uT2 p.1.dst p.2 := by
    rw [← k3]; exact zip_pairs (fun (o : Oper) e => uT2 o.dst e) full
  have hV : uHs (full.map Prod.snd) = full.map fun p => uH p.2 := by unfold uHs; rw [List.map_map]; rfl
  have hTi : ∀ i, upf (fun j => decide (j < i)) 0 (uT2s ops.toList (full.map Prod.snd)) (TS m [] T) = fT (full.take i) (TS m [] T) := fun i => by rw [hU, upf_take, ← List.map_take, foldT]
  have hHi : ∀ i, upf (fun j => decide (j < i)) 0 (uHs (full.map Prod.snd)) (HS H) = fH (full.take i) (HS H) := fun i => by
    rw [hV, upf_take, ← List.map_take]
    refine foldH _ _ (fun j p hj k c hk => ?_)
    have hji : j < i := by
      have := (List.getElem?_eq_some_iff.1 hj).1
      simp at this; omega
    rw [List.getElem?_take, if_pos hji] at hj
    obtain ⟨_, _, _, h3⟩ := k2.all j p hj
    rw [List.take_take, Nat.min_eq_left (Nat.le_of_lt hji)]
    exact h3 k c hk
  have hTa : upf (fun _ => true) 0 (uT2s ops.toList (full.map Prod.snd)) (TS m [] T) = fT full (TS m [] T) := by rw [hU, upf_all, foldT]
  have hHa : upf (fun _ => true) 0 (uHs (full.map Prod.snd)) (HS H) = fH full (HS H) := by
    rw [hV, upf_all]
    refine foldH _ _ (fun j p hj k c hk => ?_)
    obtain ⟨_, _, _, h3⟩ := k2.all j p hj
    exact h3 k c hk
  have hub : ∀ {i : Nat} {o : Oper}, ops[i]? = some o → (∀ j ∈ binding o, j < i) ∧ ∀ j p, j < i → ((masks ops.toList).getD i 0).testBit j = false → ops.toList[j]? = some p → indB ops p o = true := fun {i o} ho => by
    have hlt := (Array.getElem?_eq_some_iff.1 ho).1
    exact unB_spec (List.all_eq_true.1 hchk i (List.mem_range.2 hlt)) (by rw [Array.getElem?_toList]; exact ho)
  refine wp_region_any hfol ?_
  have hdrew : StX V A n (TS m [] T) (HS H) β a w.drew := by
    refine ⟨mem_drew hst.mem, hst.dfr, hst.siz, fun t x ht => ?_⟩
    obtain ⟨v, e, hr⟩ := hst.tmp t x ht
    have hk2 : Keep (Zs V (HS H) β) (Zs V (HS H) β) w w.drew := ⟨Nat.le_refl _, fun _ _ _ => rfl, fun _ _ h => h⟩
    exact ⟨v, e, hr.mono hk2 (fun _ h => h) (fun _ _ => rfl)⟩
  have hfalse : ∀ j, (Array.replicate ops.size false).getD j false = false := fun j => by simp [Array.getD]
  have hz1 : upf (fun j => (Array.replicate ops.size false).getD j false) 0 (uT2s ops.toList (full.map Prod.snd)) (TS m [] T) = TS m [] T := funext fun t => upf_none _ _ _ fun j u _ hm => by rw [hfalse] at hm; cases hm
  have hz2 : upf (fun j => (Array.replicate ops.size false).getD j false) 0 (uHs (full.map Prod.snd)) (HS H) = HS H := funext fun t => upf_none _ _ _ fun j u _ hm => by rw [hfalse] at hm; cases hm
  refine any_order (P := P) (V := V) (n := n) (Q := Q) (fun i o j ho hj => (hub ho).1 j hj) (fun i o t ho ht => ?_) (PM ops) (fun j i hp => ?_) (fun j i oj oi hji hpm hoj hoi => ?_) (es := full.map Prod.snd) (by simp [hfl]) (T0 := TS m [] T) (H0 := HS H) (N0 := N) (Nn := N') (A0 := A) (β0 := β) (w0 := w)
    (fun i o e ho he => ?_) (fun i e he => ?_) (fun j i ej ei hji hej hei => ?_) (fun j i ej ei hji hpm hej hei => ?_) k1 hA (fun A' β' a' w' h1 h2 h3 h4 => ?_) ops.size (Array.replicate ops.size false) A β a w.drew (by simp) (by unfold unl; refine Nat.le_trans List.countP_le_length ?_; simp) (fun i o j hi => by rw [hfalse] at hi; cases hi) (fun _ h => h) (fun _ h => .inl h) ?_ ?_
  · obtain ⟨x, hx⟩ := withMk_at hw hMl o (Array.mem_toList_iff.2 (Array.mem_of_getElem? ho))
    exact (cI2_some hx).1 t ht
  · unfold PM at hp
    cases hq : (masks ops.toList)[i]? with
    | none => rw [List.getD_eq_getElem?_getD, hq] at hp; simp at hp
    | some mk => rw [List.getD_eq_getElem?_getD, hq] at hp; exact hM i mk hq j hp
  · have hb : ((masks ops.toList).getD i 0).testBit j = false := by
      cases hb : ((masks ops.toList).getD i 0).testBit j with
      | false => rfl
      | true => exact absurd hb hpm
    have hind := (hub hoi).2 j oj hji hb (by rw [Array.getElem?_toList]; exact hoj)
    unfold indB at hind
    simp only [Bool.and_eq_true, Bool.not_eq_true'] at hind
    obtain ⟨⟨h1, h2⟩, h3⟩ := hind
    refine ⟨fun d hd => ⟨dstIn_spec h1 d hd, fun he => ?_⟩, fun d hd => dstIn_spec h2 d hd⟩
    rw [hd, he] at h3
    have h3 : Nat.beq d d = false := h3
    rw [Nat.beq_refl] at h3; cases h3
  · obtain ⟨Tl, g1, g2, g3⟩ := k2.all i (o, e) (hget ho he)
    exact ⟨Tl, g1, fun t x _ hx => by rw [hTi]; exact g2 t x hx, fun k c hk => by rw [hHi]; exact g3 k c hk⟩
  · obtain ⟨o, ho⟩ := hgete he
    have := k2.nm i (o, e) ho
    exact ⟨this.1, this.2.2⟩
  · obtain ⟨o, ho⟩ := hgete hej
    obtain ⟨o2, ho2⟩ := hgete hei
    exact k2.mono j i _ _ hji ho ho2
  · obtain ⟨o, ho⟩ := hgete hej
    obtain ⟨o2, ho2⟩ := hgete hei
    exact k2.con j i _ _ hji hpm ho ho2
  · rw [hHa] at h3
    rw [hTa, hHa] at h4
    exact hQ a' w' ⟨A', β', h1, h2, h3.less k8, h4.less k7 k8⟩
  · rw [hz2]
    exact ⟨rfl, rfl, rfl, Nat.le_refl _, fun _ _ _ => rfl, fun _ _ => rfl, fun k hk => .inr ⟨k, hk, rfl⟩, fun _ h => .inl h⟩
  · rw [hz1, hz2]; exact hdrew
end
section
variable {P : Program} {n m : Nat} {call : CallX}
abbrev Oc := Exit × Tr XV × Nat × Tr Bx
def Ro.out : Ro → Option Oc
  | .no => none
  | .n T N H => some (.normal, T, N, H)
  | .x id T N H => some (.exit id, T, N, H)
  | .r T N H => some (.ret, T, N, H)
def Does (P : Program) (n m : Nat) (c : (Exit → Act → World → Prop) → Act → World → Prop) (T : Tr XV) (N : Nat) (H : Tr Bx) (o : Oc) : Prop :=
  N ≤ o.2.2.1 ∧ TOk (TS m [] o.2.1) ∧ HOk o.2.2.2 ∧ HLt o.2.2.1 o.2.2.2 ∧ ∀ Q V A β a w, (∀ k, A k → ¬ (N ≤ k ∧ k < o.2.2.1)) → StX V A n (TS m [] T) (HS H) β a w →
    (∀ a' w', Ends P n m V A N (HS H) β w o.2.2.1 (TS m [] o.2.1) (HS o.2.2.2) a' w' → Q o.1 a' w') → c Q a w
def CodeOk (P : Program) (n m : Nat) (c : Code) (run : RunK) : Prop := ∀ call, CallOk P call → ∀ f T N H o, TOk (TS m [] T) → HOk H → HLt N H → (run call f T N H).out = some o → Does P n m (fun Q => c.wp P Q) T N H o
theorem Ends.refl {V A : Nat → Prop} {T : TX} {H : HF} {β : Nat → Pl} {a : Act} {w : World} {N : Nat} (h : StX V A n T H β a w) : Ends P n m V A N H β w N T H a w :=
  ⟨A, β, fun _ h => h, fun _ h => .inl h, Hst.refl, h⟩
theorem Does.skip {T : Tr XV} {N : Nat} {H : Tr Bx} {e : Exit} {c : (Exit → Act → World → Prop) → Act → World → Prop} (hT : TOk (TS m [] T)) (hO : HOk H) (hL : HLt N H) (h : ∀ Q a w, Q e a w → c Q a w) : Does P n m c T N H (e, T, N, H) :=
  ⟨Nat.le_refl _, hT, hO, hL, fun Q _V _A _β a w _ hst hQ => h Q a w (hQ a w (Ends.refl hst))⟩
theorem Does.seq {T T1 : Tr XV} {N N1 : Nat} {H H1 : Tr Bx} {o : Oc} {e : Exit} {c d b : (Exit → Act → World → Prop) → Act → World → Prop} (h1 : Does P n m c T N H (e, T1, N1, H1)) (h2 : Does P n m d T1 N1 H1 o)
    (h : ∀ Q a w, (∀ Q', (∀ a' w', d Q a' w' → Q' e a' w') → c Q' a w) → b Q a w) : Does P n m b T N H o := by
  obtain ⟨k1, k2, k3, k4, k5⟩ := h1
  obtain ⟨l1, l2, l3, l4, l5⟩ := h2
  refine ⟨Nat.le_trans k1 l1, l2, l3, l4, fun Q V A β a w hA hst hQ => h Q a w fun Q' hq' => ?_⟩
  refine k5 Q' V A β a w (fun k hk hh => hA k hk ⟨hh.1, Nat.lt_of_lt_of_le hh.2 l1⟩) hst fun a1 w1 ⟨A1, β1, f1, f2, f3, f4⟩ => hq' a1 w1 ?_
  refine l5 Q V A1 β1 a1 w1 (fresh_next hA f2 k1) f4 fun a2 w2 ⟨A2, β2, g1, g2, g3, g4⟩ => ?_
  exact hQ a2 w2 ⟨A2, β2, fun k hk => g1 k (f1 k hk), fun k hk => Ad_mid f2 k1 l1 k (g2 k hk), (f3.wide (Nat.le_refl _) l1).trans f1 (g3.wide k1 (Nat.le_refl _)), g4⟩
theorem Does.as {T : Tr XV} {N : Nat} {H : Tr Bx} {o : Oc} {e' : Exit} {c b : (Exit → Act → World → Prop) → Act → World → Prop} (h1 : Does P n m c T N H o)
    (h : ∀ Q a w, (∀ Q', (∀ a' w', Q e' a' w' → Q' o.1 a' w') → c Q' a w) → b Q a w) : Does P n m b T N H (e', o.2) := by
  obtain ⟨k1, k2, k3, k4, k5⟩ := h1
  exact ⟨k1, k2, k3, k4, fun Q V A β a w hA hst hQ => h Q a w fun Q' hq' => k5 Q' V A β a w hA hst fun a' w' he => hq' a' w' (hQ a' w' he)⟩
noncomputable def loopR (c : RunK) (call : CallX) (F : Nat) (g : Nat) : Tr XV → Nat → Tr Bx → Ro := @Nat.rec (fun _ => Tr XV → Nat → Tr Bx → Ro) (fun _ _ _ => .no) (fun _ ih T N H => @Ro.rec (fun _ => Ro) .no (fun T N H => ih T N H) (fun id T N H => .x id T N H) (fun T N H => .r T N H) (c call F T N H)) g
theorem loop_sound {c : Code} {run : RunK} (hc : CodeOk P n m c run) (hcall : CallOk P call) {F : Nat} : ∀ (g : Nat) (T : Tr XV) (N : Nat) (H : Tr Bx) (o : Oc), TOk (TS m [] T) → HOk H → HLt N H → (loopR run call F g T N H).out = some o → Does P n m (fun Q => Code.rounds P c Q g) T N H o
  | 0, T, N, H, o, _, _, _, h => by cases h
  | g + 1, T, N, H, o, hT, hO, hL, h => by
    have e : loopR run call F (g + 1) T N H = @Ro.rec (fun _ => Ro) .no (fun T N H => loopR run call F g T N H) (fun id T N H => .x id T N H) (fun T N H => .r T N H) (run call F T N H) := rfl
    rw [e] at h
    have hc1 := hc call hcall F T N H
    cases hr : run call F T N H with
    | no => rw [hr] at h; cases h
    | n T1 N1 H1 =>
      rw [hr] at h hc1
      have h1 := hc1 _ hT hO hL rfl
      refine h1.seq (loop_sound hc hcall g T1 N1 H1 o h1.2.1 h1.2.2.1 h1.2.2.2.1 h) fun Q a w hq => ?_
      exact hq (Exit.then (Code.rounds P c Q g) Q) fun a' w' h => h
    | x id T1 N1 H1 =>
      rw [hr] at h hc1
      injection h with h
      subst h
      exact (hc1 _ hT hO hL rfl).as fun Q a w hq => hq (Exit.then (Code.rounds P c Q g) Q) fun a' w' h => h
    | r T1 N1 H1 =>
      rw [hr] at h hc1
      injection h with h
      subst h
      exact (hc1 _ hT hO hL rfl).as fun Q a w hq => hq (Exit.then (Code.rounds P c Q g) Q) fun a' w' h => h
theorem code_sound (hfol : P.follows .mixedOrders = true) : ∀ (c : Code) {run : RunK}, cC P n m c = some run → CodeOk P n m c run
  | .skip, run, h => by
    injection h with h
    subst h
    intro call hcall f T N H o hT hO hL hr
    injection hr with hr
    subst hr
    exact Does.skip hT hO hL fun Q a w h => wp_skip h
  | .exit id, run, h => by
    injection h with h
    subst h
    intro call hcall f T N H o hT hO hL hr
    injection hr with hr
    subst hr
    exact Does.skip hT hO hL fun Q a w h => wp_exit h
  | .ret, run, h => by
    injection h with h
    subst h
    intro call hcall f T N H o hT hO hL hr
    injection hr with hr
    subst hr
    exact Does.skip hT hO hL fun Q a w h => wp_ret h
  | .region id ops false, run, h => by
    unfold cC at h
    dsimp only at h
    cases hl : allO (cI2 P n m ops) ops.toList with
    | none => rw [hl] at h; cases h
    | some is =>
      rw [hl] at h
      injection h with h
      subst h
      intro call hcall f T N H o hT hO hL hr
      have hr : (runL call is [] T N H).out = some o := hr
      have hno : runL call is [] T N H ≠ .no := fun e => by rw [e] at hr; cases hr
      obtain ⟨T', N', H', e1, k1, k2, k3, k4, _⟩ := runL_sound (ops := ops) hcall (Q := fun _ _ _ => True) ops.toList is [] T N H hl hT hO hL hno
      rw [e1] at hr
      injection hr with hr
      subst hr
      refine ⟨k1, k2, k3, k4, fun Q V A β a w hA hst hQ => ?_⟩
      obtain ⟨T2, N2, H2, e2, _, _, _, _, k5⟩ := runL_sound (ops := ops) hcall (Q := Q) ops.toList is [] T N H hl hT hO hL hno
      rw [e1] at e2
      injection e2 with e21 e22 e23
      subst e21 e22 e23
      exact wp_region_list (k5 V A β a w hA hst hQ)
  | .region id ops true, run, h => by
    unfold cC at h
    dsimp only at h
    cases hchk : (List.range ops.size).all (unB ops (masks ops.toList) ops.toList) with
    | false => rw [hchk] at h; cases h
    | true =>
      rw [hchk] at h
      cases hl : withMk P n m ops (masks ops.toList) ops.toList with
      | none => rw [hl] at h; cases h
      | some js =>
        rw [hl] at h
        injection h with h
        subst h
        intro call hcall f T N H o hT hO hL hr
        have hr : (runD call js 0 [] T N H [] []).out = some o := hr
        have hno : runD call js 0 [] T N H [] [] ≠ .no := fun e => by rw [e] at hr; cases hr
        obtain ⟨T', N', H', e1, k1, k2, k3, k4, _⟩ := drw_sound hfol hcall hchk hl hT hO hL hno (Q := fun _ _ _ => True) (id := id)
        rw [e1] at hr
        injection hr with hr
        subst hr
        refine ⟨k1, k2, k3, k4, fun Q V A β a w hA hst hQ => ?_⟩
        obtain ⟨T2, N2, H2, e2, _, _, _, _, k5⟩ := drw_sound hfol hcall hchk hl hT hO hL hno (Q := Q) (id := id)
        rw [e1] at e2
        injection e2 with e21 e22 e23
        subst e21 e22 e23
        exact k5 V A β a w hA hst hQ
  | .seq x y, run, h => by
    unfold cC at h
    cases hx : cC P n m x with
    | none => rw [hx] at h; cases h
    | some rx =>
      cases hy : cC P n m y with
      | none => rw [hx, hy] at h; cases h
      | some ry =>
        rw [hx, hy] at h
        injection h with h
        subst h
        have ix := code_sound hfol x hx
        have iy := code_sound hfol y hy
        intro call hcall f T N H o hT hO hL hr
        have e : kSeq rx ry call f T N H = @Ro.rec (fun _ => Ro) .no (fun T N H => ry call f T N H) (fun id T N H => .x id T N H) (fun T N H => .r T N H) (rx call f T N H) := rfl
        rw [e] at hr
        have hc1 := ix call hcall f T N H
        cases hq : rx call f T N H with
        | no => rw [hq] at hr; cases hr
        | n T1 N1 H1 =>
          rw [hq] at hr hc1
          have h1 := hc1 _ hT hO hL rfl
          exact h1.seq (iy call hcall f T1 N1 H1 o h1.2.1 h1.2.2.1 h1.2.2.2.1 hr) fun Q a w hq => wp_seq (hq (Exit.then (y.wp P Q) Q) fun a' w' h => h)
        | x id T1 N1 H1 =>
          rw [hq] at hr hc1
          injection hr with hr
          subst hr
          exact (hc1 _ hT hO hL rfl).as fun Q a w hq => wp_seq (hq (Exit.then (y.wp P Q) Q) fun a' w' h => h)
        | r T1 N1 H1 =>
          rw [hq] at hr hc1
          injection hr with hr
          subst hr
          exact (hc1 _ hT hO hL rfl).as fun Q a w hq => wp_seq (hq (Exit.then (y.wp P Q) Q) fun a' w' h => h)
  | .cond (.tmp t) x y, run, h => by
    unfold cC at h
    cases hx : cC P n m x with
    | none => rw [hx] at h; cases h
    | some rx =>
      cases hy : cC P n m y with
      | none => rw [hx, hy] at h; cases h
      | some ry =>
        rw [hx, hy] at h
        dsimp only at h
        cases hb : m.testBit t with
        | true => rw [hb] at h; cases h
        | false =>
          rw [hb] at h
          injection h with h
          subst h
          have ix := code_sound hfol x hx
          have iy := code_sound hfol y hy
          intro call hcall f T N H o hT hO hL hr
          have e : kCond t rx ry call f T N H = @Option.rec Bool (fun _ => Ro) .no (fun v => @Bool.rec (fun _ => Ro) (ry call f T N H) (rx call f T N H) v) (oO (T.get t) fun v => xB v some) := rfl
          rw [e] at hr
          cases hv : (oO (T.get t) fun v => xB v some) with
          | none => rw [hv] at hr; cases hr
          | some v =>
            rw [hv] at hr
            obtain ⟨z, hz, h2⟩ := oO_some hv
            obtain ⟨b, rfl, h3⟩ := xB_some h2
            injection h3 with h3
            subst h3
            have hts : TS m [] T t = some (.c (.b b)) := by unfold TS; rw [hb]; exact hz
            have hev : ∀ {V A β a w}, StX V A n (TS m [] T) (HS H) β a w → a.eval (.tmp t) = .bool b := by
              intro V A β a w hst
              obtain ⟨v', e, hr⟩ := hst.tmp t _ hts
              have : a.eval (.tmp t) = v' := by
                show a.tmps.getD t undef = v'
                obtain ⟨hlt, e⟩ := Array.getElem?_eq_some_iff.1 e
                simp [Array.getD, hlt, e]
              rw [this]
              exact RdA.b_eq hr
            cases b with
            | true =>
              obtain ⟨k1, k2, k3, k4, k5⟩ := ix call hcall f T N H o hT hO hL hr
              exact ⟨k1, k2, k3, k4, fun Q V A β a w hA hst hQ => wp_cond_true (hev hst) (k5 Q V A β a w hA hst hQ)⟩
            | false =>
              obtain ⟨k1, k2, k3, k4, k5⟩ := iy call hcall f T N H o hT hO hL hr
              exact ⟨k1, k2, k3, k4, fun Q V A β a w hA hst hQ => wp_cond_false (hev hst) (k5 Q V A β a w hA hst hQ)⟩
  | .block id c, run, h => by
    unfold cC at h
    cases hx : cC P n m c with
    | none => rw [hx] at h; cases h
    | some rx =>
      rw [hx] at h
      injection h with h
      subst h
      have ix := code_sound hfol c hx
      intro call hcall f T N H o hT hO hL hr
      have e : kBlock id rx call f T N H = @Ro.rec (fun _ => Ro) .no (fun T N H => .n T N H) (fun id' T N H => @Bool.rec (fun _ => Ro) (.x id' T N H) (.n T N H) (Nat.beq id' id)) (fun T N H => .r T N H) (rx call f T N H) := rfl
      rw [e] at hr
      have hc1 := ix call hcall f T N H
      cases hq : rx call f T N H with
      | no => rw [hq] at hr; cases hr
      | n T1 N1 H1 =>
        rw [hq] at hr hc1
        injection hr with hr
        subst hr
        exact (hc1 _ hT hO hL rfl).as fun Q a w hq => wp_block (hq (Exit.inBlock id Q) fun a' w' h => h)
      | r T1 N1 H1 =>
        rw [hq] at hr hc1
        injection hr with hr
        subst hr
        exact (hc1 _ hT hO hL rfl).as fun Q a w hq => wp_block (hq (Exit.inBlock id Q) fun a' w' h => h)
      | x id' T1 N1 H1 =>
        rw [hq] at hr hc1
        cases hb : Nat.beq id' id with
        | true =>
          have hr : (match Nat.beq id' id with | true => Ro.n T1 N1 H1 | false => Ro.x id' T1 N1 H1).out = some o := by
            rw [hb]; rw [show (@Ro.rec (fun _ => Ro) .no (fun T N H => .n T N H) (fun id' T N H => @Bool.rec (fun _ => Ro) (.x id' T N H) (.n T N H) (Nat.beq id' id)) (fun T N H => .r T N H) (.x id' T1 N1 H1)) = @Bool.rec (fun _ => Ro) (.x id' T1 N1 H1) (.n T1 N1 H1) (Nat.beq id' id) from rfl, hb] at hr; exact hr
          rw [hb] at hr
          injection hr with hr
          subst hr
          exact (hc1 _ hT hO hL rfl).as fun Q a w hq => wp_block (hq (Exit.inBlock id Q) fun a' w' h => by
            show if id' = id then Q .normal a' w' else Q (.exit id') a' w'
            rw [if_pos (Nat.eq_of_beq_eq_true hb)]; exact h)
        | false =>
          rw [show (@Ro.rec (fun _ => Ro) .no (fun T N H => .n T N H) (fun id' T N H => @Bool.rec (fun _ => Ro) (.x id' T N H) (.n T N H) (Nat.beq id' id)) (fun T N H => .r T N H) (.x id' T1 N1 H1)) = @Bool.rec (fun _ => Ro) (.x id' T1 N1 H1) (.n T1 N1 H1) (Nat.beq id' id) from rfl, hb] at hr
          injection hr with hr
          subst hr
          exact (hc1 _ hT hO hL rfl).as fun Q a w hq => wp_block (hq (Exit.inBlock id Q) fun a' w' h => by
            show if id' = id then Q .normal a' w' else Q (.exit id') a' w'
            rw [if_neg (Nat.ne_of_beq_eq_false hb)]; exact h)
  | .loop c, run, h => by
    unfold cC at h
    cases hx : cC P n m c with
    | none => rw [hx] at h; cases h
    | some rx =>
      rw [hx] at h
      injection h with h
      subst h
      have ix := code_sound hfol c hx
      intro call hcall f T N H o hT hO hL hr
      have hr : (loopR rx call f f T N H).out = some o := hr
      obtain ⟨k1, k2, k3, k4, k5⟩ := loop_sound ix hcall f T N H o hT hO hL hr
      exact ⟨k1, k2, k3, k4, fun Q V A β a w hA hst hQ => wp_loop_rounds f (k5 Q V A β a w hA hst hQ)⟩
  | .cond (.const v) x y, run, h => by
    cases v with
    | bool b =>
      cases b with
      | true =>
        have ix := code_sound hfol x (show cC P n m x = some run from h)
        intro call hcall f T N H o hT hO hL hr
        obtain ⟨k1, k2, k3, k4, k5⟩ := ix call hcall f T N H o hT hO hL hr
        exact ⟨k1, k2, k3, k4, fun Q V A β a w hA hst hQ => wp_cond_true rfl (k5 Q V A β a w hA hst hQ)⟩
      | false =>
        have iy := code_sound hfol y (show cC P n m y = some run from h)
        intro call hcall f T N H o hT hO hL hr
        obtain ⟨k1, k2, k3, k4, k5⟩ := iy call hcall f T N H o hT hO hL hr
        exact ⟨k1, k2, k3, k4, fun Q V A β a w hA hst hQ => wp_cond_false rfl (k5 Q V A β a w hA hst hQ)⟩
    | _ => cases h
  | .cond (.func _) x y, run, h => by cases h
  | .goto l, run, h => by cases h
  | .label l, run, h => by cases h
end
section
variable {P : Program} {n m : Nat} {T : Tr XV} {N : Nat} {H : Tr Bx}
theorem toD_some {v : XV} {d : XD} (h : toD v = some d) : v = ofD d := by
  cases v with
  | c x => injection h with h; subst h; rfl
  | a k r => injection h with h; subst h; rfl
  | t ds => cases h
  | u => cases h
theorem ofD_reads {A Z : Nat → Prop} {w : World} {β : Nat → Pl} {v : Value} {d : XD} : RdX2 A Z w β v (ofD d) ↔ RdD A Z w β v d := by cases d <;> exact Iff.rfl
theorem ofD_ok {d : XD} : xok (ofD d) ↔ xdok d := by cases d <;> exact Iff.rfl
theorem StX.look {V A : Nat → Prop} {T : TX} {H : HF} {β : Nat → Pl} {a : Act} {w : World} {t : Nat} {x : XV} (h : StX V A n T H β a w) (ht : T t = some x) : RdX2 A (Zs V H β) w β (a.tmps.getD t undef) x := by
  obtain ⟨v, e, hr⟩ := h.tmp t x ht
  obtain ⟨hlt, e⟩ := Array.getElem?_eq_some_iff.1 e
  have : a.tmps.getD t undef = v := by simp [Array.getD, hlt, e]
  rw [this]; exact hr
theorem res1_run (hT : TOk (TS m [] T)) (hO : HOk H) {rv : ResultVar} {r : XR} {d : XD} (hc : cR2 P m rv = some r) (h : res1 T H r = some d) : xdok d ∧ ∀ V A β a w, StX V A n (TS m [] T) (HS H) β a w →
    ∃ v, (oneRes a rv).run P w = .ok v w ∧ RdD A (Zs V (HS H) β) w β v d := by
  have hts : ∀ {t x}, m.testBit t = false → T.get t = some x → TS m [] T t = some x := fun hb h => by unfold TS; rw [hb]; exact h
  cases rv with
  | tmp t =>
    unfold cR2 at hc
    dsimp only at hc
    cases hb : m.testBit t with
    | true => rw [hb] at hc; cases hc
    | false =>
      rw [hb] at hc
      injection hc with hc
      subst hc
      obtain ⟨v, hv, h2⟩ := oO_some (show oO (T.get t) toD = some d from h)
      have e := toD_some h2
      subst e
      have hs := hts hb hv
      exact ⟨ofD_ok.1 (hT t _ hs), fun V A β a w hst => ⟨_, rfl, ofD_reads.1 (hst.look hs)⟩⟩
  | cell t U =>
    unfold cR2 at hc
    dsimp only at hc
    cases hb : m.testBit t with
    | true => rw [hb] at hc; cases hc
    | false =>
      rw [hb] at hc
      dsimp only [cond_false] at hc
      split at hc
      · rename_i k hU
        injection hc with hc
        subst hc
        obtain ⟨v, hv, h⟩ := oO_some (show oO (T.get t) (fun v => xP v fun k' off => oO (H.get k') fun b => bT (Nat.ble (Nat.add off k) b.n) (some (XD.a k (subR b.r b.n off k)))) = some d from h)
        obtain ⟨j, off, rfl, h⟩ := xP_some h
        obtain ⟨b, hbx, h⟩ := oO_some h
        obtain ⟨hn, h⟩ := bT_some h
        rw [ble_iff] at hn
        injection h with h
        subst h
        obtain ⟨hb1, hb2⟩ := hO j b hbx
        obtain ⟨g1, g2⟩ := subR_spec b.r b.n off k hb1 hb2 hn
        have hn' : off + k ≤ b.r.flat.length := by rw [← hb2]; exact hn
        refine ⟨⟨g1, by rw [g2]; simp; omega⟩, fun V A β a w hst => ?_⟩
        obtain ⟨e1, hk⟩ := RdA.p_eq (hst.look (hts hb hv))
        obtain ⟨vs, ev, hz, hl, hr⟩ := hst.mem.box j b.U b.r.flat (HS_get hbx)
        have hr2 := (hr.drop off).take k
        have hlen : ((vs.toList.take b.r.flat.length).drop off).take k = ((vs.toList.drop off).take k) := by
          rw [List.drop_take, List.take_take, Nat.min_eq_left (by omega)]
        rw [hlen] at hr2
        have hrun := run_loadVar_agg (P := P) (w := w) hU (b := (β j).b) (off := off) (vs := (vs.toList.drop off).take k) (by simp; omega) (fun j v hv => by
          rw [List.getElem?_take] at hv
          split at hv
          · rw [cells_of_box ev, ← hv]; simp
          · cases hv)
        refine ⟨.agg ((vs.toList.drop off).take k).toArray, ?_, ((vs.toList.drop off).take k).toArray, rfl, by rw [g2]; simpa using hr2⟩
        simp only [oneRes, e1, asAddr, Sem.run_bind, Sem.run_pure, Result.andThen_ok, hrun]
      · rename_i k hU
        injection hc with hc
        subst hc
        obtain ⟨v, hv, h⟩ := oO_some (show oO (T.get t) (fun v => xP v fun k' off => oO (H.get k') fun b => oO (idxR b.r off) fun a => some (XD.c a)) = some d from h)
        obtain ⟨j, off, rfl, h⟩ := xP_some h
        obtain ⟨b, hbx, h⟩ := oO_some h
        obtain ⟨c, hc2, h⟩ := oO_some h
        injection h with h
        subst h
        obtain ⟨hb1, hb2⟩ := hO j b hbx
        rw [idxR_spec b.r off hb1] at hc2
        have hlt := (List.getElem?_eq_some_iff.1 hc2).1
        refine ⟨trivial, fun V A β a w hst => ?_⟩
        obtain ⟨e1, hk⟩ := RdA.p_eq (hst.look (hts hb hv))
        obtain ⟨vs, ev, hz, hl, hr⟩ := hst.mem.box j b.U b.r.flat (HS_get hbx)
        have hv2 : vs.toList[off]? = some (vs.toList[off]'(by simp; omega)) := List.getElem?_eq_getElem _
        have hrd := hr.2 off (vs.toList[off]'(by simp; omega)) c (by rw [List.getElem?_take, if_pos hlt]; exact hv2) hc2
        have hrun := run_loadVar_one (P := P) (w := w) hU (b := (β j).b) (off := off) (by rw [cells_of_box ev, ← Array.getElem?_toList, hv2])
        refine ⟨_, ?_, hrd⟩
        simp only [oneRes, e1, asAddr, Sem.run_bind, Sem.run_pure, Result.andThen_ok, hrun]
      · cases hc
theorem resL2_run (hT : TOk (TS m [] T)) (hO : HOk H) : ∀ (rvs : List ResultVar) (rs : List XR) (ds : List XD), allO (cR2 P m) rvs = some rs → resL2 T H rs = some ds → (∀ d ∈ ds, xdok d) ∧ ∀ V A β a w, StX V A n (TS m [] T) (HS H) β a w →
    ∃ vs : List Value, (rvs.mapM (oneRes a)).run P w = .ok vs w ∧ RdDs A (Zs V (HS H) β) w β vs ds
  | [], rs, ds, hc, h => by
    injection hc with hc
    subst hc
    injection h with h
    subst h
    exact ⟨fun d hd => (by cases hd), fun V A β a w _ => ⟨[], rfl, rfl, fun j v d hv => by simp at hv⟩⟩
  | rv :: rvs, rs, ds, hc, h => by
    unfold allO at hc
    split at hc
    · cases hc
    · rename_i r hr
      split at hc
      · cases hc
      · rename_i rs' hrs
        injection hc with hc
        subst hc
        obtain ⟨d, hd, h⟩ := oO_some (show oO (res1 T H r) (fun d => oO (resL2 T H rs') fun ds => some (d :: ds)) = some ds from h)
        obtain ⟨ds', hds, h⟩ := oO_some h
        injection h with h
        subst h
        obtain ⟨k1, k2⟩ := res1_run (n := n) hT hO hr hd
        obtain ⟨l1, l2⟩ := resL2_run hT hO rvs rs' ds' hrs hds
        refine ⟨fun x hx => ?_, fun V A β a w hst => ?_⟩
        · rcases List.mem_cons.1 hx with rfl | hx
          · exact k1
          · exact l1 x hx
        · obtain ⟨v, e1, r1⟩ := k2 V A β a w hst
          obtain ⟨vs, e2, r2, r3⟩ := l2 V A β a w hst
          refine ⟨v :: vs, ?_, by simp [r2], fun j y x hu hx => ?_⟩
          · rw [List.mapM_cons]
            simp only [Sem.run_bind, e1, Result.andThen_ok, e2, Sem.run_pure]
          · cases j with
            | zero => simp at hu hx; subst hu hx; exact r1
            | succ j => simp at hu hx; exact r3 j y x hu hx
theorem joinX_ok {ds : List XD} (h : ∀ d ∈ ds, xdok d) : xok (joinX ds) := by
  match ds, h with
  | [], _ => exact show ∀ d ∈ ([] : List XD), xdok d from fun d hd => by cases hd
  | [d], h => exact ofD_ok.2 (h d (List.mem_cons_self ..))
  | d :: d' :: r, h => exact show ∀ x ∈ d :: d' :: r, xdok x from h
theorem joinX_reads {A Z : Nat → Prop} {w : World} {β : Nat → Pl} {vs : List Value} {ds : List XD} (h : RdDs A Z w β vs ds) : RdX2 A Z w β (if h : vs.toArray.size = 1 then vs.toArray[0] else .tuple vs.toArray) (joinX ds) := by
  match vs, ds, h with
  | [], [], h => exact ⟨_, rfl, h⟩
  | [v], [d], h => exact ofD_reads.2 (h.2 0 v d rfl rfl)
  | v :: v' :: vs', d :: d' :: ds', h => exact ⟨(v :: v' :: vs').toArray, dif_neg (by simp), by simpa using h⟩
  | [], d :: ds, h => exact absurd h.1 (by simp)
  | v :: vs, [], h => exact absurd h.1 (by simp)
  | [v], d :: d' :: ds, h => exact absurd h.1 (by simp)
  | v :: v' :: vs, [d], h => exact absurd h.1 (by simp)
theorem results_run {fn : Func} {a : Act} {w : World} {vs : List Value} (hrun : (fn.results.toList.mapM (oneRes a)).run P w = .ok vs w) :
    (results fn a.tmps).run P w = .ok (if h : vs.toArray.size = 1 then vs.toArray[0] else .tuple vs.toArray) w := by
  have key : ∀ g : ResultVar → Go.Sem Value, (∀ r, g r = oneRes a r) → (do let vs ← fn.results.mapM g; pure (if h : vs.size = 1 then vs[0] else .tuple vs) : Go.Sem Value).run P w = .ok (if h : vs.toArray.size = 1 then vs.toArray[0] else .tuple vs.toArray) w := by
    intro g hg
    rw [funext hg]
    simp [Array.mapM_eq_mapM_toList, hrun]
  unfold results
  exact key _ (fun r => by cases r <;> rfl)
theorem argsTr_get : ∀ (vs : List XV) (k : Nat) (t : Tr XV) (j : Nat) (x : XV), (argsTr vs k t).get j = some x → (k ≤ j ∧ vs[j - k]? = some x) ∨ t.get j = some x
  | [], k, t, j, x, h => .inr h
  | v :: vs, k, t, j, x, h => by
    rcases argsTr_get vs (k + 1) (t.set v k) j x h with ⟨h1, h2⟩ | h
    · refine .inl ⟨by omega, ?_⟩
      rw [show j - k = (j - (k + 1)) + 1 by omega]
      simpa using h2
    · rcases Tr.set_get t k j h with ⟨e1, e2⟩ | ⟨_, h⟩
      · subst e1 e2; exact .inl ⟨Nat.le_refl _, by simp⟩
      · exact .inr h
theorem argsTr_get0 {vs : List XV} {j : Nat} {x : XV} (h : (argsTr vs 0 .e).get j = some x) : vs[j]? = some x := by
  rcases argsTr_get vs 0 .e j x h with ⟨_, h⟩ | h
  · simpa using h
  · cases h
theorem TS_args {vs : List XV} {t : Nat} {x : XV} (h : TS m [] (argsTr vs 0 .e) t = some x) : vs[t]? = some x := by
  unfold TS at h
  cases hb : m.testBit t with
  | true => rw [hb] at h; cases h
  | false => rw [hb] at h; exact argsTr_get0 h
theorem lenB_spec : ∀ (vs : List XV) (n : Nat), lenB vs n = true → vs.length ≤ n
  | [], n, _ => Nat.zero_le _
  | v :: vs, 0, h => by cases h
  | v :: vs, n + 1, h => Nat.succ_le_succ (lenB_spec vs n h)
theorem args_tok {vs : List XV} (h : ∀ v ∈ vs, xok v) : TOk (TS m [] (argsTr vs 0 .e)) := fun _ x ht => h x (List.mem_of_getElem? (TS_args ht))
theorem entry {V A : Nat → Prop} {HH : HF} {β : Nat → Pl} {w : World} {args : Array Value} {vs : List XV} (hm : Mem V A HH β w) (hr : RdXs A (Zs V HH β) w β args.toList vs) (hn : vs.length ≤ n) :
    StX V A n (TS m [] (argsTr vs 0 .e)) HH β { tmps := args ++ Array.replicate (n - args.size) undef, defers := [] } w := by
  have hl : args.size = vs.length := by have := hr.1; simpa using this
  refine ⟨hm, rfl, by simp; omega, fun t x ht => ?_⟩
  have h2 := TS_args ht
  have hlt : t < args.size := by rw [hl]; exact (List.getElem?_eq_some_iff.1 h2).1
  have hv : args.toList[t]? = some args[t] := by rw [Array.getElem?_toList]; exact Array.getElem?_eq_getElem hlt
  refine ⟨args[t], ?_, hr.2 t _ x hv h2⟩
  show (args ++ Array.replicate (n - args.size) undef)[t]? = _
  rw [Array.getElem?_append_left hlt]; exact Array.getElem?_eq_getElem hlt
theorem RdA.pure {A A' Z Z' : Nat → Prop} {w : World} {β β' : Nat → Pl} (hk : Keep Z Z' w w) {v : Value} {x : AV} (h : RdA A Z w β v x) (hp : puA x = true) : RdA A' Z' w β' v x := by
  cases h with
  | b v => exact .b v
  | i k n => exact .i k n
  | l v x h => exact .l v x (h.keep hk)
  | p k off => cases hp
  | s => cases hp
  | z => exact .z
  | ev a c h1 h2 => exact .ev a c h1 h2
  | np => exact .np
  | f g cs xs y h1 h2 h3 =>
    cases x with
    | f0 g' =>
      injection h1 with h1
      injection h1 with h1 h4
      subst h1 h4
      exact .f g' cs [] (.f0 g') rfl h2 fun j v x _ hx => by simp at hx
    | fc => cases hp
    | _ => cases h1
theorem RdD.pure {A A' Z Z' : Nat → Prop} {w : World} {β β' : Nat → Pl} (hk : Keep Z Z' w w) {v : Value} {d : XD} (h : RdD A Z w β v d) (hd : xdok d) (hp : puX (ofD d) = true) : RdD A' Z' w β' v d := by
  cases d with
  | c x => exact RdA.pure hk h hp
  | a k r =>
    obtain ⟨cs, e, h1, h2⟩ := h
    exact ⟨cs, e, h1, fun j v x hv hx => (h2 j v x hv hx).pure hk (puR_spec hd.1 hp x (List.mem_of_getElem? hx))⟩
theorem RdX2.pure {A A' Z Z' : Nat → Prop} {w : World} {β β' : Nat → Pl} (hk : Keep Z Z' w w) {v : Value} {x : XV} (h : RdX2 A Z w β v x) (hd : xok x) (hp : puX x = true) : RdX2 A' Z' w β' v x := by
  cases x with
  | c x => exact RdA.pure hk h hp
  | a k r => exact RdD.pure (d := .a k r) hk h hd hp
  | t ds => cases hp
  | u => cases hp
theorem bA_some {a b : Bool} (h : bA a b = true) : a = true ∧ b = true := by cases a <;> simp [bA] at h ⊢ <;> exact h
theorem puL_spec : ∀ {vs : List XV}, puL vs = true → ∀ v ∈ vs, puX v = true
  | [], _, v, hv => by cases hv
  | u0 :: vs, h, v, hv => by
    obtain ⟨h1, h2⟩ := bA_some (show bA (puX u0) (puL vs) = true from h)
    rcases List.mem_cons.1 hv with rfl | hv
    · exact h1
    · exact puL_spec h2 v hv
theorem puD_spec : ∀ {ds : List XD}, puD ds = true → ∀ d ∈ ds, puX (ofD d) = true
  | [], _, v, hv => by cases hv
  | d0 :: vs, h, v, hv => by
    obtain ⟨h1, h2⟩ := bA_some (show bA (puX (ofD d0)) (puD vs) = true from h)
    rcases List.mem_cons.1 hv with rfl | hv
    · exact h1
    · exact puD_spec h2 v hv
end
end Go.Proofs.YthhhlpdbainlaaaGreat
