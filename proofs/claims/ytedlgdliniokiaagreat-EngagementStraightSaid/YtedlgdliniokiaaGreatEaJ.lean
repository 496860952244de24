/- Data: slices that grow: the room behind a slice is not known. -/
import Derived.Test.YtedlgdliniokiaaGreatEaI
import Derived.Laws.StructEq
namespace Go.Proofs.YtedlgdliniokiaaGreat
open Go Go.RowKit
section
variable {P : Program} {ops : Array Oper} {T : TF} {B : BF} {av : Nat → Prop} {w0 : Ent} {w : World} {N : Nat} {β : Nat → Nat} {a : Act}

/-- A box goes by another number; what pointed to it is let go. -/
theorem Rel.ren (h : Rel av w0 N T B β a w) {k d : Nat} (hdN : d < N) (hk : B k ≠ none) (hd : d = k ∨ B d = none) :
    Rel av w0 N (killF k T) (fun l => if l = d then B k else if l = k then none else B l) (fun l => if l = d then β k else β l) a w := by
  have hB : ∀ l, (if l = d then B k else if l = k then none else B l) ≠ none → (l = d ∨ (l ≠ d ∧ l ≠ k ∧ B l ≠ none)) := by
    intro l hl
    by_cases e : l = d
    · exact .inl e
    · rw [if_neg e] at hl
      by_cases e2 : l = k
      · rw [if_pos e2] at hl; exact absurd rfl hl
      · rw [if_neg e2] at hl; exact .inr ⟨e, e2, hl⟩
  have hne : ∀ l, B l ≠ none → l ≠ k → l ≠ d := by
    intro l hl e e2
    rcases hd with hd | hd
    · exact e (e2.trans hd)
    · rw [← e2] at hd; exact hl hd
  have hV : (fun b => av b ∨ ∃ l, (if l = d then B k else if l = k then none else B l) ≠ none ∧ (if l = d then β k else β l) = b) = (fun b => av b ∨ ∃ l, B l ≠ none ∧ β l = b) := by
    funext b
    refine propext ⟨?_, ?_⟩
    · rintro (hb | ⟨l, hl, hb⟩)
      · exact .inl hb
      · rcases hB l hl with e | ⟨e1, e2, e3⟩
        · rw [if_pos e] at hb; exact .inr ⟨k, hk, hb⟩
        · rw [if_neg e1] at hb; exact .inr ⟨l, e3, hb⟩
    · rintro (hb | ⟨l, hl, hb⟩)
      · exact .inl hb
      · by_cases e : l = k
        · exact .inr ⟨d, by rw [if_pos rfl]; exact hk, by rw [if_pos rfl, ← e]; exact hb⟩
        · have := hne l hl e
          exact .inr ⟨l, by rw [if_neg this, if_neg e]; exact hl, by rw [if_neg this]; exact hb⟩
  have hT : ∀ t x, killF k T t = some x → x = .n ∨ (T t = some x ∧ refs x ≠ some k) := by
    intro t x ht
    unfold killF at ht
    split at ht
    · rename_i y hy
      split at ht
      · injection ht with ht; exact .inl ht.symm
      · rename_i hr; injection ht with ht; subst ht; exact .inr ⟨hy, hr⟩
    · cases ht
  refine ⟨h.dfr, h.siz, h.bel, h.avl, h.avE, h.big, fun b hb hK => ?_, ?_, ?_, ?_, ?_⟩
  · have hKd : w0.K ≠ d := by have := h.big; omega
    have hK0 := hK
    rcases hB _ hK with e | ⟨_, _, e⟩
    · exact absurd e hKd
    · rw [if_neg hKd]; exact h.fix b hb e
  · intro l m hl hm e
    rcases hB l hl with e1 | ⟨e1, e2, e3⟩ <;> rcases hB m hm with f1 | ⟨f1, f2, f3⟩
    · rw [e1, f1]
    · rw [if_pos e1, if_neg f1] at e
      exact absurd (h.inj k m hk f3 e).symm f2
    · rw [if_neg e1, if_pos f1] at e
      exact absurd (h.inj l k e3 hk e) e2
    · rw [if_neg e1, if_neg f1] at e
      exact h.inj l m e3 f3 e
  · intro l hl
    rcases hB l hl with e1 | ⟨e1, e2, e3⟩
    · rw [if_pos e1]; exact h.own k hk
    · rw [if_neg e1]; exact h.own l e3
  · intro t x l ht hx
    rcases hT t x ht with rfl | ⟨h1, h2⟩
    · cases hx
    · have h3 := h.wf t x l h1 hx
      have h4 : l ≠ k := fun e => h2 (by rw [hx, e])
      rw [if_neg (hne l h3 h4), if_neg h4]; exact h3
  · rw [hV]
    refine ⟨h.sees.av, ?_, ?_⟩
    · intro l U cs hl
      have hl0 : (if l = d then B k else if l = k then none else B l) = some (U, cs) := hl
      by_cases e : l = d
      · rw [if_pos e] at hl0
        show Box _ _ (if l = d then β k else β l) _ _
        rw [if_pos e]; exact h.sees.box k U cs hl0
      · rw [if_neg e] at hl0
        show Box _ _ (if l = d then β k else β l) _ _
        rw [if_neg e]
        by_cases e2 : l = k
        · rw [if_pos e2] at hl0; cases hl0
        · rw [if_neg e2] at hl0; exact h.sees.box l U cs hl0
    · intro t x hL ht
      rcases hT t x ht with rfl | ⟨h1, h2⟩
      · unfold killF at ht
        split at ht
        · rename_i y hy
          obtain ⟨v, e, _⟩ := h.sees.tmp t y hL hy
          exact ⟨v, e, trivial⟩
        · cases ht
      · obtain ⟨v, e, hr⟩ := h.sees.tmp t x hL h1
        refine ⟨v, e, ?_⟩
        cases x with
        | p l off =>
          have h3 := h.wf t _ l h1 rfl
          have h4 : l ≠ k := fun e => h2 (by rw [e]; rfl)
          show v = .pointer (some ⟨if l = d then β k else β l, off, none⟩)
          rw [if_neg (hne l h3 h4)]; exact hr
        | o l n c =>
          have h3 := h.wf t _ l h1 rfl
          have h4 : l ≠ k := fun e => h2 (by rw [e]; rfl)
          show v = .slice (some ⟨if l = d then β k else β l, 0, none⟩) n c
          rw [if_neg (hne l h3 h4)]; exact hr
        | w l off n c =>
          have h3 := h.wf t _ l h1 rfl
          have h4 : l ≠ k := fun e => h2 (by rw [e]; rfl)
          show v = .slice (some ⟨if l = d then β k else β l, off, none⟩) n c
          rw [if_neg (hne l h3 h4)]; exact hr
        | v d => exact hr
        | t ds => exact hr
        | q us => exact hr
        | u => exact hr
        | n => trivial
        | z => exact hr
        | f n us => exact hr

theorem put_put (a : Act) (d : Nat) (v v' : Value) : (a.put (some d) v).put (some d) v' = a.put (some d) v' := by simp [Act.put]

theorem kill_T {k t : Nat} {x : DV} {tm : List (Nat × DV)} {bx : List (Nat × TypeId × List CellD)} : (⟨N, (t, x) :: killL k tm, bx⟩ : St).T = fun s => if some t = some s then some x else killF k (fun s => look s tm) s := by
  funext s
  show look s ((t, x) :: killL k tm) = _
  rw [look_cons, killL_look]
  by_cases e : t = s
  · rw [if_pos e, if_pos (by rw [e])]
  · rw [if_neg e, if_neg (by simpa using e)]; rfl
theorem drop_B {k t : Nat} {x : TypeId × List CellD} {tm : List (Nat × DV)} {bx : List (Nat × TypeId × List CellD)} : (⟨N, tm, (t, x) :: dropL k bx⟩ : St).B = fun l => if some t = some l then some x else if l = k then none else look l bx := by
  funext s
  show look s ((t, x) :: dropL k bx) = (if some t = some s then some x else if s = k then none else look s bx)
  rw [look_cons, dropL_look]
  by_cases e : t = s
  · rw [if_pos e, if_pos (by rw [e])]
  · rw [if_neg e, if_neg (show ¬ some t = some s by simpa using e)]

theorem zeroC {z : Value} {zs : List CellD} {m : Nat} (hzl : zs.length = m) (hzr : ∀ (V : Nat → Prop) (w : World), RdCs V w z.cells.toList zs) (r : Nat) :
    ∃ rest : List CellD, rest.length = r * m ∧ ∀ (V : Nat → Prop) (w : World), RdCs V w (Builtin.zeroCells z.cells r).toList rest := by
  have hzs : z.cells.size = m := by have := (hzr (fun _ => False) default).1; rw [hzl] at this; simpa using this
  have key : ∀ (r : Nat) (V : Nat → Prop) (w : World), RdCs V w ((List.range (r * m)).map (fun j => z.cells[j % z.cells.size]!)) (List.replicate r zs).flatten := by
    intro r V w
    induction r with
    | zero => simp; exact RdCs.nil
    | succ r ih =>
      rw [Nat.succ_mul, List.range_add, List.map_append, List.replicate_succ', List.flatten_append]
      refine RdCs.append ih ?_
      have e2 : (List.map (fun x => r * m + x) (List.range m)).map (fun j => z.cells[j % z.cells.size]!) = z.cells.toList := by
        apply List.ext_getElem (by simp [hzs])
        intro j h1 h2
        simp at h1
        simp only [List.getElem_map, List.getElem_range, hzs]
        rw [Nat.mul_comm r, Nat.mul_add_mod, Nat.mod_eq_of_lt (by omega), getElem!_pos z.cells j (by omega)]
        simp
      rw [e2]
      simpa using hzr V w
  refine ⟨(List.replicate r zs).flatten, ?_, fun V w => ?_⟩
  · have := (key r (fun _ => False) default).1
    simpa using this.symm
  · have := key r V w
    unfold Builtin.zeroCells
    rw [hzs]
    simpa [hzs] using this

variable {tm : List (Nat × DV)} {bx : List (Nat × TypeId × List CellD)}
/-- append onto an own slice: with room or without. -/
theorem gsem_appendS {t : Nat} {x y : Operand} {U e : TypeId} {ty : TypeId} {pos : String} {af : Array Edge} {g : Option (Nat × Bool)} {n c q m by_ k : Nat} {cs ys zs pre : List CellD}
    (hU : elB P U = some (e, m, by_, zs)) (hx : opd (fun s => look s tm) x = some (.o k n c)) (hsc : ∀ V β a w, Sees V (Looks ops ⟨some t, .call ⟨.builtin .append, #[x, y], #[U, U]⟩, ty, pos, af, g⟩) (fun s => look s tm) (fun l => look l bx) β a w → ∃ V', RdC V' w (a.eval y) (.s q ys) ∧ ∀ news, RdCs V' w news ys → RdCs V w news ys) (hb : look k bx = some (e, cs)) (hcs : cs.length = c * m) (hys : ys.length = q * m) (hm : 0 < m)
    (hnc : n ≤ c) (hcm : c ≤ maxLen) (hbytes : (n + q) * by_ ≤ 140737488355328) (h63 : n + q ≤ maxLen) (hpre : cs.take (n * m) = pre) (hd : t = k ∨ look t bx = none)
    (hg : gd ops ⟨some t, .call ⟨.builtin .append, #[x, y], #[U, U]⟩, ty, pos, af, g⟩ (fun s => look s tm) = some true) :
    GSem P ops ⟨some t, .call ⟨.builtin .append, #[x, y], #[U, U]⟩, ty, pos, af, g⟩ ⟨N, tm, bx⟩ (fun σ' => ∃ c' rest, n + q ≤ c' ∧ c' ≤ maxLen ∧ rest.length = (c' - (n + q)) * m ∧ σ' = ⟨N, (t, .o t (n + q) c') :: killL k tm, (t, e, pre ++ ys ++ rest) :: dropL k bx⟩) := by
  intro av w0 β a w hrel htn
  have hs := Sees.of hrel.sees (L := Looks ops ⟨some t, .call ⟨.builtin .append, #[x, y], #[U, U]⟩, ty, pos, af, g⟩) (fun _ _ => trivial) (fun _ _ _ h => h) (fun _ _ h => h)
  refine ⟨gd_want hs hg, ?_⟩
  have e1 : a.eval x = .slice (some ⟨β k, 0, none⟩) n c := opd_reads hs (x := x) (by simp [Op.operands, Call.operands]) hx
  obtain ⟨V', h2, hconv⟩ := hsc _ _ _ _ hs
  obtain ⟨news, hsrc, hrn'⟩ := src_of hU h2 hys
  have hrn := hconv _ hrn'
  obtain ⟨hu, i, z, hi, hz, hsz, hby, hzl, hzr⟩ := elB_spec hU
  obtain ⟨hvk, vs, ev, hr⟩ := hs.box k e cs hb
  subst hsz
  have hkn : (look k bx) ≠ none := by rw [hb]; simp
  have hle : n * i.size ≤ cs.length := by rw [hcs]; exact Nat.mul_le_mul_right _ hnc
  have hvl : vs.size = c * i.size := by have := hr.1; rw [hcs] at this; simpa using this
  have hr2 := hr.take (n * i.size)
  rw [hpre] at hr2
  have hlen : (vs.toList.take (n * i.size)).length = n * i.size := by
    rw [List.length_take, Array.length_toList, hvl]
    exact Nat.min_eq_left (Nat.mul_le_mul_right _ hnc)
  have ht : t < N := htn t rfl
  have hnl : news.length = q * i.size := hsrc.newsLen
  unfold Gives
  by_cases hroom : n + q ≤ c
  · -- in place
    have hfit : 0 + n * i.size + 0 + news.length ≤ vs.size := by
      rw [hvl, hnl]
      have := Nat.mul_le_mul_right i.size hroom
      rw [Nat.add_mul] at this; omega
    have hst := run_storeCells_at P (β k) (0 + n * i.size) e news 0 vs w ev hfit hsrc.one
    simp only [Nat.zero_add, Nat.add_zero] at hst
    have hrun : (Builtin.append_ #[U, U] ty #[.slice (some ⟨β k, 0, none⟩) n c, a.eval y]).run P w = .ok (.slice (some ⟨β k, 0, none⟩) (n + q) c) (w.setRow (β k) (vs.toList.take (n * i.size) ++ news ++ vs.toList.drop (n * i.size + news.length)).toArray) := by
      rcases hsrc.kind with ⟨e', hk⟩ | hk <;> simp [Builtin.append_, run_underlying hu, sizeOf, typeInfo, hi, hsrc.len, hroom, hsrc.cells, Addr.add_lit, hst]
    have hexec : (execOp a.eval ⟨some t, .call ⟨.builtin .append, #[x, y], #[U, U]⟩, ty, pos, af, g⟩).run P w = .ok (.value (.slice (some ⟨β k, 0, none⟩) (n + q) c)) (w.setRow (β k) (vs.toList.take (n * i.size) ++ news ++ vs.toList.drop (n * i.size + news.length)).toArray) := by
      simp only [execOp, resolve, invoke, builtin, Sem.run_bind, Sem.run_pure, Result.andThen_ok, List.map_toArray, List.map_cons, List.map_nil, e1]
      rw [hrun]
      rfl
    rw [hexec]
    have hrest : ((cs.drop (n * i.size + news.length))).length = (c - (n + q)) * i.size := by
      rw [List.length_drop, hcs, hnl, ← Nat.add_mul, ← Nat.sub_mul]
    refine ⟨⟨N, (t, .o t (n + q) c) :: killL k tm, (t, e, pre ++ ys ++ cs.drop (n * i.size + news.length)) :: dropL k bx⟩, fun l => if l = t then β k else β l, ⟨c, _, hroom, hcm, hrest, rfl⟩, rfl, ?_⟩
    have hren := hrel.ren (k := k) (d := t) (htn t rfl) hkn hd
    have hstore := hren.store (k := t) (U := e) (cs0 := cs) (cs := pre ++ ys ++ cs.drop (n * i.size + news.length)) (vs := (vs.toList.take (n * i.size) ++ news ++ vs.toList.drop (n * i.size + news.length)).toArray)
      (w' := w.setRow (β k) (vs.toList.take (n * i.size) ++ news ++ vs.toList.drop (n * i.size + news.length)).toArray) (by rw [if_pos rfl]; exact hb) (by rw [if_pos rfl]; exact setRow_heap_set ev) rfl rfl rfl ?_
    · have hval := hstore.value (d := some t) (x := .o t (n + q) c) (v := .slice (some ⟨β k, 0, none⟩) (n + q) c) (by intro s hs; injection hs with hs; subst hs; exact ht) (Below.refl _ _) (by show _ = Value.slice (some ⟨if t = t then β k else β t, 0, none⟩) _ _; rw [if_pos rfl]) (by intro l hl; injection hl with hl; subst hl; rw [if_pos rfl]; simp)
      refine hval.congr (fun s => ?_) (fun l => ?_)
      · rw [kill_T]; rfl
      · rw [drop_B]
        show (if some t = some l then _ else _) = (if t = l then _ else if l = t then _ else _)
        by_cases e : t = l
        · rw [if_pos (by rw [e]), if_pos e]
        · rw [if_neg (show ¬ some t = some l by simpa using e), if_neg e, if_neg (Ne.symm e)]; rfl
    · have hrd : RdCs (fun b => av b ∨ ∃ k, look k bx ≠ none ∧ β k = b) w (vs.toList.take (n * i.size) ++ news ++ vs.toList.drop (n * i.size + news.length)) (pre ++ ys ++ cs.drop (n * i.size + news.length)) := (hr2.append hrn).append (hr.drop _)
      refine RdCs.keep (av := fun b => av b ∨ ∃ k, look k bx ≠ none ∧ β k = b) ⟨Nat.le_refl _, fun _ _ _ => rfl, ?_⟩ hrd
      rintro b _ (hb' | ⟨l, hl, hb'⟩)
      · exact .inl hb'
      · try dsimp only at hl hb'
        by_cases e : l = t
        · rw [if_pos e] at hb'; exact .inr ⟨k, hkn, hb'⟩
        · rw [if_neg e] at hl hb'
          by_cases e2 : l = k
          · rw [if_pos e2] at hl; exact absurd rfl hl
          · rw [if_neg e2] at hl; exact .inr ⟨l, hl, hb'⟩
  · -- new memory
    have hgrow : c < n + q := by omega
    have hold : (Builtin.firstCells i.size n (.slice (some ⟨β k, 0, none⟩) n c)).run P w.drew = .ok (vs.toList.take (n * i.size)).toArray w.drew := by
      have := run_loadCells_list (P := P) w.drew ⟨β k, 0, none⟩ (vs.toList.take (n * i.size)) (fun j u hj => by
        rw [addr_add, Nat.zero_add]
        show w.cell? _ = _
        rw [List.getElem?_take] at hj
        split at hj
        · rw [cells_of_box ev, ← hj]; simp
        · cases hj)
      rw [hlen] at this
      exact this
    have hrun := run_append_grow_src (P := P) (w := w) U U ty e i z hu hi hz (some ⟨β k, 0, none⟩) n c _ hold (a.eval y) q news hsrc hgrow (by have : maxLen = 9223372036854775807 := rfl; omega) (growslice_fits hgrow (by rw [hby]; exact hbytes))
    generalize hcap : grownCap w (n + q) c e = c' at hrun
    have hc1 : n + q ≤ c' := by rw [← hcap]; exact grownCap_ge _ _ _ _
    have hc2 : c' ≤ maxLen := by rw [← hcap]; exact grownCap_le_maxLen _ _ _ _ h63
    have hexec : (execOp a.eval ⟨some t, .call ⟨.builtin .append, #[x, y], #[U, U]⟩, ty, pos, af, g⟩).run P w = .ok (.value (.slice (some ⟨w.heap.size, 0, none⟩) (n + q) c'))
        (w.drew.alloc (.cells ((vs.toList.take (n * i.size) ++ news).toArray ++ Builtin.zeroCells z.cells (c' - (n + q))) e)) := by
      simp only [execOp, resolve, invoke, builtin, Sem.run_bind, Sem.run_pure, Result.andThen_ok, List.map_toArray, List.map_cons, List.map_nil, e1]
      rw [hrun]
      rfl
    rw [hexec]
    have hdr := (hrel.drop k).drew
    obtain ⟨rest, hrl, hrz⟩ := zeroC hzl hzr (c' - (n + q))
    have hrd : RdCs (fun b => av b ∨ ∃ l, (if l = k then none else look l bx) ≠ none ∧ β l = b) w.drew ((vs.toList.take (n * i.size) ++ news).toArray ++ Builtin.zeroCells z.cells (c' - (n + q))).toList (pre ++ ys ++ rest) := by
      have h0 : RdCs (fun b => av b ∨ ∃ k, look k bx ≠ none ∧ β k = b) w (vs.toList.take (n * i.size) ++ news) (pre ++ ys) := hr2.append hrn
      have h1 := RdCs.append (RdCs.keep (av := fun b => av b ∨ ∃ k, look k bx ≠ none ∧ β k = b) (w := w) (av' := fun b => av b ∨ ∃ l, (if l = k then none else look l bx) ≠ none ∧ β l = b) (w' := w.drew) ⟨Nat.le_refl _, fun _ _ _ => rfl, fun b _ hb' => hb'.imp id fun ⟨l, hl, e⟩ => ⟨l, fun h0 => by rw [h0] at hl; exact hl (by split <;> rfl), e⟩⟩ h0) (hrz (fun b => av b ∨ ∃ l, (if l = k then none else look l bx) ≠ none ∧ β l = b) w.drew)
      simpa using h1
    have hbox := hdr.box (d := t) ht (by
      show (if t = k then none else look t bx) = none
      rcases hd with hd | hd
      · rw [if_pos hd]
      · rw [hd]; split <;> rfl) (U := e) (sl := some c') hrd
    refine ⟨⟨N, (t, .o t (n + q) c') :: killL k tm, (t, e, pre ++ ys ++ rest) :: dropL k bx⟩, fun l => if l = t then w.drew.heap.size else β l, ⟨c', _, hc1, hc2, hrl, rfl⟩, rfl, ?_⟩
    have hval := hbox.value (d := some t) (x := .o t (n + q) c') (v := .slice (some ⟨w.heap.size, 0, none⟩) (n + q) c') (by intro s hs; injection hs with hs; subst hs; exact ht) (Below.refl _ _) (by show _ = Value.slice (some ⟨if t = t then w.drew.heap.size else β t, 0, none⟩) _ _; rw [if_pos rfl]; rfl) (by intro l hl; injection hl with hl; subst hl; rw [if_pos rfl]; simp)
    rw [put_put] at hval
    refine hval.congr (fun s => ?_) (fun l => ?_)
    · rw [kill_T]
      show (if some t = some s then _ else _) = (if some t = some s then _ else if some t = some s then _ else killF k _ s)
      by_cases e : some t = some s
      · rw [if_pos e, if_pos e]
      · rw [if_neg e, if_neg e, if_neg e]; rfl
    · rw [drop_B]; rfl
theorem gsem_append {t : Nat} {x y : Operand} {U e : TypeId} {ty : TypeId} {pos : String} {af : Array Edge} {g : Option (Nat × Bool)} {n c q m by_ k : Nat} {cs ys zs pre : List CellD}
    (hU : elB P U = some (e, m, by_, zs)) (hx : opd (fun s => look s tm) x = some (.o k n c)) (hy : opd (fun s => look s tm) y = some (.v (.c (.s q ys)))) (hb : look k bx = some (e, cs)) (hcs : cs.length = c * m) (hys : ys.length = q * m) (hm : 0 < m)
    (hnc : n ≤ c) (hcm : c ≤ maxLen) (hbytes : (n + q) * by_ ≤ 140737488355328) (h63 : n + q ≤ maxLen) (hpre : cs.take (n * m) = pre) (hd : t = k ∨ look t bx = none)
    (hg : gd ops ⟨some t, .call ⟨.builtin .append, #[x, y], #[U, U]⟩, ty, pos, af, g⟩ (fun s => look s tm) = some true) :
    GSem P ops ⟨some t, .call ⟨.builtin .append, #[x, y], #[U, U]⟩, ty, pos, af, g⟩ ⟨N, tm, bx⟩ (fun σ' => ∃ c' rest, n + q ≤ c' ∧ c' ≤ maxLen ∧ rest.length = (c' - (n + q)) * m ∧ σ' = ⟨N, (t, .o t (n + q) c') :: killL k tm, (t, e, pre ++ ys ++ rest) :: dropL k bx⟩) := by
  exact gsem_appendS hU hx (fun V β a w hs => ⟨V, opd_reads hs (x := y) (by simp [Op.operands, Call.operands]) hy, fun _ h => h⟩) hb hcs hys hm hnc hcm hbytes h63 hpre hd hg
/-- append onto a nil slice. -/
theorem gsem_append0 {t : Nat} {x y : Operand} {U e : TypeId} {ty : TypeId} {pos : String} {af : Array Edge} {g : Option (Nat × Bool)} {q m by_ : Nat} {ys zs : List CellD}
    (hU : elB P U = some (e, m, by_, zs)) (hx : opd (fun s => look s tm) x = some .z) (hy : opd (fun s => look s tm) y = some (.v (.c (.s q ys)))) (hys : ys.length = q * m) (hq : 0 < q)
    (hbytes : q * by_ ≤ 140737488355328) (h63 : q ≤ maxLen) (hd : look t bx = none)
    (hg : gd ops ⟨some t, .call ⟨.builtin .append, #[x, y], #[U, U]⟩, ty, pos, af, g⟩ (fun s => look s tm) = some true) :
    GSem P ops ⟨some t, .call ⟨.builtin .append, #[x, y], #[U, U]⟩, ty, pos, af, g⟩ ⟨N, tm, bx⟩ (fun σ' => ∃ c' rest, q ≤ c' ∧ c' ≤ maxLen ∧ rest.length = (c' - q) * m ∧ σ' = ⟨N, (t, .o t q c') :: tm, (t, e, ys ++ rest) :: bx⟩) := by
  intro av w0 β a w hrel htn
  have hs := Sees.of hrel.sees (L := Looks ops ⟨some t, .call ⟨.builtin .append, #[x, y], #[U, U]⟩, ty, pos, af, g⟩) (fun _ _ => trivial) (fun _ _ _ h => h) (fun _ _ h => h)
  refine ⟨gd_want hs hg, ?_⟩
  have e1 : a.eval x = .slice none 0 0 := opd_reads hs (x := x) (by simp [Op.operands, Call.operands]) hx
  have h2 := opd_reads hs (x := y) (by simp [Op.operands, Call.operands]) hy
  obtain ⟨news, hsrc, hrn⟩ := src_of hU h2 hys
  obtain ⟨hu, i, z, hi, hz, hsz, hby, hzl, hzr⟩ := elB_spec hU
  subst hsz
  have ht : t < N := htn t rfl
  unfold Gives
  have hold : (Builtin.firstCells i.size 0 (.slice none 0 0)).run P w.drew = .ok ([] : List Value).toArray w.drew := rfl
  have hgrow : 0 < 0 + q := by omega
  have hrun := run_append_grow_src (P := P) (w := w) U U ty e i z hu hi hz none 0 0 _ hold (a.eval y) q news hsrc hgrow (by have : maxLen = 9223372036854775807 := rfl; omega) (growslice_fits hgrow (by rw [hby, Nat.zero_add]; exact hbytes))
  rw [Nat.zero_add] at hrun
  generalize hcap : grownCap w q 0 e = c' at hrun
  have hc1 : q ≤ c' := by rw [← hcap]; exact grownCap_ge _ _ _ _
  have hc2 : c' ≤ maxLen := by rw [← hcap]; exact grownCap_le_maxLen _ _ _ _ h63
  have hexec : (execOp a.eval ⟨some t, .call ⟨.builtin .append, #[x, y], #[U, U]⟩, ty, pos, af, g⟩).run P w = .ok (.value (.slice (some ⟨w.heap.size, 0, none⟩) q c'))
      (w.drew.alloc (.cells (([] ++ news).toArray ++ Builtin.zeroCells z.cells (c' - q)) e)) := by
    simp only [execOp, resolve, invoke, builtin, Sem.run_bind, Sem.run_pure, Result.andThen_ok, List.map_toArray, List.map_cons, List.map_nil, e1]
    rw [hrun]
    rfl
  rw [hexec]
  obtain ⟨rest, hrl, hrz⟩ := zeroC hzl hzr (c' - q)
  have hrd : RdCs (fun b => av b ∨ ∃ k, look k bx ≠ none ∧ β k = b) w.drew (([] ++ news).toArray ++ Builtin.zeroCells z.cells (c' - q)).toList (ys ++ rest) := by
    have h1 : RdCs (fun b => av b ∨ ∃ k, look k bx ≠ none ∧ β k = b) w.drew (news ++ (Builtin.zeroCells z.cells (c' - q)).toList) (ys ++ rest) := RdCs.append (RdCs.keep (Keep.below (Below.refl _ w).drew) hrn) (hrz (fun b => av b ∨ ∃ k, look k bx ≠ none ∧ β k = b) w.drew)
    simpa using h1
  have hbox := hrel.drew.box (d := t) ht hd (U := e) (sl := some c') hrd
  refine ⟨⟨N, (t, .o t q c') :: tm, (t, e, ys ++ rest) :: bx⟩, fun l => if l = t then w.drew.heap.size else β l, ⟨c', _, hc1, hc2, hrl, rfl⟩, rfl, ?_⟩
  have hval := hbox.value (d := some t) (x := .o t q c') (v := .slice (some ⟨w.heap.size, 0, none⟩) q c') (by intro s hs; injection hs with hs; subst hs; exact ht) (Below.refl _ _) (by show _ = Value.slice (some ⟨if t = t then w.drew.heap.size else β t, 0, none⟩) _ _; rw [if_pos rfl]; rfl) (by intro l hl; injection hl with hl; subst hl; rw [if_pos rfl]; simp)
  rw [put_put] at hval
  refine hval.congr (fun s => ?_) (fun l => ?_)
  · show look s ((t, DV.o t q c') :: tm) = (if some t = some s then _ else if some t = some s then _ else look s tm)
    rw [look_cons]
    by_cases e : t = s
    · rw [if_pos e, if_pos (by rw [e])]
    · rw [if_neg e, if_neg (show ¬ some t = some s by simpa using e), if_neg (show ¬ some t = some s by simpa using e)]
  · show look l ((t, e, ys ++ rest) :: bx) = (if some t = some l then _ else look l bx)
    rw [look_cons]
    by_cases e : t = l
    · rw [if_pos e, if_pos (by rw [e])]
    · rw [if_neg e, if_neg (show ¬ some t = some l by simpa using e)]

variable {os : List Oper} {K : St → Prop}
theorem dl_grow {t : Nat} {x y : Operand} {U e : TypeId} {ty : TypeId} {pos : String} {af : Array Edge} {g : Option (Nat × Bool)} {n c q m by_ k : Nat} {us rest ys zs : List CellD}
    (hU : elB P U = some (e, m, by_, zs)) (hx : opd (fun s => look s tm) x = some (.o k n c)) (hy : opd (fun s => look s tm) y = some (.v (.c (.s q ys)))) (hb : look k bx = some (e, us ++ rest)) (hus : us.length = n * m) (hr : rest.length = (c - n) * m)
    (hys : ys.length = q * m) (hm : 0 < m) (hnc : n ≤ c) (hcm : c ≤ maxLen) (hbytes : (n + q) * by_ ≤ 140737488355328) (h63 : n + q ≤ maxLen) (hd : t = k ∨ look t bx = none)
    (hg : gd ops ⟨some t, .call ⟨.builtin .append, #[x, y], #[U, U]⟩, ty, pos, af, g⟩ (fun s => look s tm) = some true)
    (hk : ∀ c' rest', n + q ≤ c' → c' ≤ maxLen → rest'.length = (c' - (n + q)) * m → dl P ops os ⟨N, (t, .o t (n + q) c') :: killL k tm, (t, e, us ++ ys ++ rest') :: dropL k bx⟩ K) :
    dl P ops (⟨some t, .call ⟨.builtin .append, #[x, y], #[U, U]⟩, ty, pos, af, g⟩ :: os) ⟨N, tm, bx⟩ K :=
  .inr ⟨_, gsem_append (pre := us) hU hx hy hb (by rw [List.length_append, hus, hr, ← Nat.add_mul]; congr 1; omega) hys hm hnc hcm hbytes h63 (by rw [← hus]; simp) hd hg, fun σ' ⟨c', rest', h1, h2, h3, e⟩ => by subst e; exact hk c' rest' h1 h2 h3⟩
theorem dl_grow0 {t : Nat} {x y : Operand} {U e : TypeId} {ty : TypeId} {pos : String} {af : Array Edge} {g : Option (Nat × Bool)} {q m by_ : Nat} {ys zs : List CellD}
    (hU : elB P U = some (e, m, by_, zs)) (hx : opd (fun s => look s tm) x = some .z) (hy : opd (fun s => look s tm) y = some (.v (.c (.s q ys)))) (hys : ys.length = q * m) (hq : 0 < q)
    (hbytes : q * by_ ≤ 140737488355328) (h63 : q ≤ maxLen) (hd : look t bx = none)
    (hg : gd ops ⟨some t, .call ⟨.builtin .append, #[x, y], #[U, U]⟩, ty, pos, af, g⟩ (fun s => look s tm) = some true)
    (hk : ∀ c' rest', q ≤ c' → c' ≤ maxLen → rest'.length = (c' - q) * m → dl P ops os ⟨N, (t, .o t q c') :: tm, (t, e, ys ++ rest') :: bx⟩ K) :
    dl P ops (⟨some t, .call ⟨.builtin .append, #[x, y], #[U, U]⟩, ty, pos, af, g⟩ :: os) ⟨N, tm, bx⟩ K :=
  .inr ⟨_, gsem_append0 hU hx hy hys hq hbytes h63 hd hg, fun σ' ⟨c', rest', h1, h2, h3, e⟩ => by subst e; exact hk c' rest' h1 h2 h3⟩

/-- The nil slice, known as such; as data. -/
theorem sem_assign_z {T : TF} {B : BF} {dst : Option Nat} {ty : TypeId} {pos : String} {af : Array Edge} {g : Option (Nat × Bool)}
    (hg : gd ops ⟨dst, .assign (.const (.slice none 0 0)), ty, pos, af, g⟩ T = some true) : Sem P ops ⟨dst, .assign (.const (.slice none 0 0)), ty, pos, af, g⟩ T B (.r .z) :=
  sem_pure hg (fun k e => by cases e) (fun V β a w hs => ⟨.slice none 0 0, rfl, rfl⟩)
theorem dw_nil {c : Code} {Q : Exit → St → Prop} {t : Nat} (ht : look t tm = some .z) (h : Dw P c ⟨N, (t, .v (.c (.s 0 []))) :: tm, bx⟩ Q) : Dw P c ⟨N, tm, bx⟩ Q := fun av w0 β a w hr => by
  obtain ⟨v, hv, hx⟩ := hr.sees.tmp t _ trivial ht
  have hx : v = .slice none 0 0 := hx
  subst hx
  have h2 := hr.upd (t := t) (x := .v (.c (.s 0 []))) hv (.s0 _ _ (by decide)) rfl
  refine h av w0 β a w (h2.congr (fun s => ?_) (fun _ => rfl))
  show look s ((t, .v (.c (.s 0 []))) :: tm) = _
  rw [look_cons]; rfl
/-- A loop whose first round begins in a state of its own. -/
theorem dw_loop1 {ι : Type} {c : Code} {σ : St} {Q : Exit → St → Prop} (I : ι → St) (μ : ι → Nat) (M : Nat)
    (first : Dw P c σ (thenD (fun σ' => ∃ j, Sub σ' (I j) ∧ μ j < M) Q)) (round : ∀ i, Dw P c (I i) (thenD (fun σ' => ∃ j, Sub σ' (I j) ∧ μ j < μ i) Q)) : Dw P (.loop c) σ Q := fun av w0 β a w hr => by
  refine dw_loop (ι := Option ι) (fun i => match i with | none => σ | some i => I i) (fun i => match i with | none => M | some i => μ i) none ⟨rfl, fun _ _ h => h, fun _ _ h => h, hr.wf⟩ (fun i => ?_) av w0 β a w hr
  cases i with
  | none =>
    refine first.mono fun e σ' h => ?_
    cases e with
    | normal => obtain ⟨j, h1, h2⟩ := h; exact ⟨some j, h1, h2⟩
    | _ => exact h
  | some i =>
    refine (round i).mono fun e σ' h => ?_
    cases e with
    | normal => obtain ⟨j, h1, h2⟩ := h; exact ⟨some j, h1, h2⟩
    | _ => exact h
theorem g_len {us rest : List CellD} {n c m : Nat} (h : us.length = n * m) (hr : rest.length = (c - n) * m) (hn : n ≤ c) : (us ++ rest).length = c * m := by
  rw [List.length_append, h, hr, ← Nat.add_mul]; congr 1; omega
theorem g_take {us rest : List CellD} {n m : Nat} (h : us.length = n * m) : (us ++ rest).take (n * m) = us := by rw [← h]; simp
theorem g_max {n : Nat} (h : n ≤ 1000000) : n ≤ maxLen := Nat.le_trans h (by decide)
theorem sem_casti {o : Oper} {T : TF} {B : BF} {k : IntKind} {b c : Int} (h : Sem P ops o T B (.r (.v (.c (.i k b))))) (e : b = c) : Sem P ops o T B (.r (.v (.c (.i k c)))) := by subst e; exact h
theorem sem_max4 {T : TF} {B : BF} {dst : Option Nat} {x1 x2 x3 x4 : Operand} {t1 t2 t3 t4 : TypeId} {ty : TypeId} {pos : String} {af : Array Edge} {g : Option (Nat × Bool)} {k : IntKind} {m1 m2 m3 m4 : Int}
    (h1 : opd T x1 = some (.v (.c (.i k m1)))) (h2 : opd T x2 = some (.v (.c (.i k m2)))) (h3 : opd T x3 = some (.v (.c (.i k m3)))) (h4 : opd T x4 = some (.v (.c (.i k m4))))
    (hg : gd ops ⟨dst, .call ⟨.builtin .max, #[x1, x2, x3, x4], #[t1, t2, t3, t4]⟩, ty, pos, af, g⟩ T = some true) :
    Sem P ops ⟨dst, .call ⟨.builtin .max, #[x1, x2, x3, x4], #[t1, t2, t3, t4]⟩, ty, pos, af, g⟩ T B (.r (.v (.c (.i k (max (max (max m1 m2) m3) m4))))) :=
  sem_pure hg (nop rfl) (fun V β a w hs => by
    have e1 : a.eval x1 = .int k m1 := RdC.int_eq (opd_reads hs (x := x1) (by simp [Op.operands, Call.operands]) h1)
    have e2 : a.eval x2 = .int k m2 := RdC.int_eq (opd_reads hs (x := x2) (by simp [Op.operands, Call.operands]) h2)
    have e3 : a.eval x3 = .int k m3 := RdC.int_eq (opd_reads hs (x := x3) (by simp [Op.operands, Call.operands]) h3)
    have e4 : a.eval x4 = .int k m4 := RdC.int_eq (opd_reads hs (x := x4) (by simp [Op.operands, Call.operands]) h4)
    have q : ∀ a b : Int, Builtin.max2 (.int k a) (.int k b) = pure (.int k (max a b)) := fun a b => by
      show pure (Value.int k (if b > a then b else a)) = _
      congr 2; split <;> omega
    refine ⟨.int k (max (max (max m1 m2) m3) m4), ?_, .i _ _⟩
    simp [execOp, resolve, invoke, builtin, Builtin.max_, q, e1, e2, e3, e4])
end
end Go.Proofs.YtedlgdliniokiaaGreat
/- Data: the greater and the lesser of two numbers, casts, structs of integers compared. -/
namespace Go.Proofs.YtedlgdliniokiaaGreat
open Go Go.RowKit
section
variable {P : Program} {ops : Array Oper} {T : TF} {B : BF}
/-- The value of an integer cell. -/
def tvI : CellD → Value
  | .i k m => .int k m
  | _ => undef
def isI : CellD → Bool
  | .i _ _ => true
  | _ => false
theorem ints_of {V : Nat → Prop} {w : World} : ∀ {vs : List Value} {us : List CellD}, us.all isI = true → RdCs V w vs us → vs = us.map tvI
  | [], [], _, _ => rfl
  | [], _ :: _, _, h => by have := h.1; simp at this
  | _ :: _, [], _, h => by have := h.1; simp at this
  | v :: vs, u :: us, ha, h => by
    simp only [List.all_cons, Bool.and_eq_true] at ha
    obtain ⟨h1, h2⟩ := h.uncons
    rw [ints_of ha.2 h2, List.map_cons]
    congr 1
    cases u with
    | i k m => exact h1.int_eq
    | _ => cases ha.1
theorem agg_of {V : Nat → Prop} {w : World} {v : Value} {us : List CellD} (hi : us.all isI = true) (h : RdV V w v (.a us)) : v = .agg (us.map tvI).toArray := by
  obtain ⟨cs, rfl, hr⟩ := h
  rw [← ints_of hi hr]
theorem sem_seq {dst : Option Nat} {xt yt : TypeId} {x y : Operand} {ty : TypeId} {pos : String} {af : Array Edge} {g : Option (Nat × Bool)} {us ws : List CellD} {r : Bool}
    (hx : opd T x = some (.v (.a us))) (hy : opd T y = some (.v (.a ws))) (hi : us.all isI = true) (hj : ws.all isI = true) (hq : P.eqGuardType P.depth xt = false)
    (he : ∀ w, (Op.equalIn 10000 xt (.agg (us.map tvI).toArray) (.agg (ws.map tvI).toArray)).run P w = .ok r w) (hg : gd ops ⟨dst, .binOp .eql xt x y yt, ty, pos, af, g⟩ T = some true) :
    Sem P ops ⟨dst, .binOp .eql xt x y yt, ty, pos, af, g⟩ T B (.r (.v (.c (.b r)))) :=
  sem_pure hg (nop rfl) (fun V β a w hs => by
      have e1 := agg_of hi (opd_reads hs (x := x) (by simp [Op.operands]) hx)
      have e2 := agg_of hj (opd_reads hs (x := y) (by simp [Op.operands]) hy)
      refine ⟨.bool r, ?_, .b _⟩
      simp only [execOp, e1, e2, Sem.run_bind, run_eqGuard_agg w .eql xt x y _ _ hq, Result.andThen_ok, run_eql_struct, he]
      rfl)
theorem sem_sne {dst : Option Nat} {xt yt : TypeId} {x y : Operand} {ty : TypeId} {pos : String} {af : Array Edge} {g : Option (Nat × Bool)} {us ws : List CellD} {r : Bool}
    (hx : opd T x = some (.v (.a us))) (hy : opd T y = some (.v (.a ws))) (hi : us.all isI = true) (hj : ws.all isI = true) (hq : P.eqGuardType P.depth xt = false)
    (he : ∀ w, (Op.equalIn 10000 xt (.agg (us.map tvI).toArray) (.agg (ws.map tvI).toArray)).run P w = .ok r w) (hg : gd ops ⟨dst, .binOp .neq xt x y yt, ty, pos, af, g⟩ T = some true) :
    Sem P ops ⟨dst, .binOp .neq xt x y yt, ty, pos, af, g⟩ T B (.r (.v (.c (.b (!r))))) :=
  sem_pure hg (nop rfl) (fun V β a w hs => by
      have e1 := agg_of hi (opd_reads hs (x := x) (by simp [Op.operands]) hx)
      have e2 := agg_of hj (opd_reads hs (x := y) (by simp [Op.operands]) hy)
      refine ⟨.bool (!r), ?_, .b _⟩
      simp only [execOp, e1, e2, Sem.run_bind, run_eqGuard_agg w .neq xt x y _ _ hq, Result.andThen_ok, run_neq_struct, he]
      rfl)
theorem eqf_step {d : Nat} {xs ys : Array Value} {f : Field} {fs : List Field} {x y : Value} {w : World} {r : Bool} (hn : f.name ≠ "_") (hx : (part f.type xs f.offset).run P w = .ok x w) (hy : (part f.type ys f.offset).run P w = .ok y w)
    (he : (Op.equalIn d f.type x y).run P w = .ok r w) : (Op.eqFields d xs ys (f :: fs)).run P w = if r then (Op.eqFields d xs ys fs).run P w else .ok false w := by
  simp only [Op.eqFields, if_pos hn, Sem.run_bind, hx, Result.andThen_ok, hy, he]
  cases r <;> simp
end
section
variable {P : Program} {f : FuncId} {ds rs : List D0}
theorem icast2 {x y x' y' : Int} (h : Ok P f ds (.a ([.i .i64 x] ++ [.i .i64 y]) :: rs)) (e1 : x = x') (e2 : y = y') : Ok P f ds (.a ([.i .i64 x'] ++ [.i .i64 y']) :: rs) := by subst e1 e2; exact h
theorem icast2b {x y x' y' : Int} {b c : Bool} (h : Ok P f ds [.a ([.i .i64 x] ++ [.i .i64 y]), .c (.b b)]) (e1 : x = x') (e2 : y = y') (e3 : b = c) : Ok P f ds [.a ([.i .i64 x'] ++ [.i .i64 y']), .c (.b c)] := by subst e1 e2 e3; exact h
end
end Go.Proofs.YtedlgdliniokiaaGreat
/- Plain: ways in one direction, their centers; the range of coordinates. -/
namespace Go.Proofs.YtedlgdliniokiaaGreat
open Go Go.RowKit
def dsg (a b : Int) : Int := if a < b then 1 else if a > b then -1 else 0
theorem dsg_p {a b : Int} (h : decide (a < b) = true) : dsg a b = 1 := if_pos (of_decide_eq_true h)
theorem dsg_m {a b : Int} (h : decide (a > b) = true) : dsg a b = -1 := by
  have := of_decide_eq_true h
  unfold dsg; rw [if_neg (by omega), if_pos this]
theorem dsg_z {a b : Int} (h : decide (a < b) = false) (h2 : decide (a > b) = false) : dsg a b = 0 := by
  unfold dsg; rw [if_neg (of_decide_eq_false h), if_neg (of_decide_eq_false h2)]
theorem dsg_bd (a b : Int) : -1 ≤ dsg a b ∧ dsg a b ≤ 1 := by unfold dsg; split <;> (try split) <;> omega
def dok (a1 a2 b1 b2 : Int) : Bool := !((dsg a1 b1 == 0) == (dsg a2 b2 == 0))
def far (x : Int) : Bool := if decide (x > 10000000) then true else decide (x < -10000000)
theorem far_t {x : Int} (h : decide (x > 10000000) = true) : far x = true := by unfold far; rw [h]; rfl
theorem far_f {x : Int} (h : decide (x > 10000000) = false) : far x = decide (x < -10000000) := by unfold far; rw [h]; rfl
theorem far_n {x : Int} (h : far x = false) : -10000000 ≤ x ∧ x ≤ 10000000 := by
  unfold far at h
  split at h
  · cases h
  · rename_i g; simp at h g; omega
theorem far_i {x : Int} (h1 : -10000000 ≤ x) (h2 : x ≤ 10000000) : far x = false := by
  unfold far
  rw [if_neg (by simp; omega)]
  simp; omega
def outb (x y r : Int) : Bool := (far x || (far y || far r)) || (far (x + r) || (far (x - r) || (far (y + r) || far (y - r))))
def rnd (x y r : Int) : Bool := (!(far x || far y) && decide (r ≤ 20000000)) && !(far (x - r) || (far (x + r) || (far (y - r) || far (y + r))))
theorem far_iff (x : Int) : far x = false ↔ (-10000000 ≤ x ∧ x ≤ 10000000) := ⟨far_n, fun h => far_i h.1 h.2⟩
theorem outb_iff (x y r : Int) : outb x y r = false ↔ ((-10000000 ≤ x ∧ x ≤ 10000000) ∧ (-10000000 ≤ y ∧ y ≤ 10000000) ∧ (-10000000 ≤ r ∧ r ≤ 10000000) ∧ (-10000000 ≤ x + r ∧ x + r ≤ 10000000) ∧ (-10000000 ≤ x - r ∧ x - r ≤ 10000000) ∧ (-10000000 ≤ y + r ∧ y + r ≤ 10000000) ∧ (-10000000 ≤ y - r ∧ y - r ≤ 10000000)) := by
  unfold outb
  simp only [Bool.or_eq_false_iff, far_iff]
  omega
theorem rnd_iff (x y r : Int) : rnd x y r = true ↔ ((-10000000 ≤ x ∧ x ≤ 10000000) ∧ (-10000000 ≤ y ∧ y ≤ 10000000) ∧ r ≤ 20000000 ∧ (-10000000 ≤ x + r ∧ x + r ≤ 10000000) ∧ (-10000000 ≤ x - r ∧ x - r ≤ 10000000) ∧ (-10000000 ≤ y + r ∧ y + r ≤ 10000000) ∧ (-10000000 ≤ y - r ∧ y - r ≤ 10000000)) := by
  unfold rnd
  simp only [Bool.and_eq_true, Bool.not_eq_true', Bool.or_eq_false_iff, far_iff, decide_eq_true_eq]
  omega
theorem rnd_out {x y r : Int} (h : 0 ≤ r) : rnd x y r = !outb x y r := by
  cases h1 : outb x y r with
  | false => rw [outb_iff] at h1; rw [Bool.not_false, rnd_iff]; omega
  | true =>
    rw [Bool.not_true]
    cases h2 : rnd x y r with
    | false => rfl
    | true =>
      rw [rnd_iff] at h2
      have : outb x y r = false := by rw [outb_iff]; omega
      rw [this] at h1; cases h1
/-- The four directions. -/
def Dir (dx dy : Int) : Prop := (dx = 1 ∧ dy = 0) ∨ (dx = -1 ∧ dy = 0) ∨ (dx = 0 ∧ dy = 1) ∨ (dx = 0 ∧ dy = -1)
theorem dir_of {a1 a2 b1 b2 : Int} (h : dok a1 a2 b1 b2 = true) : ∃ L dx dy, 1 ≤ L ∧ Dir dx dy ∧ b1 = a1 + L * dx ∧ b2 = a2 + L * dy := by
  by_cases h1 : a1 < b1
  · have e1 : dsg a1 b1 = 1 := by unfold dsg; rw [if_pos h1]
    by_cases h2 : a2 = b2
    · exact ⟨b1 - a1, 1, 0, by omega, .inl ⟨rfl, rfl⟩, by omega, by omega⟩
    · exfalso
      have e2 : dsg a2 b2 ≠ 0 := by unfold dsg; split <;> (try split) <;> omega
      unfold dok at h; rw [e1] at h; simp [e2] at h
  · by_cases h2 : a1 > b1
    · have e1 : dsg a1 b1 = -1 := by unfold dsg; rw [if_neg h1, if_pos h2]
      by_cases h2 : a2 = b2
      · exact ⟨a1 - b1, -1, 0, by omega, .inr (.inl ⟨rfl, rfl⟩), by omega, by omega⟩
      · exfalso
        have e2 : dsg a2 b2 ≠ 0 := by unfold dsg; split <;> (try split) <;> omega
        unfold dok at h; rw [e1] at h; simp [e2] at h
    · have e1 : dsg a1 b1 = 0 := by unfold dsg; rw [if_neg h1, if_neg h2]
      by_cases h3 : a2 < b2
      · exact ⟨b2 - a2, 0, 1, by omega, .inr (.inr (.inl ⟨rfl, rfl⟩)), by omega, by omega⟩
      · by_cases h4 : a2 > b2
        · exact ⟨a2 - b2, 0, -1, by omega, .inr (.inr (.inr ⟨rfl, rfl⟩)), by omega, by omega⟩
        · exfalso
          have e2 : dsg a2 b2 = 0 := by unfold dsg; rw [if_neg h3, if_neg h4]
          unfold dok at h; rw [e1, e2] at h; simp at h
section
variable {a L d dx dy : Int}
theorem dsg_dir (hL : 1 ≤ L) (hd : d = 1 ∨ d = -1 ∨ d = 0) : dsg a (a + L * d) = d := by
  rcases hd with h | h | h <;> subst h <;> unfold dsg
  · rw [if_pos (by omega)]
  · rw [if_neg (by omega), if_pos (by omega)]
  · rw [if_neg (by omega), if_neg (by omega)]
theorem Dir.x (h : Dir dx dy) : dx = 1 ∨ dx = -1 ∨ dx = 0 := by unfold Dir at h; omega
theorem Dir.y (h : Dir dx dy) : dy = 1 ∨ dy = -1 ∨ dy = 0 := by unfold Dir at h; omega
theorem dok_dir {a1 a2 : Int} (hL : 1 ≤ L) (h : Dir dx dy) : dok a1 a2 (a1 + L * dx) (a2 + L * dy) = true := by
  unfold dok
  rw [dsg_dir hL h.x, dsg_dir hL h.y]
  rcases h with ⟨rfl, rfl⟩ | ⟨rfl, rfl⟩ | ⟨rfl, rfl⟩ | ⟨rfl, rfl⟩ <;> rfl
end
/-- The first i + 1 centers. -/
def ctr (a1 a2 dx dy s : Int) : Nat → List CellD
  | 0 => [.i .i64 a1] ++ [.i .i64 a2]
  | i + 1 => ctr a1 a2 dx dy s i ++ ([.i .i64 (a1 + dx * (((i + 1 : Nat) : Int) * s))] ++ [.i .i64 (a2 + dy * (((i + 1 : Nat) : Int) * s))])
theorem ctr_len {a1 a2 dx dy s : Int} : ∀ i, (ctr a1 a2 dx dy s i).length = (i + 1) * 2
  | 0 => rfl
  | i + 1 => by
    show (ctr a1 a2 dx dy s i ++ _).length = _
    rw [List.length_append, ctr_len i, Nat.succ_mul (i + 1)]; rfl
theorem ctr_all {a1 a2 dx dy s : Int} : ∀ i, (ctr a1 a2 dx dy s i).all isI = true
  | 0 => rfl
  | i + 1 => by
    show (ctr a1 a2 dx dy s i ++ _).all isI = true
    rw [List.all_append, ctr_all i]; rfl
theorem ct_iff {L s : Int} {k : Nat} (hs : 1 ≤ s) (hk : (k : Int) = (L - 1) / s) (i : Nat) : ((i + 1 : Nat) : Int) * s < L ↔ i < k := by
  have h := Int.le_ediv_iff_mul_le (a := ((i + 1 : Nat) : Int)) (b := L - 1) (c := s) (by omega)
  constructor
  · intro h1; have := h.2 (by omega); omega
  · intro h1; have := h.1 (by omega); omega
theorem ct_nn {s : Int} (hs : 1 ≤ s) (i : Nat) : 0 ≤ (i : Int) * s := Int.mul_nonneg (by omega) (by omega)
theorem ct_ge {s : Int} (hs : 1 ≤ s) (i : Nat) : s ≤ ((i + 1 : Nat) : Int) * s := by
  have := Int.mul_le_mul_of_nonneg_right (show (1 : Int) ≤ ((i + 1 : Nat) : Int) by omega) (show 0 ≤ s by omega)
  omega
theorem ct_nx {s : Int} (i : Nat) : ((i + 1 : Nat) : Int) * s = (i : Int) * s + s := by
  rw [Int.natCast_add, Int.add_mul]; simp
theorem q_bd {L s : Int} (hL : 1 ≤ L) (hs : 1 ≤ s) : 0 ≤ (L - 1) / s ∧ (L - 1) / s ≤ L - 1 :=
  ⟨Int.ediv_nonneg (by omega) (by omega), Int.ediv_le_self _ (by omega)⟩
theorem cl_q {L s : Int} (hL : 1 ≤ L) (hL2 : L ≤ 20000000) (hs : 1 ≤ s) : IntKind.i64.wrap ((L + s - 1).tdiv s) = (L - 1) / s + 1 := by
  have hq := q_bd hL hs
  rw [Int.tdiv_eq_ediv_of_nonneg (by omega), show L + s - 1 = L - 1 + 1 * s by omega, Int.add_mul_ediv_right _ _ (by omega)]
  exact nw64 (by omega) (by omega)
theorem min_q {L s : Int} (hL : 1 ≤ L) (_hs : 1 ≤ s) : (L - 1) / min s L = (L - 1) / s := by
  by_cases h : s ≤ L
  · rw [Int.min_eq_left h]
  · rw [Int.min_eq_right (by omega), Int.ediv_eq_zero_of_lt (by omega) (by omega), Int.ediv_eq_zero_of_lt (by omega) (by omega)]
theorem min_ctr {a1 a2 dx dy L s : Int} {k : Nat} (hL : 1 ≤ L) (_hs : 1 ≤ s) (hk : (k : Int) = (L - 1) / s) : ctr a1 a2 dx dy (min s L) k = ctr a1 a2 dx dy s k := by
  by_cases h : s ≤ L
  · rw [Int.min_eq_left h]
  · rw [Int.ediv_eq_zero_of_lt (by omega) (by omega)] at hk
    obtain rfl : k = 0 := by omega
    rfl
theorem dir_L {a1 a2 L dx dy : Int} (_hL : 1 ≤ L) (hd : Dir dx dy) (r1 : -10000000 ≤ a1 ∧ a1 ≤ 10000000) (r2 : -10000000 ≤ a2 ∧ a2 ≤ 10000000) (r3 : -10000000 ≤ a1 + L * dx ∧ a1 + L * dx ≤ 10000000) (r4 : -10000000 ≤ a2 + L * dy ∧ a2 + L * dy ≤ 10000000) : L ≤ 20000000 := by
  rcases hd with ⟨rfl, rfl⟩ | ⟨rfl, rfl⟩ | ⟨rfl, rfl⟩ | ⟨rfl, rfl⟩ <;> omega
end Go.Proofs.YtedlgdliniokiaaGreat
/- Ways: directions, ranges. -/
namespace Go.Proofs.YtedlgdliniokiaaGreat
open Go Go.RowKit
-- no function swarf/trochoid.compare in this seat
-- no function swarf/trochoid.sign in this seat
-- no function swarf/trochoid.direction in this seat
-- no function swarf/swarfref34.side in this seat
-- no function swarf/swarfref34.Direction in this seat
-- no function swarf/swarfref34.far in this seat
-- no function swarf/trochoid.grid$1 in this seat
-- no function slices.IndexFunc[[]int64,int64] in this seat
-- no function slices.ContainsFunc[[]int64,int64] in this seat
-- no function swarf/trochoid.grid in this seat
-- no function slices.IndexFunc[[]int64,int64] in this seat
-- no function slices.ContainsFunc[[]int64,int64] in this seat
-- no function swarf/trochoid.grid in this seat
-- no function slices.IndexFunc[[]int64,int64] in this seat
-- no function slices.ContainsFunc[[]int64,int64] in this seat
-- no function swarf/trochoid.grid in this seat
-- no function slices.IndexFunc[[]int64,int64] in this seat
-- no function slices.ContainsFunc[[]int64,int64] in this seat
-- no function swarf/trochoid.grid in this seat
-- no function slices.IndexFunc[[]int64,int64] in this seat
-- no function slices.ContainsFunc[[]int64,int64] in this seat
-- no function swarf/trochoid.grid in this seat
-- no function slices.IndexFunc[[]int64,int64] in this seat
-- no function slices.ContainsFunc[[]int64,int64] in this seat
-- no function swarf/trochoid.grid in this seat
-- no function slices.IndexFunc[[]int64,int64] in this seat
-- no function slices.ContainsFunc[[]int64,int64] in this seat
-- no function swarf/trochoid.grid in this seat
-- no function slices.IndexFunc[[]int64,int64] in this seat
-- no function slices.ContainsFunc[[]int64,int64] in this seat
-- no function swarf/trochoid.grid in this seat
-- no function slices.IndexFunc[[]int64,int64] in this seat
-- no function slices.ContainsFunc[[]int64,int64] in this seat
-- no function swarf/trochoid.grid in this seat
-- no function slices.IndexFunc[[]int64,int64] in this seat
-- no function slices.ContainsFunc[[]int64,int64] in this seat
-- no function swarf/trochoid.grid in this seat
-- no function swarf/trochoid.round in this seat
-- no function swarf/swarfref34.out in this seat
end Go.Proofs.YtedlgdliniokiaaGreat
/- Data: function values that hold pointers, and pointers to memory that stays. -/
namespace Go.Proofs.YtedlgdliniokiaaGreat
open Go Go.RowKit
theorem RdC.clo_eq {V : Nat → Prop} {w : World} {v : Value} {g : FuncId} {xs : List CellD} (h : RdC V w v (.k g xs)) : ∃ cs : Array Value, v = .func (.func g) #[] cs ∧ RdCs V w cs.toList xs := by
  cases h with
  | k _ cs _ h1 h2 => exact ⟨cs, rfl, by simpa using h1, fun j v u hv hu => h2 j v u (by simpa using hv) hu⟩
theorem RdC.ptr_eq {V : Nat → Prop} {w : World} {v : Value} {us : List CellD} (h : RdC V w v (.p us)) :
    ∃ b off, ∃ vs : List Value, v = .pointer (some ⟨b, off, none⟩) ∧ b < w.heap.size ∧ ¬ V b ∧ RdCs V w vs us ∧ ∀ (j : Nat) (u : Value), vs[j]? = some u → w.cell? ⟨b, off + j, none⟩ = some u := by
  cases h with
  | p b off _ cv h1 h2 h3 h4 =>
    refine ⟨b, off, (List.range us.length).map cv, rfl, h1, h2, ⟨by simp, fun j v u hv hu => ?_⟩, fun j u hu => ?_⟩
    · rw [List.getElem?_map] at hv
      have hlt : j < us.length := (List.getElem?_eq_some_iff.1 hu).1
      rw [List.getElem?_range hlt] at hv
      injection hv with hv; subst hv
      exact h4 j u hu
    · have hlt : j < us.length := by
        have := (List.getElem?_eq_some_iff.1 hu).1; simpa using this
      rw [List.getElem?_map, List.getElem?_range hlt] at hu
      injection hu with hu; subst hu
      exact h3 j hlt
section
variable {P : Program} {ops : Array Oper} {T : TF} {B : BF}
theorem sem_loadP {dst : Option Nat} {U : TypeId} {x : Operand} {ty : TypeId} {pos : String} {af : Array Edge} {g : Option (Nat × Bool)} {n : Nat} {cs us : List CellD}
    (hU : tyB P U = some (true, n)) (hx : opd T x = some (.v (.c (.p cs)))) (hu : cs.take n = us) (hn : us.length = n) (hg : gd ops ⟨dst, .load U x, ty, pos, af, g⟩ T = some true) :
    Sem P ops ⟨dst, .load U x, ty, pos, af, g⟩ T B (.r (.v (.a us))) :=
  sem_pure hg (nop rfl) (fun V β a w hs => by
    obtain ⟨b, off, vs, hp, _, _, hr, hc⟩ := RdC.ptr_eq (opd_reads hs (by simp [Op.operands]) hx)
    have hr2 := hr.take n
    rw [hu] at hr2
    have hrun := run_loadVar_agg (w := w) hU (b := b) (off := off) (vs := vs.take n) (by rw [hr2.1, hn]) (fun j v hv => by
      rw [List.getElem?_take] at hv
      split at hv
      · exact hc j v hv
      · cases hv)
    refine ⟨_, ?_, _, rfl, by simpa using hr2⟩
    simp only [execOp, Instr.loadAt, hp, Instr.sureAddr, Sem.run_bind, Sem.run_pure, Result.andThen_ok, hrun])
theorem sem_loadP1 {dst : Option Nat} {U : TypeId} {x : Operand} {ty : TypeId} {pos : String} {af : Array Edge} {g : Option (Nat × Bool)} {n : Nat} {cs : List CellD} {u : CellD}
    (hU : tyB P U = some (false, n)) (hx : opd T x = some (.v (.c (.p cs)))) (hu : cs[0]? = some u) (hg : gd ops ⟨dst, .load U x, ty, pos, af, g⟩ T = some true) :
    Sem P ops ⟨dst, .load U x, ty, pos, af, g⟩ T B (.r (.v (.c u))) :=
  sem_pure hg (nop rfl) (fun V β a w hs => by
    obtain ⟨b, off, vs, hp, _, _, hr, hc⟩ := RdC.ptr_eq (opd_reads hs (by simp [Op.operands]) hx)
    have hlt : 0 < cs.length := (List.getElem?_eq_some_iff.1 hu).1
    have hv : vs[0]? = some (vs[0]'(by rw [hr.1]; exact hlt)) := List.getElem?_eq_getElem _
    have hrun := run_loadVar_one (P := P) (w := w) hU (b := b) (off := off) (by have := hc 0 _ hv; simpa using this)
    refine ⟨_, ?_, hr.2 0 _ _ hv hu⟩
    simp only [execOp, Instr.loadAt, hp, Instr.sureAddr, Sem.run_bind, Sem.run_pure, Result.andThen_ok, hrun])

theorem sem_shrC {dst : Option Nat} {xt yt : TypeId} {x y : Operand} {ty : TypeId} {pos : String} {af : Array Edge} {g : Option (Nat × Bool)} {k yk : IntKind} {m n r : Int}
    (hx : opd T x = some (.v (.c (.i k m)))) (hy : opd T y = some (.v (.c (.i yk n)))) (h0 : ¬ n < 0) (hr : m.fdiv (2 ^ (min n.toNat k.bits)) = r) (hg : gd ops ⟨dst, .binOp .shr xt x y yt, ty, pos, af, g⟩ T = some true) :
    Sem P ops ⟨dst, .binOp .shr xt x y yt, ty, pos, af, g⟩ T B (.r (.v (.c (.i k r)))) :=
  sem_pure hg (nop rfl) (fun V β a w hs => by
      have e1 : a.eval x = .int k m := RdC.int_eq (opd_reads hs (x := x) (by simp [Op.operands]) hx)
      have e2 : a.eval y = .int yk n := RdC.int_eq (opd_reads hs (x := y) (by simp [Op.operands]) hy)
      subst hr
      exact ⟨.int k (m.fdiv (2 ^ (min n.toNat k.bits))), by simp [execOp, e1, e2, eqGuard, binOp, Op.shift, h0], .i _ _⟩)
/-- The operands read as cells. -/
def argsC (T : TF) : List Operand → Option (List CellD)
  | [] => some []
  | x :: xs => match opd T x, argsC T xs with
    | some (.v (.c u)), some us => some (u :: us)
    | _, _ => none
theorem argsC_reads {o : Oper} {V : Nat → Prop} {β : Nat → Nat} {a : Act} {w : World} (hs : Sees V (Looks ops o) T B β a w) : ∀ (xs : List Operand) (us : List CellD), (∀ x ∈ xs, x ∈ o.op.operands) → argsC T xs = some us → RdCs V w (xs.map a.eval) us
  | [], us, _, h => by injection h with h; subst h; exact RdCs.nil
  | x :: xs, us, hx, h => by
    unfold argsC at h
    split at h
    · rename_i u us' hu hus
      injection h with h
      subst h
      exact RdCs.cons (opd_reads hs (hx x (by simp)) hu) (argsC_reads hs xs us' (fun y hy => hx y (by simp [hy])) hus)
    · cases h
/-- A function value. -/
theorem sem_mkfn {dst : Option Nat} {f : FuncId} {cap : Array Operand} {ty : TypeId} {pos : String} {af : Array Edge} {g : Option (Nat × Bool)} {us : List CellD}
    (ha : argsC T cap.toList = some us) (hg : gd ops ⟨dst, .makeFunc (.func f) #[] cap, ty, pos, af, g⟩ T = some true) :
    Sem P ops ⟨dst, .makeFunc (.func f) #[] cap, ty, pos, af, g⟩ T B (.r (.v (.c (.k f us)))) :=
  sem_pure hg (nop rfl) (fun V β a w hs => by
    have h2 := argsC_reads hs cap.toList us (fun x hx => by have hx2 := Array.mem_toList_iff.1 hx; simp [Op.operands, hx2]) ha
    refine ⟨.func (.func f) #[] (cap.map a.eval), by simp [execOp, Instr.makeFunc], .k f _ us (by have := h2.1; simpa using this) (fun j v u hv hu => h2.2 j v u ?_ hu)⟩
    rw [← Array.toList_map, Array.getElem?_toList]; exact hv)
theorem RdL.append {V : Nat → Prop} {w : World} : ∀ {vs vs' : List Value} {ds ds' : List D0}, RdL V w vs ds → RdL V w vs' ds' → RdL V w (vs ++ vs') (ds ++ ds')
  | [], vs', [], ds', _, h' => h'
  | [], _, _ :: _, _, h, _ => by have := h.1; simp at this
  | _ :: _, _, [], _, h, _ => by have := h.1; simp at this
  | v :: vs, vs', d :: ds, ds', h, h' => by
    obtain ⟨h1, h2⟩ := h.uncons
    exact RdL.cons h1 (RdL.append h2 h')
theorem RdCs.toL {V : Nat → Prop} {w : World} {vs : List Value} {us : List CellD} (h : RdCs V w vs us) : RdL V w vs (us.map .c) := by
  refine ⟨by simp [h.1], fun j v d hv hd => ?_⟩
  rw [List.getElem?_map] at hd
  cases hu : us[j]? with
  | none => rw [hu] at hd; cases hd
  | some u => rw [hu] at hd; injection hd with hd; subst hd; exact h.2 j v u hv hu
/-- A call of a function value that holds something. -/
theorem sem_callk {dst : Option Nat} {fo : Operand} {args : Array Operand} {at_ : Array TypeId} {ty : TypeId} {pos : String} {af : Array Edge} {g : Option (Nat × Bool)} {f : FuncId} {ds rs : List D0} {us : List CellD}
    (hf : opd T fo = some (.v (.c (.k f us)))) (ha : argsD T args.toList = some ds) (hok : Ok P f (ds ++ us.map .c) rs) (hg : gd ops ⟨dst, .call ⟨.value fo, args, at_⟩, ty, pos, af, g⟩ T = some true) :
    Sem P ops ⟨dst, .call ⟨.value fo, args, at_⟩, ty, pos, af, g⟩ T B (.r (resD rs)) := by
  refine ⟨nop (by unfold resD; split <;> rfl), fun V β a w hs => ⟨gd_want hs hg, ?_⟩⟩
  obtain ⟨cs, h1, h1r⟩ := RdC.clo_eq (opd_reads hs (x := fo) (by simp [Op.operands, Call.operands]) hf)
  have h2 := argsD_reads hs args.toList ds (fun x hx => by have hx2 := Array.mem_toList_iff.1 hx; simp [Op.operands, Call.operands, hx2]) ha
  have hc := hok.cal
  unfold callable at hc
  cases hfn : P.funcs[f]? with
  | none => rw [hfn] at hc; cases hc
  | some fn =>
    rw [hfn] at hc
    simp only [Bool.and_eq_true, bne_iff_ne, ne_eq, Bool.not_eq_true'] at hc
    have hrun : (execOp a.eval ⟨dst, .call ⟨.value fo, args, at_⟩, ty, pos, af, g⟩).run P w = .ok (.enter f (args.map a.eval ++ cs)) w := by
      have hb2 : fn.body ≠ none := by have := hc.2; cases hbb : fn.body with
        | none => rw [hbb] at this; cases this
        | some c => simp
      simp [execOp, resolve, h1, Deferred.ofValue, invoke, callFunc, program, Sem.run, hfn, hc.1, hb2]
    unfold Gives
    rw [hrun]
    refine (hok.run V (args.map a.eval ++ cs) w hs.av (by rw [Array.toList_append, Array.toList_map]; exact h2.append h1r.toL)).mono ?_
    rintro e w' ⟨v, rfl, hr, hb⟩
    refine ⟨v, rfl, ?_, hb⟩
    unfold RdR at hr
    split at hr
    · exact hr
    · rename_i hne
      have e2 : resD rs = .t rs := by
        unfold resD
        split
        · rename_i d; exact absurd rfl (hne d)
        · rfl
      rw [e2]; exact hr
end
section
variable {P : Program} {σ : St} {Q : Exit → St → Prop}
/-- A box that no one will write any more: its pointer is a datum. -/
theorem dw_freeze {c : Code} {N t k : Nat} {tm : List (Nat × DV)} {bx : List (Nat × TypeId × List CellD)} {U : TypeId} {cs : List CellD}
    (ht : look t tm = some (.p k 0)) (hb : look k bx = some (U, cs))
    (h : Dw P c ⟨N, (t, .v (.c (.p cs))) :: killL k tm, dropL k bx⟩ Q) : Dw P c ⟨N, tm, bx⟩ Q := fun av w0 β a w hr => by
  obtain ⟨v, hv, hx⟩ := hr.sees.tmp t _ trivial ht
  have hx : v = .pointer (some ⟨β k, 0, none⟩) := hx
  subst hx
  obtain ⟨hvk, vs, ev, hrd⟩ := hr.sees.box k U cs hb
  have hk0 : (St.B ⟨N, tm, bx⟩) k ≠ none := by rw [show (St.B ⟨N, tm, bx⟩) k = some (U, cs) from hb]; simp
  have e := drop_av hr hk0
  have hkeep : Keep (fun b => av b ∨ ∃ l, (St.B ⟨N, tm, bx⟩) l ≠ none ∧ β l = b) (fun b => (av b ∨ ∃ l, (St.B ⟨N, tm, bx⟩) l ≠ none ∧ β l = b) ∧ b ≠ β k) w w := ⟨Nat.le_refl _, fun _ _ _ => rfl, fun _ _ h => h.1⟩
  have hread : RdC (fun b => (av b ∨ ∃ l, (St.B ⟨N, tm, bx⟩) l ≠ none ∧ β l = b) ∧ b ≠ β k) w (.pointer (some ⟨β k, 0, none⟩)) (.p cs) := by
    have hr2 := hrd.keep hkeep
    refine .p (β k) 0 cs (fun j => vs.getD j undef) (hr.sees.av _ hvk) (fun h => h.2 rfl) (fun j hj => ?_) (fun j u hj => ?_)
    · rw [Nat.zero_add, cells_of_box ev]
      have : j < vs.size := by have := hrd.1; simp at this; omega
      simp [Array.getD, this]
    · have hlt : j < cs.length := (List.getElem?_eq_some_iff.1 hj).1
      refine hr2.2 j _ u ?_ hj
      rw [Array.getElem?_toList]
      have : j < vs.size := by have := hrd.1; simp at this; omega
      simp [Array.getD, this]
  have h2 := (hr.drop k).upd (t := t) (x := .v (.c (.p cs))) hv (by rw [e]; exact hread) rfl
  refine h av w0 β a w (h2.congr (fun s => ?_) (fun l => ?_))
  · show look s ((t, .v (.c (.p cs))) :: killL k tm) = _
    rw [look_cons]
    split
    · rfl
    · rw [killL_look]
      show _ = killF k (fun s => look s tm) s
      unfold killF
      try (dsimp only)
      try (generalize look s tm = q; cases q <;> rfl)
  · exact dropL_look k l bx
end
end Go.Proofs.YtedlgdliniokiaaGreat
/- Plain: the cosine of half the engagement beside a disc; it falls with the distance. -/
namespace Go.Proofs.YtedlgdliniokiaaGreat
open Go Go.RowKit
/-- A number that is a cosine. -/
def cosB (c : Rat) : Bool := decide (c ≤ 1) && decide (-1 ≤ c)
theorem cosB_t {c : Rat} (h : decide (cmpR c ((1 : Int) : Rat) ≤ 0) = true) : cosB c = decide (cmpR (-c) ((1 : Int) : Rat) ≤ 0) := by
  have h1 := cmpR_le.1 (of_decide_eq_true h)
  unfold cosB
  rw [decide_eq_true (show c ≤ 1 from h1), Bool.true_and]
  apply decide_eq_decide.2
  rw [cmpR_le]
  constructor <;> intro h <;> grind
theorem cosB_f {c : Rat} (h : decide (cmpR c ((1 : Int) : Rat) ≤ 0) = false) : cosB c = false := by
  have h1 := mt cmpR_le.2 (of_decide_eq_false h)
  unfold cosB
  rw [decide_eq_false (show ¬ c ≤ 1 from h1), Bool.false_and]
theorem cosB_t2 {c : Rat} (h : decide (cmpR c ((1 : Int) : Rat) ≤ 0) = true) : cosB c = decide (cmpR c (-((1 : Int) : Rat)) ≥ 0) := by
  have h1 := cmpR_le.1 (of_decide_eq_true h)
  unfold cosB
  rw [decide_eq_true (show c ≤ 1 from h1), Bool.true_and]
  apply decide_eq_decide.2
  rw [cmpR_ge]
  constructor <;> intro h <;> grind
/-- The cosine: cleared radius R, tool r, distance e. -/
def hfQ (R r e : Rat) : Rat := (R * R - e * e - r * r) / (((2 : Int) : Rat) * (e * r))
/-- For a circle a, a tool t, a step s. -/
def cq (a t s : Int) : Rat := hfQ (((a + t : Int)) : Rat) ((t : Int) : Rat) (((a + s : Int)) : Rat)
def alw (a t s : Int) (c : Rat) : Bool := decide (cmpR (cq a t s) 0 ≥ 0) && decide (cmpR (cq a t s * cq a t s + cq a t s * cq a t s - ((1 : Int) : Rat)) c ≥ 0)
theorem rpos {n : Int} (h : 1 ≤ n) : 0 < (n : Rat) := by
  have := Rat.intCast_lt_intCast.2 (show 0 < n by omega)
  exact this
theorem et_pos {a t s : Int} (ha : 1 ≤ a) (ht : 1 ≤ t) (hs : 0 ≤ s) : 0 < (((a + s : Int)) : Rat) * ((t : Int) : Rat) := Rat.mul_pos (rpos (by omega)) (rpos ht)
theorem cq_eq {a t s : Int} (ha : 1 ≤ a) (ht : 1 ≤ t) (hs : 0 ≤ s) : cq a t s * (((2 : Int) : Rat) * ((((a + s : Int)) : Rat) * ((t : Int) : Rat))) = (((a + t) * (a + t) - (a + s) * (a + s) - t * t : Int) : Rat) := by
  have h := et_pos ha ht hs
  unfold cq hfQ
  rw [Rat.div_mul_cancel (by have : (0 : Rat) < ((2 : Int) : Rat) * ((((a + s : Int)) : Rat) * ((t : Int) : Rat)) := Rat.mul_pos (by decide) h; grind)]
  simp only [Rat.intCast_sub, Rat.intCast_mul]
theorem cq_lt {a t s : Int} (ha : 1 ≤ a) (ht : 1 ≤ t) (hs : 1 ≤ s) : cq a t s < 1 := by
  have h := cq_eq ha ht (show 0 ≤ s by omega)
  have hp : (0 : Rat) < ((2 : Int) : Rat) * ((((a + s : Int)) : Rat) * ((t : Int) : Rat)) := Rat.mul_pos (by decide) (et_pos ha ht (by omega))
  apply Classical.byContradiction
  intro hn
  have h1 : (1 : Rat) ≤ cq a t s := by grind
  have h2 := Rat.mul_le_mul_of_nonneg_right h1 (show 0 ≤ ((2 : Int) : Rat) * ((((a + s : Int)) : Rat) * ((t : Int) : Rat)) by grind)
  rw [h, Rat.one_mul] at h2
  have h3 : (((2 * ((a + s) * t) : Int)) : Rat) ≤ (((a + t) * (a + t) - (a + s) * (a + s) - t * t : Int) : Rat) := by
    rw [Rat.intCast_mul, Rat.intCast_mul]; exact h2
  have h4 := Rat.intCast_le_intCast.1 h3
  have h5 : (a + t) * (a + t) ≤ (a + s + t) * (a + t) := Int.mul_le_mul_of_nonneg_right (by omega) (by omega)
  have h6 : (a + s + t) * (a + t) < (a + s + t) * (a + s + t) := Int.mul_lt_mul_of_pos_left (by omega) (by omega)
  grind
/-- A greater step: a greater engagement. -/
theorem cq_mono {a t s u : Int} (ha : 1 ≤ a) (ht : 1 ≤ t) (hs : 0 ≤ s) (hu : s ≤ u) (h0 : 0 ≤ cq a t u) : cq a t u ≤ cq a t s := by
  have e1 := cq_eq ha ht hs
  have e2 := cq_eq ha ht (show 0 ≤ u by omega)
  have p1 := et_pos ha ht hs
  have p2 := et_pos ha ht (show 0 ≤ u by omega)
  apply Classical.byContradiction
  intro hn
  have hlt : cq a t s < cq a t u := by grind
  have q1 : (0 : Rat) < ((2 : Int) : Rat) * ((((a + s : Int)) : Rat) * ((t : Int) : Rat)) := Rat.mul_pos (by decide) p1
  have h1 := Rat.mul_lt_mul_of_pos_right hlt q1
  have hle : ((2 : Int) : Rat) * ((((a + s : Int)) : Rat) * ((t : Int) : Rat)) ≤ ((2 : Int) : Rat) * ((((a + u : Int)) : Rat) * ((t : Int) : Rat)) := by
    have h3 : (2 * ((a + s) * t)) ≤ 2 * ((a + u) * t) := by
      have := Int.mul_le_mul_of_nonneg_right (show a + s ≤ a + u by omega) (show 0 ≤ t by omega)
      omega
    have h4 := Rat.intCast_le_intCast.2 h3
    rw [Rat.intCast_mul, Rat.intCast_mul, Rat.intCast_mul, Rat.intCast_mul] at h4
    exact h4
  have h2 := Rat.mul_le_mul_of_nonneg_left hle h0
  rw [e2] at h2
  rw [e1] at h1
  have h5 : (((a + t) * (a + t) - (a + s) * (a + s) - t * t : Int) : Rat) < (((a + t) * (a + t) - (a + u) * (a + u) - t * t : Int) : Rat) := by grind
  have h6 := Rat.intCast_lt_intCast.1 h5
  have h7 : (a + s) * (a + s) ≤ (a + u) * (a + u) := Int.mul_le_mul (by omega) (by omega) (by omega) (by omega)
  omega
theorem alw_iff {a t s : Int} {c : Rat} : alw a t s c = true ↔ 0 ≤ cq a t s ∧ c ≤ cq a t s * cq a t s + cq a t s * cq a t s - 1 := by
  unfold alw
  rw [Bool.and_eq_true, decide_eq_true_eq, decide_eq_true_eq, cmpR_ge, cmpR_ge]
  exact Iff.rfl
theorem alw_mono {a t s u : Int} {c : Rat} (ha : 1 ≤ a) (ht : 1 ≤ t) (hs : 0 ≤ s) (hu : s ≤ u) (h : alw a t u c = true) : alw a t s c = true := by
  rw [alw_iff] at *
  have h1 := cq_mono ha ht hs hu h.1
  have h2 : cq a t u * cq a t u ≤ cq a t s * cq a t s := by
    have g1 := Rat.mul_le_mul_of_nonneg_left h1 h.1
    have g2 := Rat.mul_le_mul_of_nonneg_right h1 (show 0 ≤ cq a t s by grind)
    grind
  exact ⟨by grind, by grind⟩
theorem no_full {a t s : Int} (ha : 1 ≤ a) (ht : 1 ≤ t) (hs : 1 ≤ s) (h : decide (cmpR (cq a t s) ((1 : Int) : Rat) ≥ 0) = true) : False := by
  have h1 := cmpR_ge.1 (of_decide_eq_true h)
  have h2 := cq_lt ha ht hs
  have h3 : (1 : Rat) ≤ cq a t s := h1
  grind
theorem alw_t {a t s : Int} {c : Rat} (h : decide (cmpR (cq a t s) 0 ≥ 0) = true) : alw a t s c = decide (cmpR (cq a t s * cq a t s + cq a t s * cq a t s - ((1 : Int) : Rat)) c ≥ 0) := by unfold alw; rw [h, Bool.true_and]
theorem alw_f {a t s : Int} {c : Rat} (h : decide (cmpR (cq a t s) 0 ≥ 0) = false) : alw a t s c = false := by unfold alw; rw [h, Bool.false_and]
theorem not_lt_le (i r : Int) : (!decide (i < r)) = decide (r ≤ i) := by rw [← decide_not]; exact decide_eq_decide.2 (by omega)
theorem shr_half {m : Int} : m.fdiv (2 ^ (min (1 : Int).toNat IntKind.u64.bits)) = m / 2 := by
  show m.fdiv 2 = m / 2
  exact Int.fdiv_eq_ediv_of_nonneg _ (by decide)
theorem Rz.num {n : Int} (h0 : -9223372036854775808 ≤ n) (h1 : n ≤ 9223372036854775807) : Rz 3 (n : Rat) := Rz.int (Sz.small (by decide) h0 h1) (by decide)
theorem cq_sz {a t s : Int} (ha : 1 ≤ a) (ht : 1 ≤ t) (hs : 1 ≤ s) (ha2 : a ≤ 10000000) (ht2 : t ≤ 10000000) (hs2 : s ≤ 10000001) : Rz 40 (cq a t s) := by
  have r1 : Rz 3 (((a + t : Int)) : Rat) := Rz.num (by omega) (by omega)
  have r2 : Rz 3 (((a + s : Int)) : Rat) := Rz.num (by omega) (by omega)
  have r3 : Rz 3 ((t : Int) : Rat) := Rz.num (by omega) (by omega)
  have r4 : Rz 3 ((2 : Int) : Rat) := Rz.num (by omega) (by omega)
  have hp : (0 : Rat) < ((2 : Int) : Rat) * ((((a + s : Int)) : Rat) * ((t : Int) : Rat)) := Rat.mul_pos (by decide) (et_pos ha ht (by omega))
  exact ((((r1.mul r1).sub (r2.mul r2)).sub (r3.mul r3)).div (r4.mul (r2.mul r3)) (by grind)).mono (by decide)
/-- A test that fails from some place on. -/
theorem first_fail (φ : Int → Bool) (hm : ∀ i j, 0 ≤ i → i ≤ j → φ j = true → φ i = true) : ∀ n : Nat, ∃ r : Int, 0 ≤ r ∧ r ≤ n ∧ ∀ i : Int, 0 ≤ i → i < n → φ i = decide (i < r)
  | 0 => ⟨0, by omega, by omega, fun i h1 h2 => by omega⟩
  | n + 1 => by
    obtain ⟨r, h1, h2, h3⟩ := first_fail φ hm n
    by_cases h : φ n = true
    · refine ⟨n + 1, by omega, by omega, fun i g1 g2 => ?_⟩
      rw [decide_eq_true (by omega)]
      exact hm i n g1 (by omega) h
    · refine ⟨r, h1, by omega, fun i g1 g2 => ?_⟩
      by_cases hi : i = n
      · subst hi
        rw [decide_eq_false (by omega)]
        simpa using h
      · exact h3 i g1 (by omega)
theorem step_ex {a t : Int} (c : Rat) (ha : 1 ≤ a) (ht : 1 ≤ t) : ∃ r : Int, 0 ≤ r ∧ r ≤ t + 1 ∧ ∀ i : Int, 0 ≤ i → i < t + 1 → alw a t (i + 1) c = decide (i < r) := by
  obtain ⟨r, h1, h2, h3⟩ := first_fail (fun i => alw a t (i + 1) c) (fun i j g1 g2 h => alw_mono ha ht (by omega) (by omega) h) (t + 1).toNat
  exact ⟨r, h1, by omega, fun i g1 g2 => h3 i g1 (by omega)⟩
end Go.Proofs.YtedlgdliniokiaaGreat
/- Package integer: GCD. -/
namespace Go.Proofs.YtedlgdliniokiaaGreat
open Go Go.RowKit
theorem iGCD_ok {x y : Int} (hx : Sz 1000000 x) (hy : Sz 1000000 y) : Ok Tryz.prog 130 [dI x, dI y] [dI (Int.gcd x y : Int)] := by
  refine Ok.of (by kernel_rfl) Tryz.func130 rfl rfl ?_
  rw [show Tryz.f130.ntmps = 61 from rfl, show Tryz.f130.results.toList = [.cell 4 26] from rfl]
  refine dw_seq ?_
  -- region 0
  refine dw_region (by kernel_rfl) ?_
  refine dl_new (sem_box_a rfl rfl) rfl ?_
  refine dl_new (sem_box_a rfl rfl) rfl ?_
  refine dl_new (sem_alloc zc26 rfl) rfl ?_
  refine dl_end ?_
  refine dw_seq ?_
  -- region 1
  refine dw_draw 8 [] follows_mixed (by kernel_rfl) rfl rfl ?_
  refine dq_r (sem_field fd26_1 rfl rfl) ?_
  refine dq_r (sem_load1 ty24 rfl rfl rfl rfl) ?_
  refine dq_r (sem_call rfl rfl (iSigned_cL) rfl) ?_
  refine dq_r (sem_field fd26_1 rfl rfl) ?_
  refine dq_r (sem_load1 ty24 rfl rfl rfl rfl) ?_
  refine dq_r (sem_call rfl rfl (iSigned_cL) rfl) ?_
  refine dq_new (sem_alloc zc26 rfl) rfl ?_
  refine dq_new (sem_alloc zc26 rfl) rfl ?_
  refine dq_end ?_
  refine dl_start2 ?_
  refine dl_st (sem_store_a ty26 rfl rfl rfl rfl rfl rfl) ?_
  refine dl_st (sem_store_a ty26 rfl rfl rfl rfl rfl rfl) ?_
  refine dl_end ?_
  refine dw_seq ?_
  refine dw_block ?_
  refine dw_loop (ι := {p : Int × Int // GInv x y p.1 p.2}) (fun i => ⟨61, [(4, .p 4 0), (5, .p 5 0), (6, .p 6 0)], [(4, 26, ([.b false] ++ [.s 0 []])), (5, 26, cI i.1.1), (6, 26, cI i.1.2)]⟩) (fun i => i.1.2.toNat) ⟨(sg false (x.natAbs : Int), sg false (y.natAbs : Int)), GInv.start hx hy⟩ (sub_of ⟨rfl, rfl, rfl, trivial⟩ ⟨rfl, rfl, rfl, trivial⟩ rfl) ?_
  rintro ⟨⟨a, c⟩, hg⟩
  replace hg : GInv x y a c := hg
  have ha := hg.sa
  have hcc := hg.sc
  show Dw _ _ ⟨61, [(4, .p 4 0), (5, .p 5 0), (6, .p 6 0)], [(4, 26, ([.b false] ++ [.s 0 []])), (5, 26, cI a), (6, 26, cI c)]⟩ _
  refine dw_seq ?_
  refine dw_seq ?_
  -- region 2
  refine dw_region (by kernel_rfl) ?_
  refine dl_r (sem_field fd26_1 rfl rfl) ?_
  refine dl_r (sem_load1 ty24 rfl rfl rfl rfl) ?_
  refine dl_r (sem_len sl24 rfl rfl) ?_
  refine dl_r (sem_cmp rfl rfl rfl rfl) ?_
  refine dl_end ?_
  refine dw_cond rfl (fun hc1 => ?_) (fun hc1 => ?_)
  · have hne := lenL_pos hc1
    refine dw_skip ?_
    refine dw_block ?_
    refine dw_seq ?_
    -- region 3
    refine dw_region (by kernel_rfl) ?_
    refine dl_r (sem_load (us := cI a) ty26 rfl rfl rfl rfl rfl) ?_
    refine dl_r (sem_call rfl rfl (iWord_ok) rfl) ?_
    refine dl_r (sem_move rfl rfl) ?_
    refine dl_r (sem_extract rfl rfl rfl) ?_
    refine dl_r (sem_extract rfl rfl rfl) ?_
    refine dl_r (sem_assign rfl rfl) ?_
    refine dl_r (sem_assign rfl rfl) ?_
    refine dl_end ?_
    refine dw_seq ?_
    -- region 4
    refine dw_region (by kernel_rfl) ?_
    refine dl_r (sem_load (us := cI c) ty26 rfl rfl rfl rfl rfl) ?_
    refine dl_r (sem_call rfl rfl (iWord_ok) rfl) ?_
    refine dl_r (sem_move rfl rfl) ?_
    refine dl_r (sem_extract rfl rfl rfl) ?_
    refine dl_r (sem_extract rfl rfl rfl) ?_
    refine dl_r (sem_assign rfl rfl) ?_
    refine dl_r (sem_assign rfl rfl) ?_
    refine dl_end ?_
    refine dw_seq ?_
    refine dw_seq ?_
    -- region 5
    refine dw_region (by kernel_rfl) ?_
    refine dl_r (sem_move rfl rfl) ?_
    refine dl_rb (sem_move rfl rfl) (fun c2 hb2 => ?_)
    cases c2
    · refine dl_skip (sem_skip rfl) ?_
      refine dl_r (sem_pick rfl rfl rfl rfl) ?_
      refine dl_end ?_
      refine dw_false rfl ?_
      refine dw_skip ?_
      refine dw_seq ?_
      -- region 9
      refine dw_region (by kernel_rfl) ?_
      refine dl_r (sem_field fd26_1 rfl rfl) ?_
      refine dl_r (sem_load1 ty24 rfl rfl rfl rfl) ?_
      refine dl_r (sem_field fd26_1 rfl rfl) ?_
      refine dl_r (sem_load1 ty24 rfl rfl rfl rfl) ?_
      refine dl_r (sem_call rfl rfl (iDivide_ok (by assumption) (by assumption) (by assumption)) rfl) ?_
      refine dl_r (sem_move rfl rfl) ?_
      refine dl_r (sem_extract rfl rfl rfl) ?_
      refine dl_r (sem_extract rfl rfl rfl) ?_
      refine dl_r (sem_assign rfl rfl) ?_
      refine dl_r (sem_assign rfl rfl) ?_
      refine dl_end ?_
      -- region 10
      refine dw_draw 3 [] follows_mixed (by kernel_rfl) rfl rfl ?_
      refine dq_r (sem_load (us := cI c) ty26 rfl rfl rfl rfl rfl) ?_
      refine dq_r (sem_move rfl rfl) ?_
      refine dq_r (sem_call rfl rfl (iSigned_ok) rfl) ?_
      refine dq_end ?_
      refine dl_start0 ?_
      refine dl_st (sem_store_a ty26 rfl rfl rfl rfl rfl rfl) ?_
      refine dl_st (sem_store_a ty26 rfl rfl rfl rfl rfl rfl) ?_
      refine dl_end ?_
      exact ⟨⟨(c, sg false ((a.natAbs : Int) % c.natAbs)), hg.step hne⟩, sub_of ⟨rfl, rfl, rfl, trivial⟩ ⟨rfl, rfl, rfl, trivial⟩ rfl, hg.less hne⟩
    · refine dl_r (sem_move rfl rfl) ?_
      refine dl_r (sem_pick rfl rfl rfl rfl) ?_
      refine dl_end ?_
      refine dw_cond rfl (fun hc3 => ?_) (fun hc3 => ?_)
      · refine dw_seq ?_
        refine dw_block ?_
        refine dw_loop (ι := {p : Int × Int // GInv2 x y p.1 p.2}) (fun i => ⟨61, [(4, .p 4 0), (7, .v (.c (.i .u64 i.1.1))), (9, .v (.c (.i .u64 i.1.2)))], [(4, 26, ([.b false] ++ [.s 0 []]))]⟩) (fun i => i.1.2.toNat) ⟨(if a.natAbs < 1000000000000000000 then (a.natAbs : Int) else 0, if c.natAbs < 1000000000000000000 then (c.natAbs : Int) else 0), hg.word hb2 hc3⟩ (sub_of ⟨rfl, rfl, rfl, trivial⟩ ⟨rfl, trivial⟩ rfl) ?_
        rintro ⟨⟨u, v⟩, hw⟩
        replace hw : GInv2 x y u v := hw
        show Dw _ _ ⟨61, [(4, .p 4 0), (7, .v (.c (.i .u64 u))), (9, .v (.c (.i .u64 v)))], [(4, 26, ([.b false] ++ [.s 0 []]))]⟩ _
        refine dw_seq ?_
        refine dw_seq ?_
        -- region 6
        refine dw_region (by kernel_rfl) ?_
        refine dl_r (sem_move rfl rfl) ?_
        refine dl_r (sem_cmp rfl rfl rfl rfl) ?_
        refine dl_end ?_
        refine dw_cond rfl (fun hc4 => ?_) (fun hc4 => ?_)
        · have hv : v > 0 := by simpa using hc4
          refine dw_skip ?_
          refine dw_block ?_
          -- region 7
          refine dw_draw 6 [] follows_mixed (by kernel_rfl) rfl rfl ?_
          refine dq_r (sem_move rfl rfl) ?_
          refine dq_r (sem_move rfl rfl) ?_
          refine dq_r (sem_move rfl rfl) ?_
          refine dq_r (sem_rem rfl rfl (by omega) rfl) ?_
          refine dq_r (sem_assign rfl rfl) ?_
          refine dq_r (sem_assign rfl rfl) ?_
          refine dq_end ?_
          refine dl_start0 ?_
          refine dl_end ?_
          exact ⟨⟨(v, u.tmod v), hw.step hv⟩, sub_of ⟨rfl, rfl, rfl, trivial⟩ ⟨rfl, trivial⟩ rfl, hw.less hv⟩
        · refine dw_exit ?_
          refine dw_seq ?_
          -- region 8
          refine dw_region (by kernel_rfl) ?_
          refine dl_r (sem_move rfl rfl) ?_
          refine dl_r (sem_call rfl rfl (iSplit_ok hw.u0 hw.u1) rfl) ?_
          refine dl_r (sem_call rfl rfl (iSigned_ok) rfl) ?_
          refine dl_st (sem_store_a ty26 rfl rfl rfl rfl rfl rfl) ?_
          refine dl_end ?_
          refine dw_ret ?_
          -- path TtTF
          rw [hw.done (by simpa using hc4)]
          exact ⟨.inr rfl, (resL_cell (us := cI (sg false u)) ty26 rfl rfl rfl rfl resL_nil)⟩
      · refine dw_skip ?_
        refine dw_seq ?_
        -- region 9
        refine dw_region (by kernel_rfl) ?_
        refine dl_r (sem_field fd26_1 rfl rfl) ?_
        refine dl_r (sem_load1 ty24 rfl rfl rfl rfl) ?_
        refine dl_r (sem_field fd26_1 rfl rfl) ?_
        refine dl_r (sem_load1 ty24 rfl rfl rfl rfl) ?_
        refine dl_r (sem_call rfl rfl (iDivide_ok (by assumption) (by assumption) (by assumption)) rfl) ?_
        refine dl_r (sem_move rfl rfl) ?_
        refine dl_r (sem_extract rfl rfl rfl) ?_
        refine dl_r (sem_extract rfl rfl rfl) ?_
        refine dl_r (sem_assign rfl rfl) ?_
        refine dl_r (sem_assign rfl rfl) ?_
        refine dl_end ?_
        -- region 10
        refine dw_draw 3 [] follows_mixed (by kernel_rfl) rfl rfl ?_
        refine dq_r (sem_load (us := cI c) ty26 rfl rfl rfl rfl rfl) ?_
        refine dq_r (sem_move rfl rfl) ?_
        refine dq_r (sem_call rfl rfl (iSigned_ok) rfl) ?_
        refine dq_end ?_
        refine dl_start0 ?_
        refine dl_st (sem_store_a ty26 rfl rfl rfl rfl rfl rfl) ?_
        refine dl_st (sem_store_a ty26 rfl rfl rfl rfl rfl rfl) ?_
        refine dl_end ?_
        exact ⟨⟨(c, sg false ((a.natAbs : Int) % c.natAbs)), hg.step hne⟩, sub_of ⟨rfl, rfl, rfl, trivial⟩ ⟨rfl, rfl, rfl, trivial⟩ rfl, hg.less hne⟩
  · refine dw_exit ?_
    refine dw_seq ?_
    -- region 11
    refine dw_region (by kernel_rfl) ?_
    refine dl_r (sem_field fd26_1 rfl rfl) ?_
    refine dl_r (sem_load1 ty24 rfl rfl rfl rfl) ?_
    refine dl_r (sem_copy rfl (by assumption) rfl) ?_
    refine dl_r (sem_call rfl rfl (iSigned_cL) rfl) ?_
    refine dl_st (sem_store_a ty26 rfl rfl rfl rfl rfl rfl) ?_
    refine dl_end ?_
    refine dw_ret ?_
    -- path F
    rw [hg.done (lenL_zero hc1)]
    exact ⟨.inr rfl, (resL_cell (us := cI (sg false (a.natAbs : Int))) ty26 rfl rfl rfl rfl resL_nil)⟩
end Go.Proofs.YtedlgdliniokiaaGreat
/- Package rational: the small functions. -/
namespace Go.Proofs.YtedlgdliniokiaaGreat
open Go Go.RowKit
theorem unit_ok  : Ok Tryz.prog 119 [] [dI 1] := by
  refine Ok.of (by kernel_rfl) Tryz.func119 rfl rfl ?_
  rw [show Tryz.f119.ntmps = 2 from rfl, show Tryz.f119.results.toList = [.cell 0 26] from rfl]
  refine dw_seq ?_
  -- region 0
  refine dw_region (by kernel_rfl) ?_
  refine dl_new (sem_alloc zc26 rfl) rfl ?_
  refine dl_end ?_
  refine dw_seq ?_
  -- region 1
  refine dw_region (by kernel_rfl) ?_
  refine dl_r (sem_call rfl rfl (iFrom_ok (by omega) (by omega)) rfl) ?_
  refine dl_st (sem_store_a ty26 rfl rfl rfl rfl rfl rfl) ?_
  refine dl_end ?_
  refine dw_ret ?_
  -- path 
  exact ⟨.inr rfl, (resL_cell (us := cI 1) ty26 rfl rfl rfl rfl resL_nil)⟩
theorem rSign_ok {x : Rat} : Ok Tryz.prog 27 [dR x] [.c (.i .i64 (cmpI x.num 0))] := by
  refine Ok.of (by kernel_rfl) Tryz.func27 rfl rfl ?_
  rw [show Tryz.f27.ntmps = 6 from rfl, show Tryz.f27.results.toList = [.tmp 2] from rfl]
  refine dw_seq ?_
  -- region 0
  refine dw_region (by kernel_rfl) ?_
  refine dl_new (sem_box_a rfl rfl) rfl ?_
  refine dl_r (sem_assign rfl rfl) ?_
  refine dl_end ?_
  refine dw_seq ?_
  -- region 1
  refine dw_region (by kernel_rfl) ?_
  refine dl_r (sem_field fd28_0 rfl rfl) ?_
  refine dl_r (sem_load (us := cI x.num) ty26 rfl rfl rfl rfl rfl) ?_
  refine dl_r (sem_call rfl rfl (iSign_ok) rfl) ?_
  refine dl_r (sem_assign rfl rfl) ?_
  refine dl_end ?_
  refine dw_ret ?_
  -- path 
  exact ⟨.inr rfl, (resL_tmp rfl resL_nil)⟩
theorem isNaN_ok {m : Int} : Ok Tryz.prog 122 [.c (.i .i64 m)] [.c (.b false)] := by
  refine Ok.of (by kernel_rfl) Tryz.func122 rfl rfl ?_
  rw [show Tryz.f122.ntmps = 6 from rfl, show Tryz.f122.results.toList = [.tmp 2] from rfl]
  refine dw_seq ?_
  -- region 0
  refine dw_region (by kernel_rfl) ?_
  refine dl_r (sem_assign rfl rfl) ?_
  refine dl_end ?_
  refine dw_seq ?_
  -- region 1
  refine dw_region (by kernel_rfl) ?_
  refine dl_r (sem_move rfl rfl) ?_
  refine dl_r (sem_move rfl rfl) ?_
  refine dl_r (sem_cmp rfl rfl rfl rfl) ?_
  refine dl_r (sem_assign rfl rfl) ?_
  refine dl_end ?_
  refine dw_ret ?_
  -- path 
  exact ⟨.inr rfl, by simpa using (resL_tmp rfl resL_nil)⟩
end Go.Proofs.YtedlgdliniokiaaGreat
/- cmp.Compare at int. -/
namespace Go.Proofs.YtedlgdliniokiaaGreat
open Go Go.RowKit
theorem cmpInt_ok {m n : Int} : Ok Tryz.prog 73 [.c (.i .i64 m), .c (.i .i64 n)] [.c (.i .i64 (cmpI m n))] := by
  refine Ok.of (by kernel_rfl) Tryz.func73 rfl rfl ?_
  rw [show Tryz.f73.ntmps = 20 from rfl, show Tryz.f73.results.toList = [.tmp 4] from rfl]
  refine dw_seq ?_
  -- region 0
  refine dw_region (by kernel_rfl) ?_
  refine dl_r (sem_assign rfl rfl) ?_
  refine dl_end ?_
  refine dw_seq ?_
  -- region 1
  refine dw_region (by kernel_rfl) ?_
  refine dl_r (sem_move rfl rfl) ?_
  refine dl_r (sem_call rfl rfl (isNaN_ok) rfl) ?_
  refine dl_r (sem_assign rfl rfl) ?_
  refine dl_end ?_
  refine dw_seq ?_
  -- region 2
  refine dw_region (by kernel_rfl) ?_
  refine dl_r (sem_move rfl rfl) ?_
  refine dl_r (sem_call rfl rfl (isNaN_ok) rfl) ?_
  refine dl_r (sem_assign rfl rfl) ?_
  refine dl_end ?_
  refine dw_seq ?_
  refine dw_seq ?_
  -- region 3
  refine dw_region (by kernel_rfl) ?_
  refine dl_r (sem_move rfl rfl) ?_
  refine dl_end ?_
  refine dw_false rfl ?_
  refine dw_skip ?_
  refine dw_seq ?_
  refine dw_seq ?_
  -- region 7
  refine dw_region (by kernel_rfl) ?_
  refine dl_r (sem_move rfl rfl) ?_
  refine dl_end ?_
  refine dw_false rfl ?_
  refine dw_skip ?_
  refine dw_seq ?_
  refine dw_seq ?_
  -- region 9
  refine dw_region (by kernel_rfl) ?_
  refine dl_r (sem_move rfl rfl) ?_
  refine dl_r (sem_move rfl rfl) ?_
  refine dl_r (sem_cmp rfl rfl rfl rfl) ?_
  refine dl_end ?_
  refine dw_cond rfl (fun hc1 => ?_) (fun hc1 => ?_)
  · refine dw_seq ?_
    -- region 10
    refine dw_region (by kernel_rfl) ?_
    refine dl_r (sem_assign rfl rfl) ?_
    refine dl_end ?_
    refine dw_ret ?_
    -- path T
    rw [cmp_lt (by simpa using hc1)]
    exact ⟨.inr rfl, (resL_tmp rfl resL_nil)⟩
  · refine dw_skip ?_
    refine dw_seq ?_
    refine dw_seq ?_
    -- region 11
    refine dw_region (by kernel_rfl) ?_
    refine dl_r (sem_move rfl rfl) ?_
    refine dl_r (sem_move rfl rfl) ?_
    refine dl_r (sem_cmp rfl rfl rfl rfl) ?_
    refine dl_end ?_
    refine dw_cond rfl (fun hc2 => ?_) (fun hc2 => ?_)
    · refine dw_seq ?_
      -- region 12
      refine dw_region (by kernel_rfl) ?_
      refine dl_r (sem_assign rfl rfl) ?_
      refine dl_end ?_
      refine dw_ret ?_
      -- path FT
      rw [cmp_gt (by simpa using hc2)]
      exact ⟨.inr rfl, (resL_tmp rfl resL_nil)⟩
    · refine dw_skip ?_
      refine dw_seq ?_
      -- region 13
      refine dw_region (by kernel_rfl) ?_
      refine dl_r (sem_assign rfl rfl) ?_
      refine dl_end ?_
      refine dw_ret ?_
      -- path FF
      rw [cmp_eq (by have := hc1; have h2 := hc2; simp at this h2; omega)]
      exact ⟨.inr rfl, (resL_tmp rfl resL_nil)⟩
end Go.Proofs.YtedlgdliniokiaaGreat
