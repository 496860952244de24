/- Layer 28: what the two functions Tools return, and slices.Clone at tools. At most 1000 operations and tools. -/
import Derived.Test.YtcgjojjgagaliaaDoorOpE
import Derived.Deep.QuietTactic
import Derived.BigQuiet
namespace Go.Proofs.YtcgjojjgagaliaaDoor
open Go.RowKit
theorem info_int : (Tryd.prog.info? 3).map (fun i => (i.zero, i.size, i.bytes)) = some (some (.int .i64 0), 1, 8) := by kernel_rfl
/-- The first k numbers, then zeros up to n. -/
def nums (os : List OpR) (ts : List ToolR) (k : Nat) : List Int := (toolNums os ts).take k ++ List.replicate (os.length - k) 0
theorem nums_len (os : List OpR) (ts : List ToolR) (k : Nat) (h : k ≤ os.length) : (nums os ts k).length = os.length := by simp [nums, toolNums]; omega
theorem nums_set (os : List OpR) (ts : List ToolR) (k : Nat) (o : OpR) (ho : os[k]? = some o) : (nums os ts k).set k (toolNum ts o) = nums os ts (k + 1) := by
  have hk : k < os.length := by
    rcases Nat.lt_or_ge k os.length with h | h
    · exact h
    · rw [List.getElem?_eq_none h] at ho; cases ho
  have hq : (toolNums os ts)[k]? = some (toolNum ts o) := by simp [toolNums, ho]
  have hl : ((toolNums os ts).take k).length = k := by simp [toolNums]; omega
  unfold nums
  rw [take_succ_of hq, List.append_assoc, List.set_append_right _ _ (by omega), hl]
  obtain ⟨m, hm⟩ : ∃ m, os.length - k = m + 1 := ⟨os.length - k - 1, by omega⟩
  rw [hm, show os.length - (k + 1) = m from by omega]
  simp [List.replicate_succ]
theorem nums_full (os : List OpR) (ts : List ToolR) : nums os ts os.length = toolNums os ts := by
  simp only [nums, Nat.sub_self, List.replicate_zero, List.append_nil]
  rw [List.take_of_length_le (by simp [toolNums])]
theorem ok_bad {os : List OpR} {m k : Nat} {o : OpR} (ho : os[k]? = some o) (h : o.tool < 0 ∨ (m : Int) ≤ o.tool) : okTools os m = false := by
  unfold okTools
  rw [List.all_eq_false]
  refine ⟨o, List.mem_of_getElem? ho, ?_⟩
  simp; omega
theorem ok_step {os : List OpR} {m k : Nat} {o : OpR} (ho : os[k]? = some o) (h0 : 0 ≤ o.tool) (h1 : o.tool < m) (h : okTools (os.take k) m = true) : okTools (os.take (k + 1)) m = true := by
  unfold okTools at h ⊢
  rw [take_succ_of ho, List.all_append, h]
  simp; omega
theorem num_of {ts : List ToolR} {o : OpR} {j : Nat} {t : ToolR} (h : o.tool = j) (ht : ts[j]? = some t) : toolNum ts o = t.num := by
  unfold toolNum; rw [h]; simp [ht]

/-- What Tools returns: the numbers, or none with the code of an invalid argument. -/
def RetTools (w : World) (os : List OpR) (ts : List ToolR) (e : Ending) (w' : World) : Prop :=
  ∃ v, (if okTools os ts.length then e = .returned (.tuple #[v, .int .i64 0]) ∧ w'.ownsRow w.heap.size 3 1 v os.length ((toolNums os ts).map (Value.int .i64))
    else e = .returned (.tuple #[v, .int .i64 1]) ∧ v = .slice none 0 0) ∧ Below w.heap.size w w'
set_option maxHeartbeats 800000 in
theorem tools_any (A B : Option Addr) (n c m d : Nat) (os : List OpR) (ts : List ToolR) (w : World) (ha : RdO w A n os) (hb : RdT w B m ts) (hn : n ≤ 1000) (hm : m ≤ 9223372036854775807) :
    Calls Tryd.prog 19 #[.slice A n c, .slice B m d] w (RetTools w os ts) := by
  have hlen := ha.1
  have hlt := hb.1
  obtain ⟨i0, hi0, hz0, hz1, hz2⟩ := info_parts info_int
  go_enter Tryd.func19, Tryd.ntmps19
  go_wp2_with (at_make; go_must (refine wpList_make_full _ rfl _ _ 41 rfl w.heap.size 3 i0 (.int .i64 0) 1 Tryd.underlying41 hi0 hz0 hz1 _ _ _ _ n rfl rfl rfl rfl (by rw [hz2]; omega) (by unfold maxLen; omega) (Nat.le_refl _) ?_); intro w1 hown hgrow)
  go_loopw [14] (fun i wr => ∃ k : Nat, k ≤ n ∧ i = .int .i64 k ∧ wr.ownsRow w.heap.size 3 1 (.slice (some ⟨w.heap.size, 0, none⟩) n n) n ((nums os ts k).map (Value.int .i64)) ∧ Below w.heap.size w wr ∧ Hid (okTools (os.take k) m = true)) (fun i _ => n - (intOf i).toNat)
  case atStart =>
    refine ⟨0, Nat.zero_le _, rfl, ?_, (Below.refl _ _).grown hgrow (Nat.le_refl _) (by simp), by show _ = _; simp [okTools]⟩
    have e : (madeCells (Value.int .i64 0).cells (n * 1)).toList = (nums os ts 0).map (Value.int .i64) := by
      rw [Nat.mul_one]; exact (toList_madeCells_one _ n).trans (by simp [nums, hlen])
    rw [← e]; exact hown
  case round =>
    clear hown hgrow
    obtain ⟨k, hk, rfl, hown, hbel, H⟩ := hrel
    have hz := hbel.size
    by_cases hltk : k < n
    · obtain ⟨b, off, q, rfl, hb1, hoq, hd0, hd1, hd2, hd3, hd4, _⟩ := (ha.below hbel).at_ hltk
      by_cases hbad : q.tool < 0 ∨ (m : Int) ≤ q.tool
      · have Hb : Hid (okTools os ts.length = false) := ok_bad hoq.out (by rw [hlt]; exact hbad)
        clear hown
        rcases hbad with h | h
        all_goals
          go_wp2
          go_ret2
          refine ⟨.slice none 0 0, ?_, hbel.alloc hz _⟩
          rw [if_neg (by rw [Hb.out]; simp)]
          exact ⟨rfl, rfl⟩
      · have h0 : 0 ≤ q.tool := by omega
        have h1 : q.tool < m := by omega
        obtain ⟨j, hj⟩ := Int.eq_ofNat_of_zero_le h0
        have hjm : j < m := by omega
        obtain ⟨b2, off2, t, rfl, hb2, htq, ht0⟩ := (hb.below hbel).at_ hjm
        have hst := (hown.alloc (.cells #[.int .i64 q.kind, .int .i64 q.feat, .int .i64 j, .slice q.da q.dn q.dc, .int .i64 q.leave] 37)).stored k (.int .i64 t.num)
        have hnum : Hid (toolNum ts q = t.num) := num_of hj htq.out
        have Hj := Lib.hid hj
        rw [hj] at hd2
        clear hj hbad h0 h1
        have hcell := (hown.alloc (.cells #[.int .i64 q.kind, .int .i64 q.feat, .int .i64 j, .slice q.da q.dn q.dc, .int .i64 q.leave] 37)).cellAt k (by omega)
        obtain ⟨x, hx⟩ : ∃ x, ((nums os ts k).map (Value.int .i64))[k]? = some x := ⟨_, List.getElem?_eq_getElem (by simp [nums_len os ts k (by omega)]; omega)⟩
        rw [hx] at hcell; clear hx
        have hfz := (hown.alloc (.cells #[.int .i64 q.kind, .int .i64 q.feat, .int .i64 j, .slice q.da q.dn q.dc, .int .i64 q.leave] 37)).frozenAt k
        have ht0' : ∀ o, (wr.alloc o).cell? ⟨b2, off2 + j * 8, none⟩ = some (.int .i64 t.num) := fun o => (World.cell?_alloc_past _ _ _ hb2).trans ht0
        go_wp2
        go_roundw
        case rel =>
          refine ⟨k + 1, by omega, by go_num, ?_, (hbel.alloc hz _).grown hst.2 (by simp; omega) (by simp), ok_step hoq.out (by rw [Hj.out]; omega) (by rw [Hj.out]; omega) H.out⟩
          have h1 := hst.1
          have e := nums_set os ts k q hoq.out
          rw [hnum.out] at e
          rwa [← List.map_set, e] at h1
        case measure => simp [intOf]; omega
    · obtain rfl : k = n := by omega
      have Hb : Hid (okTools os ts.length = true) := by
        have h := H.out
        rw [List.take_of_length_le (by omega)] at h
        rw [hlt]; exact h
      rw [← hlen, nums_full] at hown
      go_wp2
      go_ret2
      refine ⟨.slice (some ⟨w.heap.size, 0, none⟩) k k, ?_, hbel⟩
      rw [if_pos Hb.out]
      rw [hlen] at hown ⊢
      exact ⟨rfl, hown⟩

set_option maxHeartbeats 800000 in
theorem rtools_any (A B : Option Addr) (n c m d : Nat) (os : List OpR) (ts : List ToolR) (w : World) (ha : RdO w A n os) (hb : RdT w B m ts) (hn : n ≤ 1000) (hm : m ≤ 9223372036854775807) :
    Calls Tryd.prog 21 #[.slice A n c, .slice B m d] w (RetTools w os ts) := by
  have hlen := ha.1
  have hlt := hb.1
  obtain ⟨i0, hi0, hz0, hz1, hz2⟩ := info_parts info_int
  go_enter Tryd.func21, Tryd.ntmps21
  go_wp2
  go_loopw [6, 7] (fun v i wr => ∃ k : Nat, k ≤ n ∧ i = .int .i64 k ∧ wr.ownsRow w.heap.size 3 1 v k (((toolNums os ts).take k).map (Value.int .i64)) ∧ Below w.heap.size w wr ∧ Hid (okTools (os.take k) m = true)) (fun _ i _ => n - (intOf i).toNat)
  case atStart => exact ⟨0, Nat.zero_le _, rfl, own_nil _ _ _ _, Below.refl _ _, by show _ = _; simp [okTools]⟩
  case round =>
    obtain ⟨k, hk, rfl, hown, hbel, H⟩ := hrel
    have hz := hbel.size
    by_cases hltk : k < n
    · obtain ⟨b, off, q, rfl, hb1, hoq, hd0, hd1, hd2, hd3, hd4, _⟩ := (ha.below hbel).at_ hltk
      by_cases hbad : q.tool < 0 ∨ (m : Int) ≤ q.tool
      · have Hb : Hid (okTools os ts.length = false) := ok_bad hoq.out (by rw [hlt]; exact hbad)
        clear hown
        rcases hbad with h | h
        · go_wp2
          go_ret2
          refine ⟨.slice none 0 0, ?_, hbel⟩
          rw [if_neg (by rw [Hb.out]; simp)]
          exact ⟨rfl, rfl⟩
        · go_wp2
          go_ret2
          refine ⟨.slice none 0 0, ?_, hbel⟩
          rw [if_neg (by rw [Hb.out]; simp)]
          exact ⟨rfl, rfl⟩
      · have h0 : 0 ≤ q.tool := by omega
        have h1 : q.tool < m := by omega
        obtain ⟨j, hj⟩ := Int.eq_ofNat_of_zero_le h0
        have hjm : j < m := by omega
        obtain ⟨b2, off2, t, rfl, hb2, htq, ht0⟩ := (hb.below hbel).at_ hjm
        have hnum : Hid (toolNum ts q = t.num) := num_of hj htq.out
        have Hj := Lib.hid hj
        rw [hj] at hd2
        clear hj hbad h0 h1 hd0 hd1 hd3 hd4
        go_wp2_with (at_builtin; go_must (refine wpList_append_own _ rfl _ _ 41 rfl w.heap.size 3 i0 (.int .i64 0) 1 8 Tryd.underlying41 hi0 hz0 hz1 hz2 rfl (by decide) _ _ _ rfl (hown.alloc _) ⟨wr.heap.size, 0, none⟩ 1 1 [.int .i64 t.num] rfl rfl (cell_one_new _ _ _) (by simp [Value.oneCell']) (by unfold maxLen; omega) (by omega) (by simp; omega) ?_); intro v' w1 hown' hgrow _)
        go_roundw
        case rel =>
          refine ⟨k + 1, by omega, by go_num, ?_, below_append hown hbel hz hgrow, ok_step hoq.out (by rw [Hj.out]; omega) (by rw [Hj.out]; omega) H.out⟩
          have hq : (toolNums os ts)[k]? = some (toolNum ts q) := by simp [toolNums, hoq.out]
          rw [take_succ_of hq, List.map_append, hnum.out]
          exact hown'
        case measure => simp [intOf]; omega
    · obtain rfl : k = n := by omega
      have Hb : Hid (okTools os ts.length = true) := by
        have h := H.out
        rw [List.take_of_length_le (by omega)] at h
        rw [hlt]; exact h
      rw [List.take_of_length_le (by simp [toolNums]; omega)] at hown
      go_wp2
      go_ret2
      refine ⟨u6, ?_, hbel⟩
      rw [if_pos Hb.out]
      rw [hlen]
      exact ⟨rfl, hown⟩
theorem info_tool : (Tryd.prog.info? 46).map (fun i => (i.zero, i.size, i.bytes)) = some (some (.agg #[.int .i64 0, .int .i64 0, .int .i64 0, .int .i64 0, .int .i64 0, .int .i64 0, .int .i64 0, .int .i64 0]), 8, 64) := by kernel_rfl
theorem toolCells_len (ts : List ToolR) : (ts.flatMap ToolR.cells).length = ts.length * 8 := by
  induction ts with
  | nil => rfl
  | cons o os ih => rw [List.flatMap_cons, List.length_append, ih]; simp [ToolR.cells, o.len]; omega
theorem toolCells_get (ts : List ToolR) (i j : Nat) (o : ToolR) (u : Value) (ho : ts[i]? = some o) (hu : o.cells[j]? = some u) : (ts.flatMap ToolR.cells)[i * 8 + j]? = some u := by
  induction ts generalizing i with
  | nil => simp at ho
  | cons p os ih =>
    have hl : p.cells.length = 8 := by simp [ToolR.cells, p.len]
    have hl' : o.cells.length = 8 := by simp [ToolR.cells, o.len]
    have hj : j < 8 := by
      rcases Nat.lt_or_ge j 8 with h | h
      · exact h
      · rw [List.getElem?_eq_none (by omega)] at hu; cases hu
    rw [List.flatMap_cons]
    cases i with
    | zero => simp at ho; subst ho; rw [List.getElem?_append_left (by omega), Nat.zero_mul, Nat.zero_add]; exact hu
    | succ i =>
      have h := ih i (by simpa using ho)
      rw [List.getElem?_append_right (by omega), show (i + 1) * 8 + j - p.cells.length = i * 8 + j from by omega]
      exact h
theorem RdT.cellsAt {w : World} {A : Option Addr} {n : Nat} {os : List ToolR} (h : RdT w A n os) (b off : Nat) (hA : A = some ⟨b, off, none⟩) (hn : 0 < n) : ∀ j u, (os.flatMap ToolR.cells)[j]? = some u → w.cell? ⟨b, off + j, none⟩ = some u := by
  obtain ⟨b', off', e, _, hc⟩ := h.2 hn
  obtain ⟨rfl, rfl⟩ : b = b' ∧ off = off' := by rw [hA] at e; simpa using e
  intro j u hu
  have hj : j < os.length * 8 := by
    rcases Nat.lt_or_ge j (os.length * 8) with h1 | h1
    · exact h1
    · rw [List.getElem?_eq_none (by rw [toolCells_len]; exact h1)] at hu; cases hu
  have hi : j / 8 < os.length := by omega
  have ho : os[j / 8]? = some os[j / 8] := List.getElem?_eq_getElem hi
  have hr : j % 8 < 8 := by omega
  have hcu : (os[j / 8]).cells[j % 8]? = some ((os[j / 8]).cells[j % 8]'(by simp [ToolR.cells, (os[j / 8]).len]; exact hr)) := List.getElem?_eq_getElem _
  have e1 := toolCells_get os _ _ _ _ ho hcu
  have e2 := hc _ _ ho _ _ hcu
  rw [show j / 8 * 8 + j % 8 = j from by omega] at e1
  rw [show off + j / 8 * 8 + j % 8 = off + j from by omega] at e2
  rw [e1] at hu
  rw [e2, hu]
theorem RdT.own {w : World} {base c n : Nat} {e : TypeId} {A : Option Addr} {os : List ToolR} (h : w.ownsRow base e 8 (.slice A n c) n (os.flatMap ToolR.cells)) : RdT w A n os := by
  have hr := Rd.own h
  have hl : os.length = n := by have := hr.1; rw [toolCells_len] at this; omega
  refine ⟨hl, fun hn => ?_⟩
  obtain ⟨b, off, e, hlt, hc⟩ := hr.2 hn
  refine ⟨b, off, e, hlt, fun i o ho j u hu => ?_⟩
  rw [Nat.add_assoc]
  exact hc _ _ (toolCells_get os i j o u ho hu)
def RetT (w : World) (n : Nat) (os : List ToolR) (e : Ending) (w' : World) : Prop := ∃ A c, e = .returned (.slice A n c) ∧ RdT w' A n os ∧ Below w.heap.size w w'
set_option maxHeartbeats 400000 in
theorem clone_tools (A : Option Addr) (n c : Nat) (os : List ToolR) (w : World) (ha : RdT w A n os) (hn : n ≤ 1000) (hA : A = none → n = 0) :
    Calls Tryd.prog 20 #[.slice A n c] w (RetT w n os) := by
  have hlen := ha.1
  obtain ⟨i0, hi0, hz0, hz1, hz2⟩ := info_parts info_tool
  have hnil := fun (w : World) => Lib.run_eql_slice_nil (P := Tryd.prog) w 40 46 A n c 0 0 Tryd.underlying40
  cases A with
  | none =>
    have hn0 := hA rfl
    subst hn0
    go_enter Tryd.func20, Tryd.ntmps20
    go_wp2
    go_ret
    exact ⟨none, 0, rfl, ha, Below.refl _ _⟩
  | some ad =>
    have hnews : ∀ (w1 : World), Below w.heap.size w w1 → ∀ j u, (os.flatMap ToolR.cells)[j]? = some u → w1.cell? (ad.add j) = some u := by
      intro w1 hb j u hu
      have hn0 : 0 < n := by
        rcases Nat.eq_zero_or_pos n with h | h
        · rw [h] at hlen; rw [List.length_eq_zero_iff.1 hlen] at hu; simp at hu
        · exact h
      obtain ⟨b, off, e, hlt, hc⟩ := ha.2 hn0
      have hq := ha.cellsAt b off e hn0 j u hu
      have e' : ad = ⟨b, off, none⟩ := by simpa using e
      subst e'
      have ea : (⟨b, off, none⟩ : Addr).add j = ⟨b, off + j, none⟩ := by unfold Addr.add; split <;> simp_all
      rw [ea]
      exact (hb.cell (p := ⟨b, off + j, none⟩) hlt).trans hq
    have Hnews := Lib.hid hnews; clear hnews hA
    have h0 : (w.alloc (.cells #[] 46)).ownsRow w.heap.size 46 8 (.slice (some ⟨w.heap.size, 0, none⟩) 0 0) 0 [] := World.ownsRow_lit w #[] 0 (Nat.le_refl _) (by decide) rfl
    have hb0 : Below w.heap.size w (w.alloc (.cells #[] 46)) := (Below.refl _ _).alloc (Nat.le_refl _) _
    have hone : ∀ u ∈ os.flatMap ToolR.cells, u.oneCell' = true := by
      intro u hu
      obtain ⟨o, _, h⟩ := List.mem_flatMap.1 hu
      rcases List.mem_cons.1 h with h | h
      · subst h; rfl
      · exact o.one u h
    have Hone := Lib.hid hone; clear hone
    go_enter Tryd.func20, Tryd.ntmps20
    go_wp2_with (at_builtin; go_must (refine wpList_append_own _ rfl _ _ 40 rfl w.heap.size 46 i0 _ 8 64 Tryd.underlying40 hi0 hz0 hz1 hz2 rfl (by decide) _ _ _ rfl h0 ad n c (os.flatMap ToolR.cells) rfl (by rw [toolCells_len, hlen]) (Hnews.out _ hb0) Hone.out (by unfold maxLen; omega) (by omega) (by simp) ?_); intro v' w1 hown' hgrow _)
    have hbw : Below w.heap.size w w1 := hb0.grown hgrow (by simp) (own_ge h0)
    go_ret
    rw [Nat.zero_add, List.nil_append] at hown'
    rcases hown'.2 with ⟨rfl, h00⟩ | ⟨g, cap, cur, rfl, _⟩
    · subst h00
      exact ⟨none, 0, rfl, ⟨hlen, fun h => absurd h (by omega)⟩, hbw⟩
    · exact ⟨_, cap, rfl, RdT.own hown', hbw⟩
end Go.Proofs.YtcgjojjgagaliaaDoor
