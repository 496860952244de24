/- Layer 28: what operation.Needs and the reference's Needs return. At most 1000 operations. -/
import Derived.Test.YtcgjojjgagaliaaDoorProg
import Derived.Test.YtcgjojjgagaliaaDoorOps
import Derived.WalkKit
import Derived.WalkSpells
import Derived.WalkLawsBesides
import Derived.StillTactics
import Derived.Outline
namespace Go.Proofs.YtcgjojjgagaliaaDoor
open Go.RowKit
theorem info_pair : (Tryd.prog.info? 33).map (fun i => (i.zero, i.size, i.bytes)) = some (some (.agg #[.int .i64 0, .int .i64 0]), 2, 16) := by kernel_rfl
set_option maxHeartbeats 400000 in
theorem needs_any (A : Option Addr) (n c : Nat) (os : List OpR) (w : World) (ha : RdO w A n os) (hn : n ≤ 1000) :
    Calls Tryd.prog 14 #[.slice A n c] w fun e w' => ∃ v, e = .returned v ∧ w'.ownsRow w.heap.size 33 2 v (need os n).length (pairCells (need os n)) ∧ Below w.heap.size w w' := by
  have hlen := ha.1
  obtain ⟨i0, hi0, hz0, hz1, hz2⟩ := info_parts info_pair
  go_enter Tryd.func14, Tryd.ntmps14
  go_wp2
  go_loopw [3, 12] (fun v i wr => ∃ k : Nat, k ≤ n ∧ i = .int .i64 k ∧ wr.ownsRow w.heap.size 33 2 v (need os k).length (pairCells (need os k)) ∧ Below w.heap.size w wr) (fun _ i _ => n - (intOf i).toNat)
  case atStart => exact ⟨0, Nat.zero_le _, rfl, own_nil _ _ _ _, Below.refl _ _⟩
  case round =>
    obtain ⟨i, hi, rfl, hown, hbel⟩ := hrel
    have hz := hbel.size
    by_cases hlt : i < n
    · obtain ⟨b, off, a, rfl, hb, hoa, hc0, hc1, hc2, hc3, hc4, _⟩ := (ha.below hbel).at_ hlt
      go_wp2
      have hbk := Bk.new wr 37 #[.int .i64 a.kind, .int .i64 a.feat, .int .i64 a.tool, .slice a.da a.dn a.dc, .int .i64 a.leave]
      have hown2 := hown.alloc (.cells #[.int .i64 a.kind, .int .i64 a.feat, .int .i64 a.tool, .slice a.da a.dn a.dc, .int .i64 a.leave] 37)
      have hbel2 := hbel.alloc hz (.cells #[.int .i64 a.kind, .int .i64 a.feat, .int .i64 a.tool, .slice a.da a.dn a.dc, .int .i64 a.leave] 37)
      clear hc0 hc1 hc2 hc3 hc4
      obtain ⟨wo, hwo⟩ : ∃ wo : World, wo = wr := ⟨_, rfl⟩
      rw [← hwo] at hbk hown2 hbel2 ⊢
      clear hwo hown hbel hz
      generalize (Value.agg #[.int .i64 a.kind, .int .i64 a.feat, .int .i64 a.tool, .slice a.da a.dn a.dc, .int .i64 a.leave]) = va
      go_loopw [3, 19] (fun v i' wr => ∃ k : Nat, k ≤ n ∧ i' = .int .i64 k ∧ wr.ownsRow w.heap.size 33 2 v (need os i ++ row os a i k).length (pairCells (need os i ++ row os a i k)) ∧ Below w.heap.size w wr ∧
          Bk wr wo.heap.size 37 #[.int .i64 a.kind, .int .i64 a.feat, .int .i64 a.tool, .slice a.da a.dn a.dc, .int .i64 a.leave]) (fun _ i _ => n - (intOf i).toNat)
      case atStart => exact ⟨0, Nat.zero_le _, rfl, by simpa [row] using hown2, hbel2, hbk⟩
      case round =>
        obtain ⟨k, hk, rfl, hown, hbel, hbk⟩ := hrel
        have hz := hbel.size
        by_cases hlt2 : k < n
        · obtain ⟨b', off', q, hA, hb', hoq, hd0, hd1, hd2, hd3, hd4, _⟩ := (ha.below hbel).at_ hlt2
          obtain ⟨rfl, rfl⟩ : b = b' ∧ off = off' := by simpa using hA
          clear hA
          have f0 : ∀ o, (wr.alloc o).cell? ⟨wo.heap.size, 0, none⟩ = some (.int .i64 a.kind) := fun o => (hbk.alloc o).cell 0
          have f1 : ∀ o, (wr.alloc o).cell? ⟨wo.heap.size, 1, none⟩ = some (.int .i64 a.feat) := fun o => (hbk.alloc o).cell 1
          have hval : (row os a i k).length ≤ k := row_le os a i k
          have hnl : (need os i).length ≤ 1000000 := by
            have := need_le os i
            have := Nat.mul_le_mul (show i ≤ 1000 by omega) (show os.length ≤ 1000 by omega)
            omega
          have hll : (need os i ++ row os a i k).length = (need os i).length + (row os a i k).length := List.length_append
          generalize hL : (need os i ++ row os a i k).length = L at hll hown
          have HL := Lib.hid hL; clear hL
          have hLb : L ≤ 1001000 := by omega
          clear hll hval hnl
          clear hb hb' hlen
          go_wp2_with (at_builtin; refine wpList_append_own _ rfl _ _ 32 rfl w.heap.size 33 i0 (.agg #[.int .i64 0, .int .i64 0]) 2 16 Tryd.underlying32 hi0 hz0 hz1 hz2 rfl (by decide) _ _ _ rfl ((hown.alloc _).alloc _) ⟨wr.heap.size + 1, 0, none⟩ 1 1 [.int .i64 i, .int .i64 k] rfl rfl (cells_new2 _ _ _ _ _) (by simp [Value.oneCell']) (by unfold maxLen; omega) (by omega) (by simp; omega) ?_; intro v' w1 hown' hgrow _)
          all_goals first
            | (have hy : bfr a q = true := by unfold bfr; simp; first | omega | (simp only [beq_iff_eq, beq_eq_false_iff_ne, ne_eq] at *; omega)
               have hgo := hgrow
               go_roundw
               case rel =>
                 have e : need os i ++ row os a i (k + 1) = (need os i ++ row os a i k) ++ [(i, k)] := by rw [row_yes hoq.out hy, List.append_assoc]
                 refine ⟨k + 1, by omega, by go_num, ?_, below_append (hown.alloc _) (hbel.alloc hz _) (by simp; omega) hgrow, hbk.alloc _ |>.append (hown.alloc _) (by decide) hgrow⟩
                 rw [e, List.length_append, HL.out]
                 simpa [pairCells] using hown'
               case measure => simp [intOf]; omega)
            | (have hy : bfr a q = false := by unfold bfr; simp; first | omega | (simp only [beq_iff_eq, beq_eq_false_iff_ne, ne_eq] at *; omega)
               go_roundw
               case rel =>
                 refine ⟨k + 1, by omega, by go_num, ?_, hbel.alloc hz _, hbk.alloc _⟩
                 rw [row_no hoq.out hy, HL.out]
                 exact hown.alloc _
               case measure => simp [intOf]; omega)
        · obtain rfl : k = n := by omega
          go_wp2
          go_roundw
          case rel =>
            refine ⟨i + 1, by omega, by go_num, ?_, hbel⟩
            rw [need_succ hoa.out hlen]
            exact hown
          case measure => simp [intOf]; omega
    · obtain rfl : i = n := by omega
      go_wp2
      go_ret
      exact ⟨_, rfl, hown, hbel⟩
end Go.Proofs.YtcgjojjgagaliaaDoor
