/- Layer 28: what slices.Equal returns over slices of pairs of integers. The length is at most 2^63 - 1. -/
import Derived.Test.YtcgjojjgagaliaaDoorProg
import Derived.Test.YtcgjojjgagaliaaDoorOps
import Derived.WalkKit
import Derived.WalkSpells
import Derived.WalkLawsBesides
import Derived.StillTactics
import Derived.Outline
import Derived.Deep.QuietTactic
import Derived.BigQuiet
import Derived.Laws.StructEq
namespace Go.Proofs.YtcgjojjgagaliaaDoor
open Go.RowKit
theorem equalIn_pair (d : Nat) (a b c e : Int) (w : World) : (Op.equalIn (d + 2) 33 (.agg #[.int .i64 a, .int .i64 b]) (.agg #[.int .i64 c, .int .i64 e])).run Tryd.prog w = .ok (a == c && b == e) w := by
  have hu : Tryd.prog.underlying 33 = some (.array 2 3) := Tryd.underlying33
  have h3 := fun (x y : Int) => run_equalIn_int (P := Tryd.prog) w d 3 .i64 .i64 x y Tryd.underlying3
  have hs : (sizeOf 3).run Tryd.prog w = .ok 1 w := by kernel_rfl
  have p0 : ∀ (x y : Int), (part 3 #[.int .i64 x, .int .i64 y] 0).run Tryd.prog w = .ok (.int .i64 x) w := fun _ _ => by kernel_rfl
  have p1 : ∀ (x y : Int), (part 3 #[.int .i64 x, .int .i64 y] 1).run Tryd.prog w = .ok (.int .i64 y) w := fun _ _ => by kernel_rfl
  simp only [Op.equalIn, Sem.run_bind, run_underlying hu, Result.andThen_ok, hs]
  rw [Std.Legacy.Range.forIn_eq_forIn_range']
  simp [Std.Legacy.Range.size, List.range', p0, p1, h3]
  by_cases h1 : a = c
  · by_cases h2 : b = e
    · simp [h1, h2]
    · simp [h1, h2]
  · simp [h1]

theorem neq_pair (a b c e : Int) (w : World) : (binOp .neq 33 (.agg #[.int .i64 a, .int .i64 b]) (.agg #[.int .i64 c, .int .i64 e])).run Tryd.prog w = .ok (.bool (!(a == c && b == e))) w := by
  rw [run_neq_struct, show (10000 : Nat) = 9998 + 2 from rfl, equalIn_pair]; rfl
theorem grd_pair (op : BinOp) (x y : Operand) (xs ys : Array Value) (w : World) : (eqGuard op 33 x y (.agg xs) (.agg ys)).run Tryd.prog w = .ok () w := run_eqGuard_agg w op _ x y xs ys (by kernel_rfl)
set_option maxHeartbeats 400000 in
theorem equal_pairs (A B : Option Addr) (n m ca cb : Nat) (xs ys : List (Nat × Nat)) (w : World) (ha : RdP w A n xs) (hb : RdP w B m ys) (hn : n ≤ 9223372036854775807) :
    Calls Tryd.prog 13 #[.slice A n ca, .slice B m cb] w fun e w' => e = .returned (.bool (decide (xs = ys))) ∧ Below w.heap.size w w' := by
  have hla := ha.len
  have hlb := hb.len
  have hnq := neq_pair
  have hgd := grd_pair
  by_cases hnm : n = m
  · subst hnm
    go_enter Tryd.func13, Tryd.ntmps13
    go_wp2
    go_loopw [13] (fun i wr => ∃ k : Nat, k ≤ n ∧ i = .int .i64 k ∧ Below w.heap.size w wr ∧ Hid (xs.take k = ys.take k)) (fun i _ => n - (intOf i).toNat)
    case atStart => exact ⟨0, Nat.zero_le _, rfl, Below.refl _ _, by show _ = _; simp⟩
    case round =>
      obtain ⟨k, hk, rfl, hbel, H⟩ := hrel
      by_cases hlt : k < n
      · obtain ⟨b1, o1, x, rfl, hlt1, hx, hc1, hd1⟩ := (ha.below hbel).at_ hlt
        obtain ⟨b2, o2, y, rfl, hlt2, hy, hc2, hd2⟩ := (hb.below hbel).at_ hlt
        obtain ⟨x1, x2⟩ := x
        obtain ⟨y1, y2⟩ := y
        simp only at hc1 hd1 hc2 hd2
        by_cases hxy : x1 = y1 ∧ x2 = y2
        · obtain ⟨rfl, rfl⟩ := hxy
          have Ht : Hid (xs.take (k + 1) = ys.take (k + 1)) := by
            show _ = _
            rw [take_succ_of hx.out, take_succ_of hy.out, H.out]
          go_wp2_with (fail)
          go_quiet (fail)
          go_wp2
          go_roundw
          case rel => exact ⟨k + 1, by omega, by go_num, Below.drewN' hbel _, Ht⟩
          case measure => simp [intOf]; omega
        · have hx' : ((x1 : Int) == (y1 : Int) && (x2 : Int) == (y2 : Int)) = false := by
            rw [Bool.eq_false_iff]; intro h; simp at h; exact hxy (by omega)
          have Hn : Hid (xs ≠ ys) := by
            show _ ≠ _
            intro h; rw [h] at hx; have := hx.out.symm.trans hy.out; simp at this; exact hxy this
          clear hxy
          have hnq' := fun w => neq_pair x1 x2 y1 y2 w
          rw [hx'] at hnq'
          clear hnq hx'
          go_wp2_with (fail)
          go_quiet (fail)
          go_wp2
          go_ret
          exact ⟨ret_bool (by simp [Hn.out]), Below.drewN' hbel _⟩
      · have Hn : Hid (xs = ys) := by
          have h := H.out
          rwa [List.take_of_length_le (by omega), List.take_of_length_le (by omega)] at h
        go_wp2
        go_ret
        exact ⟨ret_bool (by simp [Hn.out]), hbel⟩
  · have Hn : Hid (xs ≠ ys) := fun h => hnm (by rw [← hla, ← hlb, h])
    have hb' : ((n : Int) != (m : Int)) = true := by simp; omega
    go_enter Tryd.func13, Tryd.ntmps13
    go_wp2
    go_ret
    exact ⟨ret_bool (by simp [Hn.out]), Below.refl _ _⟩
end Go.Proofs.YtcgjojjgagaliaaDoor
