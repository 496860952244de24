/- Layer 28: what the reference's Needs returns. At most 1000 operations. -/
import Derived.Test.YtcgjojjgagaliaaDoorOpC
import Derived.Deep.RegionWith
import Derived.Deep.RegionHeld3
namespace Go.Proofs.YtcgjojjgagaliaaDoor
open Go.RowKit
set_option maxHeartbeats 400000 in
theorem before_any (a b : OpR) (t : Bool) (w : World) (H : Hid (bfr a b = t)) :
    Calls Tryd.prog 26 #[.agg #[.int .i64 a.kind, .int .i64 a.feat, .int .i64 a.tool, .slice a.da a.dn a.dc, .int .i64 a.leave], .agg #[.int .i64 b.kind, .int .i64 b.feat, .int .i64 b.tool, .slice b.da b.dn b.dc, .int .i64 b.leave]] w
      fun e w' => e = .returned (.bool t) ∧ Below w.heap.size w w' := by
  go_enter Tryd.func26, Tryd.ntmps26
  go_wp2
  all_goals
    go_ret
    refine ⟨ret_bool ?_, ((Below.refl _ _).alloc (Nat.le_refl _) _).alloc (by simp) _⟩
    rw [← H.out]
    unfold bfr
    rw [Bool.eq_iff_iff]
    simp
    first | omega | (simp only [beq_iff_eq, beq_eq_false_iff_ne, ne_eq] at *; omega)

set_option maxHeartbeats 400000 in
theorem rneeds_any (A : Option Addr) (n c : Nat) (os : List OpR) (w : World) (ha : RdO w A n os) (hn : n ≤ 1000) :
    Calls Tryd.prog 16 #[.slice A n c] w fun e w' => ∃ v, e = .returned v ∧ w'.ownsRow w.heap.size 33 2 v (need os n).length (pairCells (need os n)) ∧ Below w.heap.size w w' := by
  have hlen := ha.1
  obtain ⟨i0, hi0, hz0, hz1, hz2⟩ := info_parts info_pair
  go_enter Tryd.func16, Tryd.ntmps16
  go_wp2
  go_loopw [3, 4] (fun v i wr => ∃ k : Nat, k ≤ n ∧ i = .int .i64 k ∧ wr.ownsRow w.heap.size 33 2 v (need os k).length (pairCells (need os k)) ∧ Below w.heap.size w wr) (fun _ i _ => n - (intOf i).toNat)
  case atStart => exact ⟨0, Nat.zero_le _, rfl, own_nil _ _ _ _, Below.refl _ _⟩
  case round =>
    obtain ⟨i, hi, rfl, hown, hbel⟩ := hrel
    by_cases hlt : i < n
    · obtain ⟨b, off, a, rfl, hb, hoa, _⟩ := (ha.below hbel).at_ hlt
      go_wp2
      obtain ⟨wo, hwo⟩ : ∃ wo : World, wo = wr := ⟨_, rfl⟩
      rw [← hwo] at hown hbel hb ⊢
      clear hwo
      go_loopw [3, 5] (fun v i' wr => ∃ k : Nat, k ≤ n ∧ i' = .int .i64 k ∧ wr.ownsRow w.heap.size 33 2 v (need os i ++ row os a i k).length (pairCells (need os i ++ row os a i k)) ∧ Below w.heap.size w wr) (fun _ i _ => n - (intOf i).toNat)
      case atStart => exact ⟨0, Nat.zero_le _, rfl, by simpa [row] using hown, hbel⟩
      case round =>
        clear hown hbel
        obtain ⟨k, hk, rfl, hown, hbel⟩ := hrel
        have hz := hbel.size
        by_cases hlt2 : k < n
        · obtain ⟨b1, off1, a1, hA1, hb1, hoa1, hc0, hc1, hc2, hc3, hc4, _⟩ := (ha.below hbel).at_ hlt
          obtain ⟨rfl, rfl⟩ : b = b1 ∧ off = off1 := by simpa using hA1
          obtain rfl : a = a1 := by have := hoa.out.symm.trans hoa1.out; simpa using this
          obtain ⟨b', off', q, hA, hb', hoq, hd0, hd1, hd2, hd3, hd4, _⟩ := (ha.below hbel).at_ hlt2
          obtain ⟨rfl, rfl⟩ : b = b' ∧ off = off' := by simpa using hA
          clear hA hA1
          have hval : (row os a i k).length ≤ k := row_le os a i k
          have hnl : (need os i).length ≤ 1000000 := by
            have := need_le os i
            have := Nat.mul_le_mul (show i ≤ 1000 by omega) (show os.length ≤ 1000 by omega)
            omega
          have hll : (need os i ++ row os a i k).length = (need os i).length + (row os a i k).length := List.length_append
          generalize hL : (need os i ++ row os a i k).length = L at hll hown
          have HL := Lib.hid hL; clear hL
          have hLb : L ≤ 1001000 := by omega
          clear hll hval hnl hlen
          obtain ⟨t, ht⟩ : ∃ t, bfr a q = t := ⟨_, rfl⟩
          have Ht := Lib.hid ht; clear ht
          go_wp2_with fail
          go_region_held3 (fun w' => w'.cell? ⟨b, off + i * 5, none⟩ = some (.int .i64 a.kind) ∧ w'.cell? ⟨b, off + i * 5 + 1, none⟩ = some (.int .i64 a.feat) ∧ w'.cell? ⟨b, off + i * 5 + 2, none⟩ = some (.int .i64 a.tool) ∧ w'.cell? ⟨b, off + i * 5 + 3, none⟩ = some (.slice a.da a.dn a.dc) ∧ w'.cell? ⟨b, off + i * 5 + 4, none⟩ = some (.int .i64 a.leave) ∧ w'.cell? ⟨b, off + k * 5, none⟩ = some (.int .i64 q.kind) ∧ w'.cell? ⟨b, off + k * 5 + 1, none⟩ = some (.int .i64 q.feat) ∧ w'.cell? ⟨b, off + k * 5 + 2, none⟩ = some (.int .i64 q.tool) ∧ w'.cell? ⟨b, off + k * 5 + 3, none⟩ = some (.slice q.da q.dn q.dc) ∧ w'.cell? ⟨b, off + k * 5 + 4, none⟩ = some (.int .i64 q.leave))
            (first | exact ⟨hc0, hc1, hc2, hc3, hc4, hd0, hd1, hd2, hd3, hd4⟩ | (exact ⟨(hb2.cell hb').trans hc0, (hb2.cell hb').trans hc1, (hb2.cell hb').trans hc2, (hb2.cell hb').trans hc3, (hb2.cell hb').trans hc4, (hb2.cell hb').trans hd0, (hb2.cell hb').trans hd1, (hb2.cell hb').trans hd2, (hb2.cell hb').trans hd3, (hb2.cell hb').trans hd4⟩))
            (first | (go_at_call 26; refine (before_any a q t _ Ht).mono ?_; rintro e w2 ⟨rfl, hb2⟩))
          have hbel2 := hbel.drew.trans (hb2.mono hz)
          have hzz := hbel2.size
          have hown2 := own_below hown.drew hb2
          clear hown hbel hb2
          cases t
          rotate_left
          · have ht := Ht.out
            clear Ht
            go_wp2_with (at_builtin; go_must (refine wpList_append_own _ rfl _ _ 32 rfl w.heap.size 33 i0 (.agg #[.int .i64 0, .int .i64 0]) 2 16 Tryd.underlying32 hi0 hz0 hz1 hz2 rfl (by decide) _ _ _ rfl (hown2.alloc _) ⟨w2.heap.size, 0, none⟩ 1 1 [.int .i64 i, .int .i64 k] rfl rfl (cell_two_new _ _ _ _) (by simp [Value.oneCell']) (by unfold maxLen; omega) (by omega) (by simp; omega) ?_); intro v' w1 hown' hgrow _)
            go_roundw
            case rel =>
              have e : need os i ++ row os a i (k + 1) = (need os i ++ row os a i k) ++ [(i, k)] := by rw [row_yes hoq.out ht, List.append_assoc]
              refine ⟨k + 1, by omega, by go_num, ?_, below_append hown2 hbel2 hzz hgrow⟩
              rw [e, List.length_append, HL.out]
              simpa [pairCells] using hown'
            case measure => simp [intOf]; omega
          · have ht := Ht.out
            clear Ht
            go_wp2
            go_roundw
            case rel =>
              refine ⟨k + 1, by omega, by go_num, ?_, hbel2⟩
              rw [row_no hoq.out ht, HL.out]
              exact hown2
            case measure => simp [intOf]; omega
        · obtain rfl : k = n := by omega
          go_wp2
          go_roundw
          case rel =>
            refine ⟨i + 1, by omega, by go_num, ?_, hbel⟩
            rw [need_succ hoa.out hlen]
            exact hown
          case measure => simp [intOf]; omega
    · obtain rfl : i = n := by omega
      go_wp2
      go_ret
      exact ⟨_, rfl, hown, hbel⟩
end Go.Proofs.YtcgjojjgagaliaaDoor
