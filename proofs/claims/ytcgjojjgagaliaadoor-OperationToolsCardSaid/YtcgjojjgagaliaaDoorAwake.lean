/- Layer 28: the examples of the chapter hold: awake returns true. The table of powers of ten is as its initialiser lays it. -/
import Derived.Test.YtcgjojjgagaliaaDoorOpB
import Derived.Test.YtcgjojjgagaliaaDoorOpC
import Derived.Test.YtcgjojjgagaliaaDoorSlices
import Derived.Test.YtcgjojjgagaliaaDoorPairs
import Derived.Test.YtcgjojjgagaliaaDoorOpH
import Derived.Test.YtcgjojjgagaliaaDoorOpE
namespace Go.Proofs.YtcgjojjgagaliaaDoor
open Go.RowKit
theorem deps73 : deps 7 3 3 = [3, 5, 7] := by decide
/-- The three operations of the example; the first one's depths lie in block b. -/
def ex (b : Nat) : List OpR :=
  [{ kind := 1, feat := 0, tool := 0, da := some ⟨b, 0, none⟩, dn := 2, dc := 2, leave := 0, ds := [3, 6] },
   { kind := 2, feat := 0, tool := 0, da := none, dn := 0, dc := 0, leave := 0, ds := [] },
   { kind := 5, feat := 1, tool := 0, da := none, dn := 0, dc := 0, leave := 0, ds := [] }]
theorem ex_need (b : Nat) : need (ex b) 3 = [(0, 1), (0, 2), (1, 2)] := by rfl
theorem ex_text (b : Nat) : textL ((ex b).take 1) = [114, 111, 117, 103, 104, 32, 102, 101, 97, 116, 117, 114, 101, 32, 48, 32, 116, 111, 111, 108, 32, 48, 32, 108, 101, 97, 118, 101, 32, 48, 32, 100, 101, 112, 116, 104, 115, 32, 51, 32, 54, 10] := by
  have h0 : Lib.itoa 0 = [48] := by simp [Lib.itoa, Lib.decDigits]
  have h3 : Lib.itoa 3 = [51] := by simp [Lib.itoa, Lib.decDigits]
  have h6 : Lib.itoa 6 = [54] := by simp [Lib.itoa, Lib.decDigits]
  simp [textL, ex, lineL, headB, depthsL, nm, kname, dec, h0, h3, h6, ByteArray.data_append]
set_option maxHeartbeats 1000000 in
theorem awake_any (w : World) (hp : Pow w) : Calls Tryd.prog 8 #[] w fun e w' => e = .returned (.bool true) ∧ Below w.heap.size w w' := by
  have Hp := passes_ok 7 3 3 w (by omega) (by omega) (by omega) (by omega) (by decide) (by omega) (by omega)
  rw [deps73] at Hp
  have HP := Lib.hid Hp; clear Hp
  go_enter Tryd.func8, Tryd.ntmps8
  go_wp2_with fail
  refine HP.out.mono ?_
  rintro e w1 ⟨v, rfl, hown, hb1⟩
  obtain ⟨A, c, rfl⟩ := own_form hown
  have r1 : RdI .i64 w1 A 3 [3, 5, 7] := Rd.own hown
  have hz1 := hb1.size
  go_wp2_with fail
  refine (equal_i64 _ _ 3 3 _ _ [3, 5, 7] [3, 5, 7] _ (r1.below ?_) (RdI.lit _ _ _ _ _ _ _ ?_ ?_ ?_) (by omega)).mono ?_
  · exact (((Below.refl _ _).alloc (by simp) _).alloc (by simp) _).alloc (by simp; omega) _
  · simp
  · rfl
  · rfl
  rintro e w2 ⟨rfl, hb2⟩
  have ro : RdO ((w1.alloc (.cells #[.int .i64 3, .int .i64 6] 2)).alloc (.cells #[.int .i64 1, .int .i64 0, .int .i64 0, .slice (some ⟨w1.heap.size, 0, none⟩) 2 2, .int .i64 0, .int .i64 2, .int .i64 0, .int .i64 0, .slice none 0 0, .int .i64 0, .int .i64 5, .int .i64 1, .int .i64 0, .slice none 0 0, .int .i64 0] 37))
      (some ⟨w1.heap.size + 1, 0, none⟩) 3 (ex w1.heap.size) := by
    have h := World.ownsRow_lit (base := 0) (e := 37) (size := 5) (w1.alloc (.cells #[.int .i64 3, .int .i64 6] 2)) #[.int .i64 1, .int .i64 0, .int .i64 0, .slice (some ⟨w1.heap.size, 0, none⟩) 2 2, .int .i64 0, .int .i64 2, .int .i64 0, .int .i64 0, .slice none 0 0, .int .i64 0, .int .i64 5, .int .i64 1, .int .i64 0, .slice none 0 0, .int .i64 0] 3 (by omega) (by decide) rfl
    rw [show (w1.alloc (.cells #[.int .i64 3, .int .i64 6] 2)).heap.size = w1.heap.size + 1 from by simp] at h
    refine RdO.own (os := ex w1.heap.size) h ?_
    intro o ho
    simp [ex] at ho
    rcases ho with rfl | rfl | rfl
    · exact (RdI.lit w1 2 .i64 [3, 6] #[.int .i64 3, .int .i64 6] _ 2 rfl rfl rfl).below ((Below.refl _ _).alloc (Nat.le_refl _) _)
    · exact Rd.nil
    · exact Rd.nil
  have hbA : Below w1.heap.size w1 ((w1.alloc (.cells #[.int .i64 3, .int .i64 6] 2)).alloc (.cells #[.int .i64 1, .int .i64 0, .int .i64 0, .slice (some ⟨w1.heap.size, 0, none⟩) 2 2, .int .i64 0, .int .i64 2, .int .i64 0, .int .i64 0, .slice none 0 0, .int .i64 0, .int .i64 5, .int .i64 1, .int .i64 0, .slice none 0 0, .int .i64 0] 37)) := ((Below.refl _ _).alloc (Nat.le_refl _) _).alloc (by simp) _
  have ro2 : RdO w2 (some ⟨w1.heap.size + 1, 0, none⟩) 3 (ex w1.heap.size) := (ro.below ((Below.refl _ _).alloc (Nat.le_refl _) _)).below hb2
  have hbB : Below w1.heap.size w1 w2 := (hbA.alloc (by simp; omega) _).trans (hb2.mono (by simp; omega))
  have hbC := hb1.trans (hbB.mono hz1)
  clear hb2 hbA ro hbB hb1 r1 hown
  go_wp2_with fail
  refine (needs_any _ 3 3 _ _ ro2 (by omega)).mono ?_
  rintro e w3 ⟨v3, rfl, hown3, hb3⟩
  rw [ex_need] at hown3
  obtain ⟨A3, c3, rfl⟩ := own_form hown3
  have ro3 := ro2.below hb3
  have hbD := hbC.trans (hb3.mono hbC.size)
  have rp : RdP (w3.alloc (.cells #[.int .i64 0, .int .i64 1, .int .i64 0, .int .i64 2, .int .i64 1, .int .i64 2] 33)) (some ⟨w3.heap.size, 0, none⟩) 3 [(0, 1), (0, 2), (1, 2)] :=
    Rd.own (World.ownsRow_lit (base := 0) (e := 33) (size := 2) w3 #[.int .i64 0, .int .i64 1, .int .i64 0, .int .i64 2, .int .i64 1, .int .i64 2] 3 (by omega) (by decide) rfl)
  have rq : RdP (w3.alloc (.cells #[.int .i64 0, .int .i64 1, .int .i64 0, .int .i64 2, .int .i64 1, .int .i64 2] 33)) A3 3 [(0, 1), (0, 2), (1, 2)] := Rd.alloc (Rd.own hown3) _
  go_wp2_with fail
  refine (equal_pairs _ _ 3 3 _ _ _ _ _ rq rp (by omega)).mono ?_
  rintro e w4 ⟨rfl, hb4⟩
  have ro4 := (ro3.below ((Below.refl _ _).alloc (Nat.le_refl _) _)).below hb4
  have hbE := (hbD.alloc hbD.size _).trans (hb4.mono (by have := hbD.size; simp; omega))
  have rt := ro4.take 1 (by omega)
  have htx := ex_text w1.heap.size
  have HT := Lib.hid htx
  clear htx rp rq hown3 hb4 ro4 ro3 ro2
  go_wp2_with fail
  refine (format_any _ 1 3 _ _ rt (by omega) ?_ (hp.below hbE)).mono ?_
  · intro o ho
    simp [ex] at ho
    subst ho
    unfold Fine i64b; simp
  rintro e w5 ⟨rfl, hb5⟩
  rw [HT.out]
  go_wp2_with fail
  go_ret
  exact ⟨rfl, hbE.trans (hb5.mono hbE.size)⟩
end Go.Proofs.YtcgjojjgagaliaaDoor
