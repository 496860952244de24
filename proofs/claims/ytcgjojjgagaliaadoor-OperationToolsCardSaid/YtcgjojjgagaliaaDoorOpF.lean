/- Layer 28: what the two functions KindName return. No condition. -/
import Derived.Test.YtcgjojjgagaliaaDoorProg
import Derived.Test.YtcgjojjgagaliaaDoorOps
import Derived.WalkKit
import Derived.WalkSpells
import Derived.WalkLawsBesides
import Derived.StillTactics
import Derived.Outline
namespace Go.Proofs.YtcgjojjgagaliaaDoor
open Go.RowKit
/-- The name of a kind, as its bytes. -/
def kname (k : Int) : ByteArray :=
  if k = 1 then ⟨#[114, 111, 117, 103, 104]⟩ else if k = 2 then ⟨#[102, 105, 110, 105, 115, 104]⟩ else if k = 3 then ⟨#[100, 114, 105, 108, 108]⟩
  else if k = 4 then ⟨#[100, 101, 98, 117, 114, 114]⟩ else if k = 5 then ⟨#[99, 117, 116, 111, 102, 102]⟩ else ⟨#[]⟩
set_option maxHeartbeats 800000 in
theorem kind_any (k : Int) (w : World) :
    Calls Tryd.prog 23 #[.int .i64 k] w fun e w' => e = .returned (.string (kname k)) ∧ Below w.heap.size w w' := by
  by_cases h0 : k < 0
  · have H : Hid (kname k = ⟨#[]⟩) := by
      show _ = _
      unfold kname
      rw [if_neg (by omega), if_neg (by omega), if_neg (by omega), if_neg (by omega), if_neg (by omega)]
    go_enter Tryd.func23, Tryd.ntmps23
    go_wp2
    go_ret
    exact ⟨by rw [H.out]; rfl, Below.refl _ _⟩
  · by_cases h6 : 6 ≤ k
    · have H : Hid (kname k = ⟨#[]⟩) := by
        show _ = _
        unfold kname
        rw [if_neg (by omega), if_neg (by omega), if_neg (by omega), if_neg (by omega), if_neg (by omega)]
      go_enter Tryd.func23, Tryd.ntmps23
      go_wp2
      go_ret
      exact ⟨by rw [H.out]; rfl, (Below.refl _ _).alloc (Nat.le_refl _) _⟩
    · rcases (show k = 0 ∨ k = 1 ∨ k = 2 ∨ k = 3 ∨ k = 4 ∨ k = 5 from by omega) with h | h | h | h | h | h
      all_goals
        subst h
        clear h0 h6
        go_enter Tryd.func23, Tryd.ntmps23
        go_wp2
        go_ret
        exact ⟨rfl, ((Below.refl _ _).alloc (Nat.le_refl _) _).alloc (by simp) _⟩
set_option maxHeartbeats 800000 in
theorem rkind_any (k : Int) (w : World) :
    Calls Tryd.prog 24 #[.int .i64 k] w fun e w' => e = .returned (.string (kname k)) ∧ w = w' := by
  by_cases h : k = 1 ∨ k = 2 ∨ k = 3 ∨ k = 4 ∨ k = 5
  · rcases h with h | h | h | h | h
    all_goals
      subst h
      go_enter Tryd.func24, Tryd.ntmps24
      go_wp2
      go_ret
      exact ⟨rfl, rfl⟩
  · have H : Hid (kname k = ⟨#[]⟩) := by
      show _ = _
      unfold kname
      rw [if_neg (by omega), if_neg (by omega), if_neg (by omega), if_neg (by omega), if_neg (by omega)]
    have n1 : k ≠ 1 := by omega
    have n2 : k ≠ 2 := by omega
    have n3 : k ≠ 3 := by omega
    have n4 : k ≠ 4 := by omega
    have n5 : k ≠ 5 := by omega
    clear h
    go_enter Tryd.func24, Tryd.ntmps24
    go_wp2
    go_ret
    exact ⟨by rw [H.out]; rfl, rfl⟩
end Go.Proofs.YtcgjojjgagaliaaDoor
