/- Layer 28: what the listed tables give the walks; the start in which they lie as their initialisers lay them. No condition. -/
import Derived.Test.YtcgjojjgagaliaaDoorRows
import Derived.Test.YtcgjojjgagaliaaDoorOpH
import Derived.ProofKit
import Derived.LaidMore
import Derived.OpenShut
import Derived.Stop.Joined
import Derived.Stop.LaidErr
import Derived.MakeChecks
import Derived.Carry
namespace Go.Proofs.YtcgjojjgagaliaaDoor
open Go.ChangeShapes Go.WideShapes Go.ChangeAt Go.RowKit
theorem own : ownKnob Tryd.prog.godebug = none := by kernel_rfl
theorem laidOut : laidOutB Tryd.prog = true := by kernel_rfl
def laid3 : List (String × DataW Unit) := Rows.operationPassesRow.laid
theorem door_met (os : Os) (args : Array Value) : laidMetH Tryd.prog laid3 ((World.doorLaid Tryd.prog 24 os).forCall (fun _ _ => 0) ⟨#[], args, []⟩).memory :=
  laidMetH_of_parts3 (fuel := 8) (laidMet_of_run' 8 (by kernel_rfl) (by kernel_rfl)) (by kernel_rfl) (by kernel_rfl)
theorem pow_of_laid {W : World} (h : laidMetH Tryd.prog laid3 W) : Pow W := by
  rw [MakeChecks.laidMetH_plain _ _ _ (by kernel_rfl)] at h
  exact Lib.tabIs_of_head (n := 20) (t := 75) (e := 68) gpow (by kernel_rfl) Tryd.underlying75 Tryd.underlying68 (by kernel_rfl) (by kernel_rfl) h.tail.tail
end Go.Proofs.YtcgjojjgagaliaaDoor
