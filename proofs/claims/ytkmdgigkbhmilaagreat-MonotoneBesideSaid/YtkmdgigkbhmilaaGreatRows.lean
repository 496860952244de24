/-
  No cell of these rows narrows 'for every input' (looked for: loops, veiled, ifaces, maps, wideKeys, modest, calm, conditions, laid).
  DERIVED. THE GIVEN ROWS OF THIS SEAT. 7 by the template 'for every input the law returns true; each argument reads behind the call as it read before'; 0 by the template 'total and deterministic' (their statements: YtkmdgigkbhmilaaGreatTotals.lean).
  GIVEN WITH THE SEED: the statements are not yours to turn. If you find one false, say at which input.
  Laid BY PROGRAM, IN A SANDBOX (cutbox-rows.mjs): the forced cells as the released guide's own fill.sh prints them over the translation 1806fa9a44149a6e… (all of the seat's roots in one cut). By AI agents, Wed Nov 11 2026. No macro, syntax, notation, axiom, sorry.
-/
import Derived.Test.YtkmdgigkbhmilaaGreatChecked
import GoSem.Claim
import GoSem.ClaimJoined
import GoSem.ClaimMapViews
import Derived.JoinedTies
import Derived.KernelRfl
namespace Go.Proofs.YtkmdgigkbhmilaaGreat
/- THE CELL 'sum', in the pinned program and in every row, IS THE sha256 OF THE DUMP (.gsa) THAT YtkmdgigkbhmilaaGreatProg.lean LOADS. Nothing in Lean hashes anything: it is a label: what it is worth is what the hold of that sum in a sandbox is worth. -/
noncomputable def Tryz.pinned : Pinned := { name := "ytkmdgigkbhmilaagreat", sum := "1806fa9a44149a6e3ee5642958fe0835f8b933263522e0425d6129dd4194330f", checked := Tryz.checked }
namespace Rows
def none {H : Type} : Left H := { results := [], args := [] }

/-- 'swarflaw11.MonotoneAt': WHATEVER THE INPUT: true; the input reads as it did. -/
def monotoneAtSpec : ChangeSpec := { name := "monotoneAt", fn := fun _ => fun
  | [d1, d2, d3] => { results := [.lit (.bool true)], args := [d1, d2, d3] }
  | _ => none }
def monotoneAtRow : OpenClaim := { program := "ytkmdgigkbhmilaagreat", sum := "1806fa9a44149a6e3ee5642958fe0835f8b933263522e0425d6129dd4194330f", func := "swarf/swarflaw11.MonotoneAt", spec := "monotoneAt", unfollowed := true, recurses := true, apart := false }
def MonotoneAtSaid : Prop := monotoneAtRow.holds Tryz.pinned (OpenSpec.ofChange monotoneAtSpec)

/-- ITS FALSE NEIGHBOUR: 'it returns false'. Refute it at one input. -/
def monotoneAtWrong : ChangeSpec := { name := "monotoneAt", fn := fun _ => fun
  | [d1, d2, d3] => { results := [.lit (.bool false)], args := [d1, d2, d3] }
  | _ => none }
def MonotoneAtWrongFalsely : Prop := monotoneAtRow.holds Tryz.pinned (OpenSpec.ofChange monotoneAtWrong)

/-- 'swarflaw11.MonotoneAbove': WHATEVER THE INPUT: true; the input reads as it did. -/
def monotoneAboveSpec : ChangeSpec := { name := "monotoneAbove", fn := fun _ => fun
  | [d1, d2, d3] => { results := [.lit (.bool true)], args := [d1, d2, d3] }
  | _ => none }
def monotoneAboveRow : OpenClaim := { program := "ytkmdgigkbhmilaagreat", sum := "1806fa9a44149a6e3ee5642958fe0835f8b933263522e0425d6129dd4194330f", func := "swarf/swarflaw11.MonotoneAbove", spec := "monotoneAbove", unfollowed := true, recurses := true, apart := false }
def MonotoneAboveSaid : Prop := monotoneAboveRow.holds Tryz.pinned (OpenSpec.ofChange monotoneAboveSpec)

/-- ITS FALSE NEIGHBOUR: 'it returns false'. Refute it at one input. -/
def monotoneAboveWrong : ChangeSpec := { name := "monotoneAbove", fn := fun _ => fun
  | [d1, d2, d3] => { results := [.lit (.bool false)], args := [d1, d2, d3] }
  | _ => none }
def MonotoneAboveWrongFalsely : Prop := monotoneAboveRow.holds Tryz.pinned (OpenSpec.ofChange monotoneAboveWrong)

/-- 'swarflaw11.MonotoneRight': WHATEVER THE INPUT: true; the input reads as it did. -/
def monotoneRightSpec : ChangeSpec := { name := "monotoneRight", fn := fun _ => fun
  | [d1, d2] => { results := [.lit (.bool true)], args := [d1, d2] }
  | _ => none }
def monotoneRightRow : OpenClaim := { program := "ytkmdgigkbhmilaagreat", sum := "1806fa9a44149a6e3ee5642958fe0835f8b933263522e0425d6129dd4194330f", func := "swarf/swarflaw11.MonotoneRight", spec := "monotoneRight", unfollowed := true, recurses := true, apart := false }
def MonotoneRightSaid : Prop := monotoneRightRow.holds Tryz.pinned (OpenSpec.ofChange monotoneRightSpec)

/-- ITS FALSE NEIGHBOUR: 'it returns false'. Refute it at one input. -/
def monotoneRightWrong : ChangeSpec := { name := "monotoneRight", fn := fun _ => fun
  | [d1, d2] => { results := [.lit (.bool false)], args := [d1, d2] }
  | _ => none }
def MonotoneRightWrongFalsely : Prop := monotoneRightRow.holds Tryz.pinned (OpenSpec.ofChange monotoneRightWrong)

/-- 'swarflaw11.MonotoneCompare': WHATEVER THE INPUT: true; the input reads as it did. -/
def monotoneCompareSpec : ChangeSpec := { name := "monotoneCompare", fn := fun _ => fun
  | [d1, d2] => { results := [.lit (.bool true)], args := [d1, d2] }
  | _ => none }
def monotoneCompareRow : OpenClaim := { program := "ytkmdgigkbhmilaagreat", sum := "1806fa9a44149a6e3ee5642958fe0835f8b933263522e0425d6129dd4194330f", func := "swarf/swarflaw11.MonotoneCompare", spec := "monotoneCompare", unfollowed := true, recurses := true, apart := false }
def MonotoneCompareSaid : Prop := monotoneCompareRow.holds Tryz.pinned (OpenSpec.ofChange monotoneCompareSpec)

/-- ITS FALSE NEIGHBOUR: 'it returns false'. Refute it at one input. -/
def monotoneCompareWrong : ChangeSpec := { name := "monotoneCompare", fn := fun _ => fun
  | [d1, d2] => { results := [.lit (.bool false)], args := [d1, d2] }
  | _ => none }
def MonotoneCompareWrongFalsely : Prop := monotoneCompareRow.holds Tryz.pinned (OpenSpec.ofChange monotoneCompareWrong)

/-- 'swarflaw11.MonotoneLeft': WHATEVER THE INPUT: true; the input reads as it did. -/
def monotoneLeftSpec : ChangeSpec := { name := "monotoneLeft", fn := fun _ => fun
  | [d1, d2] => { results := [.lit (.bool true)], args := [d1, d2] }
  | _ => none }
def monotoneLeftRow : OpenClaim := { program := "ytkmdgigkbhmilaagreat", sum := "1806fa9a44149a6e3ee5642958fe0835f8b933263522e0425d6129dd4194330f", func := "swarf/swarflaw11.MonotoneLeft", spec := "monotoneLeft", unfollowed := true, recurses := true, apart := false }
def MonotoneLeftSaid : Prop := monotoneLeftRow.holds Tryz.pinned (OpenSpec.ofChange monotoneLeftSpec)

/-- ITS FALSE NEIGHBOUR: 'it returns false'. Refute it at one input. -/
def monotoneLeftWrong : ChangeSpec := { name := "monotoneLeft", fn := fun _ => fun
  | [d1, d2] => { results := [.lit (.bool false)], args := [d1, d2] }
  | _ => none }
def MonotoneLeftWrongFalsely : Prop := monotoneLeftRow.holds Tryz.pinned (OpenSpec.ofChange monotoneLeftWrong)

/-- 'swarflaw11.MonotoneBeside': WHATEVER THE INPUT: true; the input reads as it did. -/
def monotoneBesideSpec : ChangeSpec := { name := "monotoneBeside", fn := fun _ => fun
  | [d1, d2] => { results := [.lit (.bool true)], args := [d1, d2] }
  | _ => none }
def monotoneBesideRow : OpenClaim := { program := "ytkmdgigkbhmilaagreat", sum := "1806fa9a44149a6e3ee5642958fe0835f8b933263522e0425d6129dd4194330f", func := "swarf/swarflaw11.MonotoneBeside", spec := "monotoneBeside", unfollowed := true, recurses := true, apart := false }
def MonotoneBesideSaid : Prop := monotoneBesideRow.holds Tryz.pinned (OpenSpec.ofChange monotoneBesideSpec)

/-- ITS FALSE NEIGHBOUR: 'it returns false'. Refute it at one input. -/
def monotoneBesideWrong : ChangeSpec := { name := "monotoneBeside", fn := fun _ => fun
  | [d1, d2] => { results := [.lit (.bool false)], args := [d1, d2] }
  | _ => none }
def MonotoneBesideWrongFalsely : Prop := monotoneBesideRow.holds Tryz.pinned (OpenSpec.ofChange monotoneBesideWrong)

/-- 'swarflaw11.MonotonePieces': WHATEVER THE INPUT: true; the input reads as it did. -/
def monotonePiecesSpec : ChangeSpec := { name := "monotonePieces", fn := fun _ => fun
  | [d] => { results := [.lit (.bool true)], args := [d] }
  | _ => none }
def monotonePiecesRow : OpenClaim := { program := "ytkmdgigkbhmilaagreat", sum := "1806fa9a44149a6e3ee5642958fe0835f8b933263522e0425d6129dd4194330f", func := "swarf/swarflaw11.MonotonePieces", spec := "monotonePieces", unfollowed := true, recurses := true, apart := false }
def MonotonePiecesSaid : Prop := monotonePiecesRow.holds Tryz.pinned (OpenSpec.ofChange monotonePiecesSpec)

/-- ITS FALSE NEIGHBOUR: 'it returns false'. Refute it at one input. -/
def monotonePiecesWrong : ChangeSpec := { name := "monotonePieces", fn := fun _ => fun
  | [d] => { results := [.lit (.bool false)], args := [d] }
  | _ => none }
def MonotonePiecesWrongFalsely : Prop := monotonePiecesRow.holds Tryz.pinned (OpenSpec.ofChange monotonePiecesWrong)

/- THE SECOND FORM. 'bulk': how many values and letters a reading holds, each counted each time it is reached (what is shared counts as often as it is met; a slice's spare places count too). A statement '..UptoSaid' is the law's where the arguments, and the package variables that the reading takes, are together of bulk at most 1048576: NARROWER than '..Said'. Prove '..Said' where nothing that the law and all that it calls make is longer than what came in: it says more and counts as full. Else prove '..UptoSaid'. A law counts once. -/
mutual
def uptoBulk {H : Type} : DataW H → Nat
  | .lit (.string bytes) => bytes.length + 1
  | .lit _ => 1
  | .nil => 1
  | .ptr d => uptoBulk d + 1
  | .slice elems spare => uptoBulkAll elems + uptoBulkAll spare + 1
  | .agg parts => uptoBulkAll parts + 1
  | .iface _ d => uptoBulk d + 1
  | .map entries => uptoBulkEntries entries + 1
  | .held _ => 1
def uptoBulkAll {H : Type} : List (DataW H) → Nat
  | [] => 0
  | d :: r => uptoBulk d + uptoBulkAll r
def uptoBulkEntries {H : Type} : List (Lit × DataW H) → Nat
  | [] => 0
  | x :: r => uptoBulkEntry x + uptoBulkEntries r
def uptoBulkEntry {H : Type} : Lit × DataW H → Nat
  | (.string bytes, d) => bytes.length + uptoBulk d + 1
  | (_, d) => uptoBulk d + 1
 end
def uptoSmall : (H : Type) → List (DataW H) → Bool := fun _ ds => decide (uptoBulkAll ds ≤ 1048576)
def OpenSpec.upto (s : _root_.Go.ChangeSpec) : _root_.Go.OpenSpec := { _root_.Go.OpenSpec.ofChange s with cond := some uptoSmall }

/-- 'swarflaw11.MonotoneAt', WHERE WHAT IT READS IS OF BULK AT MOST 1048576: true; the input reads as it did. -/
def monotoneAtUptoRow : OpenClaim := { program := "ytkmdgigkbhmilaagreat", sum := "1806fa9a44149a6e3ee5642958fe0835f8b933263522e0425d6129dd4194330f", func := "swarf/swarflaw11.MonotoneAt", spec := "monotoneAt", unfollowed := true, recurses := true, apart := false, narrowed := true }
def MonotoneAtUptoSaid : Prop := monotoneAtUptoRow.holds Tryz.pinned (OpenSpec.upto monotoneAtSpec)

/-- 'swarflaw11.MonotoneAbove', WHERE WHAT IT READS IS OF BULK AT MOST 1048576: true; the input reads as it did. -/
def monotoneAboveUptoRow : OpenClaim := { program := "ytkmdgigkbhmilaagreat", sum := "1806fa9a44149a6e3ee5642958fe0835f8b933263522e0425d6129dd4194330f", func := "swarf/swarflaw11.MonotoneAbove", spec := "monotoneAbove", unfollowed := true, recurses := true, apart := false, narrowed := true }
def MonotoneAboveUptoSaid : Prop := monotoneAboveUptoRow.holds Tryz.pinned (OpenSpec.upto monotoneAboveSpec)

/-- 'swarflaw11.MonotoneRight', WHERE WHAT IT READS IS OF BULK AT MOST 1048576: true; the input reads as it did. -/
def monotoneRightUptoRow : OpenClaim := { program := "ytkmdgigkbhmilaagreat", sum := "1806fa9a44149a6e3ee5642958fe0835f8b933263522e0425d6129dd4194330f", func := "swarf/swarflaw11.MonotoneRight", spec := "monotoneRight", unfollowed := true, recurses := true, apart := false, narrowed := true }
def MonotoneRightUptoSaid : Prop := monotoneRightUptoRow.holds Tryz.pinned (OpenSpec.upto monotoneRightSpec)

/-- 'swarflaw11.MonotoneCompare', WHERE WHAT IT READS IS OF BULK AT MOST 1048576: true; the input reads as it did. -/
def monotoneCompareUptoRow : OpenClaim := { program := "ytkmdgigkbhmilaagreat", sum := "1806fa9a44149a6e3ee5642958fe0835f8b933263522e0425d6129dd4194330f", func := "swarf/swarflaw11.MonotoneCompare", spec := "monotoneCompare", unfollowed := true, recurses := true, apart := false, narrowed := true }
def MonotoneCompareUptoSaid : Prop := monotoneCompareUptoRow.holds Tryz.pinned (OpenSpec.upto monotoneCompareSpec)

/-- 'swarflaw11.MonotoneLeft', WHERE WHAT IT READS IS OF BULK AT MOST 1048576: true; the input reads as it did. -/
def monotoneLeftUptoRow : OpenClaim := { program := "ytkmdgigkbhmilaagreat", sum := "1806fa9a44149a6e3ee5642958fe0835f8b933263522e0425d6129dd4194330f", func := "swarf/swarflaw11.MonotoneLeft", spec := "monotoneLeft", unfollowed := true, recurses := true, apart := false, narrowed := true }
def MonotoneLeftUptoSaid : Prop := monotoneLeftUptoRow.holds Tryz.pinned (OpenSpec.upto monotoneLeftSpec)

/-- 'swarflaw11.MonotoneBeside', WHERE WHAT IT READS IS OF BULK AT MOST 1048576: true; the input reads as it did. -/
def monotoneBesideUptoRow : OpenClaim := { program := "ytkmdgigkbhmilaagreat", sum := "1806fa9a44149a6e3ee5642958fe0835f8b933263522e0425d6129dd4194330f", func := "swarf/swarflaw11.MonotoneBeside", spec := "monotoneBeside", unfollowed := true, recurses := true, apart := false, narrowed := true }
def MonotoneBesideUptoSaid : Prop := monotoneBesideUptoRow.holds Tryz.pinned (OpenSpec.upto monotoneBesideSpec)

/-- 'swarflaw11.MonotonePieces', WHERE WHAT IT READS IS OF BULK AT MOST 1048576: true; the input reads as it did. -/
def monotonePiecesUptoRow : OpenClaim := { program := "ytkmdgigkbhmilaagreat", sum := "1806fa9a44149a6e3ee5642958fe0835f8b933263522e0425d6129dd4194330f", func := "swarf/swarflaw11.MonotonePieces", spec := "monotonePieces", unfollowed := true, recurses := true, apart := false, narrowed := true }
def MonotonePiecesUptoSaid : Prop := monotonePiecesUptoRow.holds Tryz.pinned (OpenSpec.upto monotonePiecesSpec)

end Rows
end Go.Proofs.YtkmdgigkbhmilaaGreat
