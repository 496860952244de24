/-
  No cell of these rows narrows 'for every input' (looked for: loops, veiled, ifaces, maps, wideKeys, modest, calm, conditions, laid).
  DERIVED. THE GIVEN ROWS OF THIS SEAT. 8 by the template 'for every input the law returns true; each argument reads behind the call as it read before'; 0 by the template 'total and deterministic' (their statements: YthpalcfhhicmgaaGreatTotals.lean).
  GIVEN WITH THE SEED: the statements are not yours to turn. If you find one false, say at which input.
  Laid BY PROGRAM, IN A SANDBOX (cutbox-rows.mjs): the forced cells as the released guide's own fill.sh prints them over the translation 4f3b7c3ae2a60922… (all of the seat's roots in one cut). By AI agents, Wed Nov 11 2026. No macro, syntax, notation, axiom, sorry.
-/
import Derived.Test.YthpalcfhhicmgaaGreatChecked
import GoSem.Claim
import GoSem.ClaimJoined
import GoSem.ClaimMapViews
import Derived.JoinedTies
import Derived.KernelRfl
namespace Go.Proofs.YthpalcfhhicmgaaGreat
/- THE CELL 'sum', in the pinned program and in every row, IS THE sha256 OF THE DUMP (.gsa) THAT YthpalcfhhicmgaaGreatProg.lean LOADS. Nothing in Lean hashes anything: it is a label: what it is worth is what the hold of that sum in a sandbox is worth. -/
noncomputable def Tryz.pinned : Pinned := { name := "ythpalcfhhicmgaagreat", sum := "4f3b7c3ae2a609227eba54da8abcd768e7eb6f4e52c9aaf117f7e5d9914315ea", checked := Tryz.checked }
namespace Rows
def none {H : Type} : Left H := { results := [], args := [] }

/-- 'swarflaw07.PointMake': WHATEVER THE INPUT: true; the input reads as it did. -/
def pointMakeSpec : ChangeSpec := { name := "pointMake", fn := fun _ => fun
  | [d1, d2] => { results := [.lit (.bool true)], args := [d1, d2] }
  | _ => none }
def pointMakeRow : OpenClaim := { program := "ythpalcfhhicmgaagreat", sum := "4f3b7c3ae2a609227eba54da8abcd768e7eb6f4e52c9aaf117f7e5d9914315ea", func := "swarf/swarflaw07.PointMake", spec := "pointMake", unfollowed := true, recurses := true, apart := false }
def PointMakeSaid : Prop := pointMakeRow.holds Tryz.pinned (OpenSpec.ofChange pointMakeSpec)

/-- ITS FALSE NEIGHBOUR: 'it returns false'. Refute it at one input. -/
def pointMakeWrong : ChangeSpec := { name := "pointMake", fn := fun _ => fun
  | [d1, d2] => { results := [.lit (.bool false)], args := [d1, d2] }
  | _ => none }
def PointMakeWrongFalsely : Prop := pointMakeRow.holds Tryz.pinned (OpenSpec.ofChange pointMakeWrong)

/-- 'swarflaw07.PointCompare': WHATEVER THE INPUT: true; the input reads as it did. -/
def pointCompareSpec : ChangeSpec := { name := "pointCompare", fn := fun _ => fun
  | [d1, d2] => { results := [.lit (.bool true)], args := [d1, d2] }
  | _ => none }
def pointCompareRow : OpenClaim := { program := "ythpalcfhhicmgaagreat", sum := "4f3b7c3ae2a609227eba54da8abcd768e7eb6f4e52c9aaf117f7e5d9914315ea", func := "swarf/swarflaw07.PointCompare", spec := "pointCompare", unfollowed := true, recurses := true, apart := false }
def PointCompareSaid : Prop := pointCompareRow.holds Tryz.pinned (OpenSpec.ofChange pointCompareSpec)

/-- ITS FALSE NEIGHBOUR: 'it returns false'. Refute it at one input. -/
def pointCompareWrong : ChangeSpec := { name := "pointCompare", fn := fun _ => fun
  | [d1, d2] => { results := [.lit (.bool false)], args := [d1, d2] }
  | _ => none }
def PointCompareWrongFalsely : Prop := pointCompareRow.holds Tryz.pinned (OpenSpec.ofChange pointCompareWrong)

/-- 'swarflaw07.PointSquare': WHATEVER THE INPUT: true; the input reads as it did. -/
def pointSquareSpec : ChangeSpec := { name := "pointSquare", fn := fun _ => fun
  | [d1, d2, d3] => { results := [.lit (.bool true)], args := [d1, d2, d3] }
  | _ => none }
def pointSquareRow : OpenClaim := { program := "ythpalcfhhicmgaagreat", sum := "4f3b7c3ae2a609227eba54da8abcd768e7eb6f4e52c9aaf117f7e5d9914315ea", func := "swarf/swarflaw07.PointSquare", spec := "pointSquare", unfollowed := true, recurses := true, apart := false }
def PointSquareSaid : Prop := pointSquareRow.holds Tryz.pinned (OpenSpec.ofChange pointSquareSpec)

/-- ITS FALSE NEIGHBOUR: 'it returns false'. Refute it at one input. -/
def pointSquareWrong : ChangeSpec := { name := "pointSquare", fn := fun _ => fun
  | [d1, d2, d3] => { results := [.lit (.bool false)], args := [d1, d2, d3] }
  | _ => none }
def PointSquareWrongFalsely : Prop := pointSquareRow.holds Tryz.pinned (OpenSpec.ofChange pointSquareWrong)

/-- 'swarflaw07.PointOrder': WHATEVER THE INPUT: true; the input reads as it did. -/
def pointOrderSpec : ChangeSpec := { name := "pointOrder", fn := fun _ => fun
  | [d1, d2] => { results := [.lit (.bool true)], args := [d1, d2] }
  | _ => none }
def pointOrderRow : OpenClaim := { program := "ythpalcfhhicmgaagreat", sum := "4f3b7c3ae2a609227eba54da8abcd768e7eb6f4e52c9aaf117f7e5d9914315ea", func := "swarf/swarflaw07.PointOrder", spec := "pointOrder", unfollowed := true, recurses := true, apart := false }
def PointOrderSaid : Prop := pointOrderRow.holds Tryz.pinned (OpenSpec.ofChange pointOrderSpec)

/-- ITS FALSE NEIGHBOUR: 'it returns false'. Refute it at one input. -/
def pointOrderWrong : ChangeSpec := { name := "pointOrder", fn := fun _ => fun
  | [d1, d2] => { results := [.lit (.bool false)], args := [d1, d2] }
  | _ => none }
def PointOrderWrongFalsely : Prop := pointOrderRow.holds Tryz.pinned (OpenSpec.ofChange pointOrderWrong)

/-- 'swarflaw07.PointTranslate': WHATEVER THE INPUT: true; the input reads as it did. -/
def pointTranslateSpec : ChangeSpec := { name := "pointTranslate", fn := fun _ => fun
  | [d1, d2] => { results := [.lit (.bool true)], args := [d1, d2] }
  | _ => none }
def pointTranslateRow : OpenClaim := { program := "ythpalcfhhicmgaagreat", sum := "4f3b7c3ae2a609227eba54da8abcd768e7eb6f4e52c9aaf117f7e5d9914315ea", func := "swarf/swarflaw07.PointTranslate", spec := "pointTranslate", unfollowed := true, recurses := true, apart := false }
def PointTranslateSaid : Prop := pointTranslateRow.holds Tryz.pinned (OpenSpec.ofChange pointTranslateSpec)

/-- ITS FALSE NEIGHBOUR: 'it returns false'. Refute it at one input. -/
def pointTranslateWrong : ChangeSpec := { name := "pointTranslate", fn := fun _ => fun
  | [d1, d2] => { results := [.lit (.bool false)], args := [d1, d2] }
  | _ => none }
def PointTranslateWrongFalsely : Prop := pointTranslateRow.holds Tryz.pinned (OpenSpec.ofChange pointTranslateWrong)

/-- 'swarflaw07.PointAt': WHATEVER THE INPUT: true; the input reads as it did. -/
def pointAtSpec : ChangeSpec := { name := "pointAt", fn := fun _ => fun
  | [d1, d2, d3] => { results := [.lit (.bool true)], args := [d1, d2, d3] }
  | _ => none }
def pointAtRow : OpenClaim := { program := "ythpalcfhhicmgaagreat", sum := "4f3b7c3ae2a609227eba54da8abcd768e7eb6f4e52c9aaf117f7e5d9914315ea", func := "swarf/swarflaw07.PointAt", spec := "pointAt", unfollowed := true, recurses := true, apart := false }
def PointAtSaid : Prop := pointAtRow.holds Tryz.pinned (OpenSpec.ofChange pointAtSpec)

/-- ITS FALSE NEIGHBOUR: 'it returns false'. Refute it at one input. -/
def pointAtWrong : ChangeSpec := { name := "pointAt", fn := fun _ => fun
  | [d1, d2, d3] => { results := [.lit (.bool false)], args := [d1, d2, d3] }
  | _ => none }
def PointAtWrongFalsely : Prop := pointAtRow.holds Tryz.pinned (OpenSpec.ofChange pointAtWrong)

/-- 'swarflaw07.PointValid': WHATEVER THE INPUT: true; the input reads as it did. -/
def pointValidSpec : ChangeSpec := { name := "pointValid", fn := fun _ => fun
  | [d] => { results := [.lit (.bool true)], args := [d] }
  | _ => none }
def pointValidRow : OpenClaim := { program := "ythpalcfhhicmgaagreat", sum := "4f3b7c3ae2a609227eba54da8abcd768e7eb6f4e52c9aaf117f7e5d9914315ea", func := "swarf/swarflaw07.PointValid", spec := "pointValid", unfollowed := true, recurses := true, apart := false }
def PointValidSaid : Prop := pointValidRow.holds Tryz.pinned (OpenSpec.ofChange pointValidSpec)

/-- ITS FALSE NEIGHBOUR: 'it returns false'. Refute it at one input. -/
def pointValidWrong : ChangeSpec := { name := "pointValid", fn := fun _ => fun
  | [d] => { results := [.lit (.bool false)], args := [d] }
  | _ => none }
def PointValidWrongFalsely : Prop := pointValidRow.holds Tryz.pinned (OpenSpec.ofChange pointValidWrong)

/-- 'swarflaw07.PointNear': WHATEVER THE INPUT: true; the input reads as it did. -/
def pointNearSpec : ChangeSpec := { name := "pointNear", fn := fun _ => fun
  | [d1, d2] => { results := [.lit (.bool true)], args := [d1, d2] }
  | _ => none }
def pointNearRow : OpenClaim := { program := "ythpalcfhhicmgaagreat", sum := "4f3b7c3ae2a609227eba54da8abcd768e7eb6f4e52c9aaf117f7e5d9914315ea", func := "swarf/swarflaw07.PointNear", spec := "pointNear", unfollowed := true, recurses := true, apart := false }
def PointNearSaid : Prop := pointNearRow.holds Tryz.pinned (OpenSpec.ofChange pointNearSpec)

/-- ITS FALSE NEIGHBOUR: 'it returns false'. Refute it at one input. -/
def pointNearWrong : ChangeSpec := { name := "pointNear", fn := fun _ => fun
  | [d1, d2] => { results := [.lit (.bool false)], args := [d1, d2] }
  | _ => none }
def PointNearWrongFalsely : Prop := pointNearRow.holds Tryz.pinned (OpenSpec.ofChange pointNearWrong)

/- THE SECOND FORM. 'bulk': how many values and letters a reading holds, each counted each time it is reached (what is shared counts as often as it is met; a slice's spare places count too). A statement '..UptoSaid' is the law's where the arguments, and the package variables that the reading takes, are together of bulk at most 1048576: NARROWER than '..Said'. Prove '..Said' where nothing that the law and all that it calls make is longer than what came in: it says more and counts as full. Else prove '..UptoSaid'. A law counts once. -/
mutual
def uptoBulk {H : Type} : DataW H → Nat
  | .lit (.string bytes) => bytes.length + 1
  | .lit _ => 1
  | .nil => 1
  | .ptr d => uptoBulk d + 1
  | .slice elems spare => uptoBulkAll elems + uptoBulkAll spare + 1
  | .agg parts => uptoBulkAll parts + 1
  | .iface _ d => uptoBulk d + 1
  | .map entries => uptoBulkEntries entries + 1
  | .held _ => 1
def uptoBulkAll {H : Type} : List (DataW H) → Nat
  | [] => 0
  | d :: r => uptoBulk d + uptoBulkAll r
def uptoBulkEntries {H : Type} : List (Lit × DataW H) → Nat
  | [] => 0
  | x :: r => uptoBulkEntry x + uptoBulkEntries r
def uptoBulkEntry {H : Type} : Lit × DataW H → Nat
  | (.string bytes, d) => bytes.length + uptoBulk d + 1
  | (_, d) => uptoBulk d + 1
 end
def uptoSmall : (H : Type) → List (DataW H) → Bool := fun _ ds => decide (uptoBulkAll ds ≤ 1048576)
def OpenSpec.upto (s : _root_.Go.ChangeSpec) : _root_.Go.OpenSpec := { _root_.Go.OpenSpec.ofChange s with cond := some uptoSmall }

/-- 'swarflaw07.PointMake', WHERE WHAT IT READS IS OF BULK AT MOST 1048576: true; the input reads as it did. -/
def pointMakeUptoRow : OpenClaim := { program := "ythpalcfhhicmgaagreat", sum := "4f3b7c3ae2a609227eba54da8abcd768e7eb6f4e52c9aaf117f7e5d9914315ea", func := "swarf/swarflaw07.PointMake", spec := "pointMake", unfollowed := true, recurses := true, apart := false, narrowed := true }
def PointMakeUptoSaid : Prop := pointMakeUptoRow.holds Tryz.pinned (OpenSpec.upto pointMakeSpec)

/-- 'swarflaw07.PointCompare', WHERE WHAT IT READS IS OF BULK AT MOST 1048576: true; the input reads as it did. -/
def pointCompareUptoRow : OpenClaim := { program := "ythpalcfhhicmgaagreat", sum := "4f3b7c3ae2a609227eba54da8abcd768e7eb6f4e52c9aaf117f7e5d9914315ea", func := "swarf/swarflaw07.PointCompare", spec := "pointCompare", unfollowed := true, recurses := true, apart := false, narrowed := true }
def PointCompareUptoSaid : Prop := pointCompareUptoRow.holds Tryz.pinned (OpenSpec.upto pointCompareSpec)

/-- 'swarflaw07.PointSquare', WHERE WHAT IT READS IS OF BULK AT MOST 1048576: true; the input reads as it did. -/
def pointSquareUptoRow : OpenClaim := { program := "ythpalcfhhicmgaagreat", sum := "4f3b7c3ae2a609227eba54da8abcd768e7eb6f4e52c9aaf117f7e5d9914315ea", func := "swarf/swarflaw07.PointSquare", spec := "pointSquare", unfollowed := true, recurses := true, apart := false, narrowed := true }
def PointSquareUptoSaid : Prop := pointSquareUptoRow.holds Tryz.pinned (OpenSpec.upto pointSquareSpec)

/-- 'swarflaw07.PointOrder', WHERE WHAT IT READS IS OF BULK AT MOST 1048576: true; the input reads as it did. -/
def pointOrderUptoRow : OpenClaim := { program := "ythpalcfhhicmgaagreat", sum := "4f3b7c3ae2a609227eba54da8abcd768e7eb6f4e52c9aaf117f7e5d9914315ea", func := "swarf/swarflaw07.PointOrder", spec := "pointOrder", unfollowed := true, recurses := true, apart := false, narrowed := true }
def PointOrderUptoSaid : Prop := pointOrderUptoRow.holds Tryz.pinned (OpenSpec.upto pointOrderSpec)

/-- 'swarflaw07.PointTranslate', WHERE WHAT IT READS IS OF BULK AT MOST 1048576: true; the input reads as it did. -/
def pointTranslateUptoRow : OpenClaim := { program := "ythpalcfhhicmgaagreat", sum := "4f3b7c3ae2a609227eba54da8abcd768e7eb6f4e52c9aaf117f7e5d9914315ea", func := "swarf/swarflaw07.PointTranslate", spec := "pointTranslate", unfollowed := true, recurses := true, apart := false, narrowed := true }
def PointTranslateUptoSaid : Prop := pointTranslateUptoRow.holds Tryz.pinned (OpenSpec.upto pointTranslateSpec)

/-- 'swarflaw07.PointAt', WHERE WHAT IT READS IS OF BULK AT MOST 1048576: true; the input reads as it did. -/
def pointAtUptoRow : OpenClaim := { program := "ythpalcfhhicmgaagreat", sum := "4f3b7c3ae2a609227eba54da8abcd768e7eb6f4e52c9aaf117f7e5d9914315ea", func := "swarf/swarflaw07.PointAt", spec := "pointAt", unfollowed := true, recurses := true, apart := false, narrowed := true }
def PointAtUptoSaid : Prop := pointAtUptoRow.holds Tryz.pinned (OpenSpec.upto pointAtSpec)

/-- 'swarflaw07.PointValid', WHERE WHAT IT READS IS OF BULK AT MOST 1048576: true; the input reads as it did. -/
def pointValidUptoRow : OpenClaim := { program := "ythpalcfhhicmgaagreat", sum := "4f3b7c3ae2a609227eba54da8abcd768e7eb6f4e52c9aaf117f7e5d9914315ea", func := "swarf/swarflaw07.PointValid", spec := "pointValid", unfollowed := true, recurses := true, apart := false, narrowed := true }
def PointValidUptoSaid : Prop := pointValidUptoRow.holds Tryz.pinned (OpenSpec.upto pointValidSpec)

/-- 'swarflaw07.PointNear', WHERE WHAT IT READS IS OF BULK AT MOST 1048576: true; the input reads as it did. -/
def pointNearUptoRow : OpenClaim := { program := "ythpalcfhhicmgaagreat", sum := "4f3b7c3ae2a609227eba54da8abcd768e7eb6f4e52c9aaf117f7e5d9914315ea", func := "swarf/swarflaw07.PointNear", spec := "pointNear", unfollowed := true, recurses := true, apart := false, narrowed := true }
def PointNearUptoSaid : Prop := pointNearUptoRow.holds Tryz.pinned (OpenSpec.upto pointNearSpec)

end Rows
end Go.Proofs.YthpalcfhhicmgaaGreat
