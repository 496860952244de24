/-
  No cell of these rows narrows 'for every input' (looked for: loops, veiled, ifaces, maps, wideKeys, modest, calm, conditions, laid).
  DERIVED. THE GIVEN ROWS OF THIS SEAT. 4 by the template 'for every input the law returns true; each argument reads behind the call as it read before'; 0 by the template 'total and deterministic' (their statements: YtegpmhlfjkhjmaaGreatTotals.lean).
  GIVEN WITH THE SEED: the statements are not yours to turn. If you find one false, say at which input.
  Laid BY PROGRAM, IN A SANDBOX (cutbox-rows.mjs): the forced cells as the released guide's own fill.sh prints them over the translation 01c804208a0d131a… (all of the seat's roots in one cut). By AI agents, Wed Nov 11 2026. No macro, syntax, notation, axiom, sorry.
-/
import Derived.Test.YtegpmhlfjkhjmaaGreatChecked
import GoSem.Claim
import GoSem.ClaimJoined
import GoSem.ClaimMapViews
import Derived.JoinedTies
import Derived.KernelRfl
namespace Go.Proofs.YtegpmhlfjkhjmaaGreat
/- THE CELL 'sum', in the pinned program and in every row, IS THE sha256 OF THE DUMP (.gsa) THAT YtegpmhlfjkhjmaaGreatProg.lean LOADS. Nothing in Lean hashes anything: it is a label: what it is worth is what the hold of that sum in a sandbox is worth. -/
noncomputable def Tryz.pinned : Pinned := { name := "ytegpmhlfjkhjmaagreat", sum := "01c804208a0d131a65df60f57768abd3f9f04a4f8bebfbadd7c31024d4c590eb", checked := Tryz.checked }
namespace Rows
def none {H : Type} : Left H := { results := [], args := [] }

/-- 'swarflaw32.EngagementArcs': WHATEVER THE INPUT: true; the input reads as it did. -/
def engagementArcsSpec : ChangeSpec := { name := "engagementArcs", fn := fun _ => fun
  | [d1, d2] => { results := [.lit (.bool true)], args := [d1, d2] }
  | _ => none }
def engagementArcsRow : OpenClaim := { program := "ytegpmhlfjkhjmaagreat", sum := "01c804208a0d131a65df60f57768abd3f9f04a4f8bebfbadd7c31024d4c590eb", func := "swarf/swarflaw32.EngagementArcs", spec := "engagementArcs", unfollowed := true, recurses := true, apart := false }
def EngagementArcsSaid : Prop := engagementArcsRow.holds Tryz.pinned (OpenSpec.ofChange engagementArcsSpec)

/-- ITS FALSE NEIGHBOUR: 'it returns false'. Refute it at one input. -/
def engagementArcsWrong : ChangeSpec := { name := "engagementArcs", fn := fun _ => fun
  | [d1, d2] => { results := [.lit (.bool false)], args := [d1, d2] }
  | _ => none }
def EngagementArcsWrongFalsely : Prop := engagementArcsRow.holds Tryz.pinned (OpenSpec.ofChange engagementArcsWrong)

/-- 'swarflaw32.EngagementAtMost': WHATEVER THE INPUT: true; the input reads as it did. -/
def engagementAtMostSpec : ChangeSpec := { name := "engagementAtMost", fn := fun _ => fun
  | [d1, d2, d3] => { results := [.lit (.bool true)], args := [d1, d2, d3] }
  | _ => none }
def engagementAtMostRow : OpenClaim := { program := "ytegpmhlfjkhjmaagreat", sum := "01c804208a0d131a65df60f57768abd3f9f04a4f8bebfbadd7c31024d4c590eb", func := "swarf/swarflaw32.EngagementAtMost", spec := "engagementAtMost", unfollowed := true, recurses := true, apart := false }
def EngagementAtMostSaid : Prop := engagementAtMostRow.holds Tryz.pinned (OpenSpec.ofChange engagementAtMostSpec)

/-- ITS FALSE NEIGHBOUR: 'it returns false'. Refute it at one input. -/
def engagementAtMostWrong : ChangeSpec := { name := "engagementAtMost", fn := fun _ => fun
  | [d1, d2, d3] => { results := [.lit (.bool false)], args := [d1, d2, d3] }
  | _ => none }
def EngagementAtMostWrongFalsely : Prop := engagementAtMostRow.holds Tryz.pinned (OpenSpec.ofChange engagementAtMostWrong)

/-- 'swarflaw32.EngagementAgree': WHATEVER THE INPUT: true; the input reads as it did. -/
def engagementAgreeSpec : ChangeSpec := { name := "engagementAgree", fn := fun _ => fun
  | [d1, d2] => { results := [.lit (.bool true)], args := [d1, d2] }
  | _ => none }
def engagementAgreeRow : OpenClaim := { program := "ytegpmhlfjkhjmaagreat", sum := "01c804208a0d131a65df60f57768abd3f9f04a4f8bebfbadd7c31024d4c590eb", func := "swarf/swarflaw32.EngagementAgree", spec := "engagementAgree", unfollowed := true, recurses := true, apart := false }
def EngagementAgreeSaid : Prop := engagementAgreeRow.holds Tryz.pinned (OpenSpec.ofChange engagementAgreeSpec)

/-- ITS FALSE NEIGHBOUR: 'it returns false'. Refute it at one input. -/
def engagementAgreeWrong : ChangeSpec := { name := "engagementAgree", fn := fun _ => fun
  | [d1, d2] => { results := [.lit (.bool false)], args := [d1, d2] }
  | _ => none }
def EngagementAgreeWrongFalsely : Prop := engagementAgreeRow.holds Tryz.pinned (OpenSpec.ofChange engagementAgreeWrong)

/-- 'swarflaw34.TrochoidAngle': WHATEVER THE INPUT: true; the input reads as it did. -/
def trochoidAngleSpec : ChangeSpec := { name := "trochoidAngle", fn := fun _ => fun
  | [d1, d2, d3] => { results := [.lit (.bool true)], args := [d1, d2, d3] }
  | _ => none }
def trochoidAngleRow : OpenClaim := { program := "ytegpmhlfjkhjmaagreat", sum := "01c804208a0d131a65df60f57768abd3f9f04a4f8bebfbadd7c31024d4c590eb", func := "swarf/swarflaw34.TrochoidAngle", spec := "trochoidAngle", unfollowed := true, recurses := true, apart := false }
def TrochoidAngleSaid : Prop := trochoidAngleRow.holds Tryz.pinned (OpenSpec.ofChange trochoidAngleSpec)

/-- ITS FALSE NEIGHBOUR: 'it returns false'. Refute it at one input. -/
def trochoidAngleWrong : ChangeSpec := { name := "trochoidAngle", fn := fun _ => fun
  | [d1, d2, d3] => { results := [.lit (.bool false)], args := [d1, d2, d3] }
  | _ => none }
def TrochoidAngleWrongFalsely : Prop := trochoidAngleRow.holds Tryz.pinned (OpenSpec.ofChange trochoidAngleWrong)

/- THE SECOND FORM. 'bulk': how many values and letters a reading holds, each counted each time it is reached (what is shared counts as often as it is met; a slice's spare places count too). A statement '..UptoSaid' is the law's where the arguments, and the package variables that the reading takes, are together of bulk at most 1048576: NARROWER than '..Said'. Prove '..Said' where nothing that the law and all that it calls make is longer than what came in: it says more and counts as full. Else prove '..UptoSaid'. A law counts once. -/
mutual
def uptoBulk {H : Type} : DataW H → Nat
  | .lit (.string bytes) => bytes.length + 1
  | .lit _ => 1
  | .nil => 1
  | .ptr d => uptoBulk d + 1
  | .slice elems spare => uptoBulkAll elems + uptoBulkAll spare + 1
  | .agg parts => uptoBulkAll parts + 1
  | .iface _ d => uptoBulk d + 1
  | .map entries => uptoBulkEntries entries + 1
  | .held _ => 1
def uptoBulkAll {H : Type} : List (DataW H) → Nat
  | [] => 0
  | d :: r => uptoBulk d + uptoBulkAll r
def uptoBulkEntries {H : Type} : List (Lit × DataW H) → Nat
  | [] => 0
  | x :: r => uptoBulkEntry x + uptoBulkEntries r
def uptoBulkEntry {H : Type} : Lit × DataW H → Nat
  | (.string bytes, d) => bytes.length + uptoBulk d + 1
  | (_, d) => uptoBulk d + 1
 end
def uptoSmall : (H : Type) → List (DataW H) → Bool := fun _ ds => decide (uptoBulkAll ds ≤ 1048576)
def OpenSpec.upto (s : _root_.Go.ChangeSpec) : _root_.Go.OpenSpec := { _root_.Go.OpenSpec.ofChange s with cond := some uptoSmall }

/-- 'swarflaw32.EngagementArcs', WHERE WHAT IT READS IS OF BULK AT MOST 1048576: true; the input reads as it did. -/
def engagementArcsUptoRow : OpenClaim := { program := "ytegpmhlfjkhjmaagreat", sum := "01c804208a0d131a65df60f57768abd3f9f04a4f8bebfbadd7c31024d4c590eb", func := "swarf/swarflaw32.EngagementArcs", spec := "engagementArcs", unfollowed := true, recurses := true, apart := false, narrowed := true }
def EngagementArcsUptoSaid : Prop := engagementArcsUptoRow.holds Tryz.pinned (OpenSpec.upto engagementArcsSpec)

/-- 'swarflaw32.EngagementAtMost', WHERE WHAT IT READS IS OF BULK AT MOST 1048576: true; the input reads as it did. -/
def engagementAtMostUptoRow : OpenClaim := { program := "ytegpmhlfjkhjmaagreat", sum := "01c804208a0d131a65df60f57768abd3f9f04a4f8bebfbadd7c31024d4c590eb", func := "swarf/swarflaw32.EngagementAtMost", spec := "engagementAtMost", unfollowed := true, recurses := true, apart := false, narrowed := true }
def EngagementAtMostUptoSaid : Prop := engagementAtMostUptoRow.holds Tryz.pinned (OpenSpec.upto engagementAtMostSpec)

/-- 'swarflaw32.EngagementAgree', WHERE WHAT IT READS IS OF BULK AT MOST 1048576: true; the input reads as it did. -/
def engagementAgreeUptoRow : OpenClaim := { program := "ytegpmhlfjkhjmaagreat", sum := "01c804208a0d131a65df60f57768abd3f9f04a4f8bebfbadd7c31024d4c590eb", func := "swarf/swarflaw32.EngagementAgree", spec := "engagementAgree", unfollowed := true, recurses := true, apart := false, narrowed := true }
def EngagementAgreeUptoSaid : Prop := engagementAgreeUptoRow.holds Tryz.pinned (OpenSpec.upto engagementAgreeSpec)

/-- 'swarflaw34.TrochoidAngle', WHERE WHAT IT READS IS OF BULK AT MOST 1048576: true; the input reads as it did. -/
def trochoidAngleUptoRow : OpenClaim := { program := "ytegpmhlfjkhjmaagreat", sum := "01c804208a0d131a65df60f57768abd3f9f04a4f8bebfbadd7c31024d4c590eb", func := "swarf/swarflaw34.TrochoidAngle", spec := "trochoidAngle", unfollowed := true, recurses := true, apart := false, narrowed := true }
def TrochoidAngleUptoSaid : Prop := trochoidAngleUptoRow.holds Tryz.pinned (OpenSpec.upto trochoidAngleSpec)

end Rows
end Go.Proofs.YtegpmhlfjkhjmaaGreat
