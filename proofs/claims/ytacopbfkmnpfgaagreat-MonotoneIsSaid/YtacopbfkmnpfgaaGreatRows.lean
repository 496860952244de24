/-
  No cell of these rows narrows 'for every input' (looked for: loops, veiled, ifaces, maps, wideKeys, modest, calm, conditions, laid).
  DERIVED. THE GIVEN ROWS OF THIS SEAT. 3 by the template 'for every input the law returns true; each argument reads behind the call as it read before'; 0 by the template 'total and deterministic' (their statements: YtacopbfkmnpfgaaGreatTotals.lean).
  GIVEN WITH THE SEED: the statements are not yours to turn. If you find one false, say at which input.
  Laid BY PROGRAM, IN A SANDBOX (cutbox-rows.mjs): the forced cells as the released guide's own fill.sh prints them over the translation 7ff413fe615464a7… (all of the seat's roots in one cut). By AI agents, Wed Nov 11 2026. No macro, syntax, notation, axiom, sorry.
-/
import Derived.Test.YtacopbfkmnpfgaaGreatChecked
import GoSem.Claim
import GoSem.ClaimJoined
import GoSem.ClaimMapViews
import Derived.JoinedTies
import Derived.KernelRfl
namespace Go.Proofs.YtacopbfkmnpfgaaGreat
/- THE CELL 'sum', in the pinned program and in every row, IS THE sha256 OF THE DUMP (.gsa) THAT YtacopbfkmnpfgaaGreatProg.lean LOADS. Nothing in Lean hashes anything: it is a label: what it is worth is what the hold of that sum in a sandbox is worth. -/
noncomputable def Tryz.pinned : Pinned := { name := "ytacopbfkmnpfgaagreat", sum := "7ff413fe615464a72f705127bd94c8fd5f9a09bf5cc401371b1ef52f32215773", checked := Tryz.checked }
namespace Rows
def none {H : Type} : Left H := { results := [], args := [] }

/-- 'swarflaw11.MonotoneIs': WHATEVER THE INPUT: true; the input reads as it did. -/
def monotoneIsSpec : ChangeSpec := { name := "monotoneIs", fn := fun _ => fun
  | [d] => { results := [.lit (.bool true)], args := [d] }
  | _ => none }
def monotoneIsRow : OpenClaim := { program := "ytacopbfkmnpfgaagreat", sum := "7ff413fe615464a72f705127bd94c8fd5f9a09bf5cc401371b1ef52f32215773", func := "swarf/swarflaw11.MonotoneIs", spec := "monotoneIs", unfollowed := true, recurses := true, apart := false }
def MonotoneIsSaid : Prop := monotoneIsRow.holds Tryz.pinned (OpenSpec.ofChange monotoneIsSpec)

/-- ITS FALSE NEIGHBOUR: 'it returns false'. Refute it at one input. -/
def monotoneIsWrong : ChangeSpec := { name := "monotoneIs", fn := fun _ => fun
  | [d] => { results := [.lit (.bool false)], args := [d] }
  | _ => none }
def MonotoneIsWrongFalsely : Prop := monotoneIsRow.holds Tryz.pinned (OpenSpec.ofChange monotoneIsWrong)

/-- 'swarflaw11.MonotonePieces': WHATEVER THE INPUT: true; the input reads as it did. -/
def monotonePiecesSpec : ChangeSpec := { name := "monotonePieces", fn := fun _ => fun
  | [d] => { results := [.lit (.bool true)], args := [d] }
  | _ => none }
def monotonePiecesRow : OpenClaim := { program := "ytacopbfkmnpfgaagreat", sum := "7ff413fe615464a72f705127bd94c8fd5f9a09bf5cc401371b1ef52f32215773", func := "swarf/swarflaw11.MonotonePieces", spec := "monotonePieces", unfollowed := true, recurses := true, apart := false }
def MonotonePiecesSaid : Prop := monotonePiecesRow.holds Tryz.pinned (OpenSpec.ofChange monotonePiecesSpec)

/-- ITS FALSE NEIGHBOUR: 'it returns false'. Refute it at one input. -/
def monotonePiecesWrong : ChangeSpec := { name := "monotonePieces", fn := fun _ => fun
  | [d] => { results := [.lit (.bool false)], args := [d] }
  | _ => none }
def MonotonePiecesWrongFalsely : Prop := monotonePiecesRow.holds Tryz.pinned (OpenSpec.ofChange monotonePiecesWrong)

/-- 'swarflaw32.EngagementSpans': WHATEVER THE INPUT: true; the input reads as it did. -/
def engagementSpansSpec : ChangeSpec := { name := "engagementSpans", fn := fun _ => fun
  | [d1, d2] => { results := [.lit (.bool true)], args := [d1, d2] }
  | _ => none }
def engagementSpansRow : OpenClaim := { program := "ytacopbfkmnpfgaagreat", sum := "7ff413fe615464a72f705127bd94c8fd5f9a09bf5cc401371b1ef52f32215773", func := "swarf/swarflaw32.EngagementSpans", spec := "engagementSpans", unfollowed := true, recurses := true, apart := false }
def EngagementSpansSaid : Prop := engagementSpansRow.holds Tryz.pinned (OpenSpec.ofChange engagementSpansSpec)

/-- ITS FALSE NEIGHBOUR: 'it returns false'. Refute it at one input. -/
def engagementSpansWrong : ChangeSpec := { name := "engagementSpans", fn := fun _ => fun
  | [d1, d2] => { results := [.lit (.bool false)], args := [d1, d2] }
  | _ => none }
def EngagementSpansWrongFalsely : Prop := engagementSpansRow.holds Tryz.pinned (OpenSpec.ofChange engagementSpansWrong)

/- THE SECOND FORM. 'bulk': how many values and letters a reading holds, each counted each time it is reached (what is shared counts as often as it is met; a slice's spare places count too). A statement '..UptoSaid' is the law's where the arguments, and the package variables that the reading takes, are together of bulk at most 1048576: NARROWER than '..Said'. Prove '..Said' where nothing that the law and all that it calls make is longer than what came in: it says more and counts as full. Else prove '..UptoSaid'. A law counts once. -/
mutual
def uptoBulk {H : Type} : DataW H → Nat
  | .lit (.string bytes) => bytes.length + 1
  | .lit _ => 1
  | .nil => 1
  | .ptr d => uptoBulk d + 1
  | .slice elems spare => uptoBulkAll elems + uptoBulkAll spare + 1
  | .agg parts => uptoBulkAll parts + 1
  | .iface _ d => uptoBulk d + 1
  | .map entries => uptoBulkEntries entries + 1
  | .held _ => 1
def uptoBulkAll {H : Type} : List (DataW H) → Nat
  | [] => 0
  | d :: r => uptoBulk d + uptoBulkAll r
def uptoBulkEntries {H : Type} : List (Lit × DataW H) → Nat
  | [] => 0
  | x :: r => uptoBulkEntry x + uptoBulkEntries r
def uptoBulkEntry {H : Type} : Lit × DataW H → Nat
  | (.string bytes, d) => bytes.length + uptoBulk d + 1
  | (_, d) => uptoBulk d + 1
 end
def uptoSmall : (H : Type) → List (DataW H) → Bool := fun _ ds => decide (uptoBulkAll ds ≤ 1048576)
def OpenSpec.upto (s : _root_.Go.ChangeSpec) : _root_.Go.OpenSpec := { _root_.Go.OpenSpec.ofChange s with cond := some uptoSmall }

/-- 'swarflaw11.MonotoneIs', WHERE WHAT IT READS IS OF BULK AT MOST 1048576: true; the input reads as it did. -/
def monotoneIsUptoRow : OpenClaim := { program := "ytacopbfkmnpfgaagreat", sum := "7ff413fe615464a72f705127bd94c8fd5f9a09bf5cc401371b1ef52f32215773", func := "swarf/swarflaw11.MonotoneIs", spec := "monotoneIs", unfollowed := true, recurses := true, apart := false, narrowed := true }
def MonotoneIsUptoSaid : Prop := monotoneIsUptoRow.holds Tryz.pinned (OpenSpec.upto monotoneIsSpec)

/-- 'swarflaw11.MonotonePieces', WHERE WHAT IT READS IS OF BULK AT MOST 1048576: true; the input reads as it did. -/
def monotonePiecesUptoRow : OpenClaim := { program := "ytacopbfkmnpfgaagreat", sum := "7ff413fe615464a72f705127bd94c8fd5f9a09bf5cc401371b1ef52f32215773", func := "swarf/swarflaw11.MonotonePieces", spec := "monotonePieces", unfollowed := true, recurses := true, apart := false, narrowed := true }
def MonotonePiecesUptoSaid : Prop := monotonePiecesUptoRow.holds Tryz.pinned (OpenSpec.upto monotonePiecesSpec)

/-- 'swarflaw32.EngagementSpans', WHERE WHAT IT READS IS OF BULK AT MOST 1048576: true; the input reads as it did. -/
def engagementSpansUptoRow : OpenClaim := { program := "ytacopbfkmnpfgaagreat", sum := "7ff413fe615464a72f705127bd94c8fd5f9a09bf5cc401371b1ef52f32215773", func := "swarf/swarflaw32.EngagementSpans", spec := "engagementSpans", unfollowed := true, recurses := true, apart := false, narrowed := true }
def EngagementSpansUptoSaid : Prop := engagementSpansUptoRow.holds Tryz.pinned (OpenSpec.upto engagementSpansSpec)

end Rows
end Go.Proofs.YtacopbfkmnpfgaaGreat
