/-
  No cell of these rows narrows 'for every input' (looked for: loops, veiled, ifaces, maps, wideKeys, modest, calm, conditions, laid).
  DERIVED. THE GIVEN ROWS OF THIS SEAT. 3 by the template 'for every input the law returns true; each argument reads behind the call as it read before'; 0 by the template 'total and deterministic' (their statements: YtonjlikaacengaaGreatTotals.lean).
  GIVEN WITH THE SEED: the statements are not yours to turn. If you find one false, say at which input.
  Laid BY PROGRAM, IN A SANDBOX (cutbox-rows.mjs): the forced cells as the released guide's own fill.sh prints them over the translation d7c5a68228d4c9b2… (all of the seat's roots in one cut). By AI agents, Wed Nov 11 2026. No macro, syntax, notation, axiom, sorry.
-/
import Derived.Test.YtonjlikaacengaaGreatChecked
import GoSem.Claim
import GoSem.ClaimJoined
import GoSem.ClaimMapViews
import Derived.JoinedTies
import Derived.KernelRfl
namespace Go.Proofs.YtonjlikaacengaaGreat
/- THE CELL 'sum', in the pinned program and in every row, IS THE sha256 OF THE DUMP (.gsa) THAT YtonjlikaacengaaGreatProg.lean LOADS. Nothing in Lean hashes anything: it is a label: what it is worth is what the hold of that sum in a sandbox is worth. -/
noncomputable def Tryz.pinned : Pinned := { name := "ytonjlikaacengaagreat", sum := "d7c5a68228d4c9b2be8d745d66ccabed56b4007b064875620a3e1f6c787eac8e", checked := Tryz.checked }
namespace Rows
def none {H : Type} : Left H := { results := [], args := [] }

/-- 'swarflaw34.TrochoidEngaged': WHATEVER THE INPUT: true; the input reads as it did. -/
def trochoidEngagedSpec : ChangeSpec := { name := "trochoidEngaged", fn := fun _ => fun
  | [d1, d2, d3] => { results := [.lit (.bool true)], args := [d1, d2, d3] }
  | _ => none }
def trochoidEngagedRow : OpenClaim := { program := "ytonjlikaacengaagreat", sum := "d7c5a68228d4c9b2be8d745d66ccabed56b4007b064875620a3e1f6c787eac8e", func := "swarf/swarflaw34.TrochoidEngaged", spec := "trochoidEngaged", unfollowed := true, recurses := true, apart := false }
def TrochoidEngagedSaid : Prop := trochoidEngagedRow.holds Tryz.pinned (OpenSpec.ofChange trochoidEngagedSpec)

/-- ITS FALSE NEIGHBOUR: 'it returns false'. Refute it at one input. -/
def trochoidEngagedWrong : ChangeSpec := { name := "trochoidEngaged", fn := fun _ => fun
  | [d1, d2, d3] => { results := [.lit (.bool false)], args := [d1, d2, d3] }
  | _ => none }
def TrochoidEngagedWrongFalsely : Prop := trochoidEngagedRow.holds Tryz.pinned (OpenSpec.ofChange trochoidEngagedWrong)

/-- 'swarflaw34.TrochoidSlot': WHATEVER THE INPUT: true; the input reads as it did. -/
def trochoidSlotSpec : ChangeSpec := { name := "trochoidSlot", fn := fun _ => fun
  | [d1, d2, d3] => { results := [.lit (.bool true)], args := [d1, d2, d3] }
  | _ => none }
def trochoidSlotRow : OpenClaim := { program := "ytonjlikaacengaagreat", sum := "d7c5a68228d4c9b2be8d745d66ccabed56b4007b064875620a3e1f6c787eac8e", func := "swarf/swarflaw34.TrochoidSlot", spec := "trochoidSlot", unfollowed := true, recurses := true, apart := false }
def TrochoidSlotSaid : Prop := trochoidSlotRow.holds Tryz.pinned (OpenSpec.ofChange trochoidSlotSpec)

/-- ITS FALSE NEIGHBOUR: 'it returns false'. Refute it at one input. -/
def trochoidSlotWrong : ChangeSpec := { name := "trochoidSlot", fn := fun _ => fun
  | [d1, d2, d3] => { results := [.lit (.bool false)], args := [d1, d2, d3] }
  | _ => none }
def TrochoidSlotWrongFalsely : Prop := trochoidSlotRow.holds Tryz.pinned (OpenSpec.ofChange trochoidSlotWrong)

/-- 'swarflaw34.TrochoidSwept': WHATEVER THE INPUT: true; the input reads as it did. -/
def trochoidSweptSpec : ChangeSpec := { name := "trochoidSwept", fn := fun _ => fun
  | [d1, d2, d3] => { results := [.lit (.bool true)], args := [d1, d2, d3] }
  | _ => none }
def trochoidSweptRow : OpenClaim := { program := "ytonjlikaacengaagreat", sum := "d7c5a68228d4c9b2be8d745d66ccabed56b4007b064875620a3e1f6c787eac8e", func := "swarf/swarflaw34.TrochoidSwept", spec := "trochoidSwept", unfollowed := true, recurses := true, apart := false }
def TrochoidSweptSaid : Prop := trochoidSweptRow.holds Tryz.pinned (OpenSpec.ofChange trochoidSweptSpec)

/-- ITS FALSE NEIGHBOUR: 'it returns false'. Refute it at one input. -/
def trochoidSweptWrong : ChangeSpec := { name := "trochoidSwept", fn := fun _ => fun
  | [d1, d2, d3] => { results := [.lit (.bool false)], args := [d1, d2, d3] }
  | _ => none }
def TrochoidSweptWrongFalsely : Prop := trochoidSweptRow.holds Tryz.pinned (OpenSpec.ofChange trochoidSweptWrong)

/- THE SECOND FORM. 'bulk': how many values and letters a reading holds, each counted each time it is reached (what is shared counts as often as it is met; a slice's spare places count too). A statement '..UptoSaid' is the law's where the arguments, and the package variables that the reading takes, are together of bulk at most 1048576: NARROWER than '..Said'. Prove '..Said' where nothing that the law and all that it calls make is longer than what came in: it says more and counts as full. Else prove '..UptoSaid'. A law counts once. -/
mutual
def uptoBulk {H : Type} : DataW H → Nat
  | .lit (.string bytes) => bytes.length + 1
  | .lit _ => 1
  | .nil => 1
  | .ptr d => uptoBulk d + 1
  | .slice elems spare => uptoBulkAll elems + uptoBulkAll spare + 1
  | .agg parts => uptoBulkAll parts + 1
  | .iface _ d => uptoBulk d + 1
  | .map entries => uptoBulkEntries entries + 1
  | .held _ => 1
def uptoBulkAll {H : Type} : List (DataW H) → Nat
  | [] => 0
  | d :: r => uptoBulk d + uptoBulkAll r
def uptoBulkEntries {H : Type} : List (Lit × DataW H) → Nat
  | [] => 0
  | x :: r => uptoBulkEntry x + uptoBulkEntries r
def uptoBulkEntry {H : Type} : Lit × DataW H → Nat
  | (.string bytes, d) => bytes.length + uptoBulk d + 1
  | (_, d) => uptoBulk d + 1
 end
def uptoSmall : (H : Type) → List (DataW H) → Bool := fun _ ds => decide (uptoBulkAll ds ≤ 1048576)
def OpenSpec.upto (s : _root_.Go.ChangeSpec) : _root_.Go.OpenSpec := { _root_.Go.OpenSpec.ofChange s with cond := some uptoSmall }

/-- 'swarflaw34.TrochoidEngaged', WHERE WHAT IT READS IS OF BULK AT MOST 1048576: true; the input reads as it did. -/
def trochoidEngagedUptoRow : OpenClaim := { program := "ytonjlikaacengaagreat", sum := "d7c5a68228d4c9b2be8d745d66ccabed56b4007b064875620a3e1f6c787eac8e", func := "swarf/swarflaw34.TrochoidEngaged", spec := "trochoidEngaged", unfollowed := true, recurses := true, apart := false, narrowed := true }
def TrochoidEngagedUptoSaid : Prop := trochoidEngagedUptoRow.holds Tryz.pinned (OpenSpec.upto trochoidEngagedSpec)

/-- 'swarflaw34.TrochoidSlot', WHERE WHAT IT READS IS OF BULK AT MOST 1048576: true; the input reads as it did. -/
def trochoidSlotUptoRow : OpenClaim := { program := "ytonjlikaacengaagreat", sum := "d7c5a68228d4c9b2be8d745d66ccabed56b4007b064875620a3e1f6c787eac8e", func := "swarf/swarflaw34.TrochoidSlot", spec := "trochoidSlot", unfollowed := true, recurses := true, apart := false, narrowed := true }
def TrochoidSlotUptoSaid : Prop := trochoidSlotUptoRow.holds Tryz.pinned (OpenSpec.upto trochoidSlotSpec)

/-- 'swarflaw34.TrochoidSwept', WHERE WHAT IT READS IS OF BULK AT MOST 1048576: true; the input reads as it did. -/
def trochoidSweptUptoRow : OpenClaim := { program := "ytonjlikaacengaagreat", sum := "d7c5a68228d4c9b2be8d745d66ccabed56b4007b064875620a3e1f6c787eac8e", func := "swarf/swarflaw34.TrochoidSwept", spec := "trochoidSwept", unfollowed := true, recurses := true, apart := false, narrowed := true }
def TrochoidSweptUptoSaid : Prop := trochoidSweptUptoRow.holds Tryz.pinned (OpenSpec.upto trochoidSweptSpec)

end Rows
end Go.Proofs.YtonjlikaacengaaGreat
