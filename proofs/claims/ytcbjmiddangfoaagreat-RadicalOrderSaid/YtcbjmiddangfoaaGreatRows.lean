/-
  No cell of these rows narrows 'for every input' (looked for: loops, veiled, ifaces, maps, wideKeys, modest, calm, conditions, laid).
  DERIVED. THE GIVEN ROWS OF THIS SEAT. 4 by the template 'for every input the law returns true; each argument reads behind the call as it read before'; 0 by the template 'total and deterministic' (their statements: YtcbjmiddangfoaaGreatTotals.lean).
  GIVEN WITH THE SEED: the statements are not yours to turn. If you find one false, say at which input.
  Laid BY PROGRAM, IN A SANDBOX (cutbox-rows.mjs): the forced cells as the released guide's own fill.sh prints them over the translation 351c8504ac4176c4… (all of the seat's roots in one cut). By AI agents, Wed Nov 11 2026. No macro, syntax, notation, axiom, sorry.
-/
import Derived.Test.YtcbjmiddangfoaaGreatChecked
import GoSem.Claim
import GoSem.ClaimJoined
import GoSem.ClaimMapViews
import Derived.JoinedTies
import Derived.KernelRfl
namespace Go.Proofs.YtcbjmiddangfoaaGreat
/- THE CELL 'sum', in the pinned program and in every row, IS THE sha256 OF THE DUMP (.gsa) THAT YtcbjmiddangfoaaGreatProg.lean LOADS. Nothing in Lean hashes anything: it is a label: what it is worth is what the hold of that sum in a sandbox is worth. -/
noncomputable def Tryz.pinned : Pinned := { name := "ytcbjmiddangfoaagreat", sum := "351c8504ac4176c4df607ce6d0a2a465e7f0ae2c2ac67f207282eeb074fe759e", checked := Tryz.checked }
namespace Rows
def none {H : Type} : Left H := { results := [], args := [] }

/-- 'swarflaw05.RadicalSign': WHATEVER THE INPUT: true; the input reads as it did. -/
def radicalSignSpec : ChangeSpec := { name := "radicalSign", fn := fun _ => fun
  | [d] => { results := [.lit (.bool true)], args := [d] }
  | _ => none }
def radicalSignRow : OpenClaim := { program := "ytcbjmiddangfoaagreat", sum := "351c8504ac4176c4df607ce6d0a2a465e7f0ae2c2ac67f207282eeb074fe759e", func := "swarf/swarflaw05.RadicalSign", spec := "radicalSign", unfollowed := true, recurses := true, apart := false }
def RadicalSignSaid : Prop := radicalSignRow.holds Tryz.pinned (OpenSpec.ofChange radicalSignSpec)

/-- ITS FALSE NEIGHBOUR: 'it returns false'. Refute it at one input. -/
def radicalSignWrong : ChangeSpec := { name := "radicalSign", fn := fun _ => fun
  | [d] => { results := [.lit (.bool false)], args := [d] }
  | _ => none }
def RadicalSignWrongFalsely : Prop := radicalSignRow.holds Tryz.pinned (OpenSpec.ofChange radicalSignWrong)

/-- 'swarflaw05.RadicalZero': WHATEVER THE INPUT: true; the input reads as it did. -/
def radicalZeroSpec : ChangeSpec := { name := "radicalZero", fn := fun _ => fun
  | [d1, d2, d3] => { results := [.lit (.bool true)], args := [d1, d2, d3] }
  | _ => none }
def radicalZeroRow : OpenClaim := { program := "ytcbjmiddangfoaagreat", sum := "351c8504ac4176c4df607ce6d0a2a465e7f0ae2c2ac67f207282eeb074fe759e", func := "swarf/swarflaw05.RadicalZero", spec := "radicalZero", unfollowed := true, recurses := true, apart := false }
def RadicalZeroSaid : Prop := radicalZeroRow.holds Tryz.pinned (OpenSpec.ofChange radicalZeroSpec)

/-- ITS FALSE NEIGHBOUR: 'it returns false'. Refute it at one input. -/
def radicalZeroWrong : ChangeSpec := { name := "radicalZero", fn := fun _ => fun
  | [d1, d2, d3] => { results := [.lit (.bool false)], args := [d1, d2, d3] }
  | _ => none }
def RadicalZeroWrongFalsely : Prop := radicalZeroRow.holds Tryz.pinned (OpenSpec.ofChange radicalZeroWrong)

/-- 'swarflaw05.RadicalOrder': WHATEVER THE INPUT: true; the input reads as it did. -/
def radicalOrderSpec : ChangeSpec := { name := "radicalOrder", fn := fun _ => fun
  | [d1, d2, d3] => { results := [.lit (.bool true)], args := [d1, d2, d3] }
  | _ => none }
def radicalOrderRow : OpenClaim := { program := "ytcbjmiddangfoaagreat", sum := "351c8504ac4176c4df607ce6d0a2a465e7f0ae2c2ac67f207282eeb074fe759e", func := "swarf/swarflaw05.RadicalOrder", spec := "radicalOrder", unfollowed := true, recurses := true, apart := false }
def RadicalOrderSaid : Prop := radicalOrderRow.holds Tryz.pinned (OpenSpec.ofChange radicalOrderSpec)

/-- ITS FALSE NEIGHBOUR: 'it returns false'. Refute it at one input. -/
def radicalOrderWrong : ChangeSpec := { name := "radicalOrder", fn := fun _ => fun
  | [d1, d2, d3] => { results := [.lit (.bool false)], args := [d1, d2, d3] }
  | _ => none }
def RadicalOrderWrongFalsely : Prop := radicalOrderRow.holds Tryz.pinned (OpenSpec.ofChange radicalOrderWrong)

/-- 'swarflaw05.RadicalSum': WHATEVER THE INPUT: true; the input reads as it did. -/
def radicalSumSpec : ChangeSpec := { name := "radicalSum", fn := fun _ => fun
  | [d] => { results := [.lit (.bool true)], args := [d] }
  | _ => none }
def radicalSumRow : OpenClaim := { program := "ytcbjmiddangfoaagreat", sum := "351c8504ac4176c4df607ce6d0a2a465e7f0ae2c2ac67f207282eeb074fe759e", func := "swarf/swarflaw05.RadicalSum", spec := "radicalSum", unfollowed := true, recurses := true, apart := false }
def RadicalSumSaid : Prop := radicalSumRow.holds Tryz.pinned (OpenSpec.ofChange radicalSumSpec)

/-- ITS FALSE NEIGHBOUR: 'it returns false'. Refute it at one input. -/
def radicalSumWrong : ChangeSpec := { name := "radicalSum", fn := fun _ => fun
  | [d] => { results := [.lit (.bool false)], args := [d] }
  | _ => none }
def RadicalSumWrongFalsely : Prop := radicalSumRow.holds Tryz.pinned (OpenSpec.ofChange radicalSumWrong)

/- THE SECOND FORM. 'bulk': how many values and letters a reading holds, each counted each time it is reached (what is shared counts as often as it is met; a slice's spare places count too). A statement '..UptoSaid' is the law's where the arguments, and the package variables that the reading takes, are together of bulk at most 1048576: NARROWER than '..Said'. Prove '..Said' where nothing that the law and all that it calls make is longer than what came in: it says more and counts as full. Else prove '..UptoSaid'. A law counts once. -/
mutual
def uptoBulk {H : Type} : DataW H → Nat
  | .lit (.string bytes) => bytes.length + 1
  | .lit _ => 1
  | .nil => 1
  | .ptr d => uptoBulk d + 1
  | .slice elems spare => uptoBulkAll elems + uptoBulkAll spare + 1
  | .agg parts => uptoBulkAll parts + 1
  | .iface _ d => uptoBulk d + 1
  | .map entries => uptoBulkEntries entries + 1
  | .held _ => 1
def uptoBulkAll {H : Type} : List (DataW H) → Nat
  | [] => 0
  | d :: r => uptoBulk d + uptoBulkAll r
def uptoBulkEntries {H : Type} : List (Lit × DataW H) → Nat
  | [] => 0
  | x :: r => uptoBulkEntry x + uptoBulkEntries r
def uptoBulkEntry {H : Type} : Lit × DataW H → Nat
  | (.string bytes, d) => bytes.length + uptoBulk d + 1
  | (_, d) => uptoBulk d + 1
 end
def uptoSmall : (H : Type) → List (DataW H) → Bool := fun _ ds => decide (uptoBulkAll ds ≤ 1048576)
def OpenSpec.upto (s : _root_.Go.ChangeSpec) : _root_.Go.OpenSpec := { _root_.Go.OpenSpec.ofChange s with cond := some uptoSmall }

/-- 'swarflaw05.RadicalSign', WHERE WHAT IT READS IS OF BULK AT MOST 1048576: true; the input reads as it did. -/
def radicalSignUptoRow : OpenClaim := { program := "ytcbjmiddangfoaagreat", sum := "351c8504ac4176c4df607ce6d0a2a465e7f0ae2c2ac67f207282eeb074fe759e", func := "swarf/swarflaw05.RadicalSign", spec := "radicalSign", unfollowed := true, recurses := true, apart := false, narrowed := true }
def RadicalSignUptoSaid : Prop := radicalSignUptoRow.holds Tryz.pinned (OpenSpec.upto radicalSignSpec)

/-- 'swarflaw05.RadicalZero', WHERE WHAT IT READS IS OF BULK AT MOST 1048576: true; the input reads as it did. -/
def radicalZeroUptoRow : OpenClaim := { program := "ytcbjmiddangfoaagreat", sum := "351c8504ac4176c4df607ce6d0a2a465e7f0ae2c2ac67f207282eeb074fe759e", func := "swarf/swarflaw05.RadicalZero", spec := "radicalZero", unfollowed := true, recurses := true, apart := false, narrowed := true }
def RadicalZeroUptoSaid : Prop := radicalZeroUptoRow.holds Tryz.pinned (OpenSpec.upto radicalZeroSpec)

/-- 'swarflaw05.RadicalOrder', WHERE WHAT IT READS IS OF BULK AT MOST 1048576: true; the input reads as it did. -/
def radicalOrderUptoRow : OpenClaim := { program := "ytcbjmiddangfoaagreat", sum := "351c8504ac4176c4df607ce6d0a2a465e7f0ae2c2ac67f207282eeb074fe759e", func := "swarf/swarflaw05.RadicalOrder", spec := "radicalOrder", unfollowed := true, recurses := true, apart := false, narrowed := true }
def RadicalOrderUptoSaid : Prop := radicalOrderUptoRow.holds Tryz.pinned (OpenSpec.upto radicalOrderSpec)

/-- 'swarflaw05.RadicalSum', WHERE WHAT IT READS IS OF BULK AT MOST 1048576: true; the input reads as it did. -/
def radicalSumUptoRow : OpenClaim := { program := "ytcbjmiddangfoaagreat", sum := "351c8504ac4176c4df607ce6d0a2a465e7f0ae2c2ac67f207282eeb074fe759e", func := "swarf/swarflaw05.RadicalSum", spec := "radicalSum", unfollowed := true, recurses := true, apart := false, narrowed := true }
def RadicalSumUptoSaid : Prop := radicalSumUptoRow.holds Tryz.pinned (OpenSpec.upto radicalSumSpec)

end Rows
end Go.Proofs.YtcbjmiddangfoaaGreat
