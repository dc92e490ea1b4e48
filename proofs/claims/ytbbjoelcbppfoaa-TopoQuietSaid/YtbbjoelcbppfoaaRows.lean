/-
  No cell of these rows narrows 'for every input' (looked for: loops, veiled, ifaces, maps, wideKeys, modest, calm, conditions, laid).
  DERIVED. THE GIVEN ROWS OF THIS SEAT. 6 by the template 'for every input the law returns true; each argument reads behind the call as it read before'; 0 by the template 'total and deterministic' (their statements: YtbbjoelcbppfoaaTotals.lean).
  GIVEN WITH THE SEED: the statements are not yours to turn. If you find one false, say at which input.
  Laid BY PROGRAM, IN A SANDBOX (cutbox-rows.mjs): the forced cells as the released guide's own fill.sh prints them over the translation b177ed68e6dbf488… (all of the seat's roots in one cut). By AI agents, Wed Nov 11 2026. No macro, syntax, notation, axiom, sorry.
-/
import Derived.Test.YtbbjoelcbppfoaaChecked
import GoSem.Claim
import GoSem.ClaimJoined
import GoSem.ClaimMapViews
import Derived.JoinedTies
import Derived.KernelRfl
namespace Go.Proofs.Ytbbjoelcbppfoaa
/- THE CELL 'sum', in the pinned program and in every row, IS THE sha256 OF THE DUMP (.gsa) THAT YtbbjoelcbppfoaaProg.lean LOADS. Nothing in Lean hashes anything: it is a label: what it is worth is what the hold of that sum in a sandbox is worth. -/
noncomputable def Try.pinned : Pinned := { name := "ytbbjoelcbppfoaa", sum := "b177ed68e6dbf488a429da0211f929ab93cf22e170e431caec707ee18962fb47", checked := Try.checked }
namespace Rows
def none {H : Type} : Left H := { results := [], args := [] }

/-- 'fordlaw17.TopoSteps': WHATEVER THE INPUT: true; the input reads as it did. -/
def topoStepsSpec : ChangeSpec := { name := "topoSteps", fn := fun _ => fun
  | [d1, d2] => { results := [.lit (.bool true)], args := [d1, d2] }
  | _ => none }
def topoStepsRow : OpenClaim := { program := "ytbbjoelcbppfoaa", sum := "b177ed68e6dbf488a429da0211f929ab93cf22e170e431caec707ee18962fb47", func := "ford/fordlaw17.TopoSteps", spec := "topoSteps", unfollowed := true, recurses := true, apart := false }
def TopoStepsSaid : Prop := topoStepsRow.holds Try.pinned (OpenSpec.ofChange topoStepsSpec)

/-- ITS FALSE NEIGHBOUR: 'it returns false'. Refute it at one input. -/
def topoStepsWrong : ChangeSpec := { name := "topoSteps", fn := fun _ => fun
  | [d1, d2] => { results := [.lit (.bool false)], args := [d1, d2] }
  | _ => none }
def TopoStepsWrongFalsely : Prop := topoStepsRow.holds Try.pinned (OpenSpec.ofChange topoStepsWrong)

/-- 'fordlaw17.TopoEnds': WHATEVER THE INPUT: true; the input reads as it did. -/
def topoEndsSpec : ChangeSpec := { name := "topoEnds", fn := fun _ => fun
  | [d1, d2] => { results := [.lit (.bool true)], args := [d1, d2] }
  | _ => none }
def topoEndsRow : OpenClaim := { program := "ytbbjoelcbppfoaa", sum := "b177ed68e6dbf488a429da0211f929ab93cf22e170e431caec707ee18962fb47", func := "ford/fordlaw17.TopoEnds", spec := "topoEnds", unfollowed := true, recurses := true, apart := false }
def TopoEndsSaid : Prop := topoEndsRow.holds Try.pinned (OpenSpec.ofChange topoEndsSpec)

/-- ITS FALSE NEIGHBOUR: 'it returns false'. Refute it at one input. -/
def topoEndsWrong : ChangeSpec := { name := "topoEnds", fn := fun _ => fun
  | [d1, d2] => { results := [.lit (.bool false)], args := [d1, d2] }
  | _ => none }
def TopoEndsWrongFalsely : Prop := topoEndsRow.holds Try.pinned (OpenSpec.ofChange topoEndsWrong)

/-- 'fordlaw17.TopoTells': WHATEVER THE INPUT: true; the input reads as it did. -/
def topoTellsSpec : ChangeSpec := { name := "topoTells", fn := fun _ => fun
  | [d1, d2, d3] => { results := [.lit (.bool true)], args := [d1, d2, d3] }
  | _ => none }
def topoTellsRow : OpenClaim := { program := "ytbbjoelcbppfoaa", sum := "b177ed68e6dbf488a429da0211f929ab93cf22e170e431caec707ee18962fb47", func := "ford/fordlaw17.TopoTells", spec := "topoTells", unfollowed := true, recurses := true, apart := false }
def TopoTellsSaid : Prop := topoTellsRow.holds Try.pinned (OpenSpec.ofChange topoTellsSpec)

/-- ITS FALSE NEIGHBOUR: 'it returns false'. Refute it at one input. -/
def topoTellsWrong : ChangeSpec := { name := "topoTells", fn := fun _ => fun
  | [d1, d2, d3] => { results := [.lit (.bool false)], args := [d1, d2, d3] }
  | _ => none }
def TopoTellsWrongFalsely : Prop := topoTellsRow.holds Try.pinned (OpenSpec.ofChange topoTellsWrong)

/-- 'fordlaw17.TopoFlushes': WHATEVER THE INPUT: true; the input reads as it did. -/
def topoFlushesSpec : ChangeSpec := { name := "topoFlushes", fn := fun _ => fun
  | [d1, d2] => { results := [.lit (.bool true)], args := [d1, d2] }
  | _ => none }
def topoFlushesRow : OpenClaim := { program := "ytbbjoelcbppfoaa", sum := "b177ed68e6dbf488a429da0211f929ab93cf22e170e431caec707ee18962fb47", func := "ford/fordlaw17.TopoFlushes", spec := "topoFlushes", unfollowed := true, recurses := true, apart := false }
def TopoFlushesSaid : Prop := topoFlushesRow.holds Try.pinned (OpenSpec.ofChange topoFlushesSpec)

/-- ITS FALSE NEIGHBOUR: 'it returns false'. Refute it at one input. -/
def topoFlushesWrong : ChangeSpec := { name := "topoFlushes", fn := fun _ => fun
  | [d1, d2] => { results := [.lit (.bool false)], args := [d1, d2] }
  | _ => none }
def TopoFlushesWrongFalsely : Prop := topoFlushesRow.holds Try.pinned (OpenSpec.ofChange topoFlushesWrong)

/-- 'fordlaw17.TopoQuiet': WHATEVER THE INPUT: true; the input reads as it did. -/
def topoQuietSpec : ChangeSpec := { name := "topoQuiet", fn := fun _ => fun
  | [d1, d2, d3] => { results := [.lit (.bool true)], args := [d1, d2, d3] }
  | _ => none }
def topoQuietRow : OpenClaim := { program := "ytbbjoelcbppfoaa", sum := "b177ed68e6dbf488a429da0211f929ab93cf22e170e431caec707ee18962fb47", func := "ford/fordlaw17.TopoQuiet", spec := "topoQuiet", unfollowed := true, recurses := true, apart := false }
def TopoQuietSaid : Prop := topoQuietRow.holds Try.pinned (OpenSpec.ofChange topoQuietSpec)

/-- ITS FALSE NEIGHBOUR: 'it returns false'. Refute it at one input. -/
def topoQuietWrong : ChangeSpec := { name := "topoQuiet", fn := fun _ => fun
  | [d1, d2, d3] => { results := [.lit (.bool false)], args := [d1, d2, d3] }
  | _ => none }
def TopoQuietWrongFalsely : Prop := topoQuietRow.holds Try.pinned (OpenSpec.ofChange topoQuietWrong)

/-- 'fordlaw17.TopoAcks': WHATEVER THE INPUT: true; the input reads as it did. -/
def topoAcksSpec : ChangeSpec := { name := "topoAcks", fn := fun _ => fun
  | [d1, d2] => { results := [.lit (.bool true)], args := [d1, d2] }
  | _ => none }
def topoAcksRow : OpenClaim := { program := "ytbbjoelcbppfoaa", sum := "b177ed68e6dbf488a429da0211f929ab93cf22e170e431caec707ee18962fb47", func := "ford/fordlaw17.TopoAcks", spec := "topoAcks", unfollowed := true, recurses := true, apart := false }
def TopoAcksSaid : Prop := topoAcksRow.holds Try.pinned (OpenSpec.ofChange topoAcksSpec)

/-- ITS FALSE NEIGHBOUR: 'it returns false'. Refute it at one input. -/
def topoAcksWrong : ChangeSpec := { name := "topoAcks", fn := fun _ => fun
  | [d1, d2] => { results := [.lit (.bool false)], args := [d1, d2] }
  | _ => none }
def TopoAcksWrongFalsely : Prop := topoAcksRow.holds Try.pinned (OpenSpec.ofChange topoAcksWrong)

/- THE SECOND FORM. 'bulk': how many values and letters a reading holds, each counted each time it is reached (what is shared counts as often as it is met; a slice's spare places count too). A statement '..UptoSaid' is the law's where the arguments, and the package variables that the reading takes, are together of bulk at most 1048576: NARROWER than '..Said'. Prove '..Said' where nothing that the law and all that it calls make is longer than what came in: it says more and counts as full. Else prove '..UptoSaid'. A law counts once. -/
mutual
def uptoBulk {H : Type} : DataW H → Nat
  | .lit (.string bytes) => bytes.length + 1
  | .lit _ => 1
  | .nil => 1
  | .ptr d => uptoBulk d + 1
  | .slice elems spare => uptoBulkAll elems + uptoBulkAll spare + 1
  | .agg parts => uptoBulkAll parts + 1
  | .iface _ d => uptoBulk d + 1
  | .map entries => uptoBulkEntries entries + 1
  | .held _ => 1
def uptoBulkAll {H : Type} : List (DataW H) → Nat
  | [] => 0
  | d :: r => uptoBulk d + uptoBulkAll r
def uptoBulkEntries {H : Type} : List (Lit × DataW H) → Nat
  | [] => 0
  | x :: r => uptoBulkEntry x + uptoBulkEntries r
def uptoBulkEntry {H : Type} : Lit × DataW H → Nat
  | (.string bytes, d) => bytes.length + uptoBulk d + 1
  | (_, d) => uptoBulk d + 1
 end
def uptoSmall : (H : Type) → List (DataW H) → Bool := fun _ ds => decide (uptoBulkAll ds ≤ 1048576)
def OpenSpec.upto (s : _root_.Go.ChangeSpec) : _root_.Go.OpenSpec := { _root_.Go.OpenSpec.ofChange s with cond := some uptoSmall }

/-- 'fordlaw17.TopoSteps', WHERE WHAT IT READS IS OF BULK AT MOST 1048576: true; the input reads as it did. -/
def topoStepsUptoRow : OpenClaim := { program := "ytbbjoelcbppfoaa", sum := "b177ed68e6dbf488a429da0211f929ab93cf22e170e431caec707ee18962fb47", func := "ford/fordlaw17.TopoSteps", spec := "topoSteps", unfollowed := true, recurses := true, apart := false, narrowed := true }
def TopoStepsUptoSaid : Prop := topoStepsUptoRow.holds Try.pinned (OpenSpec.upto topoStepsSpec)

/-- 'fordlaw17.TopoEnds', WHERE WHAT IT READS IS OF BULK AT MOST 1048576: true; the input reads as it did. -/
def topoEndsUptoRow : OpenClaim := { program := "ytbbjoelcbppfoaa", sum := "b177ed68e6dbf488a429da0211f929ab93cf22e170e431caec707ee18962fb47", func := "ford/fordlaw17.TopoEnds", spec := "topoEnds", unfollowed := true, recurses := true, apart := false, narrowed := true }
def TopoEndsUptoSaid : Prop := topoEndsUptoRow.holds Try.pinned (OpenSpec.upto topoEndsSpec)

/-- 'fordlaw17.TopoTells', WHERE WHAT IT READS IS OF BULK AT MOST 1048576: true; the input reads as it did. -/
def topoTellsUptoRow : OpenClaim := { program := "ytbbjoelcbppfoaa", sum := "b177ed68e6dbf488a429da0211f929ab93cf22e170e431caec707ee18962fb47", func := "ford/fordlaw17.TopoTells", spec := "topoTells", unfollowed := true, recurses := true, apart := false, narrowed := true }
def TopoTellsUptoSaid : Prop := topoTellsUptoRow.holds Try.pinned (OpenSpec.upto topoTellsSpec)

/-- 'fordlaw17.TopoFlushes', WHERE WHAT IT READS IS OF BULK AT MOST 1048576: true; the input reads as it did. -/
def topoFlushesUptoRow : OpenClaim := { program := "ytbbjoelcbppfoaa", sum := "b177ed68e6dbf488a429da0211f929ab93cf22e170e431caec707ee18962fb47", func := "ford/fordlaw17.TopoFlushes", spec := "topoFlushes", unfollowed := true, recurses := true, apart := false, narrowed := true }
def TopoFlushesUptoSaid : Prop := topoFlushesUptoRow.holds Try.pinned (OpenSpec.upto topoFlushesSpec)

/-- 'fordlaw17.TopoQuiet', WHERE WHAT IT READS IS OF BULK AT MOST 1048576: true; the input reads as it did. -/
def topoQuietUptoRow : OpenClaim := { program := "ytbbjoelcbppfoaa", sum := "b177ed68e6dbf488a429da0211f929ab93cf22e170e431caec707ee18962fb47", func := "ford/fordlaw17.TopoQuiet", spec := "topoQuiet", unfollowed := true, recurses := true, apart := false, narrowed := true }
def TopoQuietUptoSaid : Prop := topoQuietUptoRow.holds Try.pinned (OpenSpec.upto topoQuietSpec)

/-- 'fordlaw17.TopoAcks', WHERE WHAT IT READS IS OF BULK AT MOST 1048576: true; the input reads as it did. -/
def topoAcksUptoRow : OpenClaim := { program := "ytbbjoelcbppfoaa", sum := "b177ed68e6dbf488a429da0211f929ab93cf22e170e431caec707ee18962fb47", func := "ford/fordlaw17.TopoAcks", spec := "topoAcks", unfollowed := true, recurses := true, apart := false, narrowed := true }
def TopoAcksUptoSaid : Prop := topoAcksUptoRow.holds Try.pinned (OpenSpec.upto topoAcksSpec)

end Rows
end Go.Proofs.Ytbbjoelcbppfoaa
