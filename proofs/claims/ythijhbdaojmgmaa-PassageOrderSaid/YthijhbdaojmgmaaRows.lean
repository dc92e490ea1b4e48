/-
  No cell of these rows narrows 'for every input' (looked for: loops, veiled, ifaces, maps, wideKeys, modest, calm, conditions, laid).
  DERIVED. THE GIVEN ROWS OF THIS SEAT. 5 by the template 'for every input the law returns true; each argument reads behind the call as it read before'; 0 by the template 'total and deterministic' (their statements: YthijhbdaojmgmaaTotals.lean).
  GIVEN WITH THE SEED: the statements are not yours to turn. If you find one false, say at which input.
  Laid BY PROGRAM, IN A SANDBOX (cutbox-rows.mjs): the forced cells as the released guide's own fill.sh prints them over the translation 440994616bd44e14… (all of the seat's roots in one cut). By AI agents, Wed Nov 11 2026. No macro, syntax, notation, axiom, sorry.
-/
import Derived.Test.YthijhbdaojmgmaaChecked
import GoSem.Claim
import GoSem.ClaimJoined
import GoSem.ClaimMapViews
import Derived.JoinedTies
import Derived.KernelRfl
namespace Go.Proofs.Ythijhbdaojmgmaa
/- THE CELL 'sum', in the pinned program and in every row, IS THE sha256 OF THE DUMP (.gsa) THAT YthijhbdaojmgmaaProg.lean LOADS. Nothing in Lean hashes anything: it is a label: what it is worth is what the hold of that sum in a sandbox is worth. -/
noncomputable def Try.pinned : Pinned := { name := "ythijhbdaojmgmaa", sum := "440994616bd44e14d1f27841b6558f41e4f7828a234de618ecaf88ccf53d9e88", checked := Try.checked }
namespace Rows
def none {H : Type} : Left H := { results := [], args := [] }

/-- 'fordlaw16.PassageSteps': WHATEVER THE INPUT: true; the input reads as it did. -/
def passageStepsSpec : ChangeSpec := { name := "passageSteps", fn := fun _ => fun
  | [d1, d2] => { results := [.lit (.bool true)], args := [d1, d2] }
  | _ => none }
def passageStepsRow : OpenClaim := { program := "ythijhbdaojmgmaa", sum := "440994616bd44e14d1f27841b6558f41e4f7828a234de618ecaf88ccf53d9e88", func := "ford/fordlaw16.PassageSteps", spec := "passageSteps", unfollowed := true, recurses := true, apart := false }
def PassageStepsSaid : Prop := passageStepsRow.holds Try.pinned (OpenSpec.ofChange passageStepsSpec)

/-- ITS FALSE NEIGHBOUR: 'it returns false'. Refute it at one input. -/
def passageStepsWrong : ChangeSpec := { name := "passageSteps", fn := fun _ => fun
  | [d1, d2] => { results := [.lit (.bool false)], args := [d1, d2] }
  | _ => none }
def PassageStepsWrongFalsely : Prop := passageStepsRow.holds Try.pinned (OpenSpec.ofChange passageStepsWrong)

/-- 'fordlaw16.PassageEnds': WHATEVER THE INPUT: true; the input reads as it did. -/
def passageEndsSpec : ChangeSpec := { name := "passageEnds", fn := fun _ => fun
  | [d1, d2, d3, d4] => { results := [.lit (.bool true)], args := [d1, d2, d3, d4] }
  | _ => none }
def passageEndsRow : OpenClaim := { program := "ythijhbdaojmgmaa", sum := "440994616bd44e14d1f27841b6558f41e4f7828a234de618ecaf88ccf53d9e88", func := "ford/fordlaw16.PassageEnds", spec := "passageEnds", unfollowed := true, recurses := true, apart := false }
def PassageEndsSaid : Prop := passageEndsRow.holds Try.pinned (OpenSpec.ofChange passageEndsSpec)

/-- ITS FALSE NEIGHBOUR: 'it returns false'. Refute it at one input. -/
def passageEndsWrong : ChangeSpec := { name := "passageEnds", fn := fun _ => fun
  | [d1, d2, d3, d4] => { results := [.lit (.bool false)], args := [d1, d2, d3, d4] }
  | _ => none }
def PassageEndsWrongFalsely : Prop := passageEndsRow.holds Try.pinned (OpenSpec.ofChange passageEndsWrong)

/-- 'fordlaw16.PassageStops': WHATEVER THE INPUT: true; the input reads as it did. -/
def passageStopsSpec : ChangeSpec := { name := "passageStops", fn := fun _ => fun
  | [d1, d2, d3] => { results := [.lit (.bool true)], args := [d1, d2, d3] }
  | _ => none }
def passageStopsRow : OpenClaim := { program := "ythijhbdaojmgmaa", sum := "440994616bd44e14d1f27841b6558f41e4f7828a234de618ecaf88ccf53d9e88", func := "ford/fordlaw16.PassageStops", spec := "passageStops", unfollowed := true, recurses := true, apart := false }
def PassageStopsSaid : Prop := passageStopsRow.holds Try.pinned (OpenSpec.ofChange passageStopsSpec)

/-- ITS FALSE NEIGHBOUR: 'it returns false'. Refute it at one input. -/
def passageStopsWrong : ChangeSpec := { name := "passageStops", fn := fun _ => fun
  | [d1, d2, d3] => { results := [.lit (.bool false)], args := [d1, d2, d3] }
  | _ => none }
def PassageStopsWrongFalsely : Prop := passageStopsRow.holds Try.pinned (OpenSpec.ofChange passageStopsWrong)

/-- 'fordlaw16.PassageOthers': WHATEVER THE INPUT: true; the input reads as it did. -/
def passageOthersSpec : ChangeSpec := { name := "passageOthers", fn := fun _ => fun
  | [d1, d2] => { results := [.lit (.bool true)], args := [d1, d2] }
  | _ => none }
def passageOthersRow : OpenClaim := { program := "ythijhbdaojmgmaa", sum := "440994616bd44e14d1f27841b6558f41e4f7828a234de618ecaf88ccf53d9e88", func := "ford/fordlaw16.PassageOthers", spec := "passageOthers", unfollowed := true, recurses := true, apart := false }
def PassageOthersSaid : Prop := passageOthersRow.holds Try.pinned (OpenSpec.ofChange passageOthersSpec)

/-- ITS FALSE NEIGHBOUR: 'it returns false'. Refute it at one input. -/
def passageOthersWrong : ChangeSpec := { name := "passageOthers", fn := fun _ => fun
  | [d1, d2] => { results := [.lit (.bool false)], args := [d1, d2] }
  | _ => none }
def PassageOthersWrongFalsely : Prop := passageOthersRow.holds Try.pinned (OpenSpec.ofChange passageOthersWrong)

/-- 'fordlaw16.PassageOrder': WHATEVER THE INPUT: true; the input reads as it did. -/
def passageOrderSpec : ChangeSpec := { name := "passageOrder", fn := fun _ => fun
  | [d1, d2, d3] => { results := [.lit (.bool true)], args := [d1, d2, d3] }
  | _ => none }
def passageOrderRow : OpenClaim := { program := "ythijhbdaojmgmaa", sum := "440994616bd44e14d1f27841b6558f41e4f7828a234de618ecaf88ccf53d9e88", func := "ford/fordlaw16.PassageOrder", spec := "passageOrder", unfollowed := true, recurses := true, apart := false }
def PassageOrderSaid : Prop := passageOrderRow.holds Try.pinned (OpenSpec.ofChange passageOrderSpec)

/-- ITS FALSE NEIGHBOUR: 'it returns false'. Refute it at one input. -/
def passageOrderWrong : ChangeSpec := { name := "passageOrder", fn := fun _ => fun
  | [d1, d2, d3] => { results := [.lit (.bool false)], args := [d1, d2, d3] }
  | _ => none }
def PassageOrderWrongFalsely : Prop := passageOrderRow.holds Try.pinned (OpenSpec.ofChange passageOrderWrong)

/- THE SECOND FORM. 'bulk': how many values and letters a reading holds, each counted each time it is reached (what is shared counts as often as it is met; a slice's spare places count too). A statement '..UptoSaid' is the law's where the arguments, and the package variables that the reading takes, are together of bulk at most 1048576: NARROWER than '..Said'. Prove '..Said' where nothing that the law and all that it calls make is longer than what came in: it says more and counts as full. Else prove '..UptoSaid'. A law counts once. -/
mutual
def uptoBulk {H : Type} : DataW H → Nat
  | .lit (.string bytes) => bytes.length + 1
  | .lit _ => 1
  | .nil => 1
  | .ptr d => uptoBulk d + 1
  | .slice elems spare => uptoBulkAll elems + uptoBulkAll spare + 1
  | .agg parts => uptoBulkAll parts + 1
  | .iface _ d => uptoBulk d + 1
  | .map entries => uptoBulkEntries entries + 1
  | .held _ => 1
def uptoBulkAll {H : Type} : List (DataW H) → Nat
  | [] => 0
  | d :: r => uptoBulk d + uptoBulkAll r
def uptoBulkEntries {H : Type} : List (Lit × DataW H) → Nat
  | [] => 0
  | x :: r => uptoBulkEntry x + uptoBulkEntries r
def uptoBulkEntry {H : Type} : Lit × DataW H → Nat
  | (.string bytes, d) => bytes.length + uptoBulk d + 1
  | (_, d) => uptoBulk d + 1
 end
def uptoSmall : (H : Type) → List (DataW H) → Bool := fun _ ds => decide (uptoBulkAll ds ≤ 1048576)
def OpenSpec.upto (s : _root_.Go.ChangeSpec) : _root_.Go.OpenSpec := { _root_.Go.OpenSpec.ofChange s with cond := some uptoSmall }

/-- 'fordlaw16.PassageSteps', WHERE WHAT IT READS IS OF BULK AT MOST 1048576: true; the input reads as it did. -/
def passageStepsUptoRow : OpenClaim := { program := "ythijhbdaojmgmaa", sum := "440994616bd44e14d1f27841b6558f41e4f7828a234de618ecaf88ccf53d9e88", func := "ford/fordlaw16.PassageSteps", spec := "passageSteps", unfollowed := true, recurses := true, apart := false, narrowed := true }
def PassageStepsUptoSaid : Prop := passageStepsUptoRow.holds Try.pinned (OpenSpec.upto passageStepsSpec)

/-- 'fordlaw16.PassageEnds', WHERE WHAT IT READS IS OF BULK AT MOST 1048576: true; the input reads as it did. -/
def passageEndsUptoRow : OpenClaim := { program := "ythijhbdaojmgmaa", sum := "440994616bd44e14d1f27841b6558f41e4f7828a234de618ecaf88ccf53d9e88", func := "ford/fordlaw16.PassageEnds", spec := "passageEnds", unfollowed := true, recurses := true, apart := false, narrowed := true }
def PassageEndsUptoSaid : Prop := passageEndsUptoRow.holds Try.pinned (OpenSpec.upto passageEndsSpec)

/-- 'fordlaw16.PassageStops', WHERE WHAT IT READS IS OF BULK AT MOST 1048576: true; the input reads as it did. -/
def passageStopsUptoRow : OpenClaim := { program := "ythijhbdaojmgmaa", sum := "440994616bd44e14d1f27841b6558f41e4f7828a234de618ecaf88ccf53d9e88", func := "ford/fordlaw16.PassageStops", spec := "passageStops", unfollowed := true, recurses := true, apart := false, narrowed := true }
def PassageStopsUptoSaid : Prop := passageStopsUptoRow.holds Try.pinned (OpenSpec.upto passageStopsSpec)

/-- 'fordlaw16.PassageOthers', WHERE WHAT IT READS IS OF BULK AT MOST 1048576: true; the input reads as it did. -/
def passageOthersUptoRow : OpenClaim := { program := "ythijhbdaojmgmaa", sum := "440994616bd44e14d1f27841b6558f41e4f7828a234de618ecaf88ccf53d9e88", func := "ford/fordlaw16.PassageOthers", spec := "passageOthers", unfollowed := true, recurses := true, apart := false, narrowed := true }
def PassageOthersUptoSaid : Prop := passageOthersUptoRow.holds Try.pinned (OpenSpec.upto passageOthersSpec)

/-- 'fordlaw16.PassageOrder', WHERE WHAT IT READS IS OF BULK AT MOST 1048576: true; the input reads as it did. -/
def passageOrderUptoRow : OpenClaim := { program := "ythijhbdaojmgmaa", sum := "440994616bd44e14d1f27841b6558f41e4f7828a234de618ecaf88ccf53d9e88", func := "ford/fordlaw16.PassageOrder", spec := "passageOrder", unfollowed := true, recurses := true, apart := false, narrowed := true }
def PassageOrderUptoSaid : Prop := passageOrderUptoRow.holds Try.pinned (OpenSpec.upto passageOrderSpec)

end Rows
end Go.Proofs.Ythijhbdaojmgmaa
