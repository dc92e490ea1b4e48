/-
  No cell of these rows narrows 'for every input' (looked for: loops, veiled, ifaces, maps, wideKeys, modest, calm, conditions, laid).
  DERIVED. THE GIVEN ROWS OF THIS SEAT. 5 by the template 'for every input the law returns true; each argument reads behind the call as it read before'; 0 by the template 'total and deterministic' (their statements: YtgemeaahecnkjaaTotals.lean).
  GIVEN WITH THE SEED: the statements are not yours to turn. If you find one false, say at which input.
  Laid BY PROGRAM, IN A SANDBOX (cutbox-rows.mjs): the forced cells as the released guide's own fill.sh prints them over the translation bf4869afc56701c9… (all of the seat's roots in one cut). By AI agents, Wed Nov 11 2026. No macro, syntax, notation, axiom, sorry.
-/
import Derived.Test.YtgemeaahecnkjaaChecked
import GoSem.Claim
import GoSem.ClaimJoined
import GoSem.ClaimMapViews
import Derived.JoinedTies
import Derived.KernelRfl
namespace Go.Proofs.Ytgemeaahecnkjaa
/- THE CELL 'sum', in the pinned program and in every row, IS THE sha256 OF THE DUMP (.gsa) THAT YtgemeaahecnkjaaProg.lean LOADS. Nothing in Lean hashes anything: it is a label: what it is worth is what the hold of that sum in a sandbox is worth. -/
noncomputable def Try.pinned : Pinned := { name := "ytgemeaahecnkjaa", sum := "bf4869afc56701c961bbf57d95a217b835207621ceb1ddde06a61e6f22d8111b", checked := Try.checked }
namespace Rows
def none {H : Type} : Left H := { results := [], args := [] }

/-- 'fordlaw11.EdgeSteps': WHATEVER THE INPUT: true; the input reads as it did. -/
def edgeStepsSpec : ChangeSpec := { name := "edgeSteps", fn := fun _ => fun
  | [d1, d2] => { results := [.lit (.bool true)], args := [d1, d2] }
  | _ => none }
def edgeStepsRow : OpenClaim := { program := "ytgemeaahecnkjaa", sum := "bf4869afc56701c961bbf57d95a217b835207621ceb1ddde06a61e6f22d8111b", func := "ford/fordlaw11.EdgeSteps", spec := "edgeSteps", unfollowed := true, recurses := true, apart := false }
def EdgeStepsSaid : Prop := edgeStepsRow.holds Try.pinned (OpenSpec.ofChange edgeStepsSpec)

/-- ITS FALSE NEIGHBOUR: 'it returns false'. Refute it at one input. -/
def edgeStepsWrong : ChangeSpec := { name := "edgeSteps", fn := fun _ => fun
  | [d1, d2] => { results := [.lit (.bool false)], args := [d1, d2] }
  | _ => none }
def EdgeStepsWrongFalsely : Prop := edgeStepsRow.holds Try.pinned (OpenSpec.ofChange edgeStepsWrong)

/-- 'fordlaw11.EdgeEnds': WHATEVER THE INPUT: true; the input reads as it did. -/
def edgeEndsSpec : ChangeSpec := { name := "edgeEnds", fn := fun _ => fun
  | [d1, d2] => { results := [.lit (.bool true)], args := [d1, d2] }
  | _ => none }
def edgeEndsRow : OpenClaim := { program := "ytgemeaahecnkjaa", sum := "bf4869afc56701c961bbf57d95a217b835207621ceb1ddde06a61e6f22d8111b", func := "ford/fordlaw11.EdgeEnds", spec := "edgeEnds", unfollowed := true, recurses := true, apart := false }
def EdgeEndsSaid : Prop := edgeEndsRow.holds Try.pinned (OpenSpec.ofChange edgeEndsSpec)

/-- ITS FALSE NEIGHBOUR: 'it returns false'. Refute it at one input. -/
def edgeEndsWrong : ChangeSpec := { name := "edgeEnds", fn := fun _ => fun
  | [d1, d2] => { results := [.lit (.bool false)], args := [d1, d2] }
  | _ => none }
def EdgeEndsWrongFalsely : Prop := edgeEndsRow.holds Try.pinned (OpenSpec.ofChange edgeEndsWrong)

/-- 'fordlaw11.EdgeHand': WHATEVER THE INPUT: true; the input reads as it did. -/
def edgeHandSpec : ChangeSpec := { name := "edgeHand", fn := fun _ => fun
  | [d1, d2, d3] => { results := [.lit (.bool true)], args := [d1, d2, d3] }
  | _ => none }
def edgeHandRow : OpenClaim := { program := "ytgemeaahecnkjaa", sum := "bf4869afc56701c961bbf57d95a217b835207621ceb1ddde06a61e6f22d8111b", func := "ford/fordlaw11.EdgeHand", spec := "edgeHand", unfollowed := true, recurses := true, apart := false }
def EdgeHandSaid : Prop := edgeHandRow.holds Try.pinned (OpenSpec.ofChange edgeHandSpec)

/-- ITS FALSE NEIGHBOUR: 'it returns false'. Refute it at one input. -/
def edgeHandWrong : ChangeSpec := { name := "edgeHand", fn := fun _ => fun
  | [d1, d2, d3] => { results := [.lit (.bool false)], args := [d1, d2, d3] }
  | _ => none }
def EdgeHandWrongFalsely : Prop := edgeHandRow.holds Try.pinned (OpenSpec.ofChange edgeHandWrong)

/-- 'fordlaw11.EdgeHeard': WHATEVER THE INPUT: true; the input reads as it did. -/
def edgeHeardSpec : ChangeSpec := { name := "edgeHeard", fn := fun _ => fun
  | [d1, d2, d3] => { results := [.lit (.bool true)], args := [d1, d2, d3] }
  | _ => none }
def edgeHeardRow : OpenClaim := { program := "ytgemeaahecnkjaa", sum := "bf4869afc56701c961bbf57d95a217b835207621ceb1ddde06a61e6f22d8111b", func := "ford/fordlaw11.EdgeHeard", spec := "edgeHeard", unfollowed := true, recurses := true, apart := false }
def EdgeHeardSaid : Prop := edgeHeardRow.holds Try.pinned (OpenSpec.ofChange edgeHeardSpec)

/-- ITS FALSE NEIGHBOUR: 'it returns false'. Refute it at one input. -/
def edgeHeardWrong : ChangeSpec := { name := "edgeHeard", fn := fun _ => fun
  | [d1, d2, d3] => { results := [.lit (.bool false)], args := [d1, d2, d3] }
  | _ => none }
def EdgeHeardWrongFalsely : Prop := edgeHeardRow.holds Try.pinned (OpenSpec.ofChange edgeHeardWrong)

/-- 'fordlaw11.EdgeOthers': WHATEVER THE INPUT: true; the input reads as it did. -/
def edgeOthersSpec : ChangeSpec := { name := "edgeOthers", fn := fun _ => fun
  | [d1, d2] => { results := [.lit (.bool true)], args := [d1, d2] }
  | _ => none }
def edgeOthersRow : OpenClaim := { program := "ytgemeaahecnkjaa", sum := "bf4869afc56701c961bbf57d95a217b835207621ceb1ddde06a61e6f22d8111b", func := "ford/fordlaw11.EdgeOthers", spec := "edgeOthers", unfollowed := true, recurses := true, apart := false }
def EdgeOthersSaid : Prop := edgeOthersRow.holds Try.pinned (OpenSpec.ofChange edgeOthersSpec)

/-- ITS FALSE NEIGHBOUR: 'it returns false'. Refute it at one input. -/
def edgeOthersWrong : ChangeSpec := { name := "edgeOthers", fn := fun _ => fun
  | [d1, d2] => { results := [.lit (.bool false)], args := [d1, d2] }
  | _ => none }
def EdgeOthersWrongFalsely : Prop := edgeOthersRow.holds Try.pinned (OpenSpec.ofChange edgeOthersWrong)

/- THE SECOND FORM. 'bulk': how many values and letters a reading holds, each counted each time it is reached (what is shared counts as often as it is met; a slice's spare places count too). A statement '..UptoSaid' is the law's where the arguments, and the package variables that the reading takes, are together of bulk at most 1048576: NARROWER than '..Said'. Prove '..Said' where nothing that the law and all that it calls make is longer than what came in: it says more and counts as full. Else prove '..UptoSaid'. A law counts once. -/
mutual
def uptoBulk {H : Type} : DataW H → Nat
  | .lit (.string bytes) => bytes.length + 1
  | .lit _ => 1
  | .nil => 1
  | .ptr d => uptoBulk d + 1
  | .slice elems spare => uptoBulkAll elems + uptoBulkAll spare + 1
  | .agg parts => uptoBulkAll parts + 1
  | .iface _ d => uptoBulk d + 1
  | .map entries => uptoBulkEntries entries + 1
  | .held _ => 1
def uptoBulkAll {H : Type} : List (DataW H) → Nat
  | [] => 0
  | d :: r => uptoBulk d + uptoBulkAll r
def uptoBulkEntries {H : Type} : List (Lit × DataW H) → Nat
  | [] => 0
  | x :: r => uptoBulkEntry x + uptoBulkEntries r
def uptoBulkEntry {H : Type} : Lit × DataW H → Nat
  | (.string bytes, d) => bytes.length + uptoBulk d + 1
  | (_, d) => uptoBulk d + 1
 end
def uptoSmall : (H : Type) → List (DataW H) → Bool := fun _ ds => decide (uptoBulkAll ds ≤ 1048576)
def OpenSpec.upto (s : _root_.Go.ChangeSpec) : _root_.Go.OpenSpec := { _root_.Go.OpenSpec.ofChange s with cond := some uptoSmall }

/-- 'fordlaw11.EdgeSteps', WHERE WHAT IT READS IS OF BULK AT MOST 1048576: true; the input reads as it did. -/
def edgeStepsUptoRow : OpenClaim := { program := "ytgemeaahecnkjaa", sum := "bf4869afc56701c961bbf57d95a217b835207621ceb1ddde06a61e6f22d8111b", func := "ford/fordlaw11.EdgeSteps", spec := "edgeSteps", unfollowed := true, recurses := true, apart := false, narrowed := true }
def EdgeStepsUptoSaid : Prop := edgeStepsUptoRow.holds Try.pinned (OpenSpec.upto edgeStepsSpec)

/-- 'fordlaw11.EdgeEnds', WHERE WHAT IT READS IS OF BULK AT MOST 1048576: true; the input reads as it did. -/
def edgeEndsUptoRow : OpenClaim := { program := "ytgemeaahecnkjaa", sum := "bf4869afc56701c961bbf57d95a217b835207621ceb1ddde06a61e6f22d8111b", func := "ford/fordlaw11.EdgeEnds", spec := "edgeEnds", unfollowed := true, recurses := true, apart := false, narrowed := true }
def EdgeEndsUptoSaid : Prop := edgeEndsUptoRow.holds Try.pinned (OpenSpec.upto edgeEndsSpec)

/-- 'fordlaw11.EdgeHand', WHERE WHAT IT READS IS OF BULK AT MOST 1048576: true; the input reads as it did. -/
def edgeHandUptoRow : OpenClaim := { program := "ytgemeaahecnkjaa", sum := "bf4869afc56701c961bbf57d95a217b835207621ceb1ddde06a61e6f22d8111b", func := "ford/fordlaw11.EdgeHand", spec := "edgeHand", unfollowed := true, recurses := true, apart := false, narrowed := true }
def EdgeHandUptoSaid : Prop := edgeHandUptoRow.holds Try.pinned (OpenSpec.upto edgeHandSpec)

/-- 'fordlaw11.EdgeHeard', WHERE WHAT IT READS IS OF BULK AT MOST 1048576: true; the input reads as it did. -/
def edgeHeardUptoRow : OpenClaim := { program := "ytgemeaahecnkjaa", sum := "bf4869afc56701c961bbf57d95a217b835207621ceb1ddde06a61e6f22d8111b", func := "ford/fordlaw11.EdgeHeard", spec := "edgeHeard", unfollowed := true, recurses := true, apart := false, narrowed := true }
def EdgeHeardUptoSaid : Prop := edgeHeardUptoRow.holds Try.pinned (OpenSpec.upto edgeHeardSpec)

/-- 'fordlaw11.EdgeOthers', WHERE WHAT IT READS IS OF BULK AT MOST 1048576: true; the input reads as it did. -/
def edgeOthersUptoRow : OpenClaim := { program := "ytgemeaahecnkjaa", sum := "bf4869afc56701c961bbf57d95a217b835207621ceb1ddde06a61e6f22d8111b", func := "ford/fordlaw11.EdgeOthers", spec := "edgeOthers", unfollowed := true, recurses := true, apart := false, narrowed := true }
def EdgeOthersUptoSaid : Prop := edgeOthersUptoRow.holds Try.pinned (OpenSpec.upto edgeOthersSpec)

end Rows
end Go.Proofs.Ytgemeaahecnkjaa
