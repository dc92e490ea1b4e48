/-
  No cell of these rows narrows 'for every input' (looked for: loops, veiled, ifaces, maps, wideKeys, modest, calm, conditions, laid).
  DERIVED. THE GIVEN ROWS OF THIS SEAT. 5 by the template 'for every input the law returns true; each argument reads behind the call as it read before'; 0 by the template 'total and deterministic' (their statements: YtjefonjjgahmgaaTotals.lean).
  GIVEN WITH THE SEED: the statements are not yours to turn. If you find one false, say at which input.
  Laid BY PROGRAM, IN A SANDBOX (cutbox-rows.mjs): the forced cells as the released guide's own fill.sh prints them over the translation 943dac3918a92041… (all of the seat's roots in one cut). By AI agents, Wed Nov 11 2026. No macro, syntax, notation, axiom, sorry.
-/
import Derived.Test.YtjefonjjgahmgaaChecked
import GoSem.Claim
import GoSem.ClaimJoined
import GoSem.ClaimMapViews
import Derived.JoinedTies
import Derived.KernelRfl
namespace Go.Proofs.Ytjefonjjgahmgaa
/- THE CELL 'sum', in the pinned program and in every row, IS THE sha256 OF THE DUMP (.gsa) THAT YtjefonjjgahmgaaProg.lean LOADS. Nothing in Lean hashes anything: it is a label: what it is worth is what the hold of that sum in a sandbox is worth. -/
noncomputable def Try.pinned : Pinned := { name := "ytjefonjjgahmgaa", sum := "943dac3918a92041c26e2427eae2f3b1651153b238475b4d60971ecb81ecf37d", checked := Try.checked }
namespace Rows
def none {H : Type} : Left H := { results := [], args := [] }

/-- 'fordlaw10.MigSteps': WHATEVER THE INPUT: true; the input reads as it did. -/
def migStepsSpec : ChangeSpec := { name := "migSteps", fn := fun _ => fun
  | [d1, d2] => { results := [.lit (.bool true)], args := [d1, d2] }
  | _ => none }
def migStepsRow : OpenClaim := { program := "ytjefonjjgahmgaa", sum := "943dac3918a92041c26e2427eae2f3b1651153b238475b4d60971ecb81ecf37d", func := "ford/fordlaw10.MigSteps", spec := "migSteps", unfollowed := true, recurses := true, apart := false }
def MigStepsSaid : Prop := migStepsRow.holds Try.pinned (OpenSpec.ofChange migStepsSpec)

/-- ITS FALSE NEIGHBOUR: 'it returns false'. Refute it at one input. -/
def migStepsWrong : ChangeSpec := { name := "migSteps", fn := fun _ => fun
  | [d1, d2] => { results := [.lit (.bool false)], args := [d1, d2] }
  | _ => none }
def MigStepsWrongFalsely : Prop := migStepsRow.holds Try.pinned (OpenSpec.ofChange migStepsWrong)

/-- 'fordlaw10.MigEnds': WHATEVER THE INPUT: true; the input reads as it did. -/
def migEndsSpec : ChangeSpec := { name := "migEnds", fn := fun _ => fun
  | [d1, d2] => { results := [.lit (.bool true)], args := [d1, d2] }
  | _ => none }
def migEndsRow : OpenClaim := { program := "ytjefonjjgahmgaa", sum := "943dac3918a92041c26e2427eae2f3b1651153b238475b4d60971ecb81ecf37d", func := "ford/fordlaw10.MigEnds", spec := "migEnds", unfollowed := true, recurses := true, apart := false }
def MigEndsSaid : Prop := migEndsRow.holds Try.pinned (OpenSpec.ofChange migEndsSpec)

/-- ITS FALSE NEIGHBOUR: 'it returns false'. Refute it at one input. -/
def migEndsWrong : ChangeSpec := { name := "migEnds", fn := fun _ => fun
  | [d1, d2] => { results := [.lit (.bool false)], args := [d1, d2] }
  | _ => none }
def MigEndsWrongFalsely : Prop := migEndsRow.holds Try.pinned (OpenSpec.ofChange migEndsWrong)

/-- 'fordlaw10.MigElder': WHATEVER THE INPUT: true; the input reads as it did. -/
def migElderSpec : ChangeSpec := { name := "migElder", fn := fun _ => fun
  | [d1, d2, d3] => { results := [.lit (.bool true)], args := [d1, d2, d3] }
  | _ => none }
def migElderRow : OpenClaim := { program := "ytjefonjjgahmgaa", sum := "943dac3918a92041c26e2427eae2f3b1651153b238475b4d60971ecb81ecf37d", func := "ford/fordlaw10.MigElder", spec := "migElder", unfollowed := true, recurses := true, apart := false }
def MigElderSaid : Prop := migElderRow.holds Try.pinned (OpenSpec.ofChange migElderSpec)

/-- ITS FALSE NEIGHBOUR: 'it returns false'. Refute it at one input. -/
def migElderWrong : ChangeSpec := { name := "migElder", fn := fun _ => fun
  | [d1, d2, d3] => { results := [.lit (.bool false)], args := [d1, d2, d3] }
  | _ => none }
def MigElderWrongFalsely : Prop := migElderRow.holds Try.pinned (OpenSpec.ofChange migElderWrong)

/-- 'fordlaw10.MigHears': WHATEVER THE INPUT: true; the input reads as it did. -/
def migHearsSpec : ChangeSpec := { name := "migHears", fn := fun _ => fun
  | [d1, d2] => { results := [.lit (.bool true)], args := [d1, d2] }
  | _ => none }
def migHearsRow : OpenClaim := { program := "ytjefonjjgahmgaa", sum := "943dac3918a92041c26e2427eae2f3b1651153b238475b4d60971ecb81ecf37d", func := "ford/fordlaw10.MigHears", spec := "migHears", unfollowed := true, recurses := true, apart := false }
def MigHearsSaid : Prop := migHearsRow.holds Try.pinned (OpenSpec.ofChange migHearsSpec)

/-- ITS FALSE NEIGHBOUR: 'it returns false'. Refute it at one input. -/
def migHearsWrong : ChangeSpec := { name := "migHears", fn := fun _ => fun
  | [d1, d2] => { results := [.lit (.bool false)], args := [d1, d2] }
  | _ => none }
def MigHearsWrongFalsely : Prop := migHearsRow.holds Try.pinned (OpenSpec.ofChange migHearsWrong)

/-- 'fordlaw10.MigOthers': WHATEVER THE INPUT: true; the input reads as it did. -/
def migOthersSpec : ChangeSpec := { name := "migOthers", fn := fun _ => fun
  | [d1, d2] => { results := [.lit (.bool true)], args := [d1, d2] }
  | _ => none }
def migOthersRow : OpenClaim := { program := "ytjefonjjgahmgaa", sum := "943dac3918a92041c26e2427eae2f3b1651153b238475b4d60971ecb81ecf37d", func := "ford/fordlaw10.MigOthers", spec := "migOthers", unfollowed := true, recurses := true, apart := false }
def MigOthersSaid : Prop := migOthersRow.holds Try.pinned (OpenSpec.ofChange migOthersSpec)

/-- ITS FALSE NEIGHBOUR: 'it returns false'. Refute it at one input. -/
def migOthersWrong : ChangeSpec := { name := "migOthers", fn := fun _ => fun
  | [d1, d2] => { results := [.lit (.bool false)], args := [d1, d2] }
  | _ => none }
def MigOthersWrongFalsely : Prop := migOthersRow.holds Try.pinned (OpenSpec.ofChange migOthersWrong)

/- THE SECOND FORM. 'bulk': how many values and letters a reading holds, each counted each time it is reached (what is shared counts as often as it is met; a slice's spare places count too). A statement '..UptoSaid' is the law's where the arguments, and the package variables that the reading takes, are together of bulk at most 1048576: NARROWER than '..Said'. Prove '..Said' where nothing that the law and all that it calls make is longer than what came in: it says more and counts as full. Else prove '..UptoSaid'. A law counts once. -/
mutual
def uptoBulk {H : Type} : DataW H → Nat
  | .lit (.string bytes) => bytes.length + 1
  | .lit _ => 1
  | .nil => 1
  | .ptr d => uptoBulk d + 1
  | .slice elems spare => uptoBulkAll elems + uptoBulkAll spare + 1
  | .agg parts => uptoBulkAll parts + 1
  | .iface _ d => uptoBulk d + 1
  | .map entries => uptoBulkEntries entries + 1
  | .held _ => 1
def uptoBulkAll {H : Type} : List (DataW H) → Nat
  | [] => 0
  | d :: r => uptoBulk d + uptoBulkAll r
def uptoBulkEntries {H : Type} : List (Lit × DataW H) → Nat
  | [] => 0
  | x :: r => uptoBulkEntry x + uptoBulkEntries r
def uptoBulkEntry {H : Type} : Lit × DataW H → Nat
  | (.string bytes, d) => bytes.length + uptoBulk d + 1
  | (_, d) => uptoBulk d + 1
 end
def uptoSmall : (H : Type) → List (DataW H) → Bool := fun _ ds => decide (uptoBulkAll ds ≤ 1048576)
def OpenSpec.upto (s : _root_.Go.ChangeSpec) : _root_.Go.OpenSpec := { _root_.Go.OpenSpec.ofChange s with cond := some uptoSmall }

/-- 'fordlaw10.MigSteps', WHERE WHAT IT READS IS OF BULK AT MOST 1048576: true; the input reads as it did. -/
def migStepsUptoRow : OpenClaim := { program := "ytjefonjjgahmgaa", sum := "943dac3918a92041c26e2427eae2f3b1651153b238475b4d60971ecb81ecf37d", func := "ford/fordlaw10.MigSteps", spec := "migSteps", unfollowed := true, recurses := true, apart := false, narrowed := true }
def MigStepsUptoSaid : Prop := migStepsUptoRow.holds Try.pinned (OpenSpec.upto migStepsSpec)

/-- 'fordlaw10.MigEnds', WHERE WHAT IT READS IS OF BULK AT MOST 1048576: true; the input reads as it did. -/
def migEndsUptoRow : OpenClaim := { program := "ytjefonjjgahmgaa", sum := "943dac3918a92041c26e2427eae2f3b1651153b238475b4d60971ecb81ecf37d", func := "ford/fordlaw10.MigEnds", spec := "migEnds", unfollowed := true, recurses := true, apart := false, narrowed := true }
def MigEndsUptoSaid : Prop := migEndsUptoRow.holds Try.pinned (OpenSpec.upto migEndsSpec)

/-- 'fordlaw10.MigElder', WHERE WHAT IT READS IS OF BULK AT MOST 1048576: true; the input reads as it did. -/
def migElderUptoRow : OpenClaim := { program := "ytjefonjjgahmgaa", sum := "943dac3918a92041c26e2427eae2f3b1651153b238475b4d60971ecb81ecf37d", func := "ford/fordlaw10.MigElder", spec := "migElder", unfollowed := true, recurses := true, apart := false, narrowed := true }
def MigElderUptoSaid : Prop := migElderUptoRow.holds Try.pinned (OpenSpec.upto migElderSpec)

/-- 'fordlaw10.MigHears', WHERE WHAT IT READS IS OF BULK AT MOST 1048576: true; the input reads as it did. -/
def migHearsUptoRow : OpenClaim := { program := "ytjefonjjgahmgaa", sum := "943dac3918a92041c26e2427eae2f3b1651153b238475b4d60971ecb81ecf37d", func := "ford/fordlaw10.MigHears", spec := "migHears", unfollowed := true, recurses := true, apart := false, narrowed := true }
def MigHearsUptoSaid : Prop := migHearsUptoRow.holds Try.pinned (OpenSpec.upto migHearsSpec)

/-- 'fordlaw10.MigOthers', WHERE WHAT IT READS IS OF BULK AT MOST 1048576: true; the input reads as it did. -/
def migOthersUptoRow : OpenClaim := { program := "ytjefonjjgahmgaa", sum := "943dac3918a92041c26e2427eae2f3b1651153b238475b4d60971ecb81ecf37d", func := "ford/fordlaw10.MigOthers", spec := "migOthers", unfollowed := true, recurses := true, apart := false, narrowed := true }
def MigOthersUptoSaid : Prop := migOthersUptoRow.holds Try.pinned (OpenSpec.upto migOthersSpec)

end Rows
end Go.Proofs.Ytjefonjjgahmgaa
