/-
  No cell of these rows narrows 'for every input' (looked for: loops, veiled, ifaces, maps, wideKeys, modest, calm, conditions, laid).
  DERIVED. THE GIVEN ROWS OF THIS SEAT. 6 by the template 'for every input the law returns true; each argument reads behind the call as it read before'; 0 by the template 'total and deterministic' (their statements: YtmlhbfkmnbhoeaaTotals.lean).
  GIVEN WITH THE SEED: the statements are not yours to turn. If you find one false, say at which input.
  Laid BY PROGRAM, IN A SANDBOX (cutbox-rows.mjs): the forced cells as the released guide's own fill.sh prints them over the translation f00bf8fb411e25be… (all of the seat's roots in one cut). By AI agents, Wed Nov 11 2026. No macro, syntax, notation, axiom, sorry.
-/
import Derived.Test.YtmlhbfkmnbhoeaaChecked
import GoSem.Claim
import GoSem.ClaimJoined
import GoSem.ClaimMapViews
import Derived.JoinedTies
import Derived.KernelRfl
namespace Go.Proofs.Ytmlhbfkmnbhoeaa
/- THE CELL 'sum', in the pinned program and in every row, IS THE sha256 OF THE DUMP (.gsa) THAT YtmlhbfkmnbhoeaaProg.lean LOADS. Nothing in Lean hashes anything: it is a label: what it is worth is what the hold of that sum in a sandbox is worth. -/
noncomputable def Try.pinned : Pinned := { name := "ytmlhbfkmnbhoeaa", sum := "f00bf8fb411e25be3d62f1e8edacb4a3e2b7d6d9e88a75a4337f3cc6304f307a", checked := Try.checked }
namespace Rows
def none {H : Type} : Left H := { results := [], args := [] }

/-- 'fordlaw12.TxSteps': WHATEVER THE INPUT: true; the input reads as it did. -/
def txStepsSpec : ChangeSpec := { name := "txSteps", fn := fun _ => fun
  | [d1, d2] => { results := [.lit (.bool true)], args := [d1, d2] }
  | _ => none }
def txStepsRow : OpenClaim := { program := "ytmlhbfkmnbhoeaa", sum := "f00bf8fb411e25be3d62f1e8edacb4a3e2b7d6d9e88a75a4337f3cc6304f307a", func := "ford/fordlaw12.TxSteps", spec := "txSteps", apart := false }
def TxStepsSaid : Prop := txStepsRow.holds Try.pinned (OpenSpec.ofChange txStepsSpec)

/-- ITS FALSE NEIGHBOUR: 'it returns false'. Refute it at one input. -/
def txStepsWrong : ChangeSpec := { name := "txSteps", fn := fun _ => fun
  | [d1, d2] => { results := [.lit (.bool false)], args := [d1, d2] }
  | _ => none }
def TxStepsWrongFalsely : Prop := txStepsRow.holds Try.pinned (OpenSpec.ofChange txStepsWrong)

/-- 'fordlaw12.TxTells': WHATEVER THE INPUT: true; the input reads as it did. -/
def txTellsSpec : ChangeSpec := { name := "txTells", fn := fun _ => fun
  | [d1, d2, d3] => { results := [.lit (.bool true)], args := [d1, d2, d3] }
  | _ => none }
def txTellsRow : OpenClaim := { program := "ytmlhbfkmnbhoeaa", sum := "f00bf8fb411e25be3d62f1e8edacb4a3e2b7d6d9e88a75a4337f3cc6304f307a", func := "ford/fordlaw12.TxTells", spec := "txTells", apart := false }
def TxTellsSaid : Prop := txTellsRow.holds Try.pinned (OpenSpec.ofChange txTellsSpec)

/-- ITS FALSE NEIGHBOUR: 'it returns false'. Refute it at one input. -/
def txTellsWrong : ChangeSpec := { name := "txTells", fn := fun _ => fun
  | [d1, d2, d3] => { results := [.lit (.bool false)], args := [d1, d2, d3] }
  | _ => none }
def TxTellsWrongFalsely : Prop := txTellsRow.holds Try.pinned (OpenSpec.ofChange txTellsWrong)

/-- 'fordlaw12.TxHold': WHATEVER THE INPUT: true; the input reads as it did. -/
def txHoldSpec : ChangeSpec := { name := "txHold", fn := fun _ => fun
  | [d1, d2, d3] => { results := [.lit (.bool true)], args := [d1, d2, d3] }
  | _ => none }
def txHoldRow : OpenClaim := { program := "ytmlhbfkmnbhoeaa", sum := "f00bf8fb411e25be3d62f1e8edacb4a3e2b7d6d9e88a75a4337f3cc6304f307a", func := "ford/fordlaw12.TxHold", spec := "txHold", apart := false }
def TxHoldSaid : Prop := txHoldRow.holds Try.pinned (OpenSpec.ofChange txHoldSpec)

/-- ITS FALSE NEIGHBOUR: 'it returns false'. Refute it at one input. -/
def txHoldWrong : ChangeSpec := { name := "txHold", fn := fun _ => fun
  | [d1, d2, d3] => { results := [.lit (.bool false)], args := [d1, d2, d3] }
  | _ => none }
def TxHoldWrongFalsely : Prop := txHoldRow.holds Try.pinned (OpenSpec.ofChange txHoldWrong)

/-- 'fordlaw12.TxKinds': WHATEVER THE INPUT: true; the input reads as it did. -/
def txKindsSpec : ChangeSpec := { name := "txKinds", fn := fun _ => fun
  | [d1, d2] => { results := [.lit (.bool true)], args := [d1, d2] }
  | _ => none }
def txKindsRow : OpenClaim := { program := "ytmlhbfkmnbhoeaa", sum := "f00bf8fb411e25be3d62f1e8edacb4a3e2b7d6d9e88a75a4337f3cc6304f307a", func := "ford/fordlaw12.TxKinds", spec := "txKinds", apart := false }
def TxKindsSaid : Prop := txKindsRow.holds Try.pinned (OpenSpec.ofChange txKindsSpec)

/-- ITS FALSE NEIGHBOUR: 'it returns false'. Refute it at one input. -/
def txKindsWrong : ChangeSpec := { name := "txKinds", fn := fun _ => fun
  | [d1, d2] => { results := [.lit (.bool false)], args := [d1, d2] }
  | _ => none }
def TxKindsWrongFalsely : Prop := txKindsRow.holds Try.pinned (OpenSpec.ofChange txKindsWrong)

/-- 'fordlaw12.TxIdle': WHATEVER THE INPUT: true; the input reads as it did. -/
def txIdleSpec : ChangeSpec := { name := "txIdle", fn := fun _ => fun
  | [d1, d2] => { results := [.lit (.bool true)], args := [d1, d2] }
  | _ => none }
def txIdleRow : OpenClaim := { program := "ytmlhbfkmnbhoeaa", sum := "f00bf8fb411e25be3d62f1e8edacb4a3e2b7d6d9e88a75a4337f3cc6304f307a", func := "ford/fordlaw12.TxIdle", spec := "txIdle", apart := false }
def TxIdleSaid : Prop := txIdleRow.holds Try.pinned (OpenSpec.ofChange txIdleSpec)

/-- ITS FALSE NEIGHBOUR: 'it returns false'. Refute it at one input. -/
def txIdleWrong : ChangeSpec := { name := "txIdle", fn := fun _ => fun
  | [d1, d2] => { results := [.lit (.bool false)], args := [d1, d2] }
  | _ => none }
def TxIdleWrongFalsely : Prop := txIdleRow.holds Try.pinned (OpenSpec.ofChange txIdleWrong)

/-- 'fordlaw12.TxVec': WHATEVER THE INPUT: true; the input reads as it did. -/
def txVecSpec : ChangeSpec := { name := "txVec", fn := fun _ => fun
  | [d1, d2] => { results := [.lit (.bool true)], args := [d1, d2] }
  | _ => none }
def txVecRow : OpenClaim := { program := "ytmlhbfkmnbhoeaa", sum := "f00bf8fb411e25be3d62f1e8edacb4a3e2b7d6d9e88a75a4337f3cc6304f307a", func := "ford/fordlaw12.TxVec", spec := "txVec", apart := false }
def TxVecSaid : Prop := txVecRow.holds Try.pinned (OpenSpec.ofChange txVecSpec)

/-- ITS FALSE NEIGHBOUR: 'it returns false'. Refute it at one input. -/
def txVecWrong : ChangeSpec := { name := "txVec", fn := fun _ => fun
  | [d1, d2] => { results := [.lit (.bool false)], args := [d1, d2] }
  | _ => none }
def TxVecWrongFalsely : Prop := txVecRow.holds Try.pinned (OpenSpec.ofChange txVecWrong)

/- THE SECOND FORM. 'bulk': how many values and letters a reading holds, each counted each time it is reached (what is shared counts as often as it is met; a slice's spare places count too). A statement '..UptoSaid' is the law's where the arguments, and the package variables that the reading takes, are together of bulk at most 1048576: NARROWER than '..Said'. Prove '..Said' where nothing that the law and all that it calls make is longer than what came in: it says more and counts as full. Else prove '..UptoSaid'. A law counts once. -/
mutual
def uptoBulk {H : Type} : DataW H → Nat
  | .lit (.string bytes) => bytes.length + 1
  | .lit _ => 1
  | .nil => 1
  | .ptr d => uptoBulk d + 1
  | .slice elems spare => uptoBulkAll elems + uptoBulkAll spare + 1
  | .agg parts => uptoBulkAll parts + 1
  | .iface _ d => uptoBulk d + 1
  | .map entries => uptoBulkEntries entries + 1
  | .held _ => 1
def uptoBulkAll {H : Type} : List (DataW H) → Nat
  | [] => 0
  | d :: r => uptoBulk d + uptoBulkAll r
def uptoBulkEntries {H : Type} : List (Lit × DataW H) → Nat
  | [] => 0
  | x :: r => uptoBulkEntry x + uptoBulkEntries r
def uptoBulkEntry {H : Type} : Lit × DataW H → Nat
  | (.string bytes, d) => bytes.length + uptoBulk d + 1
  | (_, d) => uptoBulk d + 1
 end
def uptoSmall : (H : Type) → List (DataW H) → Bool := fun _ ds => decide (uptoBulkAll ds ≤ 1048576)
def OpenSpec.upto (s : _root_.Go.ChangeSpec) : _root_.Go.OpenSpec := { _root_.Go.OpenSpec.ofChange s with cond := some uptoSmall }

/-- 'fordlaw12.TxSteps', WHERE WHAT IT READS IS OF BULK AT MOST 1048576: true; the input reads as it did. -/
def txStepsUptoRow : OpenClaim := { program := "ytmlhbfkmnbhoeaa", sum := "f00bf8fb411e25be3d62f1e8edacb4a3e2b7d6d9e88a75a4337f3cc6304f307a", func := "ford/fordlaw12.TxSteps", spec := "txSteps", apart := false, narrowed := true }
def TxStepsUptoSaid : Prop := txStepsUptoRow.holds Try.pinned (OpenSpec.upto txStepsSpec)

/-- 'fordlaw12.TxTells', WHERE WHAT IT READS IS OF BULK AT MOST 1048576: true; the input reads as it did. -/
def txTellsUptoRow : OpenClaim := { program := "ytmlhbfkmnbhoeaa", sum := "f00bf8fb411e25be3d62f1e8edacb4a3e2b7d6d9e88a75a4337f3cc6304f307a", func := "ford/fordlaw12.TxTells", spec := "txTells", apart := false, narrowed := true }
def TxTellsUptoSaid : Prop := txTellsUptoRow.holds Try.pinned (OpenSpec.upto txTellsSpec)

/-- 'fordlaw12.TxHold', WHERE WHAT IT READS IS OF BULK AT MOST 1048576: true; the input reads as it did. -/
def txHoldUptoRow : OpenClaim := { program := "ytmlhbfkmnbhoeaa", sum := "f00bf8fb411e25be3d62f1e8edacb4a3e2b7d6d9e88a75a4337f3cc6304f307a", func := "ford/fordlaw12.TxHold", spec := "txHold", apart := false, narrowed := true }
def TxHoldUptoSaid : Prop := txHoldUptoRow.holds Try.pinned (OpenSpec.upto txHoldSpec)

/-- 'fordlaw12.TxKinds', WHERE WHAT IT READS IS OF BULK AT MOST 1048576: true; the input reads as it did. -/
def txKindsUptoRow : OpenClaim := { program := "ytmlhbfkmnbhoeaa", sum := "f00bf8fb411e25be3d62f1e8edacb4a3e2b7d6d9e88a75a4337f3cc6304f307a", func := "ford/fordlaw12.TxKinds", spec := "txKinds", apart := false, narrowed := true }
def TxKindsUptoSaid : Prop := txKindsUptoRow.holds Try.pinned (OpenSpec.upto txKindsSpec)

/-- 'fordlaw12.TxIdle', WHERE WHAT IT READS IS OF BULK AT MOST 1048576: true; the input reads as it did. -/
def txIdleUptoRow : OpenClaim := { program := "ytmlhbfkmnbhoeaa", sum := "f00bf8fb411e25be3d62f1e8edacb4a3e2b7d6d9e88a75a4337f3cc6304f307a", func := "ford/fordlaw12.TxIdle", spec := "txIdle", apart := false, narrowed := true }
def TxIdleUptoSaid : Prop := txIdleUptoRow.holds Try.pinned (OpenSpec.upto txIdleSpec)

/-- 'fordlaw12.TxVec', WHERE WHAT IT READS IS OF BULK AT MOST 1048576: true; the input reads as it did. -/
def txVecUptoRow : OpenClaim := { program := "ytmlhbfkmnbhoeaa", sum := "f00bf8fb411e25be3d62f1e8edacb4a3e2b7d6d9e88a75a4337f3cc6304f307a", func := "ford/fordlaw12.TxVec", spec := "txVec", apart := false, narrowed := true }
def TxVecUptoSaid : Prop := txVecUptoRow.holds Try.pinned (OpenSpec.upto txVecSpec)

end Rows
end Go.Proofs.Ytmlhbfkmnbhoeaa
