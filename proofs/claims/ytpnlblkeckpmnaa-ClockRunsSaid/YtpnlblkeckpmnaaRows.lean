/-
  No cell of these rows narrows 'for every input' (looked for: loops, veiled, ifaces, maps, wideKeys, modest, calm, conditions, laid).
  DERIVED. THE GIVEN ROWS OF THIS SEAT. 5 by the template 'for every input the law returns true; each argument reads behind the call as it read before'; 0 by the template 'total and deterministic' (their statements: YtpnlblkeckpmnaaTotals.lean).
  GIVEN WITH THE SEED: the statements are not yours to turn. If you find one false, say at which input.
  Laid BY PROGRAM, IN A SANDBOX (cutbox-rows.mjs): the forced cells as the released guide's own fill.sh prints them over the translation 65551a7b6c7bfc3a… (all of the seat's roots in one cut). By AI agents, Wed Nov 11 2026. No macro, syntax, notation, axiom, sorry.
-/
import Derived.Test.YtpnlblkeckpmnaaChecked
import GoSem.Claim
import GoSem.ClaimJoined
import GoSem.ClaimMapViews
import Derived.JoinedTies
import Derived.KernelRfl
namespace Go.Proofs.Ytpnlblkeckpmnaa
/- THE CELL 'sum', in the pinned program and in every row, IS THE sha256 OF THE DUMP (.gsa) THAT YtpnlblkeckpmnaaProg.lean LOADS. Nothing in Lean hashes anything: it is a label: what it is worth is what the hold of that sum in a sandbox is worth. -/
noncomputable def Try.pinned : Pinned := { name := "ytpnlblkeckpmnaa", sum := "65551a7b6c7bfc3afe8a544afc512a6bfc042b83065905e9e8603c3335fe66ca", checked := Try.checked }
namespace Rows
def none {H : Type} : Left H := { results := [], args := [] }

/-- 'fordlaw08.ClockRight': WHATEVER THE INPUT: true; the input reads as it did. -/
def clockRightSpec : ChangeSpec := { name := "clockRight", fn := fun _ => fun
  | [d] => { results := [.lit (.bool true)], args := [d] }
  | _ => none }
def clockRightRow : OpenClaim := { program := "ytpnlblkeckpmnaa", sum := "65551a7b6c7bfc3afe8a544afc512a6bfc042b83065905e9e8603c3335fe66ca", func := "ford/fordlaw08.ClockRight", spec := "clockRight", unfollowed := true, recurses := true, apart := false }
def ClockRightSaid : Prop := clockRightRow.holds Try.pinned (OpenSpec.ofChange clockRightSpec)

/-- ITS FALSE NEIGHBOUR: 'it returns false'. Refute it at one input. -/
def clockRightWrong : ChangeSpec := { name := "clockRight", fn := fun _ => fun
  | [d] => { results := [.lit (.bool false)], args := [d] }
  | _ => none }
def ClockRightWrongFalsely : Prop := clockRightRow.holds Try.pinned (OpenSpec.ofChange clockRightWrong)

/-- 'fordlaw08.ClockRuns': WHATEVER THE INPUT: true; the input reads as it did. -/
def clockRunsSpec : ChangeSpec := { name := "clockRuns", fn := fun _ => fun
  | [d1, d2] => { results := [.lit (.bool true)], args := [d1, d2] }
  | _ => none }
def clockRunsRow : OpenClaim := { program := "ytpnlblkeckpmnaa", sum := "65551a7b6c7bfc3afe8a544afc512a6bfc042b83065905e9e8603c3335fe66ca", func := "ford/fordlaw08.ClockRuns", spec := "clockRuns", unfollowed := true, recurses := true, apart := false }
def ClockRunsSaid : Prop := clockRunsRow.holds Try.pinned (OpenSpec.ofChange clockRunsSpec)

/-- ITS FALSE NEIGHBOUR: 'it returns false'. Refute it at one input. -/
def clockRunsWrong : ChangeSpec := { name := "clockRuns", fn := fun _ => fun
  | [d1, d2] => { results := [.lit (.bool false)], args := [d1, d2] }
  | _ => none }
def ClockRunsWrongFalsely : Prop := clockRunsRow.holds Try.pinned (OpenSpec.ofChange clockRunsWrong)

/-- 'fordlaw08.ClockRooted': WHATEVER THE INPUT: true; the input reads as it did. -/
def clockRootedSpec : ChangeSpec := { name := "clockRooted", fn := fun _ => fun
  | [d1, d2, d3] => { results := [.lit (.bool true)], args := [d1, d2, d3] }
  | _ => none }
def clockRootedRow : OpenClaim := { program := "ytpnlblkeckpmnaa", sum := "65551a7b6c7bfc3afe8a544afc512a6bfc042b83065905e9e8603c3335fe66ca", func := "ford/fordlaw08.ClockRooted", spec := "clockRooted", unfollowed := true, recurses := true, apart := false }
def ClockRootedSaid : Prop := clockRootedRow.holds Try.pinned (OpenSpec.ofChange clockRootedSpec)

/-- ITS FALSE NEIGHBOUR: 'it returns false'. Refute it at one input. -/
def clockRootedWrong : ChangeSpec := { name := "clockRooted", fn := fun _ => fun
  | [d1, d2, d3] => { results := [.lit (.bool false)], args := [d1, d2, d3] }
  | _ => none }
def ClockRootedWrongFalsely : Prop := clockRootedRow.holds Try.pinned (OpenSpec.ofChange clockRootedWrong)

/-- 'fordlaw08.ClockTells': WHATEVER THE INPUT: true; the input reads as it did. -/
def clockTellsSpec : ChangeSpec := { name := "clockTells", fn := fun _ => fun
  | [d1, d2] => { results := [.lit (.bool true)], args := [d1, d2] }
  | _ => none }
def clockTellsRow : OpenClaim := { program := "ytpnlblkeckpmnaa", sum := "65551a7b6c7bfc3afe8a544afc512a6bfc042b83065905e9e8603c3335fe66ca", func := "ford/fordlaw08.ClockTells", spec := "clockTells", unfollowed := true, recurses := true, apart := false }
def ClockTellsSaid : Prop := clockTellsRow.holds Try.pinned (OpenSpec.ofChange clockTellsSpec)

/-- ITS FALSE NEIGHBOUR: 'it returns false'. Refute it at one input. -/
def clockTellsWrong : ChangeSpec := { name := "clockTells", fn := fun _ => fun
  | [d1, d2] => { results := [.lit (.bool false)], args := [d1, d2] }
  | _ => none }
def ClockTellsWrongFalsely : Prop := clockTellsRow.holds Try.pinned (OpenSpec.ofChange clockTellsWrong)

/-- 'fordlaw08.ClockSynced': WHATEVER THE INPUT: true; the input reads as it did. -/
def clockSyncedSpec : ChangeSpec := { name := "clockSynced", fn := fun _ => fun
  | [d1, d2] => { results := [.lit (.bool true)], args := [d1, d2] }
  | _ => none }
def clockSyncedRow : OpenClaim := { program := "ytpnlblkeckpmnaa", sum := "65551a7b6c7bfc3afe8a544afc512a6bfc042b83065905e9e8603c3335fe66ca", func := "ford/fordlaw08.ClockSynced", spec := "clockSynced", unfollowed := true, recurses := true, apart := false }
def ClockSyncedSaid : Prop := clockSyncedRow.holds Try.pinned (OpenSpec.ofChange clockSyncedSpec)

/-- ITS FALSE NEIGHBOUR: 'it returns false'. Refute it at one input. -/
def clockSyncedWrong : ChangeSpec := { name := "clockSynced", fn := fun _ => fun
  | [d1, d2] => { results := [.lit (.bool false)], args := [d1, d2] }
  | _ => none }
def ClockSyncedWrongFalsely : Prop := clockSyncedRow.holds Try.pinned (OpenSpec.ofChange clockSyncedWrong)

/- THE SECOND FORM. 'bulk': how many values and letters a reading holds, each counted each time it is reached (what is shared counts as often as it is met; a slice's spare places count too). A statement '..UptoSaid' is the law's where the arguments, and the package variables that the reading takes, are together of bulk at most 1048576: NARROWER than '..Said'. Prove '..Said' where nothing that the law and all that it calls make is longer than what came in: it says more and counts as full. Else prove '..UptoSaid'. A law counts once. -/
mutual
def uptoBulk {H : Type} : DataW H → Nat
  | .lit (.string bytes) => bytes.length + 1
  | .lit _ => 1
  | .nil => 1
  | .ptr d => uptoBulk d + 1
  | .slice elems spare => uptoBulkAll elems + uptoBulkAll spare + 1
  | .agg parts => uptoBulkAll parts + 1
  | .iface _ d => uptoBulk d + 1
  | .map entries => uptoBulkEntries entries + 1
  | .held _ => 1
def uptoBulkAll {H : Type} : List (DataW H) → Nat
  | [] => 0
  | d :: r => uptoBulk d + uptoBulkAll r
def uptoBulkEntries {H : Type} : List (Lit × DataW H) → Nat
  | [] => 0
  | x :: r => uptoBulkEntry x + uptoBulkEntries r
def uptoBulkEntry {H : Type} : Lit × DataW H → Nat
  | (.string bytes, d) => bytes.length + uptoBulk d + 1
  | (_, d) => uptoBulk d + 1
 end
def uptoSmall : (H : Type) → List (DataW H) → Bool := fun _ ds => decide (uptoBulkAll ds ≤ 1048576)
def OpenSpec.upto (s : _root_.Go.ChangeSpec) : _root_.Go.OpenSpec := { _root_.Go.OpenSpec.ofChange s with cond := some uptoSmall }

/-- 'fordlaw08.ClockRight', WHERE WHAT IT READS IS OF BULK AT MOST 1048576: true; the input reads as it did. -/
def clockRightUptoRow : OpenClaim := { program := "ytpnlblkeckpmnaa", sum := "65551a7b6c7bfc3afe8a544afc512a6bfc042b83065905e9e8603c3335fe66ca", func := "ford/fordlaw08.ClockRight", spec := "clockRight", unfollowed := true, recurses := true, apart := false, narrowed := true }
def ClockRightUptoSaid : Prop := clockRightUptoRow.holds Try.pinned (OpenSpec.upto clockRightSpec)

/-- 'fordlaw08.ClockRuns', WHERE WHAT IT READS IS OF BULK AT MOST 1048576: true; the input reads as it did. -/
def clockRunsUptoRow : OpenClaim := { program := "ytpnlblkeckpmnaa", sum := "65551a7b6c7bfc3afe8a544afc512a6bfc042b83065905e9e8603c3335fe66ca", func := "ford/fordlaw08.ClockRuns", spec := "clockRuns", unfollowed := true, recurses := true, apart := false, narrowed := true }
def ClockRunsUptoSaid : Prop := clockRunsUptoRow.holds Try.pinned (OpenSpec.upto clockRunsSpec)

/-- 'fordlaw08.ClockRooted', WHERE WHAT IT READS IS OF BULK AT MOST 1048576: true; the input reads as it did. -/
def clockRootedUptoRow : OpenClaim := { program := "ytpnlblkeckpmnaa", sum := "65551a7b6c7bfc3afe8a544afc512a6bfc042b83065905e9e8603c3335fe66ca", func := "ford/fordlaw08.ClockRooted", spec := "clockRooted", unfollowed := true, recurses := true, apart := false, narrowed := true }
def ClockRootedUptoSaid : Prop := clockRootedUptoRow.holds Try.pinned (OpenSpec.upto clockRootedSpec)

/-- 'fordlaw08.ClockTells', WHERE WHAT IT READS IS OF BULK AT MOST 1048576: true; the input reads as it did. -/
def clockTellsUptoRow : OpenClaim := { program := "ytpnlblkeckpmnaa", sum := "65551a7b6c7bfc3afe8a544afc512a6bfc042b83065905e9e8603c3335fe66ca", func := "ford/fordlaw08.ClockTells", spec := "clockTells", unfollowed := true, recurses := true, apart := false, narrowed := true }
def ClockTellsUptoSaid : Prop := clockTellsUptoRow.holds Try.pinned (OpenSpec.upto clockTellsSpec)

/-- 'fordlaw08.ClockSynced', WHERE WHAT IT READS IS OF BULK AT MOST 1048576: true; the input reads as it did. -/
def clockSyncedUptoRow : OpenClaim := { program := "ytpnlblkeckpmnaa", sum := "65551a7b6c7bfc3afe8a544afc512a6bfc042b83065905e9e8603c3335fe66ca", func := "ford/fordlaw08.ClockSynced", spec := "clockSynced", unfollowed := true, recurses := true, apart := false, narrowed := true }
def ClockSyncedUptoSaid : Prop := clockSyncedUptoRow.holds Try.pinned (OpenSpec.upto clockSyncedSpec)

end Rows
end Go.Proofs.Ytpnlblkeckpmnaa
