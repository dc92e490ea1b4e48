/-
  No cell of these rows narrows 'for every input' (looked for: loops, veiled, ifaces, maps, wideKeys, modest, calm, conditions, laid).
  DERIVED. THE GIVEN ROWS OF THIS SEAT. 7 by the template 'for every input the law returns true; each argument reads behind the call as it read before'; 0 by the template 'total and deterministic' (their statements: YtdangeefecdbaaaTotals.lean).
  GIVEN WITH THE SEED: the statements are not yours to turn. If you find one false, say at which input.
  Laid BY PROGRAM, IN A SANDBOX (cutbox-rows.mjs): the forced cells as the released guide's own fill.sh prints them over the translation 4514e5d9d9382690… (all of the seat's roots in one cut). By AI agents, Wed Nov 11 2026. No macro, syntax, notation, axiom, sorry.
-/
import Derived.Test.YtdangeefecdbaaaChecked
import GoSem.Claim
import GoSem.ClaimJoined
import GoSem.ClaimMapViews
import Derived.JoinedTies
import Derived.KernelRfl
namespace Go.Proofs.Ytdangeefecdbaaa
/- THE CELL 'sum', in the pinned program and in every row, IS THE sha256 OF THE DUMP (.gsa) THAT YtdangeefecdbaaaProg.lean LOADS. Nothing in Lean hashes anything: it is a label: what it is worth is what the hold of that sum in a sandbox is worth. -/
noncomputable def Try.pinned : Pinned := { name := "ytdangeefecdbaaa", sum := "4514e5d9d938269084ef92d23aaa5206b782438251c3ffd1f1ca0e9524b49445", checked := Try.checked }
namespace Rows
def none {H : Type} : Left H := { results := [], args := [] }

/-- 'fordlaw15.TransSteps': WHATEVER THE INPUT: true; the input reads as it did. -/
def transStepsSpec : ChangeSpec := { name := "transSteps", fn := fun _ => fun
  | [d1, d2] => { results := [.lit (.bool true)], args := [d1, d2] }
  | _ => none }
def transStepsRow : OpenClaim := { program := "ytdangeefecdbaaa", sum := "4514e5d9d938269084ef92d23aaa5206b782438251c3ffd1f1ca0e9524b49445", func := "ford/fordlaw15.TransSteps", spec := "transSteps", unfollowed := true, recurses := true, apart := false }
def TransStepsSaid : Prop := transStepsRow.holds Try.pinned (OpenSpec.ofChange transStepsSpec)

/-- ITS FALSE NEIGHBOUR: 'it returns false'. Refute it at one input. -/
def transStepsWrong : ChangeSpec := { name := "transSteps", fn := fun _ => fun
  | [d1, d2] => { results := [.lit (.bool false)], args := [d1, d2] }
  | _ => none }
def TransStepsWrongFalsely : Prop := transStepsRow.holds Try.pinned (OpenSpec.ofChange transStepsWrong)

/-- 'fordlaw15.TransWaits': WHATEVER THE INPUT: true; the input reads as it did. -/
def transWaitsSpec : ChangeSpec := { name := "transWaits", fn := fun _ => fun
  | [d1, d2] => { results := [.lit (.bool true)], args := [d1, d2] }
  | _ => none }
def transWaitsRow : OpenClaim := { program := "ytdangeefecdbaaa", sum := "4514e5d9d938269084ef92d23aaa5206b782438251c3ffd1f1ca0e9524b49445", func := "ford/fordlaw15.TransWaits", spec := "transWaits", unfollowed := true, recurses := true, apart := false }
def TransWaitsSaid : Prop := transWaitsRow.holds Try.pinned (OpenSpec.ofChange transWaitsSpec)

/-- ITS FALSE NEIGHBOUR: 'it returns false'. Refute it at one input. -/
def transWaitsWrong : ChangeSpec := { name := "transWaits", fn := fun _ => fun
  | [d1, d2] => { results := [.lit (.bool false)], args := [d1, d2] }
  | _ => none }
def TransWaitsWrongFalsely : Prop := transWaitsRow.holds Try.pinned (OpenSpec.ofChange transWaitsWrong)

/-- 'fordlaw15.TransBlocks': WHATEVER THE INPUT: true; the input reads as it did. -/
def transBlocksSpec : ChangeSpec := { name := "transBlocks", fn := fun _ => fun
  | [d1, d2, d3] => { results := [.lit (.bool true)], args := [d1, d2, d3] }
  | _ => none }
def transBlocksRow : OpenClaim := { program := "ytdangeefecdbaaa", sum := "4514e5d9d938269084ef92d23aaa5206b782438251c3ffd1f1ca0e9524b49445", func := "ford/fordlaw15.TransBlocks", spec := "transBlocks", unfollowed := true, recurses := true, apart := false }
def TransBlocksSaid : Prop := transBlocksRow.holds Try.pinned (OpenSpec.ofChange transBlocksSpec)

/-- ITS FALSE NEIGHBOUR: 'it returns false'. Refute it at one input. -/
def transBlocksWrong : ChangeSpec := { name := "transBlocks", fn := fun _ => fun
  | [d1, d2, d3] => { results := [.lit (.bool false)], args := [d1, d2, d3] }
  | _ => none }
def TransBlocksWrongFalsely : Prop := transBlocksRow.holds Try.pinned (OpenSpec.ofChange transBlocksWrong)

/-- 'fordlaw15.TransEnds': WHATEVER THE INPUT: true; the input reads as it did. -/
def transEndsSpec : ChangeSpec := { name := "transEnds", fn := fun _ => fun
  | [d1, d2] => { results := [.lit (.bool true)], args := [d1, d2] }
  | _ => none }
def transEndsRow : OpenClaim := { program := "ytdangeefecdbaaa", sum := "4514e5d9d938269084ef92d23aaa5206b782438251c3ffd1f1ca0e9524b49445", func := "ford/fordlaw15.TransEnds", spec := "transEnds", unfollowed := true, recurses := true, apart := false }
def TransEndsSaid : Prop := transEndsRow.holds Try.pinned (OpenSpec.ofChange transEndsSpec)

/-- ITS FALSE NEIGHBOUR: 'it returns false'. Refute it at one input. -/
def transEndsWrong : ChangeSpec := { name := "transEnds", fn := fun _ => fun
  | [d1, d2] => { results := [.lit (.bool false)], args := [d1, d2] }
  | _ => none }
def TransEndsWrongFalsely : Prop := transEndsRow.holds Try.pinned (OpenSpec.ofChange transEndsWrong)

/-- 'fordlaw15.TransAgrees': WHATEVER THE INPUT: true; the input reads as it did. -/
def transAgreesSpec : ChangeSpec := { name := "transAgrees", fn := fun _ => fun
  | [d1, d2] => { results := [.lit (.bool true)], args := [d1, d2] }
  | _ => none }
def transAgreesRow : OpenClaim := { program := "ytdangeefecdbaaa", sum := "4514e5d9d938269084ef92d23aaa5206b782438251c3ffd1f1ca0e9524b49445", func := "ford/fordlaw15.TransAgrees", spec := "transAgrees", unfollowed := true, recurses := true, apart := false }
def TransAgreesSaid : Prop := transAgreesRow.holds Try.pinned (OpenSpec.ofChange transAgreesSpec)

/-- ITS FALSE NEIGHBOUR: 'it returns false'. Refute it at one input. -/
def transAgreesWrong : ChangeSpec := { name := "transAgrees", fn := fun _ => fun
  | [d1, d2] => { results := [.lit (.bool false)], args := [d1, d2] }
  | _ => none }
def TransAgreesWrongFalsely : Prop := transAgreesRow.holds Try.pinned (OpenSpec.ofChange transAgreesWrong)

/-- 'fordlaw15.TransOpens': WHATEVER THE INPUT: true; the input reads as it did. -/
def transOpensSpec : ChangeSpec := { name := "transOpens", fn := fun _ => fun
  | [d1, d2] => { results := [.lit (.bool true)], args := [d1, d2] }
  | _ => none }
def transOpensRow : OpenClaim := { program := "ytdangeefecdbaaa", sum := "4514e5d9d938269084ef92d23aaa5206b782438251c3ffd1f1ca0e9524b49445", func := "ford/fordlaw15.TransOpens", spec := "transOpens", unfollowed := true, recurses := true, apart := false }
def TransOpensSaid : Prop := transOpensRow.holds Try.pinned (OpenSpec.ofChange transOpensSpec)

/-- ITS FALSE NEIGHBOUR: 'it returns false'. Refute it at one input. -/
def transOpensWrong : ChangeSpec := { name := "transOpens", fn := fun _ => fun
  | [d1, d2] => { results := [.lit (.bool false)], args := [d1, d2] }
  | _ => none }
def TransOpensWrongFalsely : Prop := transOpensRow.holds Try.pinned (OpenSpec.ofChange transOpensWrong)

/-- 'fordlaw15.TransStops': WHATEVER THE INPUT: true; the input reads as it did. -/
def transStopsSpec : ChangeSpec := { name := "transStops", fn := fun _ => fun
  | [d1, d2] => { results := [.lit (.bool true)], args := [d1, d2] }
  | _ => none }
def transStopsRow : OpenClaim := { program := "ytdangeefecdbaaa", sum := "4514e5d9d938269084ef92d23aaa5206b782438251c3ffd1f1ca0e9524b49445", func := "ford/fordlaw15.TransStops", spec := "transStops", unfollowed := true, recurses := true, apart := false }
def TransStopsSaid : Prop := transStopsRow.holds Try.pinned (OpenSpec.ofChange transStopsSpec)

/-- ITS FALSE NEIGHBOUR: 'it returns false'. Refute it at one input. -/
def transStopsWrong : ChangeSpec := { name := "transStops", fn := fun _ => fun
  | [d1, d2] => { results := [.lit (.bool false)], args := [d1, d2] }
  | _ => none }
def TransStopsWrongFalsely : Prop := transStopsRow.holds Try.pinned (OpenSpec.ofChange transStopsWrong)

/- THE SECOND FORM. 'bulk': how many values and letters a reading holds, each counted each time it is reached (what is shared counts as often as it is met; a slice's spare places count too). A statement '..UptoSaid' is the law's where the arguments, and the package variables that the reading takes, are together of bulk at most 1048576: NARROWER than '..Said'. Prove '..Said' where nothing that the law and all that it calls make is longer than what came in: it says more and counts as full. Else prove '..UptoSaid'. A law counts once. -/
mutual
def uptoBulk {H : Type} : DataW H → Nat
  | .lit (.string bytes) => bytes.length + 1
  | .lit _ => 1
  | .nil => 1
  | .ptr d => uptoBulk d + 1
  | .slice elems spare => uptoBulkAll elems + uptoBulkAll spare + 1
  | .agg parts => uptoBulkAll parts + 1
  | .iface _ d => uptoBulk d + 1
  | .map entries => uptoBulkEntries entries + 1
  | .held _ => 1
def uptoBulkAll {H : Type} : List (DataW H) → Nat
  | [] => 0
  | d :: r => uptoBulk d + uptoBulkAll r
def uptoBulkEntries {H : Type} : List (Lit × DataW H) → Nat
  | [] => 0
  | x :: r => uptoBulkEntry x + uptoBulkEntries r
def uptoBulkEntry {H : Type} : Lit × DataW H → Nat
  | (.string bytes, d) => bytes.length + uptoBulk d + 1
  | (_, d) => uptoBulk d + 1
 end
def uptoSmall : (H : Type) → List (DataW H) → Bool := fun _ ds => decide (uptoBulkAll ds ≤ 1048576)
def OpenSpec.upto (s : _root_.Go.ChangeSpec) : _root_.Go.OpenSpec := { _root_.Go.OpenSpec.ofChange s with cond := some uptoSmall }

/-- 'fordlaw15.TransSteps', WHERE WHAT IT READS IS OF BULK AT MOST 1048576: true; the input reads as it did. -/
def transStepsUptoRow : OpenClaim := { program := "ytdangeefecdbaaa", sum := "4514e5d9d938269084ef92d23aaa5206b782438251c3ffd1f1ca0e9524b49445", func := "ford/fordlaw15.TransSteps", spec := "transSteps", unfollowed := true, recurses := true, apart := false, narrowed := true }
def TransStepsUptoSaid : Prop := transStepsUptoRow.holds Try.pinned (OpenSpec.upto transStepsSpec)

/-- 'fordlaw15.TransWaits', WHERE WHAT IT READS IS OF BULK AT MOST 1048576: true; the input reads as it did. -/
def transWaitsUptoRow : OpenClaim := { program := "ytdangeefecdbaaa", sum := "4514e5d9d938269084ef92d23aaa5206b782438251c3ffd1f1ca0e9524b49445", func := "ford/fordlaw15.TransWaits", spec := "transWaits", unfollowed := true, recurses := true, apart := false, narrowed := true }
def TransWaitsUptoSaid : Prop := transWaitsUptoRow.holds Try.pinned (OpenSpec.upto transWaitsSpec)

/-- 'fordlaw15.TransBlocks', WHERE WHAT IT READS IS OF BULK AT MOST 1048576: true; the input reads as it did. -/
def transBlocksUptoRow : OpenClaim := { program := "ytdangeefecdbaaa", sum := "4514e5d9d938269084ef92d23aaa5206b782438251c3ffd1f1ca0e9524b49445", func := "ford/fordlaw15.TransBlocks", spec := "transBlocks", unfollowed := true, recurses := true, apart := false, narrowed := true }
def TransBlocksUptoSaid : Prop := transBlocksUptoRow.holds Try.pinned (OpenSpec.upto transBlocksSpec)

/-- 'fordlaw15.TransEnds', WHERE WHAT IT READS IS OF BULK AT MOST 1048576: true; the input reads as it did. -/
def transEndsUptoRow : OpenClaim := { program := "ytdangeefecdbaaa", sum := "4514e5d9d938269084ef92d23aaa5206b782438251c3ffd1f1ca0e9524b49445", func := "ford/fordlaw15.TransEnds", spec := "transEnds", unfollowed := true, recurses := true, apart := false, narrowed := true }
def TransEndsUptoSaid : Prop := transEndsUptoRow.holds Try.pinned (OpenSpec.upto transEndsSpec)

/-- 'fordlaw15.TransAgrees', WHERE WHAT IT READS IS OF BULK AT MOST 1048576: true; the input reads as it did. -/
def transAgreesUptoRow : OpenClaim := { program := "ytdangeefecdbaaa", sum := "4514e5d9d938269084ef92d23aaa5206b782438251c3ffd1f1ca0e9524b49445", func := "ford/fordlaw15.TransAgrees", spec := "transAgrees", unfollowed := true, recurses := true, apart := false, narrowed := true }
def TransAgreesUptoSaid : Prop := transAgreesUptoRow.holds Try.pinned (OpenSpec.upto transAgreesSpec)

/-- 'fordlaw15.TransOpens', WHERE WHAT IT READS IS OF BULK AT MOST 1048576: true; the input reads as it did. -/
def transOpensUptoRow : OpenClaim := { program := "ytdangeefecdbaaa", sum := "4514e5d9d938269084ef92d23aaa5206b782438251c3ffd1f1ca0e9524b49445", func := "ford/fordlaw15.TransOpens", spec := "transOpens", unfollowed := true, recurses := true, apart := false, narrowed := true }
def TransOpensUptoSaid : Prop := transOpensUptoRow.holds Try.pinned (OpenSpec.upto transOpensSpec)

/-- 'fordlaw15.TransStops', WHERE WHAT IT READS IS OF BULK AT MOST 1048576: true; the input reads as it did. -/
def transStopsUptoRow : OpenClaim := { program := "ytdangeefecdbaaa", sum := "4514e5d9d938269084ef92d23aaa5206b782438251c3ffd1f1ca0e9524b49445", func := "ford/fordlaw15.TransStops", spec := "transStops", unfollowed := true, recurses := true, apart := false, narrowed := true }
def TransStopsUptoSaid : Prop := transStopsUptoRow.holds Try.pinned (OpenSpec.upto transStopsSpec)

end Rows
end Go.Proofs.Ytdangeefecdbaaa
