/-
  No cell of these rows narrows 'for every input' (looked for: loops, veiled, ifaces, maps, wideKeys, modest, calm, conditions, laid).
  DERIVED. THE GIVEN ROWS OF THIS SEAT. 3 by the template 'for every input the law returns true; each argument reads behind the call as it read before'; 0 by the template 'total and deterministic' (their statements: YtdocomenngmccaaTotals.lean).
  GIVEN WITH THE SEED: the statements are not yours to turn. If you find one false, say at which input.
  Laid BY PROGRAM, IN A SANDBOX (cutbox-rows.mjs): the forced cells as the released guide's own fill.sh prints them over the translation bb62b36c5d825801… (all of the seat's roots in one cut). By AI agents, Wed Nov 11 2026. No macro, syntax, notation, axiom, sorry.
-/
import Derived.Test.YtdocomenngmccaaChecked
import GoSem.Claim
import GoSem.ClaimJoined
import GoSem.ClaimMapViews
import Derived.JoinedTies
import Derived.KernelRfl
namespace Go.Proofs.Ytdocomenngmccaa
/- THE CELL 'sum', in the pinned program and in every row, IS THE sha256 OF THE DUMP (.gsa) THAT YtdocomenngmccaaProg.lean LOADS. Nothing in Lean hashes anything: it is a label: what it is worth is what the hold of that sum in a sandbox is worth. -/
noncomputable def Try.pinned : Pinned := { name := "ytdocomenngmccaa", sum := "bb62b36c5d8258019464f09f1875c3b2fa27d26e1011efd3c52846ca8312c208", checked := Try.checked }
namespace Rows
def none {H : Type} : Left H := { results := [], args := [] }

/-- 'fordlaw09.RxTakes': WHATEVER THE INPUT: true; the input reads as it did. -/
def rxTakesSpec : ChangeSpec := { name := "rxTakes", fn := fun _ => fun
  | [d1, d2, d3] => { results := [.lit (.bool true)], args := [d1, d2, d3] }
  | _ => none }
def rxTakesRow : OpenClaim := { program := "ytdocomenngmccaa", sum := "bb62b36c5d8258019464f09f1875c3b2fa27d26e1011efd3c52846ca8312c208", func := "ford/fordlaw09.RxTakes", spec := "rxTakes", unfollowed := true, recurses := true, apart := false }
def RxTakesSaid : Prop := rxTakesRow.holds Try.pinned (OpenSpec.ofChange rxTakesSpec)

/-- ITS FALSE NEIGHBOUR: 'it returns false'. Refute it at one input. -/
def rxTakesWrong : ChangeSpec := { name := "rxTakes", fn := fun _ => fun
  | [d1, d2, d3] => { results := [.lit (.bool false)], args := [d1, d2, d3] }
  | _ => none }
def RxTakesWrongFalsely : Prop := rxTakesRow.holds Try.pinned (OpenSpec.ofChange rxTakesWrong)

/-- 'fordlaw09.RxEnds': WHATEVER THE INPUT: true; the input reads as it did. -/
def rxEndsSpec : ChangeSpec := { name := "rxEnds", fn := fun _ => fun
  | [d1, d2] => { results := [.lit (.bool true)], args := [d1, d2] }
  | _ => none }
def rxEndsRow : OpenClaim := { program := "ytdocomenngmccaa", sum := "bb62b36c5d8258019464f09f1875c3b2fa27d26e1011efd3c52846ca8312c208", func := "ford/fordlaw09.RxEnds", spec := "rxEnds", unfollowed := true, recurses := true, apart := false }
def RxEndsSaid : Prop := rxEndsRow.holds Try.pinned (OpenSpec.ofChange rxEndsSpec)

/-- ITS FALSE NEIGHBOUR: 'it returns false'. Refute it at one input. -/
def rxEndsWrong : ChangeSpec := { name := "rxEnds", fn := fun _ => fun
  | [d1, d2] => { results := [.lit (.bool false)], args := [d1, d2] }
  | _ => none }
def RxEndsWrongFalsely : Prop := rxEndsRow.holds Try.pinned (OpenSpec.ofChange rxEndsWrong)

/-- 'fordlaw09.RxWaits': WHATEVER THE INPUT: true; the input reads as it did. -/
def rxWaitsSpec : ChangeSpec := { name := "rxWaits", fn := fun _ => fun
  | [d1, d2] => { results := [.lit (.bool true)], args := [d1, d2] }
  | _ => none }
def rxWaitsRow : OpenClaim := { program := "ytdocomenngmccaa", sum := "bb62b36c5d8258019464f09f1875c3b2fa27d26e1011efd3c52846ca8312c208", func := "ford/fordlaw09.RxWaits", spec := "rxWaits", unfollowed := true, recurses := true, apart := false }
def RxWaitsSaid : Prop := rxWaitsRow.holds Try.pinned (OpenSpec.ofChange rxWaitsSpec)

/-- ITS FALSE NEIGHBOUR: 'it returns false'. Refute it at one input. -/
def rxWaitsWrong : ChangeSpec := { name := "rxWaits", fn := fun _ => fun
  | [d1, d2] => { results := [.lit (.bool false)], args := [d1, d2] }
  | _ => none }
def RxWaitsWrongFalsely : Prop := rxWaitsRow.holds Try.pinned (OpenSpec.ofChange rxWaitsWrong)

/- THE SECOND FORM. 'bulk': how many values and letters a reading holds, each counted each time it is reached (what is shared counts as often as it is met; a slice's spare places count too). A statement '..UptoSaid' is the law's where the arguments, and the package variables that the reading takes, are together of bulk at most 1048576: NARROWER than '..Said'. Prove '..Said' where nothing that the law and all that it calls make is longer than what came in: it says more and counts as full. Else prove '..UptoSaid'. A law counts once. -/
mutual
def uptoBulk {H : Type} : DataW H → Nat
  | .lit (.string bytes) => bytes.length + 1
  | .lit _ => 1
  | .nil => 1
  | .ptr d => uptoBulk d + 1
  | .slice elems spare => uptoBulkAll elems + uptoBulkAll spare + 1
  | .agg parts => uptoBulkAll parts + 1
  | .iface _ d => uptoBulk d + 1
  | .map entries => uptoBulkEntries entries + 1
  | .held _ => 1
def uptoBulkAll {H : Type} : List (DataW H) → Nat
  | [] => 0
  | d :: r => uptoBulk d + uptoBulkAll r
def uptoBulkEntries {H : Type} : List (Lit × DataW H) → Nat
  | [] => 0
  | x :: r => uptoBulkEntry x + uptoBulkEntries r
def uptoBulkEntry {H : Type} : Lit × DataW H → Nat
  | (.string bytes, d) => bytes.length + uptoBulk d + 1
  | (_, d) => uptoBulk d + 1
 end
def uptoSmall : (H : Type) → List (DataW H) → Bool := fun _ ds => decide (uptoBulkAll ds ≤ 1048576)
def OpenSpec.upto (s : _root_.Go.ChangeSpec) : _root_.Go.OpenSpec := { _root_.Go.OpenSpec.ofChange s with cond := some uptoSmall }

/-- 'fordlaw09.RxTakes', WHERE WHAT IT READS IS OF BULK AT MOST 1048576: true; the input reads as it did. -/
def rxTakesUptoRow : OpenClaim := { program := "ytdocomenngmccaa", sum := "bb62b36c5d8258019464f09f1875c3b2fa27d26e1011efd3c52846ca8312c208", func := "ford/fordlaw09.RxTakes", spec := "rxTakes", unfollowed := true, recurses := true, apart := false, narrowed := true }
def RxTakesUptoSaid : Prop := rxTakesUptoRow.holds Try.pinned (OpenSpec.upto rxTakesSpec)

/-- 'fordlaw09.RxEnds', WHERE WHAT IT READS IS OF BULK AT MOST 1048576: true; the input reads as it did. -/
def rxEndsUptoRow : OpenClaim := { program := "ytdocomenngmccaa", sum := "bb62b36c5d8258019464f09f1875c3b2fa27d26e1011efd3c52846ca8312c208", func := "ford/fordlaw09.RxEnds", spec := "rxEnds", unfollowed := true, recurses := true, apart := false, narrowed := true }
def RxEndsUptoSaid : Prop := rxEndsUptoRow.holds Try.pinned (OpenSpec.upto rxEndsSpec)

/-- 'fordlaw09.RxWaits', WHERE WHAT IT READS IS OF BULK AT MOST 1048576: true; the input reads as it did. -/
def rxWaitsUptoRow : OpenClaim := { program := "ytdocomenngmccaa", sum := "bb62b36c5d8258019464f09f1875c3b2fa27d26e1011efd3c52846ca8312c208", func := "ford/fordlaw09.RxWaits", spec := "rxWaits", unfollowed := true, recurses := true, apart := false, narrowed := true }
def RxWaitsUptoSaid : Prop := rxWaitsUptoRow.holds Try.pinned (OpenSpec.upto rxWaitsSpec)

end Rows
end Go.Proofs.Ytdocomenngmccaa
