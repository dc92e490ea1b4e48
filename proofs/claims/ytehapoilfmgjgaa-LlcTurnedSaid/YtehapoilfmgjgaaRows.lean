/-
  No cell of these rows narrows 'for every input' (looked for: loops, veiled, ifaces, maps, wideKeys, modest, calm, conditions, laid).
  DERIVED. THE GIVEN ROWS OF THIS SEAT. 4 by the template 'for every input the law returns true; each argument reads behind the call as it read before'; 0 by the template 'total and deterministic' (their statements: YtehapoilfmgjgaaTotals.lean).
  GIVEN WITH THE SEED: the statements are not yours to turn. If you find one false, say at which input.
  Laid BY PROGRAM, IN A SANDBOX (cutbox-rows.mjs): the forced cells as the released guide's own fill.sh prints them over the translation 15094142e161d2c5… (all of the seat's roots in one cut). By AI agents, Wed Nov 11 2026. No macro, syntax, notation, axiom, sorry.
-/
import Derived.Test.YtehapoilfmgjgaaChecked
import GoSem.Claim
import GoSem.ClaimJoined
import GoSem.ClaimMapViews
import Derived.JoinedTies
import Derived.KernelRfl
namespace Go.Proofs.Ytehapoilfmgjgaa
/- THE CELL 'sum', in the pinned program and in every row, IS THE sha256 OF THE DUMP (.gsa) THAT YtehapoilfmgjgaaProg.lean LOADS. Nothing in Lean hashes anything: it is a label: what it is worth is what the hold of that sum in a sandbox is worth. -/
noncomputable def Try.pinned : Pinned := { name := "ytehapoilfmgjgaa", sum := "15094142e161d2c55c05b28251e294aad84ba8cd15d74f3da1ea8a0a816328fc", checked := Try.checked }
namespace Rows
def none {H : Type} : Left H := { results := [], args := [] }

/-- 'fordlaw06.LlcWraps': WHATEVER THE INPUT: true; the input reads as it did. -/
def llcWrapsSpec : ChangeSpec := { name := "llcWraps", fn := fun _ => fun
  | [d1, d2] => { results := [.lit (.bool true)], args := [d1, d2] }
  | _ => none }
def llcWrapsRow : OpenClaim := { program := "ytehapoilfmgjgaa", sum := "15094142e161d2c55c05b28251e294aad84ba8cd15d74f3da1ea8a0a816328fc", func := "ford/fordlaw06.LlcWraps", spec := "llcWraps", recurses := true, apart := false }
def LlcWrapsSaid : Prop := llcWrapsRow.holds Try.pinned (OpenSpec.ofChange llcWrapsSpec)

/-- ITS FALSE NEIGHBOUR: 'it returns false'. Refute it at one input. -/
def llcWrapsWrong : ChangeSpec := { name := "llcWraps", fn := fun _ => fun
  | [d1, d2] => { results := [.lit (.bool false)], args := [d1, d2] }
  | _ => none }
def LlcWrapsWrongFalsely : Prop := llcWrapsRow.holds Try.pinned (OpenSpec.ofChange llcWrapsWrong)

/-- 'fordlaw06.LlcTurned': WHATEVER THE INPUT: true; the input reads as it did. -/
def llcTurnedSpec : ChangeSpec := { name := "llcTurned", fn := fun _ => fun
  | [d1, d2, d3, d4, d5] => { results := [.lit (.bool true)], args := [d1, d2, d3, d4, d5] }
  | _ => none }
def llcTurnedRow : OpenClaim := { program := "ytehapoilfmgjgaa", sum := "15094142e161d2c55c05b28251e294aad84ba8cd15d74f3da1ea8a0a816328fc", func := "ford/fordlaw06.LlcTurned", spec := "llcTurned", apart := false }
def LlcTurnedSaid : Prop := llcTurnedRow.holds Try.pinned (OpenSpec.ofChange llcTurnedSpec)

/-- ITS FALSE NEIGHBOUR: 'it returns false'. Refute it at one input. -/
def llcTurnedWrong : ChangeSpec := { name := "llcTurned", fn := fun _ => fun
  | [d1, d2, d3, d4, d5] => { results := [.lit (.bool false)], args := [d1, d2, d3, d4, d5] }
  | _ => none }
def LlcTurnedWrongFalsely : Prop := llcTurnedRow.holds Try.pinned (OpenSpec.ofChange llcTurnedWrong)

/-- 'fordlaw06.LlcSizes': WHATEVER THE INPUT: true; the input reads as it did. -/
def llcSizesSpec : ChangeSpec := { name := "llcSizes", fn := fun _ => fun
  | [d1, d2, d3] => { results := [.lit (.bool true)], args := [d1, d2, d3] }
  | _ => none }
def llcSizesRow : OpenClaim := { program := "ytehapoilfmgjgaa", sum := "15094142e161d2c55c05b28251e294aad84ba8cd15d74f3da1ea8a0a816328fc", func := "ford/fordlaw06.LlcSizes", spec := "llcSizes", apart := false }
def LlcSizesSaid : Prop := llcSizesRow.holds Try.pinned (OpenSpec.ofChange llcSizesSpec)

/-- ITS FALSE NEIGHBOUR: 'it returns false'. Refute it at one input. -/
def llcSizesWrong : ChangeSpec := { name := "llcSizes", fn := fun _ => fun
  | [d1, d2, d3] => { results := [.lit (.bool false)], args := [d1, d2, d3] }
  | _ => none }
def LlcSizesWrongFalsely : Prop := llcSizesRow.holds Try.pinned (OpenSpec.ofChange llcSizesWrong)

/-- 'fordlaw06.LlcBack': WHATEVER THE INPUT: true; the input reads as it did. -/
def llcBackSpec : ChangeSpec := { name := "llcBack", fn := fun _ => fun
  | [d1, d2, d3] => { results := [.lit (.bool true)], args := [d1, d2, d3] }
  | _ => none }
def llcBackRow : OpenClaim := { program := "ytehapoilfmgjgaa", sum := "15094142e161d2c55c05b28251e294aad84ba8cd15d74f3da1ea8a0a816328fc", func := "ford/fordlaw06.LlcBack", spec := "llcBack", apart := false }
def LlcBackSaid : Prop := llcBackRow.holds Try.pinned (OpenSpec.ofChange llcBackSpec)

/-- ITS FALSE NEIGHBOUR: 'it returns false'. Refute it at one input. -/
def llcBackWrong : ChangeSpec := { name := "llcBack", fn := fun _ => fun
  | [d1, d2, d3] => { results := [.lit (.bool false)], args := [d1, d2, d3] }
  | _ => none }
def LlcBackWrongFalsely : Prop := llcBackRow.holds Try.pinned (OpenSpec.ofChange llcBackWrong)

/- THE SECOND FORM. 'bulk': how many values and letters a reading holds, each counted each time it is reached (what is shared counts as often as it is met; a slice's spare places count too). A statement '..UptoSaid' is the law's where the arguments, and the package variables that the reading takes, are together of bulk at most 1048576: NARROWER than '..Said'. Prove '..Said' where nothing that the law and all that it calls make is longer than what came in: it says more and counts as full. Else prove '..UptoSaid'. A law counts once. -/
mutual
def uptoBulk {H : Type} : DataW H → Nat
  | .lit (.string bytes) => bytes.length + 1
  | .lit _ => 1
  | .nil => 1
  | .ptr d => uptoBulk d + 1
  | .slice elems spare => uptoBulkAll elems + uptoBulkAll spare + 1
  | .agg parts => uptoBulkAll parts + 1
  | .iface _ d => uptoBulk d + 1
  | .map entries => uptoBulkEntries entries + 1
  | .held _ => 1
def uptoBulkAll {H : Type} : List (DataW H) → Nat
  | [] => 0
  | d :: r => uptoBulk d + uptoBulkAll r
def uptoBulkEntries {H : Type} : List (Lit × DataW H) → Nat
  | [] => 0
  | x :: r => uptoBulkEntry x + uptoBulkEntries r
def uptoBulkEntry {H : Type} : Lit × DataW H → Nat
  | (.string bytes, d) => bytes.length + uptoBulk d + 1
  | (_, d) => uptoBulk d + 1
 end
def uptoSmall : (H : Type) → List (DataW H) → Bool := fun _ ds => decide (uptoBulkAll ds ≤ 1048576)
def OpenSpec.upto (s : _root_.Go.ChangeSpec) : _root_.Go.OpenSpec := { _root_.Go.OpenSpec.ofChange s with cond := some uptoSmall }

/-- 'fordlaw06.LlcWraps', WHERE WHAT IT READS IS OF BULK AT MOST 1048576: true; the input reads as it did. -/
def llcWrapsUptoRow : OpenClaim := { program := "ytehapoilfmgjgaa", sum := "15094142e161d2c55c05b28251e294aad84ba8cd15d74f3da1ea8a0a816328fc", func := "ford/fordlaw06.LlcWraps", spec := "llcWraps", recurses := true, apart := false, narrowed := true }
def LlcWrapsUptoSaid : Prop := llcWrapsUptoRow.holds Try.pinned (OpenSpec.upto llcWrapsSpec)

/-- 'fordlaw06.LlcTurned', WHERE WHAT IT READS IS OF BULK AT MOST 1048576: true; the input reads as it did. -/
def llcTurnedUptoRow : OpenClaim := { program := "ytehapoilfmgjgaa", sum := "15094142e161d2c55c05b28251e294aad84ba8cd15d74f3da1ea8a0a816328fc", func := "ford/fordlaw06.LlcTurned", spec := "llcTurned", apart := false, narrowed := true }
def LlcTurnedUptoSaid : Prop := llcTurnedUptoRow.holds Try.pinned (OpenSpec.upto llcTurnedSpec)

/-- 'fordlaw06.LlcSizes', WHERE WHAT IT READS IS OF BULK AT MOST 1048576: true; the input reads as it did. -/
def llcSizesUptoRow : OpenClaim := { program := "ytehapoilfmgjgaa", sum := "15094142e161d2c55c05b28251e294aad84ba8cd15d74f3da1ea8a0a816328fc", func := "ford/fordlaw06.LlcSizes", spec := "llcSizes", apart := false, narrowed := true }
def LlcSizesUptoSaid : Prop := llcSizesUptoRow.holds Try.pinned (OpenSpec.upto llcSizesSpec)

/-- 'fordlaw06.LlcBack', WHERE WHAT IT READS IS OF BULK AT MOST 1048576: true; the input reads as it did. -/
def llcBackUptoRow : OpenClaim := { program := "ytehapoilfmgjgaa", sum := "15094142e161d2c55c05b28251e294aad84ba8cd15d74f3da1ea8a0a816328fc", func := "ford/fordlaw06.LlcBack", spec := "llcBack", apart := false, narrowed := true }
def LlcBackUptoSaid : Prop := llcBackUptoRow.holds Try.pinned (OpenSpec.upto llcBackSpec)

end Rows
end Go.Proofs.Ytehapoilfmgjgaa
