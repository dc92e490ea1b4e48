/-
  No cell of these rows narrows 'for every input' (looked for: loops, veiled, ifaces, maps, wideKeys, modest, calm, conditions, laid).
  DERIVED. THE GIVEN ROWS OF THIS SEAT. 5 by the template 'for every input the law returns true; each argument reads behind the call as it read before'; 0 by the template 'total and deterministic' (their statements: YtogoegddbjggiaaTotals.lean).
  GIVEN WITH THE SEED: the statements are not yours to turn. If you find one false, say at which input.
  Laid BY PROGRAM, IN A SANDBOX (cutbox-rows.mjs): the forced cells as the released guide's own fill.sh prints them over the translation c075399003438b25… (all of the seat's roots in one cut). By AI agents, Wed Nov 11 2026. No macro, syntax, notation, axiom, sorry.
-/
import Derived.Test.YtogoegddbjggiaaChecked
import GoSem.Claim
import GoSem.ClaimJoined
import GoSem.ClaimMapViews
import Derived.JoinedTies
import Derived.KernelRfl
namespace Go.Proofs.Ytogoegddbjggiaa
/- THE CELL 'sum', in the pinned program and in every row, IS THE sha256 OF THE DUMP (.gsa) THAT YtogoegddbjggiaaProg.lean LOADS. Nothing in Lean hashes anything: it is a label: what it is worth is what the hold of that sum in a sandbox is worth. -/
noncomputable def Try.pinned : Pinned := { name := "ytogoegddbjggiaa", sum := "c075399003438b257c8f11ddb56f65bae4190282f708639dbfbb6af96da6c7f0", checked := Try.checked }
namespace Rows
def none {H : Type} : Left H := { results := [], args := [] }

/-- 'fordlaw05.BpduEncodes': WHATEVER THE INPUT: true; the input reads as it did. -/
def bpduEncodesSpec : ChangeSpec := { name := "bpduEncodes", fn := fun _ => fun
  | [d] => { results := [.lit (.bool true)], args := [d] }
  | _ => none }
def bpduEncodesRow : OpenClaim := { program := "ytogoegddbjggiaa", sum := "c075399003438b257c8f11ddb56f65bae4190282f708639dbfbb6af96da6c7f0", func := "ford/fordlaw05.BpduEncodes", spec := "bpduEncodes", recurses := true, apart := false }
def BpduEncodesSaid : Prop := bpduEncodesRow.holds Try.pinned (OpenSpec.ofChange bpduEncodesSpec)

/-- ITS FALSE NEIGHBOUR: 'it returns false'. Refute it at one input. -/
def bpduEncodesWrong : ChangeSpec := { name := "bpduEncodes", fn := fun _ => fun
  | [d] => { results := [.lit (.bool false)], args := [d] }
  | _ => none }
def BpduEncodesWrongFalsely : Prop := bpduEncodesRow.holds Try.pinned (OpenSpec.ofChange bpduEncodesWrong)

/-- 'fordlaw05.BpduBack': WHATEVER THE INPUT: true; the input reads as it did. -/
def bpduBackSpec : ChangeSpec := { name := "bpduBack", fn := fun _ => fun
  | [d1, d2] => { results := [.lit (.bool true)], args := [d1, d2] }
  | _ => none }
def bpduBackRow : OpenClaim := { program := "ytogoegddbjggiaa", sum := "c075399003438b257c8f11ddb56f65bae4190282f708639dbfbb6af96da6c7f0", func := "ford/fordlaw05.BpduBack", spec := "bpduBack", apart := false }
def BpduBackSaid : Prop := bpduBackRow.holds Try.pinned (OpenSpec.ofChange bpduBackSpec)

/-- ITS FALSE NEIGHBOUR: 'it returns false'. Refute it at one input. -/
def bpduBackWrong : ChangeSpec := { name := "bpduBack", fn := fun _ => fun
  | [d1, d2] => { results := [.lit (.bool false)], args := [d1, d2] }
  | _ => none }
def BpduBackWrongFalsely : Prop := bpduBackRow.holds Try.pinned (OpenSpec.ofChange bpduBackWrong)

/-- 'fordlaw05.BpduCuts': WHATEVER THE INPUT: true; the input reads as it did. -/
def bpduCutsSpec : ChangeSpec := { name := "bpduCuts", fn := fun _ => fun
  | [d1, d2] => { results := [.lit (.bool true)], args := [d1, d2] }
  | _ => none }
def bpduCutsRow : OpenClaim := { program := "ytogoegddbjggiaa", sum := "c075399003438b257c8f11ddb56f65bae4190282f708639dbfbb6af96da6c7f0", func := "ford/fordlaw05.BpduCuts", spec := "bpduCuts", apart := false }
def BpduCutsSaid : Prop := bpduCutsRow.holds Try.pinned (OpenSpec.ofChange bpduCutsSpec)

/-- ITS FALSE NEIGHBOUR: 'it returns false'. Refute it at one input. -/
def bpduCutsWrong : ChangeSpec := { name := "bpduCuts", fn := fun _ => fun
  | [d1, d2] => { results := [.lit (.bool false)], args := [d1, d2] }
  | _ => none }
def BpduCutsWrongFalsely : Prop := bpduCutsRow.holds Try.pinned (OpenSpec.ofChange bpduCutsWrong)

/-- 'fordlaw05.BpduOne': WHATEVER THE INPUT: true; the input reads as it did. -/
def bpduOneSpec : ChangeSpec := { name := "bpduOne", fn := fun _ => fun
  | [d] => { results := [.lit (.bool true)], args := [d] }
  | _ => none }
def bpduOneRow : OpenClaim := { program := "ytogoegddbjggiaa", sum := "c075399003438b257c8f11ddb56f65bae4190282f708639dbfbb6af96da6c7f0", func := "ford/fordlaw05.BpduOne", spec := "bpduOne", apart := false }
def BpduOneSaid : Prop := bpduOneRow.holds Try.pinned (OpenSpec.ofChange bpduOneSpec)

/-- ITS FALSE NEIGHBOUR: 'it returns false'. Refute it at one input. -/
def bpduOneWrong : ChangeSpec := { name := "bpduOne", fn := fun _ => fun
  | [d] => { results := [.lit (.bool false)], args := [d] }
  | _ => none }
def BpduOneWrongFalsely : Prop := bpduOneRow.holds Try.pinned (OpenSpec.ofChange bpduOneWrong)

/-- 'fordlaw05.BpduKinds': WHATEVER THE INPUT: true; the input reads as it did. -/
def bpduKindsSpec : ChangeSpec := { name := "bpduKinds", fn := fun _ => fun
  | [d] => { results := [.lit (.bool true)], args := [d] }
  | _ => none }
def bpduKindsRow : OpenClaim := { program := "ytogoegddbjggiaa", sum := "c075399003438b257c8f11ddb56f65bae4190282f708639dbfbb6af96da6c7f0", func := "ford/fordlaw05.BpduKinds", spec := "bpduKinds", apart := false }
def BpduKindsSaid : Prop := bpduKindsRow.holds Try.pinned (OpenSpec.ofChange bpduKindsSpec)

/-- ITS FALSE NEIGHBOUR: 'it returns false'. Refute it at one input. -/
def bpduKindsWrong : ChangeSpec := { name := "bpduKinds", fn := fun _ => fun
  | [d] => { results := [.lit (.bool false)], args := [d] }
  | _ => none }
def BpduKindsWrongFalsely : Prop := bpduKindsRow.holds Try.pinned (OpenSpec.ofChange bpduKindsWrong)

/- THE SECOND FORM. 'bulk': how many values and letters a reading holds, each counted each time it is reached (what is shared counts as often as it is met; a slice's spare places count too). A statement '..UptoSaid' is the law's where the arguments, and the package variables that the reading takes, are together of bulk at most 1048576: NARROWER than '..Said'. Prove '..Said' where nothing that the law and all that it calls make is longer than what came in: it says more and counts as full. Else prove '..UptoSaid'. A law counts once. -/
mutual
def uptoBulk {H : Type} : DataW H → Nat
  | .lit (.string bytes) => bytes.length + 1
  | .lit _ => 1
  | .nil => 1
  | .ptr d => uptoBulk d + 1
  | .slice elems spare => uptoBulkAll elems + uptoBulkAll spare + 1
  | .agg parts => uptoBulkAll parts + 1
  | .iface _ d => uptoBulk d + 1
  | .map entries => uptoBulkEntries entries + 1
  | .held _ => 1
def uptoBulkAll {H : Type} : List (DataW H) → Nat
  | [] => 0
  | d :: r => uptoBulk d + uptoBulkAll r
def uptoBulkEntries {H : Type} : List (Lit × DataW H) → Nat
  | [] => 0
  | x :: r => uptoBulkEntry x + uptoBulkEntries r
def uptoBulkEntry {H : Type} : Lit × DataW H → Nat
  | (.string bytes, d) => bytes.length + uptoBulk d + 1
  | (_, d) => uptoBulk d + 1
 end
def uptoSmall : (H : Type) → List (DataW H) → Bool := fun _ ds => decide (uptoBulkAll ds ≤ 1048576)
def OpenSpec.upto (s : _root_.Go.ChangeSpec) : _root_.Go.OpenSpec := { _root_.Go.OpenSpec.ofChange s with cond := some uptoSmall }

/-- 'fordlaw05.BpduEncodes', WHERE WHAT IT READS IS OF BULK AT MOST 1048576: true; the input reads as it did. -/
def bpduEncodesUptoRow : OpenClaim := { program := "ytogoegddbjggiaa", sum := "c075399003438b257c8f11ddb56f65bae4190282f708639dbfbb6af96da6c7f0", func := "ford/fordlaw05.BpduEncodes", spec := "bpduEncodes", recurses := true, apart := false, narrowed := true }
def BpduEncodesUptoSaid : Prop := bpduEncodesUptoRow.holds Try.pinned (OpenSpec.upto bpduEncodesSpec)

/-- 'fordlaw05.BpduBack', WHERE WHAT IT READS IS OF BULK AT MOST 1048576: true; the input reads as it did. -/
def bpduBackUptoRow : OpenClaim := { program := "ytogoegddbjggiaa", sum := "c075399003438b257c8f11ddb56f65bae4190282f708639dbfbb6af96da6c7f0", func := "ford/fordlaw05.BpduBack", spec := "bpduBack", apart := false, narrowed := true }
def BpduBackUptoSaid : Prop := bpduBackUptoRow.holds Try.pinned (OpenSpec.upto bpduBackSpec)

/-- 'fordlaw05.BpduCuts', WHERE WHAT IT READS IS OF BULK AT MOST 1048576: true; the input reads as it did. -/
def bpduCutsUptoRow : OpenClaim := { program := "ytogoegddbjggiaa", sum := "c075399003438b257c8f11ddb56f65bae4190282f708639dbfbb6af96da6c7f0", func := "ford/fordlaw05.BpduCuts", spec := "bpduCuts", apart := false, narrowed := true }
def BpduCutsUptoSaid : Prop := bpduCutsUptoRow.holds Try.pinned (OpenSpec.upto bpduCutsSpec)

/-- 'fordlaw05.BpduOne', WHERE WHAT IT READS IS OF BULK AT MOST 1048576: true; the input reads as it did. -/
def bpduOneUptoRow : OpenClaim := { program := "ytogoegddbjggiaa", sum := "c075399003438b257c8f11ddb56f65bae4190282f708639dbfbb6af96da6c7f0", func := "ford/fordlaw05.BpduOne", spec := "bpduOne", apart := false, narrowed := true }
def BpduOneUptoSaid : Prop := bpduOneUptoRow.holds Try.pinned (OpenSpec.upto bpduOneSpec)

/-- 'fordlaw05.BpduKinds', WHERE WHAT IT READS IS OF BULK AT MOST 1048576: true; the input reads as it did. -/
def bpduKindsUptoRow : OpenClaim := { program := "ytogoegddbjggiaa", sum := "c075399003438b257c8f11ddb56f65bae4190282f708639dbfbb6af96da6c7f0", func := "ford/fordlaw05.BpduKinds", spec := "bpduKinds", apart := false, narrowed := true }
def BpduKindsUptoSaid : Prop := bpduKindsUptoRow.holds Try.pinned (OpenSpec.upto bpduKindsSpec)

end Rows
end Go.Proofs.Ytogoegddbjggiaa
