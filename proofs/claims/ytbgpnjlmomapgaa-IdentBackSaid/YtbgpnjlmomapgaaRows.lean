/-
  No cell of these rows narrows 'for every input' (looked for: loops, veiled, ifaces, maps, wideKeys, modest, calm, conditions, laid).
  DERIVED. THE GIVEN ROWS OF THIS SEAT. 5 by the template 'for every input the law returns true; each argument reads behind the call as it read before'; 0 by the template 'total and deterministic' (their statements: YtbgpnjlmomapgaaTotals.lean).
  GIVEN WITH THE SEED: the statements are not yours to turn. If you find one false, say at which input.
  Laid BY PROGRAM, IN A SANDBOX (cutbox-rows.mjs): the forced cells as the released guide's own fill.sh prints them over the translation df7162cb116d4544… (all of the seat's roots in one cut). By AI agents, Wed Nov 11 2026. No macro, syntax, notation, axiom, sorry.
-/
import Derived.Test.YtbgpnjlmomapgaaChecked
import GoSem.Claim
import GoSem.ClaimJoined
import GoSem.ClaimMapViews
import Derived.JoinedTies
import Derived.KernelRfl
namespace Go.Proofs.Ytbgpnjlmomapgaa
/- THE CELL 'sum', in the pinned program and in every row, IS THE sha256 OF THE DUMP (.gsa) THAT YtbgpnjlmomapgaaProg.lean LOADS. Nothing in Lean hashes anything: it is a label: what it is worth is what the hold of that sum in a sandbox is worth. -/
noncomputable def Try.pinned : Pinned := { name := "ytbgpnjlmomapgaa", sum := "df7162cb116d45441255ff4fee6d72fbde7cca54331e3184e9e0e7394a557dc3", checked := Try.checked }
namespace Rows
def none {H : Type} : Left H := { results := [], args := [] }

/-- 'fordlaw02.IdentOrder': WHATEVER THE INPUT: true; the input reads as it did. -/
def identOrderSpec : ChangeSpec := { name := "identOrder", fn := fun _ => fun
  | [d1, d2, d3, d4] => { results := [.lit (.bool true)], args := [d1, d2, d3, d4] }
  | _ => none }
def identOrderRow : OpenClaim := { program := "ytbgpnjlmomapgaa", sum := "df7162cb116d45441255ff4fee6d72fbde7cca54331e3184e9e0e7394a557dc3", func := "ford/fordlaw02.IdentOrder", spec := "identOrder", apart := false }
def IdentOrderSaid : Prop := identOrderRow.holds Try.pinned (OpenSpec.ofChange identOrderSpec)

/-- ITS FALSE NEIGHBOUR: 'it returns false'. Refute it at one input. -/
def identOrderWrong : ChangeSpec := { name := "identOrder", fn := fun _ => fun
  | [d1, d2, d3, d4] => { results := [.lit (.bool false)], args := [d1, d2, d3, d4] }
  | _ => none }
def IdentOrderWrongFalsely : Prop := identOrderRow.holds Try.pinned (OpenSpec.ofChange identOrderWrong)

/-- 'fordlaw02.IdentPorts': WHATEVER THE INPUT: true; the input reads as it did. -/
def identPortsSpec : ChangeSpec := { name := "identPorts", fn := fun _ => fun
  | [d1, d2, d3, d4] => { results := [.lit (.bool true)], args := [d1, d2, d3, d4] }
  | _ => none }
def identPortsRow : OpenClaim := { program := "ytbgpnjlmomapgaa", sum := "df7162cb116d45441255ff4fee6d72fbde7cca54331e3184e9e0e7394a557dc3", func := "ford/fordlaw02.IdentPorts", spec := "identPorts", apart := false }
def IdentPortsSaid : Prop := identPortsRow.holds Try.pinned (OpenSpec.ofChange identPortsSpec)

/-- ITS FALSE NEIGHBOUR: 'it returns false'. Refute it at one input. -/
def identPortsWrong : ChangeSpec := { name := "identPorts", fn := fun _ => fun
  | [d1, d2, d3, d4] => { results := [.lit (.bool false)], args := [d1, d2, d3, d4] }
  | _ => none }
def IdentPortsWrongFalsely : Prop := identPortsRow.holds Try.pinned (OpenSpec.ofChange identPortsWrong)

/-- 'fordlaw02.IdentUnlike': WHATEVER THE INPUT: true; the input reads as it did. -/
def identUnlikeSpec : ChangeSpec := { name := "identUnlike", fn := fun _ => fun
  | [d1, d2, d3, d4, d5, d6, d7, d8] => { results := [.lit (.bool true)], args := [d1, d2, d3, d4, d5, d6, d7, d8] }
  | _ => none }
def identUnlikeRow : OpenClaim := { program := "ytbgpnjlmomapgaa", sum := "df7162cb116d45441255ff4fee6d72fbde7cca54331e3184e9e0e7394a557dc3", func := "ford/fordlaw02.IdentUnlike", spec := "identUnlike", apart := false }
def IdentUnlikeSaid : Prop := identUnlikeRow.holds Try.pinned (OpenSpec.ofChange identUnlikeSpec)

/-- ITS FALSE NEIGHBOUR: 'it returns false'. Refute it at one input. -/
def identUnlikeWrong : ChangeSpec := { name := "identUnlike", fn := fun _ => fun
  | [d1, d2, d3, d4, d5, d6, d7, d8] => { results := [.lit (.bool false)], args := [d1, d2, d3, d4, d5, d6, d7, d8] }
  | _ => none }
def IdentUnlikeWrongFalsely : Prop := identUnlikeRow.holds Try.pinned (OpenSpec.ofChange identUnlikeWrong)

/-- 'fordlaw02.IdentTells': WHATEVER THE INPUT: true; the input reads as it did. -/
def identTellsSpec : ChangeSpec := { name := "identTells", fn := fun _ => fun
  | [d1, d2, d3, d4] => { results := [.lit (.bool true)], args := [d1, d2, d3, d4] }
  | _ => none }
def identTellsRow : OpenClaim := { program := "ytbgpnjlmomapgaa", sum := "df7162cb116d45441255ff4fee6d72fbde7cca54331e3184e9e0e7394a557dc3", func := "ford/fordlaw02.IdentTells", spec := "identTells", apart := false }
def IdentTellsSaid : Prop := identTellsRow.holds Try.pinned (OpenSpec.ofChange identTellsSpec)

/-- ITS FALSE NEIGHBOUR: 'it returns false'. Refute it at one input. -/
def identTellsWrong : ChangeSpec := { name := "identTells", fn := fun _ => fun
  | [d1, d2, d3, d4] => { results := [.lit (.bool false)], args := [d1, d2, d3, d4] }
  | _ => none }
def IdentTellsWrongFalsely : Prop := identTellsRow.holds Try.pinned (OpenSpec.ofChange identTellsWrong)

/-- 'fordlaw02.IdentBack': WHATEVER THE INPUT: true; the input reads as it did. -/
def identBackSpec : ChangeSpec := { name := "identBack", fn := fun _ => fun
  | [d1, d2, d3, d4] => { results := [.lit (.bool true)], args := [d1, d2, d3, d4] }
  | _ => none }
def identBackRow : OpenClaim := { program := "ytbgpnjlmomapgaa", sum := "df7162cb116d45441255ff4fee6d72fbde7cca54331e3184e9e0e7394a557dc3", func := "ford/fordlaw02.IdentBack", spec := "identBack", apart := false }
def IdentBackSaid : Prop := identBackRow.holds Try.pinned (OpenSpec.ofChange identBackSpec)

/-- ITS FALSE NEIGHBOUR: 'it returns false'. Refute it at one input. -/
def identBackWrong : ChangeSpec := { name := "identBack", fn := fun _ => fun
  | [d1, d2, d3, d4] => { results := [.lit (.bool false)], args := [d1, d2, d3, d4] }
  | _ => none }
def IdentBackWrongFalsely : Prop := identBackRow.holds Try.pinned (OpenSpec.ofChange identBackWrong)

/- THE SECOND FORM. 'bulk': how many values and letters a reading holds, each counted each time it is reached (what is shared counts as often as it is met; a slice's spare places count too). A statement '..UptoSaid' is the law's where the arguments, and the package variables that the reading takes, are together of bulk at most 1048576: NARROWER than '..Said'. Prove '..Said' where nothing that the law and all that it calls make is longer than what came in: it says more and counts as full. Else prove '..UptoSaid'. A law counts once. -/
mutual
def uptoBulk {H : Type} : DataW H → Nat
  | .lit (.string bytes) => bytes.length + 1
  | .lit _ => 1
  | .nil => 1
  | .ptr d => uptoBulk d + 1
  | .slice elems spare => uptoBulkAll elems + uptoBulkAll spare + 1
  | .agg parts => uptoBulkAll parts + 1
  | .iface _ d => uptoBulk d + 1
  | .map entries => uptoBulkEntries entries + 1
  | .held _ => 1
def uptoBulkAll {H : Type} : List (DataW H) → Nat
  | [] => 0
  | d :: r => uptoBulk d + uptoBulkAll r
def uptoBulkEntries {H : Type} : List (Lit × DataW H) → Nat
  | [] => 0
  | x :: r => uptoBulkEntry x + uptoBulkEntries r
def uptoBulkEntry {H : Type} : Lit × DataW H → Nat
  | (.string bytes, d) => bytes.length + uptoBulk d + 1
  | (_, d) => uptoBulk d + 1
 end
def uptoSmall : (H : Type) → List (DataW H) → Bool := fun _ ds => decide (uptoBulkAll ds ≤ 1048576)
def OpenSpec.upto (s : _root_.Go.ChangeSpec) : _root_.Go.OpenSpec := { _root_.Go.OpenSpec.ofChange s with cond := some uptoSmall }

/-- 'fordlaw02.IdentOrder', WHERE WHAT IT READS IS OF BULK AT MOST 1048576: true; the input reads as it did. -/
def identOrderUptoRow : OpenClaim := { program := "ytbgpnjlmomapgaa", sum := "df7162cb116d45441255ff4fee6d72fbde7cca54331e3184e9e0e7394a557dc3", func := "ford/fordlaw02.IdentOrder", spec := "identOrder", apart := false, narrowed := true }
def IdentOrderUptoSaid : Prop := identOrderUptoRow.holds Try.pinned (OpenSpec.upto identOrderSpec)

/-- 'fordlaw02.IdentPorts', WHERE WHAT IT READS IS OF BULK AT MOST 1048576: true; the input reads as it did. -/
def identPortsUptoRow : OpenClaim := { program := "ytbgpnjlmomapgaa", sum := "df7162cb116d45441255ff4fee6d72fbde7cca54331e3184e9e0e7394a557dc3", func := "ford/fordlaw02.IdentPorts", spec := "identPorts", apart := false, narrowed := true }
def IdentPortsUptoSaid : Prop := identPortsUptoRow.holds Try.pinned (OpenSpec.upto identPortsSpec)

/-- 'fordlaw02.IdentUnlike', WHERE WHAT IT READS IS OF BULK AT MOST 1048576: true; the input reads as it did. -/
def identUnlikeUptoRow : OpenClaim := { program := "ytbgpnjlmomapgaa", sum := "df7162cb116d45441255ff4fee6d72fbde7cca54331e3184e9e0e7394a557dc3", func := "ford/fordlaw02.IdentUnlike", spec := "identUnlike", apart := false, narrowed := true }
def IdentUnlikeUptoSaid : Prop := identUnlikeUptoRow.holds Try.pinned (OpenSpec.upto identUnlikeSpec)

/-- 'fordlaw02.IdentTells', WHERE WHAT IT READS IS OF BULK AT MOST 1048576: true; the input reads as it did. -/
def identTellsUptoRow : OpenClaim := { program := "ytbgpnjlmomapgaa", sum := "df7162cb116d45441255ff4fee6d72fbde7cca54331e3184e9e0e7394a557dc3", func := "ford/fordlaw02.IdentTells", spec := "identTells", apart := false, narrowed := true }
def IdentTellsUptoSaid : Prop := identTellsUptoRow.holds Try.pinned (OpenSpec.upto identTellsSpec)

/-- 'fordlaw02.IdentBack', WHERE WHAT IT READS IS OF BULK AT MOST 1048576: true; the input reads as it did. -/
def identBackUptoRow : OpenClaim := { program := "ytbgpnjlmomapgaa", sum := "df7162cb116d45441255ff4fee6d72fbde7cca54331e3184e9e0e7394a557dc3", func := "ford/fordlaw02.IdentBack", spec := "identBack", apart := false, narrowed := true }
def IdentBackUptoSaid : Prop := identBackUptoRow.holds Try.pinned (OpenSpec.upto identBackSpec)

end Rows
end Go.Proofs.Ytbgpnjlmomapgaa
