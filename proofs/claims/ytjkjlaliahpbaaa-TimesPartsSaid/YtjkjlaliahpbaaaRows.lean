/-
  No cell of these rows narrows 'for every input' (looked for: loops, veiled, ifaces, maps, wideKeys, modest, calm, conditions, laid).
  DERIVED. THE GIVEN ROWS OF THIS SEAT. 5 by the template 'for every input the law returns true; each argument reads behind the call as it read before'; 0 by the template 'total and deterministic' (their statements: YtjkjlaliahpbaaaTotals.lean).
  GIVEN WITH THE SEED: the statements are not yours to turn. If you find one false, say at which input.
  Laid BY PROGRAM, IN A SANDBOX (cutbox-rows.mjs): the forced cells as the released guide's own fill.sh prints them over the translation 12cfe30aed4d8beb… (all of the seat's roots in one cut). By AI agents, Wed Nov 11 2026. No macro, syntax, notation, axiom, sorry.
-/
import Derived.Test.YtjkjlaliahpbaaaChecked
import GoSem.Claim
import GoSem.ClaimJoined
import GoSem.ClaimMapViews
import Derived.JoinedTies
import Derived.KernelRfl
namespace Go.Proofs.Ytjkjlaliahpbaaa
/- THE CELL 'sum', in the pinned program and in every row, IS THE sha256 OF THE DUMP (.gsa) THAT YtjkjlaliahpbaaaProg.lean LOADS. Nothing in Lean hashes anything: it is a label: what it is worth is what the hold of that sum in a sandbox is worth. -/
noncomputable def Try.pinned : Pinned := { name := "ytjkjlaliahpbaaa", sum := "12cfe30aed4d8beb0c4b0523cce281e689038310291a41fc0e72fa4087f931c3", checked := Try.checked }
namespace Rows
def none {H : Type} : Left H := { results := [], args := [] }

/-- 'fordlaw04.TimesTells': WHATEVER THE INPUT: true; the input reads as it did. -/
def timesTellsSpec : ChangeSpec := { name := "timesTells", fn := fun _ => fun
  | [d] => { results := [.lit (.bool true)], args := [d] }
  | _ => none }
def timesTellsRow : OpenClaim := { program := "ytjkjlaliahpbaaa", sum := "12cfe30aed4d8beb0c4b0523cce281e689038310291a41fc0e72fa4087f931c3", func := "ford/fordlaw04.TimesTells", spec := "timesTells", apart := false }
def TimesTellsSaid : Prop := timesTellsRow.holds Try.pinned (OpenSpec.ofChange timesTellsSpec)

/-- ITS FALSE NEIGHBOUR: 'it returns false'. Refute it at one input. -/
def timesTellsWrong : ChangeSpec := { name := "timesTells", fn := fun _ => fun
  | [d] => { results := [.lit (.bool false)], args := [d] }
  | _ => none }
def TimesTellsWrongFalsely : Prop := timesTellsRow.holds Try.pinned (OpenSpec.ofChange timesTellsWrong)

/-- 'fordlaw04.TimesParts': WHATEVER THE INPUT: true; the input reads as it did. -/
def timesPartsSpec : ChangeSpec := { name := "timesParts", fn := fun _ => fun
  | [d1, d2] => { results := [.lit (.bool true)], args := [d1, d2] }
  | _ => none }
def timesPartsRow : OpenClaim := { program := "ytjkjlaliahpbaaa", sum := "12cfe30aed4d8beb0c4b0523cce281e689038310291a41fc0e72fa4087f931c3", func := "ford/fordlaw04.TimesParts", spec := "timesParts", apart := false }
def TimesPartsSaid : Prop := timesPartsRow.holds Try.pinned (OpenSpec.ofChange timesPartsSpec)

/-- ITS FALSE NEIGHBOUR: 'it returns false'. Refute it at one input. -/
def timesPartsWrong : ChangeSpec := { name := "timesParts", fn := fun _ => fun
  | [d1, d2] => { results := [.lit (.bool false)], args := [d1, d2] }
  | _ => none }
def TimesPartsWrongFalsely : Prop := timesPartsRow.holds Try.pinned (OpenSpec.ofChange timesPartsWrong)

/-- 'fordlaw04.TimesBack': WHATEVER THE INPUT: true; the input reads as it did. -/
def timesBackSpec : ChangeSpec := { name := "timesBack", fn := fun _ => fun
  | [d1, d2] => { results := [.lit (.bool true)], args := [d1, d2] }
  | _ => none }
def timesBackRow : OpenClaim := { program := "ytjkjlaliahpbaaa", sum := "12cfe30aed4d8beb0c4b0523cce281e689038310291a41fc0e72fa4087f931c3", func := "ford/fordlaw04.TimesBack", spec := "timesBack", apart := false }
def TimesBackSaid : Prop := timesBackRow.holds Try.pinned (OpenSpec.ofChange timesBackSpec)

/-- ITS FALSE NEIGHBOUR: 'it returns false'. Refute it at one input. -/
def timesBackWrong : ChangeSpec := { name := "timesBack", fn := fun _ => fun
  | [d1, d2] => { results := [.lit (.bool false)], args := [d1, d2] }
  | _ => none }
def TimesBackWrongFalsely : Prop := timesBackRow.holds Try.pinned (OpenSpec.ofChange timesBackWrong)

/-- 'fordlaw04.TimesAges': WHATEVER THE INPUT: true; the input reads as it did. -/
def timesAgesSpec : ChangeSpec := { name := "timesAges", fn := fun _ => fun
  | [d1, d2, d3, d4] => { results := [.lit (.bool true)], args := [d1, d2, d3, d4] }
  | _ => none }
def timesAgesRow : OpenClaim := { program := "ytjkjlaliahpbaaa", sum := "12cfe30aed4d8beb0c4b0523cce281e689038310291a41fc0e72fa4087f931c3", func := "ford/fordlaw04.TimesAges", spec := "timesAges", apart := false }
def TimesAgesSaid : Prop := timesAgesRow.holds Try.pinned (OpenSpec.ofChange timesAgesSpec)

/-- ITS FALSE NEIGHBOUR: 'it returns false'. Refute it at one input. -/
def timesAgesWrong : ChangeSpec := { name := "timesAges", fn := fun _ => fun
  | [d1, d2, d3, d4] => { results := [.lit (.bool false)], args := [d1, d2, d3, d4] }
  | _ => none }
def TimesAgesWrongFalsely : Prop := timesAgesRow.holds Try.pinned (OpenSpec.ofChange timesAgesWrong)

/-- 'fordlaw04.TimesRises': WHATEVER THE INPUT: true; the input reads as it did. -/
def timesRisesSpec : ChangeSpec := { name := "timesRises", fn := fun _ => fun
  | [d1, d2, d3, d4] => { results := [.lit (.bool true)], args := [d1, d2, d3, d4] }
  | _ => none }
def timesRisesRow : OpenClaim := { program := "ytjkjlaliahpbaaa", sum := "12cfe30aed4d8beb0c4b0523cce281e689038310291a41fc0e72fa4087f931c3", func := "ford/fordlaw04.TimesRises", spec := "timesRises", apart := false }
def TimesRisesSaid : Prop := timesRisesRow.holds Try.pinned (OpenSpec.ofChange timesRisesSpec)

/-- ITS FALSE NEIGHBOUR: 'it returns false'. Refute it at one input. -/
def timesRisesWrong : ChangeSpec := { name := "timesRises", fn := fun _ => fun
  | [d1, d2, d3, d4] => { results := [.lit (.bool false)], args := [d1, d2, d3, d4] }
  | _ => none }
def TimesRisesWrongFalsely : Prop := timesRisesRow.holds Try.pinned (OpenSpec.ofChange timesRisesWrong)

/- THE SECOND FORM. 'bulk': how many values and letters a reading holds, each counted each time it is reached (what is shared counts as often as it is met; a slice's spare places count too). A statement '..UptoSaid' is the law's where the arguments, and the package variables that the reading takes, are together of bulk at most 1048576: NARROWER than '..Said'. Prove '..Said' where nothing that the law and all that it calls make is longer than what came in: it says more and counts as full. Else prove '..UptoSaid'. A law counts once. -/
mutual
def uptoBulk {H : Type} : DataW H → Nat
  | .lit (.string bytes) => bytes.length + 1
  | .lit _ => 1
  | .nil => 1
  | .ptr d => uptoBulk d + 1
  | .slice elems spare => uptoBulkAll elems + uptoBulkAll spare + 1
  | .agg parts => uptoBulkAll parts + 1
  | .iface _ d => uptoBulk d + 1
  | .map entries => uptoBulkEntries entries + 1
  | .held _ => 1
def uptoBulkAll {H : Type} : List (DataW H) → Nat
  | [] => 0
  | d :: r => uptoBulk d + uptoBulkAll r
def uptoBulkEntries {H : Type} : List (Lit × DataW H) → Nat
  | [] => 0
  | x :: r => uptoBulkEntry x + uptoBulkEntries r
def uptoBulkEntry {H : Type} : Lit × DataW H → Nat
  | (.string bytes, d) => bytes.length + uptoBulk d + 1
  | (_, d) => uptoBulk d + 1
 end
def uptoSmall : (H : Type) → List (DataW H) → Bool := fun _ ds => decide (uptoBulkAll ds ≤ 1048576)
def OpenSpec.upto (s : _root_.Go.ChangeSpec) : _root_.Go.OpenSpec := { _root_.Go.OpenSpec.ofChange s with cond := some uptoSmall }

/-- 'fordlaw04.TimesTells', WHERE WHAT IT READS IS OF BULK AT MOST 1048576: true; the input reads as it did. -/
def timesTellsUptoRow : OpenClaim := { program := "ytjkjlaliahpbaaa", sum := "12cfe30aed4d8beb0c4b0523cce281e689038310291a41fc0e72fa4087f931c3", func := "ford/fordlaw04.TimesTells", spec := "timesTells", apart := false, narrowed := true }
def TimesTellsUptoSaid : Prop := timesTellsUptoRow.holds Try.pinned (OpenSpec.upto timesTellsSpec)

/-- 'fordlaw04.TimesParts', WHERE WHAT IT READS IS OF BULK AT MOST 1048576: true; the input reads as it did. -/
def timesPartsUptoRow : OpenClaim := { program := "ytjkjlaliahpbaaa", sum := "12cfe30aed4d8beb0c4b0523cce281e689038310291a41fc0e72fa4087f931c3", func := "ford/fordlaw04.TimesParts", spec := "timesParts", apart := false, narrowed := true }
def TimesPartsUptoSaid : Prop := timesPartsUptoRow.holds Try.pinned (OpenSpec.upto timesPartsSpec)

/-- 'fordlaw04.TimesBack', WHERE WHAT IT READS IS OF BULK AT MOST 1048576: true; the input reads as it did. -/
def timesBackUptoRow : OpenClaim := { program := "ytjkjlaliahpbaaa", sum := "12cfe30aed4d8beb0c4b0523cce281e689038310291a41fc0e72fa4087f931c3", func := "ford/fordlaw04.TimesBack", spec := "timesBack", apart := false, narrowed := true }
def TimesBackUptoSaid : Prop := timesBackUptoRow.holds Try.pinned (OpenSpec.upto timesBackSpec)

/-- 'fordlaw04.TimesAges', WHERE WHAT IT READS IS OF BULK AT MOST 1048576: true; the input reads as it did. -/
def timesAgesUptoRow : OpenClaim := { program := "ytjkjlaliahpbaaa", sum := "12cfe30aed4d8beb0c4b0523cce281e689038310291a41fc0e72fa4087f931c3", func := "ford/fordlaw04.TimesAges", spec := "timesAges", apart := false, narrowed := true }
def TimesAgesUptoSaid : Prop := timesAgesUptoRow.holds Try.pinned (OpenSpec.upto timesAgesSpec)

/-- 'fordlaw04.TimesRises', WHERE WHAT IT READS IS OF BULK AT MOST 1048576: true; the input reads as it did. -/
def timesRisesUptoRow : OpenClaim := { program := "ytjkjlaliahpbaaa", sum := "12cfe30aed4d8beb0c4b0523cce281e689038310291a41fc0e72fa4087f931c3", func := "ford/fordlaw04.TimesRises", spec := "timesRises", apart := false, narrowed := true }
def TimesRisesUptoSaid : Prop := timesRisesUptoRow.holds Try.pinned (OpenSpec.upto timesRisesSpec)

end Rows
end Go.Proofs.Ytjkjlaliahpbaaa
