/-
  No cell of these rows narrows 'for every input' (looked for: loops, veiled, ifaces, maps, wideKeys, modest, calm, conditions, laid).
  DERIVED. THE GIVEN ROWS OF THIS SEAT. 5 by the template 'for every input the law returns true; each argument reads behind the call as it read before'; 0 by the template 'total and deterministic' (their statements: YtbeagokbhlaeeaaTotals.lean).
  GIVEN WITH THE SEED: the statements are not yours to turn. If you find one false, say at which input.
  Laid BY PROGRAM, IN A SANDBOX (cutbox-rows.mjs): the forced cells as the released guide's own fill.sh prints them over the translation 198960a6284a4e97… (all of the seat's roots in one cut). By AI agents, Wed Nov 11 2026. No macro, syntax, notation, axiom, sorry.
-/
import Derived.Test.YtbeagokbhlaeeaaChecked
import GoSem.Claim
import GoSem.ClaimJoined
import GoSem.ClaimMapViews
import Derived.JoinedTies
import Derived.KernelRfl
namespace Go.Proofs.Ytbeagokbhlaeeaa
/- THE CELL 'sum', in the pinned program and in every row, IS THE sha256 OF THE DUMP (.gsa) THAT YtbeagokbhlaeeaaProg.lean LOADS. Nothing in Lean hashes anything: it is a label: what it is worth is what the hold of that sum in a sandbox is worth. -/
noncomputable def Try.pinned : Pinned := { name := "ytbeagokbhlaeeaa", sum := "198960a6284a4e97b1d78798530328c284069d2a170af3d2770b1f52f2c6dd7e", checked := Try.checked }
namespace Rows
def none {H : Type} : Left H := { results := [], args := [] }

/-- 'fordlaw01.OctetPuts': WHATEVER THE INPUT: true; the input reads as it did. -/
def octetPutsSpec : ChangeSpec := { name := "octetPuts", fn := fun _ => fun
  | [d1, d2] => { results := [.lit (.bool true)], args := [d1, d2] }
  | _ => none }
def octetPutsRow : OpenClaim := { program := "ytbeagokbhlaeeaa", sum := "198960a6284a4e97b1d78798530328c284069d2a170af3d2770b1f52f2c6dd7e", func := "ford/fordlaw01.OctetPuts", spec := "octetPuts", recurses := true, apart := false }
def OctetPutsSaid : Prop := octetPutsRow.holds Try.pinned (OpenSpec.ofChange octetPutsSpec)

/-- ITS FALSE NEIGHBOUR: 'it returns false'. Refute it at one input. -/
def octetPutsWrong : ChangeSpec := { name := "octetPuts", fn := fun _ => fun
  | [d1, d2] => { results := [.lit (.bool false)], args := [d1, d2] }
  | _ => none }
def OctetPutsWrongFalsely : Prop := octetPutsRow.holds Try.pinned (OpenSpec.ofChange octetPutsWrong)

/-- 'fordlaw01.OctetTakes': WHATEVER THE INPUT: true; the input reads as it did. -/
def octetTakesSpec : ChangeSpec := { name := "octetTakes", fn := fun _ => fun
  | [d1, d2] => { results := [.lit (.bool true)], args := [d1, d2] }
  | _ => none }
def octetTakesRow : OpenClaim := { program := "ytbeagokbhlaeeaa", sum := "198960a6284a4e97b1d78798530328c284069d2a170af3d2770b1f52f2c6dd7e", func := "ford/fordlaw01.OctetTakes", spec := "octetTakes", apart := false }
def OctetTakesSaid : Prop := octetTakesRow.holds Try.pinned (OpenSpec.ofChange octetTakesSpec)

/-- ITS FALSE NEIGHBOUR: 'it returns false'. Refute it at one input. -/
def octetTakesWrong : ChangeSpec := { name := "octetTakes", fn := fun _ => fun
  | [d1, d2] => { results := [.lit (.bool false)], args := [d1, d2] }
  | _ => none }
def OctetTakesWrongFalsely : Prop := octetTakesRow.holds Try.pinned (OpenSpec.ofChange octetTakesWrong)

/-- 'fordlaw01.OctetBack': WHATEVER THE INPUT: true; the input reads as it did. -/
def octetBackSpec : ChangeSpec := { name := "octetBack", fn := fun _ => fun
  | [d1, d2] => { results := [.lit (.bool true)], args := [d1, d2] }
  | _ => none }
def octetBackRow : OpenClaim := { program := "ytbeagokbhlaeeaa", sum := "198960a6284a4e97b1d78798530328c284069d2a170af3d2770b1f52f2c6dd7e", func := "ford/fordlaw01.OctetBack", spec := "octetBack", apart := false }
def OctetBackSaid : Prop := octetBackRow.holds Try.pinned (OpenSpec.ofChange octetBackSpec)

/-- ITS FALSE NEIGHBOUR: 'it returns false'. Refute it at one input. -/
def octetBackWrong : ChangeSpec := { name := "octetBack", fn := fun _ => fun
  | [d1, d2] => { results := [.lit (.bool false)], args := [d1, d2] }
  | _ => none }
def OctetBackWrongFalsely : Prop := octetBackRow.holds Try.pinned (OpenSpec.ofChange octetBackWrong)

/-- 'fordlaw01.OctetOrder': WHATEVER THE INPUT: true; the input reads as it did. -/
def octetOrderSpec : ChangeSpec := { name := "octetOrder", fn := fun _ => fun
  | [d1, d2, d3] => { results := [.lit (.bool true)], args := [d1, d2, d3] }
  | _ => none }
def octetOrderRow : OpenClaim := { program := "ytbeagokbhlaeeaa", sum := "198960a6284a4e97b1d78798530328c284069d2a170af3d2770b1f52f2c6dd7e", func := "ford/fordlaw01.OctetOrder", spec := "octetOrder", apart := false }
def OctetOrderSaid : Prop := octetOrderRow.holds Try.pinned (OpenSpec.ofChange octetOrderSpec)

/-- ITS FALSE NEIGHBOUR: 'it returns false'. Refute it at one input. -/
def octetOrderWrong : ChangeSpec := { name := "octetOrder", fn := fun _ => fun
  | [d1, d2, d3] => { results := [.lit (.bool false)], args := [d1, d2, d3] }
  | _ => none }
def OctetOrderWrongFalsely : Prop := octetOrderRow.holds Try.pinned (OpenSpec.ofChange octetOrderWrong)

/-- 'fordlaw01.OctetCut': WHATEVER THE INPUT: true; the input reads as it did. -/
def octetCutSpec : ChangeSpec := { name := "octetCut", fn := fun _ => fun
  | [d1, d2, d3] => { results := [.lit (.bool true)], args := [d1, d2, d3] }
  | _ => none }
def octetCutRow : OpenClaim := { program := "ytbeagokbhlaeeaa", sum := "198960a6284a4e97b1d78798530328c284069d2a170af3d2770b1f52f2c6dd7e", func := "ford/fordlaw01.OctetCut", spec := "octetCut", apart := false }
def OctetCutSaid : Prop := octetCutRow.holds Try.pinned (OpenSpec.ofChange octetCutSpec)

/-- ITS FALSE NEIGHBOUR: 'it returns false'. Refute it at one input. -/
def octetCutWrong : ChangeSpec := { name := "octetCut", fn := fun _ => fun
  | [d1, d2, d3] => { results := [.lit (.bool false)], args := [d1, d2, d3] }
  | _ => none }
def OctetCutWrongFalsely : Prop := octetCutRow.holds Try.pinned (OpenSpec.ofChange octetCutWrong)

/- THE SECOND FORM. 'bulk': how many values and letters a reading holds, each counted each time it is reached (what is shared counts as often as it is met; a slice's spare places count too). A statement '..UptoSaid' is the law's where the arguments, and the package variables that the reading takes, are together of bulk at most 1048576: NARROWER than '..Said'. Prove '..Said' where nothing that the law and all that it calls make is longer than what came in: it says more and counts as full. Else prove '..UptoSaid'. A law counts once. -/
mutual
def uptoBulk {H : Type} : DataW H → Nat
  | .lit (.string bytes) => bytes.length + 1
  | .lit _ => 1
  | .nil => 1
  | .ptr d => uptoBulk d + 1
  | .slice elems spare => uptoBulkAll elems + uptoBulkAll spare + 1
  | .agg parts => uptoBulkAll parts + 1
  | .iface _ d => uptoBulk d + 1
  | .map entries => uptoBulkEntries entries + 1
  | .held _ => 1
def uptoBulkAll {H : Type} : List (DataW H) → Nat
  | [] => 0
  | d :: r => uptoBulk d + uptoBulkAll r
def uptoBulkEntries {H : Type} : List (Lit × DataW H) → Nat
  | [] => 0
  | x :: r => uptoBulkEntry x + uptoBulkEntries r
def uptoBulkEntry {H : Type} : Lit × DataW H → Nat
  | (.string bytes, d) => bytes.length + uptoBulk d + 1
  | (_, d) => uptoBulk d + 1
 end
def uptoSmall : (H : Type) → List (DataW H) → Bool := fun _ ds => decide (uptoBulkAll ds ≤ 1048576)
def OpenSpec.upto (s : _root_.Go.ChangeSpec) : _root_.Go.OpenSpec := { _root_.Go.OpenSpec.ofChange s with cond := some uptoSmall }

/-- 'fordlaw01.OctetPuts', WHERE WHAT IT READS IS OF BULK AT MOST 1048576: true; the input reads as it did. -/
def octetPutsUptoRow : OpenClaim := { program := "ytbeagokbhlaeeaa", sum := "198960a6284a4e97b1d78798530328c284069d2a170af3d2770b1f52f2c6dd7e", func := "ford/fordlaw01.OctetPuts", spec := "octetPuts", recurses := true, apart := false, narrowed := true }
def OctetPutsUptoSaid : Prop := octetPutsUptoRow.holds Try.pinned (OpenSpec.upto octetPutsSpec)

/-- 'fordlaw01.OctetTakes', WHERE WHAT IT READS IS OF BULK AT MOST 1048576: true; the input reads as it did. -/
def octetTakesUptoRow : OpenClaim := { program := "ytbeagokbhlaeeaa", sum := "198960a6284a4e97b1d78798530328c284069d2a170af3d2770b1f52f2c6dd7e", func := "ford/fordlaw01.OctetTakes", spec := "octetTakes", apart := false, narrowed := true }
def OctetTakesUptoSaid : Prop := octetTakesUptoRow.holds Try.pinned (OpenSpec.upto octetTakesSpec)

/-- 'fordlaw01.OctetBack', WHERE WHAT IT READS IS OF BULK AT MOST 1048576: true; the input reads as it did. -/
def octetBackUptoRow : OpenClaim := { program := "ytbeagokbhlaeeaa", sum := "198960a6284a4e97b1d78798530328c284069d2a170af3d2770b1f52f2c6dd7e", func := "ford/fordlaw01.OctetBack", spec := "octetBack", apart := false, narrowed := true }
def OctetBackUptoSaid : Prop := octetBackUptoRow.holds Try.pinned (OpenSpec.upto octetBackSpec)

/-- 'fordlaw01.OctetOrder', WHERE WHAT IT READS IS OF BULK AT MOST 1048576: true; the input reads as it did. -/
def octetOrderUptoRow : OpenClaim := { program := "ytbeagokbhlaeeaa", sum := "198960a6284a4e97b1d78798530328c284069d2a170af3d2770b1f52f2c6dd7e", func := "ford/fordlaw01.OctetOrder", spec := "octetOrder", apart := false, narrowed := true }
def OctetOrderUptoSaid : Prop := octetOrderUptoRow.holds Try.pinned (OpenSpec.upto octetOrderSpec)

/-- 'fordlaw01.OctetCut', WHERE WHAT IT READS IS OF BULK AT MOST 1048576: true; the input reads as it did. -/
def octetCutUptoRow : OpenClaim := { program := "ytbeagokbhlaeeaa", sum := "198960a6284a4e97b1d78798530328c284069d2a170af3d2770b1f52f2c6dd7e", func := "ford/fordlaw01.OctetCut", spec := "octetCut", apart := false, narrowed := true }
def OctetCutUptoSaid : Prop := octetCutUptoRow.holds Try.pinned (OpenSpec.upto octetCutSpec)

end Rows
end Go.Proofs.Ytbeagokbhlaeeaa
