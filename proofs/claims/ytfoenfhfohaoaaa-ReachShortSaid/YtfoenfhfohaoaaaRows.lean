/-
  No cell of these rows narrows 'for every input' (looked for: loops, veiled, ifaces, maps, wideKeys, modest, calm, conditions, laid).
  DERIVED. THE GIVEN ROWS OF THIS SEAT. 4 by the template 'for every input the law returns true; each argument reads behind the call as it read before'; 0 by the template 'total and deterministic' (their statements: YtfoenfhfohaoaaaTotals.lean).
  GIVEN WITH THE SEED: the statements are not yours to turn. If you find one false, say at which input.
  Laid BY PROGRAM, IN A SANDBOX (cutbox-rows.mjs): the forced cells as the released guide's own fill.sh prints them over the translation cc997d81057e7798… (all of the seat's roots in one cut). By AI agents, Wed Nov 11 2026. No macro, syntax, notation, axiom, sorry.
-/
import Derived.Test.YtfoenfhfohaoaaaChecked
import GoSem.Claim
import GoSem.ClaimJoined
import GoSem.ClaimMapViews
import Derived.JoinedTies
import Derived.KernelRfl
namespace Go.Proofs.Ytfoenfhfohaoaaa
/- THE CELL 'sum', in the pinned program and in every row, IS THE sha256 OF THE DUMP (.gsa) THAT YtfoenfhfohaoaaaProg.lean LOADS. Nothing in Lean hashes anything: it is a label: what it is worth is what the hold of that sum in a sandbox is worth. -/
noncomputable def Try.pinned : Pinned := { name := "ytfoenfhfohaoaaa", sum := "cc997d81057e7798471156578511c842fdb047363fa3fe6ec7ae5d795a2b9bd2", checked := Try.checked }
namespace Rows
def none {H : Type} : Left H := { results := [], args := [] }

/-- 'fordlaw22.ReachFar': WHATEVER THE INPUT: true; the input reads as it did. -/
def reachFarSpec : ChangeSpec := { name := "reachFar", fn := fun _ => fun
  | [d1, d2, d3] => { results := [.lit (.bool true)], args := [d1, d2, d3] }
  | _ => none }
def reachFarRow : OpenClaim := { program := "ytfoenfhfohaoaaa", sum := "cc997d81057e7798471156578511c842fdb047363fa3fe6ec7ae5d795a2b9bd2", func := "ford/fordlaw22.ReachFar", spec := "reachFar", apart := false }
def ReachFarSaid : Prop := reachFarRow.holds Try.pinned (OpenSpec.ofChange reachFarSpec)

/-- ITS FALSE NEIGHBOUR: 'it returns false'. Refute it at one input. -/
def reachFarWrong : ChangeSpec := { name := "reachFar", fn := fun _ => fun
  | [d1, d2, d3] => { results := [.lit (.bool false)], args := [d1, d2, d3] }
  | _ => none }
def ReachFarWrongFalsely : Prop := reachFarRow.holds Try.pinned (OpenSpec.ofChange reachFarWrong)

/-- 'fordlaw22.ReachLength': WHATEVER THE INPUT: true; the input reads as it did. -/
def reachLengthSpec : ChangeSpec := { name := "reachLength", fn := fun _ => fun
  | [d1, d2] => { results := [.lit (.bool true)], args := [d1, d2] }
  | _ => none }
def reachLengthRow : OpenClaim := { program := "ytfoenfhfohaoaaa", sum := "cc997d81057e7798471156578511c842fdb047363fa3fe6ec7ae5d795a2b9bd2", func := "ford/fordlaw22.ReachLength", spec := "reachLength", apart := false }
def ReachLengthSaid : Prop := reachLengthRow.holds Try.pinned (OpenSpec.ofChange reachLengthSpec)

/-- ITS FALSE NEIGHBOUR: 'it returns false'. Refute it at one input. -/
def reachLengthWrong : ChangeSpec := { name := "reachLength", fn := fun _ => fun
  | [d1, d2] => { results := [.lit (.bool false)], args := [d1, d2] }
  | _ => none }
def ReachLengthWrongFalsely : Prop := reachLengthRow.holds Try.pinned (OpenSpec.ofChange reachLengthWrong)

/-- 'fordlaw22.ReachShort': WHATEVER THE INPUT: true; the input reads as it did. -/
def reachShortSpec : ChangeSpec := { name := "reachShort", fn := fun _ => fun
  | [d1, d2, d3] => { results := [.lit (.bool true)], args := [d1, d2, d3] }
  | _ => none }
def reachShortRow : OpenClaim := { program := "ytfoenfhfohaoaaa", sum := "cc997d81057e7798471156578511c842fdb047363fa3fe6ec7ae5d795a2b9bd2", func := "ford/fordlaw22.ReachShort", spec := "reachShort", apart := false }
def ReachShortSaid : Prop := reachShortRow.holds Try.pinned (OpenSpec.ofChange reachShortSpec)

/-- ITS FALSE NEIGHBOUR: 'it returns false'. Refute it at one input. -/
def reachShortWrong : ChangeSpec := { name := "reachShort", fn := fun _ => fun
  | [d1, d2, d3] => { results := [.lit (.bool false)], args := [d1, d2, d3] }
  | _ => none }
def ReachShortWrongFalsely : Prop := reachShortRow.holds Try.pinned (OpenSpec.ofChange reachShortWrong)

/-- 'fordlaw22.ReachMore': WHATEVER THE INPUT: true; the input reads as it did. -/
def reachMoreSpec : ChangeSpec := { name := "reachMore", fn := fun _ => fun
  | [d1, d2, d3, d4] => { results := [.lit (.bool true)], args := [d1, d2, d3, d4] }
  | _ => none }
def reachMoreRow : OpenClaim := { program := "ytfoenfhfohaoaaa", sum := "cc997d81057e7798471156578511c842fdb047363fa3fe6ec7ae5d795a2b9bd2", func := "ford/fordlaw22.ReachMore", spec := "reachMore", apart := false }
def ReachMoreSaid : Prop := reachMoreRow.holds Try.pinned (OpenSpec.ofChange reachMoreSpec)

/-- ITS FALSE NEIGHBOUR: 'it returns false'. Refute it at one input. -/
def reachMoreWrong : ChangeSpec := { name := "reachMore", fn := fun _ => fun
  | [d1, d2, d3, d4] => { results := [.lit (.bool false)], args := [d1, d2, d3, d4] }
  | _ => none }
def ReachMoreWrongFalsely : Prop := reachMoreRow.holds Try.pinned (OpenSpec.ofChange reachMoreWrong)

/- THE SECOND FORM. 'bulk': how many values and letters a reading holds, each counted each time it is reached (what is shared counts as often as it is met; a slice's spare places count too). A statement '..UptoSaid' is the law's where the arguments, and the package variables that the reading takes, are together of bulk at most 1048576: NARROWER than '..Said'. Prove '..Said' where nothing that the law and all that it calls make is longer than what came in: it says more and counts as full. Else prove '..UptoSaid'. A law counts once. -/
mutual
def uptoBulk {H : Type} : DataW H → Nat
  | .lit (.string bytes) => bytes.length + 1
  | .lit _ => 1
  | .nil => 1
  | .ptr d => uptoBulk d + 1
  | .slice elems spare => uptoBulkAll elems + uptoBulkAll spare + 1
  | .agg parts => uptoBulkAll parts + 1
  | .iface _ d => uptoBulk d + 1
  | .map entries => uptoBulkEntries entries + 1
  | .held _ => 1
def uptoBulkAll {H : Type} : List (DataW H) → Nat
  | [] => 0
  | d :: r => uptoBulk d + uptoBulkAll r
def uptoBulkEntries {H : Type} : List (Lit × DataW H) → Nat
  | [] => 0
  | x :: r => uptoBulkEntry x + uptoBulkEntries r
def uptoBulkEntry {H : Type} : Lit × DataW H → Nat
  | (.string bytes, d) => bytes.length + uptoBulk d + 1
  | (_, d) => uptoBulk d + 1
 end
def uptoSmall : (H : Type) → List (DataW H) → Bool := fun _ ds => decide (uptoBulkAll ds ≤ 1048576)
def OpenSpec.upto (s : _root_.Go.ChangeSpec) : _root_.Go.OpenSpec := { _root_.Go.OpenSpec.ofChange s with cond := some uptoSmall }

/-- 'fordlaw22.ReachFar', WHERE WHAT IT READS IS OF BULK AT MOST 1048576: true; the input reads as it did. -/
def reachFarUptoRow : OpenClaim := { program := "ytfoenfhfohaoaaa", sum := "cc997d81057e7798471156578511c842fdb047363fa3fe6ec7ae5d795a2b9bd2", func := "ford/fordlaw22.ReachFar", spec := "reachFar", apart := false, narrowed := true }
def ReachFarUptoSaid : Prop := reachFarUptoRow.holds Try.pinned (OpenSpec.upto reachFarSpec)

/-- 'fordlaw22.ReachLength', WHERE WHAT IT READS IS OF BULK AT MOST 1048576: true; the input reads as it did. -/
def reachLengthUptoRow : OpenClaim := { program := "ytfoenfhfohaoaaa", sum := "cc997d81057e7798471156578511c842fdb047363fa3fe6ec7ae5d795a2b9bd2", func := "ford/fordlaw22.ReachLength", spec := "reachLength", apart := false, narrowed := true }
def ReachLengthUptoSaid : Prop := reachLengthUptoRow.holds Try.pinned (OpenSpec.upto reachLengthSpec)

/-- 'fordlaw22.ReachShort', WHERE WHAT IT READS IS OF BULK AT MOST 1048576: true; the input reads as it did. -/
def reachShortUptoRow : OpenClaim := { program := "ytfoenfhfohaoaaa", sum := "cc997d81057e7798471156578511c842fdb047363fa3fe6ec7ae5d795a2b9bd2", func := "ford/fordlaw22.ReachShort", spec := "reachShort", apart := false, narrowed := true }
def ReachShortUptoSaid : Prop := reachShortUptoRow.holds Try.pinned (OpenSpec.upto reachShortSpec)

/-- 'fordlaw22.ReachMore', WHERE WHAT IT READS IS OF BULK AT MOST 1048576: true; the input reads as it did. -/
def reachMoreUptoRow : OpenClaim := { program := "ytfoenfhfohaoaaa", sum := "cc997d81057e7798471156578511c842fdb047363fa3fe6ec7ae5d795a2b9bd2", func := "ford/fordlaw22.ReachMore", spec := "reachMore", apart := false, narrowed := true }
def ReachMoreUptoSaid : Prop := reachMoreUptoRow.holds Try.pinned (OpenSpec.upto reachMoreSpec)

end Rows
end Go.Proofs.Ytfoenfhfohaoaaa
