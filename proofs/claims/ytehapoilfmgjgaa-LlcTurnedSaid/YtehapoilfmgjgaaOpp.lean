/- Chapter 6: what any bytes are as a frame, as a plain function; three results, the second in a cell. No condition. -/
import Derived.Test.YtehapoilfmgjgaaDe4
import Derived.StillTailTactics
set_option linter.unusedSimpArgs false
set_option linter.unusedVariables false
namespace Go.Proofs.Ytehapoilfmgjgaa.Oct
open Go.RowKit
/-- What any bytes are as a frame: whom it comes from, the message, the error. -/
def openP (f : Nat → Int) (n : Nat) : Int × Msg × Int :=
  if n < 17 then (0, zeroMsg, 2)
  else if numAt f 0 6 ≠ 1652522221568 ∨ numAt f 14 3 ≠ 4342275 ∨ numAt f 12 2 < 3 ∨ (n : Int) - 14 < numAt f 12 2 then (0, zeroMsg, 3)
  else if (decP (fun j => f (17 + j)) (numAt f 12 2 - 3).toNat).2 = 0 then (numAt f 6 6, (decP (fun j => f (17 + j)) (numAt f 12 2 - 3).toNat).1, 0)
  else (0, zeroMsg, (decP (fun j => f (17 + j)) (numAt f 12 2 - 3).toNat).2)
theorem results_tmp_row_tmp {fn : Func} {s p u : Tmp} {ty : TypeId} (h : fn.results = #[.tmp s, .cell p ty, .tmp u]) (tmps : Array Value) (w : World) (g : Nat) (t : TypeId) (cs : Array Value) (fr : Nat × Nat) (d : TypeDesc)
    (hp : tmps.getD p undef = .pointer (some ⟨g, 0, none⟩)) (hg : w.heap[g]? = some (.cells cs t fr))
    (hu : Try.prog.underlying ty = some d) (hd : d.isRow = true) (hi : (Try.prog.info? ty).map (·.size) = some cs.size) :
    (results fn tmps).run Try.prog w = .ok (.tuple #[tmps.getD s undef, .agg cs, tmps.getD u undef]) w := by
  have hp' : tmps[p]?.getD undef = .pointer (some ⟨g, 0, none⟩) := by simpa using hp
  simp [results, h, hp', asAddr, run_loadVar_row w g t ty cs fr d hg hu (by cases d <;> first | rfl | cases hd) hi]
theorem exec_row {o : Oper} {a : Act} {w : World} (x : Operand) (ho : o.op = .load 30 x) (g : Nat) (hx : a.eval x = .pointer (some ⟨g, 0, none⟩)) (m : Msg) (hg : w.heap[g]? = some (.cells (rowM m) 30 (0, 0))) : (execOp a.eval o).run Try.prog w = .ok (.value (.agg (rowM m))) w := by
  unfold execOp
  simp only [ho, hx, Instr.loadAt, Instr.sureAddr, Sem.run_bind, Sem.run_pure, Result.andThen_ok, run_loadVar_row w g 30 30 (rowM m) (0, 0) _ hg Try.underlying30 rfl (sizeM m)]
theorem wpStill_val {ops : Array Oper} {rest : List Oper} {o : Oper} {a : Act} {w : World} {Q : Act → Prop} (hw : Region.wanted o (yielded ops a.tmps) = true) (v : Value) (h : (execOp a.eval o).run Try.prog w = .ok (.value v) w) (hk : wpStill Try.prog ops w Q rest (a.put o.dst v)) : wpStill Try.prog ops w Q (o :: rest) a :=
  wpStill_step fun K hK => by
    rw [if_pos hw]
    unfold Oper.still
    rw [h, Oper.stillUpon_value]
    exact hK _ hk
end Go.Proofs.Ytehapoilfmgjgaa.Oct
