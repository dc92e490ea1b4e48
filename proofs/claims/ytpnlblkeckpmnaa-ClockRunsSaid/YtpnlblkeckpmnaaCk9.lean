/- Chapter 8: times, each taken to where it may be (ford/times.clamped). No condition. -/
import Derived.Test.YtpnlblkeckpmnaaCk5
set_option linter.unusedSimpArgs false
namespace Go.Proofs.Ytpnlblkeckpmnaa.Br
open Go.RowKit
theorem exec_min {o : Oper} {a : Act} {w : World} (x y : Operand) (t u : TypeId) (ho : o.op = .call { callee := .builtin .min, args := #[x, y], argTypes := #[t, u] }) (m n : Int) (hx : a.eval x = .int .i64 m) (hy : a.eval y = .int .i64 n) : (execOp a.eval o).run Try.prog w = .ok (.value (.int .i64 (min m n))) w := by
  have hr : Sem.run Try.prog (Builtin.min_ #[t, u] o.type #[.int .i64 m, .int .i64 n]) w = .ok (.int .i64 (min m n)) w := by
    simp [go_sem]
    split <;> omega
  simp only [execOp, ho, resolve, invoke, builtin, Sem.run_bind, Sem.run_pure, Result.andThen_ok, List.map_toArray, List.map_cons, List.map_nil, hx, hy, hr]
theorem clamped_any (a m h d : Int) (w : World) : Calls Try.prog 34 #[.agg #[.int .i64 a, .int .i64 m, .int .i64 h, .int .i64 d]] w fun e w' => e = .returned (.agg #[.int .i64 (min (max a 0) 255), .int .i64 (min (max m 6) 40), .int .i64 (min (max h 1) 10), .int .i64 (min (max d 4) 30)]) ∧ Below w.heap.size w w' := by
  go_enter Try.func34, Try.ntmps34
  go_wp2_with (first | (refine wpList_val (by rfl) _ (exec_max _ _ _ _ rfl _ _ rfl rfl) ?_; simp only [Act.put, List.setIfInBounds_toArray, List.set_cons_zero, List.set_cons_succ]) | (refine wpList_val (by rfl) _ (exec_min _ _ _ _ rfl _ _ rfl rfl) ?_; simp only [Act.put, List.setIfInBounds_toArray, List.set_cons_zero, List.set_cons_succ]) | fail)
  refine ((?_ : ∀ x, x = (w.alloc (.cells #[.int .i64 a, .int .i64 m, .int .i64 h, .int .i64 d] 24)).alloc (.cells #[.int .i64 (min (max a 0) 255), .int .i64 (min (max m 6) 40), .int .i64 (min (max h 1) 10), .int .i64 (min (max d 4) 30)] 24) → bodyPost Try.prog _ _ _ _ x) _ rfl)
  intro w2 hw2
  have hR2 : w2.heap[w.heap.size + 1]? = some (.cells #[.int .i64 (min (max a 0) 255), .int .i64 (min (max m 6) 40), .int .i64 (min (max h 1) 10), .int .i64 (min (max d 4) 30)] 24 (0, 0)) := by rw [hw2]; exact at_new (by simp)
  have hb2 : Below w.heap.size w w2 := by rw [hw2]; exact more (more (Below.refl _ _) _) _
  clear hw2
  refine bodyPost_ret (results_cell_row rfl _ _ (w.heap.size + 1) 24 #[.int .i64 (min (max a 0) 255), .int .i64 (min (max m 6) 40), .int .i64 (min (max h 1) 10), .int .i64 (min (max d 4) 30)] (0, 0) _ rfl hR2 Try.underlying24 rfl (by kernel_rfl)) rfl ?_
  exact ⟨rfl, hb2⟩
end Go.Proofs.Ytpnlblkeckpmnaa.Br
