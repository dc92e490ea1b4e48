/- Chapter 8: what a second does to the ports (ford/clock.Tick). Conditions: there aren't very many ports; their clocks are from 0 to 1000. -/
import Derived.Test.YtpnlblkeckpmnaaCk4
import Derived.LoopN
set_option linter.unusedSimpArgs false
namespace Go.Proofs.Ytpnlblkeckpmnaa.Br
open Go.RowKit
/-- A port a second later. -/
def tickF (p : Rec) : Rec := ⟨fun j => if 6 ≤ j ∧ j < 15 then max (p.i j - 1) 0 else p.i j, p.b⟩
theorem Ports.cong2 {w : World} {g n : Nat} {ps qs : Nat → Rec} (e : ∀ j, j < n → ps j = qs j) (h : Ports w g n ps) : Ports w g n qs := by
  obtain ⟨C, hg, hc⟩ := h
  exact ⟨C, hg, fun k hk j hj => by rw [← e k hk]; exact hc k hk j hj⟩
theorem tick_row (p : Rec) : (((((((((p.setI 6 (max (p.i 6 - 1) 0)).setI 7 (max (p.i 7 - 1) 0)).setI 8 (max (p.i 8 - 1) 0)).setI 9 (max (p.i 9 - 1) 0)).setI 10 (max (p.i 10 - 1) 0)).setI 11 (max (p.i 11 - 1) 0)).setI 12 (max (p.i 12 - 1) 0)).setI 13 (max (p.i 13 - 1) 0)).setI 14 (max (p.i 14 - 1) 0)) = tickF p := by
  unfold tickF
  simp only [Rec.setI, Rec.mk.injEq, and_true]
  funext j
  by_cases h : 6 ≤ j ∧ j < 15
  · rw [if_pos h]
    rcases (show j = 6 ∨ j = 7 ∨ j = 8 ∨ j = 9 ∨ j = 10 ∨ j = 11 ∨ j = 12 ∨ j = 13 ∨ j = 14 by omega) with rfl | rfl | rfl | rfl | rfl | rfl | rfl | rfl | rfl <;> simp
  · rw [if_neg h, if_neg (by omega), if_neg (by omega), if_neg (by omega), if_neg (by omega), if_neg (by omega), if_neg (by omega), if_neg (by omega), if_neg (by omega), if_neg (by omega)]
theorem nine_0 (g o : Nat) : (nine g o)[0]? = some (.pointer (some ⟨g, o, none⟩)) := rfl
theorem nine_1 (g o : Nat) : (nine g o)[1]? = some (.pointer (some ⟨g, o + 1, none⟩)) := rfl
theorem nine_2 (g o : Nat) : (nine g o)[2]? = some (.pointer (some ⟨g, o + 2, none⟩)) := rfl
theorem nine_3 (g o : Nat) : (nine g o)[3]? = some (.pointer (some ⟨g, o + 3, none⟩)) := rfl
theorem nine_4 (g o : Nat) : (nine g o)[4]? = some (.pointer (some ⟨g, o + 4, none⟩)) := rfl
theorem nine_5 (g o : Nat) : (nine g o)[5]? = some (.pointer (some ⟨g, o + 5, none⟩)) := rfl
theorem nine_6 (g o : Nat) : (nine g o)[6]? = some (.pointer (some ⟨g, o + 6, none⟩)) := rfl
theorem nine_7 (g o : Nat) : (nine g o)[7]? = some (.pointer (some ⟨g, o + 7, none⟩)) := rfl
theorem nine_8 (g o : Nat) : (nine g o)[8]? = some (.pointer (some ⟨g, o + 8, none⟩)) := rfl
theorem idx_0 (g o : Nat) (w : World) : Sem.run Try.prog (Instr.index 59 (.agg (nine g o)) (.int .i64 0)) w = .ok (.pointer (some ⟨g, o, none⟩)) w := by kernel_rfl
theorem idx_1 (g o : Nat) (w : World) : Sem.run Try.prog (Instr.index 59 (.agg (nine g o)) (.int .i64 1)) w = .ok (.pointer (some ⟨g, o + 1, none⟩)) w := by kernel_rfl
theorem idx_2 (g o : Nat) (w : World) : Sem.run Try.prog (Instr.index 59 (.agg (nine g o)) (.int .i64 2)) w = .ok (.pointer (some ⟨g, o + 2, none⟩)) w := by kernel_rfl
theorem idx_3 (g o : Nat) (w : World) : Sem.run Try.prog (Instr.index 59 (.agg (nine g o)) (.int .i64 3)) w = .ok (.pointer (some ⟨g, o + 3, none⟩)) w := by kernel_rfl
theorem idx_4 (g o : Nat) (w : World) : Sem.run Try.prog (Instr.index 59 (.agg (nine g o)) (.int .i64 4)) w = .ok (.pointer (some ⟨g, o + 4, none⟩)) w := by kernel_rfl
theorem idx_5 (g o : Nat) (w : World) : Sem.run Try.prog (Instr.index 59 (.agg (nine g o)) (.int .i64 5)) w = .ok (.pointer (some ⟨g, o + 5, none⟩)) w := by kernel_rfl
theorem idx_6 (g o : Nat) (w : World) : Sem.run Try.prog (Instr.index 59 (.agg (nine g o)) (.int .i64 6)) w = .ok (.pointer (some ⟨g, o + 6, none⟩)) w := by kernel_rfl
theorem idx_7 (g o : Nat) (w : World) : Sem.run Try.prog (Instr.index 59 (.agg (nine g o)) (.int .i64 7)) w = .ok (.pointer (some ⟨g, o + 7, none⟩)) w := by kernel_rfl
theorem idx_8 (g o : Nat) (w : World) : Sem.run Try.prog (Instr.index 59 (.agg (nine g o)) (.int .i64 8)) w = .ok (.pointer (some ⟨g, o + 8, none⟩)) w := by kernel_rfl
theorem wpList_val {P : Program} {ops : Array Oper} {rest : List Oper} {o : Oper} {a : Act} {w : World} {Q : Exit → Act → World → Prop} (hw : Region.wanted o (yielded ops a.tmps) = true) (v : Value) (h : (execOp a.eval o).run P w = .ok (.value v) w) (hk : wpList P ops Q rest (a.put o.dst v) w) : wpList P ops Q (o :: rest) a w :=
  wpList_step fun _ hK => by
    rw [if_pos hw]
    unfold Oper.wp
    rw [h]
    exact hK _ _ hk
theorem exec_max {o : Oper} {a : Act} {w : World} (x y : Operand) (t u : TypeId) (ho : o.op = .call { callee := .builtin .max, args := #[x, y], argTypes := #[t, u] }) (m n : Int) (hx : a.eval x = .int .i64 m) (hy : a.eval y = .int .i64 n) : (execOp a.eval o).run Try.prog w = .ok (.value (.int .i64 (max m n))) w := by
  unfold execOp
  have hr : Sem.run Try.prog (Builtin.max_ #[t, u] o.type #[.int .i64 m, .int .i64 n]) w = .ok (.int .i64 (max m n)) w := by
    simp [go_sem]
    split <;> omega
  simp only [ho, resolve, invoke, builtin, Sem.run_bind, Sem.run_pure, Result.andThen_ok, List.map_toArray, List.map_cons, List.map_nil, hx, hy, hr]
attribute [local go_sem] nine_size idx_0 idx_1 idx_2 idx_3 idx_4 idx_5 idx_6 idx_7 idx_8
set_option maxRecDepth 100000 in
set_option maxHeartbeats 8000000 in
theorem tick_any (w : World) (bx g n cap : Nat) (ps : Nat → Rec) (hb : w.cell? ⟨bx, 17, none⟩ = some (.slice (some ⟨g, 0, none⟩) n cap)) (hp : Ports w g n ps) (hbg : bx ≠ g) (hn : n ≤ 1000) (hR : ∀ k, k < n → ∀ x, x < 9 → 0 ≤ (ps k).i (6 + x) ∧ (ps k).i (6 + x) ≤ 1000) :
    Calls Try.prog 13 #[.pointer (some ⟨bx, 0, none⟩)] w fun e w' => e = .returned (.tuple #[]) ∧ Ports w' g n (fun j => tickF (ps j)) ∧ Only (· = g) w w' := by
  have HR := Lib.hid hR
  have HP := Lib.hid hp
  have hbl : bx < w.heap.size := cell_lt hb
  clear hR hp
  go_enter Try.func13, Try.ntmps13
  go_wp2_with fail
  go_loopw [10] (fun i wr => ∃ m : Nat, m ≤ n ∧ i = .int .i64 m ∧ Hid (Ports wr g n (fun j => if j < m then tickF (ps j) else ps j)) ∧ Hid (Only (· = g) w wr)) (fun i _ => n - (intOf i).toNat)
  case atStart => exact ⟨0, by omega, rfl, Lib.hid (Ports.cong2 (fun j _ => by simp) HP.out), Lib.hid (Only.refl _ _)⟩
  case round =>
    obtain ⟨m, hm, rfl, hPm, hO⟩ := hrel
    have hm0 : (0 : Int) ≤ m := by omega
    by_cases hlt : m < n
    · have dl : decide ((m : Int) < n) = true := decide_eq_true (by omega)
      have hm1 : (m : Int) < n := by omega
      have hwm : IntKind.i64.wrap ((m : Int) + 1) = (m + 1 : Nat) := by unfold IntKind.wrap; simp [IntKind.signed, IntKind.bits]; omega
      have r17 : wr.cell? ⟨bx, 17, none⟩ = some (.slice (some ⟨g, 0, none⟩) n cap) := (hO.out.cell (p := ⟨bx, 17, none⟩) hbl hbg).trans hb
      go_wp2_with fail
      refine (all_any g (m * 89 + 6) wr).mono ?_
      rintro e w2 ⟨rfl, hb2⟩
      have hP2 := hPm.out.below hb2 hPm.out.lt
      have HO2 := Lib.hid (hO.out.trans (Only.of_below hb2))
      have HP2 := Lib.hid hP2
      obtain ⟨q, hq⟩ : ∃ x, x = ps m := ⟨_, rfl⟩
      have hqR := HR.out m hlt
      rw [← hq] at hqR
      have c0 : w2.cell? ⟨g, m * 89 + 6, none⟩ = some (.int .i64 (q.i 6)) := (HP2.out.cell hlt (j := 6) (by omega)).trans (by rw [if_neg (Nat.lt_irrefl _), ← hq]; rfl)
      have f0 : w2.frozen? ⟨g, m * 89 + 6, none⟩ = false := HP2.out.free _
      have wv0 : IntKind.i64.wrap (q.i 6 - 1) = q.i 6 - 1 := by have := hqR 0 (by omega); unfold IntKind.wrap; simp [IntKind.signed, IntKind.bits] at this ⊢; omega
      have c1 : w2.cell? ⟨g, m * 89 + 6 + 1, none⟩ = some (.int .i64 (q.i 7)) := (HP2.out.cell hlt (j := 7) (by omega)).trans (by rw [if_neg (Nat.lt_irrefl _), ← hq]; rfl)
      have f1 : w2.frozen? ⟨g, m * 89 + 6 + 1, none⟩ = false := HP2.out.free _
      have wv1 : IntKind.i64.wrap (q.i 7 - 1) = q.i 7 - 1 := by have := hqR 1 (by omega); unfold IntKind.wrap; simp [IntKind.signed, IntKind.bits] at this ⊢; omega
      have c2 : w2.cell? ⟨g, m * 89 + 6 + 2, none⟩ = some (.int .i64 (q.i 8)) := (HP2.out.cell hlt (j := 8) (by omega)).trans (by rw [if_neg (Nat.lt_irrefl _), ← hq]; rfl)
      have f2 : w2.frozen? ⟨g, m * 89 + 6 + 2, none⟩ = false := HP2.out.free _
      have wv2 : IntKind.i64.wrap (q.i 8 - 1) = q.i 8 - 1 := by have := hqR 2 (by omega); unfold IntKind.wrap; simp [IntKind.signed, IntKind.bits] at this ⊢; omega
      have c3 : w2.cell? ⟨g, m * 89 + 6 + 3, none⟩ = some (.int .i64 (q.i 9)) := (HP2.out.cell hlt (j := 9) (by omega)).trans (by rw [if_neg (Nat.lt_irrefl _), ← hq]; rfl)
      have f3 : w2.frozen? ⟨g, m * 89 + 6 + 3, none⟩ = false := HP2.out.free _
      have wv3 : IntKind.i64.wrap (q.i 9 - 1) = q.i 9 - 1 := by have := hqR 3 (by omega); unfold IntKind.wrap; simp [IntKind.signed, IntKind.bits] at this ⊢; omega
      have c4 : w2.cell? ⟨g, m * 89 + 6 + 4, none⟩ = some (.int .i64 (q.i 10)) := (HP2.out.cell hlt (j := 10) (by omega)).trans (by rw [if_neg (Nat.lt_irrefl _), ← hq]; rfl)
      have f4 : w2.frozen? ⟨g, m * 89 + 6 + 4, none⟩ = false := HP2.out.free _
      have wv4 : IntKind.i64.wrap (q.i 10 - 1) = q.i 10 - 1 := by have := hqR 4 (by omega); unfold IntKind.wrap; simp [IntKind.signed, IntKind.bits] at this ⊢; omega
      have c5 : w2.cell? ⟨g, m * 89 + 6 + 5, none⟩ = some (.int .i64 (q.i 11)) := (HP2.out.cell hlt (j := 11) (by omega)).trans (by rw [if_neg (Nat.lt_irrefl _), ← hq]; rfl)
      have f5 : w2.frozen? ⟨g, m * 89 + 6 + 5, none⟩ = false := HP2.out.free _
      have wv5 : IntKind.i64.wrap (q.i 11 - 1) = q.i 11 - 1 := by have := hqR 5 (by omega); unfold IntKind.wrap; simp [IntKind.signed, IntKind.bits] at this ⊢; omega
      have c6 : w2.cell? ⟨g, m * 89 + 6 + 6, none⟩ = some (.int .i64 (q.i 12)) := (HP2.out.cell hlt (j := 12) (by omega)).trans (by rw [if_neg (Nat.lt_irrefl _), ← hq]; rfl)
      have f6 : w2.frozen? ⟨g, m * 89 + 6 + 6, none⟩ = false := HP2.out.free _
      have wv6 : IntKind.i64.wrap (q.i 12 - 1) = q.i 12 - 1 := by have := hqR 6 (by omega); unfold IntKind.wrap; simp [IntKind.signed, IntKind.bits] at this ⊢; omega
      have c7 : w2.cell? ⟨g, m * 89 + 6 + 7, none⟩ = some (.int .i64 (q.i 13)) := (HP2.out.cell hlt (j := 13) (by omega)).trans (by rw [if_neg (Nat.lt_irrefl _), ← hq]; rfl)
      have f7 : w2.frozen? ⟨g, m * 89 + 6 + 7, none⟩ = false := HP2.out.free _
      have wv7 : IntKind.i64.wrap (q.i 13 - 1) = q.i 13 - 1 := by have := hqR 7 (by omega); unfold IntKind.wrap; simp [IntKind.signed, IntKind.bits] at this ⊢; omega
      have c8 : w2.cell? ⟨g, m * 89 + 6 + 8, none⟩ = some (.int .i64 (q.i 14)) := (HP2.out.cell hlt (j := 14) (by omega)).trans (by rw [if_neg (Nat.lt_irrefl _), ← hq]; rfl)
      have f8 : w2.frozen? ⟨g, m * 89 + 6 + 8, none⟩ = false := HP2.out.free _
      have wv8 : IntKind.i64.wrap (q.i 14 - 1) = q.i 14 - 1 := by have := hqR 8 (by omega); unfold IntKind.wrap; simp [IntKind.signed, IntKind.bits] at this ⊢; omega
      have Hq := Lib.hid hq
      clear hb2 hP2 hq hqR r17
      go_wp2_with fail
      refine wp_loop_rounds 10 ?_
      rw [rounds_succ]
      go_wp2_with (first | (refine wpList_val (by rfl) _ (exec_max _ _ _ _ rfl _ _ rfl rfl) ?_; simp only [Act.put, List.setIfInBounds_toArray, List.set_cons_zero, List.set_cons_succ]) | fail)
      rw [rounds_succ]
      go_wp2_with (first | (refine wpList_val (by rfl) _ (exec_max _ _ _ _ rfl _ _ rfl rfl) ?_; simp only [Act.put, List.setIfInBounds_toArray, List.set_cons_zero, List.set_cons_succ]) | fail)
      rw [rounds_succ]
      go_wp2_with (first | (refine wpList_val (by rfl) _ (exec_max _ _ _ _ rfl _ _ rfl rfl) ?_; simp only [Act.put, List.setIfInBounds_toArray, List.set_cons_zero, List.set_cons_succ]) | fail)
      rw [rounds_succ]
      go_wp2_with (first | (refine wpList_val (by rfl) _ (exec_max _ _ _ _ rfl _ _ rfl rfl) ?_; simp only [Act.put, List.setIfInBounds_toArray, List.set_cons_zero, List.set_cons_succ]) | fail)
      rw [rounds_succ]
      go_wp2_with (first | (refine wpList_val (by rfl) _ (exec_max _ _ _ _ rfl _ _ rfl rfl) ?_; simp only [Act.put, List.setIfInBounds_toArray, List.set_cons_zero, List.set_cons_succ]) | fail)
      rw [rounds_succ]
      go_wp2_with (first | (refine wpList_val (by rfl) _ (exec_max _ _ _ _ rfl _ _ rfl rfl) ?_; simp only [Act.put, List.setIfInBounds_toArray, List.set_cons_zero, List.set_cons_succ]) | fail)
      rw [rounds_succ]
      go_wp2_with (first | (refine wpList_val (by rfl) _ (exec_max _ _ _ _ rfl _ _ rfl rfl) ?_; simp only [Act.put, List.setIfInBounds_toArray, List.set_cons_zero, List.set_cons_succ]) | fail)
      rw [rounds_succ]
      go_wp2_with (first | (refine wpList_val (by rfl) _ (exec_max _ _ _ _ rfl _ _ rfl rfl) ?_; simp only [Act.put, List.setIfInBounds_toArray, List.set_cons_zero, List.set_cons_succ]) | fail)
      rw [rounds_succ]
      go_wp2_with (first | (refine wpList_val (by rfl) _ (exec_max _ _ _ _ rfl _ _ rfl rfl) ?_; simp only [Act.put, List.setIfInBounds_toArray, List.set_cons_zero, List.set_cons_succ]) | fail)
      rw [rounds_succ]
      go_wp2_with (first | (refine wpList_val (by rfl) _ (exec_max _ _ _ _ rfl _ _ rfl rfl) ?_; simp only [Act.put, List.setIfInBounds_toArray, List.set_cons_zero, List.set_cons_succ]) | fail)
      exact ⟨⟨m + 1, by omega, rfl, Lib.hid (Ports.cong2 (fun j hj => by
        by_cases e : j = m
        · subst e
          rw [upd_same, if_neg (Nat.lt_irrefl _), if_pos (Nat.lt_succ_self _), Hq.out]
          exact tick_row _
        · unfold upd
          rw [if_neg e]
          show (if j < m then tickF (ps j) else ps j) = _
          by_cases h : j < m
          · rw [if_pos h, if_pos (by omega)]
          · rw [if_neg h, if_neg (by omega)]) ((((((((((HP2.out.start m).step (j := 6) (by omega) (rowP_put_6 _ _)).step (j := 7) (by omega) (rowP_put_7 _ _)).step (j := 8) (by omega) (rowP_put_8 _ _)).step (j := 9) (by omega) (rowP_put_9 _ _)).step (j := 10) (by omega) (rowP_put_10 _ _)).step (j := 11) (by omega) (rowP_put_11 _ _)).step (j := 12) (by omega) (rowP_put_12 _ _)).step (j := 13) (by omega) (rowP_put_13 _ _)).step (j := 14) (by omega) (rowP_put_14 _ _))), Lib.hid (((((((((HO2.out.setCell (Or.inl rfl) _).setCell (Or.inl rfl) _).setCell (Or.inl rfl) _).setCell (Or.inl rfl) _).setCell (Or.inl rfl) _).setCell (Or.inl rfl) _).setCell (Or.inl rfl) _).setCell (Or.inl rfl) _).setCell (Or.inl rfl) _)⟩, by simp [intOf]; omega⟩
    · have dl : decide ((m : Int) < n) = false := decide_eq_false (by omega)
      obtain rfl : m = n := by omega
      go_wp2_with fail
      go_end0
      exact ⟨rfl, Ports.cong2 (fun j hj => by simp [hj]) hPm.out, hO.out⟩
end Go.Proofs.Ytpnlblkeckpmnaa.Br
