/- Chapter 15: the rows of all states (ford/trans.port.roles). Condition: the bridge lies in memory. -/
import Derived.Test.YtdangeefecdbaaaTr5
set_option linter.unusedSimpArgs false
set_option linter.unusedVariables false
namespace Go.Proofs.Ytdangeefecdbaaa.Br
open Go.RowKit
theorem andL {c d : Bool} (h : (c && d) = true) : c = true := by cases c <;> simp_all
theorem andR {c d : Bool} (h : (c && d) = true) : d = true := by cases c <;> simp_all
theorem notT {d : Bool} (h : (!d) = true) : d = false := by cases d <;> simp_all
theorem wp_appendR {bx g : Nat} {b : Bri} {ss : Nat → Rec} {fs : Nat → Int} {w : World} {o : Oper} {a : Act} {K : Act → World → Prop} {Q : Exit → Act → World → Prop} (s x : Operand)
    (ho : o.op = .call { callee := .builtin .append, args := #[s, x], argTypes := #[58, 58] }) {v1 v2 : Value} {d1 d2 : List (Bool × (Nat → Rec))} (hs : a.eval s = v1) (hx : a.eval x = v2) (h1 : RowsF bx g b ss fs w v1 d1) (h2 : Rows bx g b ss fs w v2 d2) (hl1 : d1.length ≤ 100) (hl2 : d2.length ≤ 100) {dd : Option Nat} (hdd : o.dst = dd)
    (h : ∀ v w', Rows bx g b ss fs w' v (d1 ++ d2) → Below w.heap.size w w' → K (a.put dd v) w') : o.wp Try.prog a w K Q := by
  subst hdd
  obtain ⟨v, w', hr, hR, hb⟩ := run_append_rows h1 h2 hl1 hl2 o.type
  unfold Oper.wp
  simp [execOp, ho, resolve, invoke, builtin, hs, hx, hr, Result.andThen]
  exact h _ _ hR hb
theorem wpStill_val {ops : Array Oper} {rest : List Oper} {o : Oper} {a : Act} {w : World} {Q : Act → Prop} (hw : Region.wanted o (yielded ops a.tmps) = true) (v : Value) (h : (execOp a.eval o).run Try.prog w = .ok (.value v) w) (hk : wpStill Try.prog ops w Q rest (a.put o.dst v)) : wpStill Try.prog ops w Q (o :: rest) a :=
  wpStill_step fun K hK => by
    rw [if_pos hw]
    unfold Oper.still
    rw [h, Oper.stillUpon_value]
    exact hK _ hk
theorem wpStill_bif {ops : Array Oper} {rest : List Oper} {o : Oper} {a : Act} {w : World} {Q : Act → Prop} {c : Bool} {v : Value} (hw : Region.wanted o (yielded ops a.tmps) = c) (hy : c = true → (execOp a.eval o).run Try.prog w = .ok (.value v) w) (hk : wpStill Try.prog ops w Q rest (a.put o.dst (bif c then v else undef))) : wpStill Try.prog ops w Q (o :: rest) a :=
  wpStill_step fun K hK => by
    cases c
    · rw [hw, if_neg (by simp)]
      exact hK _ hk
    · rw [if_pos hw]
      unfold Oper.still
      rw [hy rfl, Oper.stillUpon_value]
      exact hK _ hk
theorem exec_rowX {o : Oper} {a : Act} {w : World} (x : Operand) (ho : o.op = .load 57 x) (g : Nat) (hx : a.eval x = .pointer (some ⟨g, 0, none⟩)) (c0 c1 c2 c3 c4 : Value) (hg : w.heap[g]? = some (.cells #[c0, c1, c2, c3, c4] 57 (0, 0))) : (execOp a.eval o).run Try.prog w = .ok (.value (.agg #[c0, c1, c2, c3, c4])) w := by
  unfold execOp
  simp only [ho, hx, Instr.loadAt, Instr.sureAddr, Sem.run_bind, Sem.run_pure, Result.andThen_ok, run_loadVar_row w g 57 57 #[c0, c1, c2, c3, c4] (0, 0) _ hg Try.underlying57 rfl (by kernel_rfl)]
theorem row_held {W : World} {g B : Nat} {C : Array Value} {T : TypeId} {fr : Nat × Nat} (h : W.heap[g]? = some (.cells C T fr)) (hB : g < B) : ∀ w, Below B W w → w.rangeAt g 0 C.toList := fun w hw j v hv => by
  rw [Nat.zero_add, cells_of ((hw.block g hB).trans h) j]
  simpa using hv
/-- The rows of all states: a port takes the role on that it is to have. -/
def rolesL (b : Bri) (k : Nat) (p : Rec) (ps : Nat → Rec) : List (Bool × (Nat → Rec)) :=
  [((p.i 87 != p.i 88) && (p.i 88 == 0), upd ps k (enterF b 0 p)), ((p.i 87 != p.i 88) && (p.i 88 == 3), upd ps k (enterF b 2 p)), ((p.i 87 != p.i 88) && (p.i 88 == 4), upd ps k (enterF b 3 p)), ((p.i 87 != p.i 88) && ((p.i 88 == 1) || (p.i 88 == 2)), upd ps k (enterF b 4 p))]
attribute [local go_sem] bldRow mkRows1 mkRows2 mkRows4 mkRows5 mkRows6
set_option maxRecDepth 100000 in
set_option maxHeartbeats 8000000 in
theorem roles_any (w : World) (bx g k : Nat) (b : Bri) (ps ss : Nat → Rec) (fs : Nat → Int) (p : Rec) (h : Bst w bx g b (upd ps k p) ss fs) (hk : k < b.n) : Calls Try.prog 18 #[.agg #[.pointer (some ⟨bx, 0, none⟩), .int .i64 k, .pointer (some ⟨g, k * 89, none⟩), .pointer (some ⟨g, k * 89 + 22, none⟩), .pointer (some ⟨g, k * 89 + 6, none⟩)]] w fun e w' => ∃ v, e = .returned v ∧ RowsF bx g b ss fs w' v (rolesL b k p ps) ∧ Below w.heap.size w w' := by
  go_enter Try.func18, Try.ntmps18
  go_upto_region 1 with (fail)
  refine ((?_ : ∀ x, x = w.alloc (.cells #[.pointer (some ⟨bx, 0, none⟩), .int .i64 k, .pointer (some ⟨g, k * 89, none⟩), .pointer (some ⟨g, k * 89 + 22, none⟩), .pointer (some ⟨g, k * 89 + 6, none⟩)] 57) → Code.wp _ _ _ _ x) _ rfl)
  intro w1 hw1
  obtain ⟨gx, hgx⟩ : ∃ x, x = w.heap.size := ⟨_, rfl⟩
  rw [← hgx]
  have hX1 : w1.heap[gx]? = some (.cells #[.pointer (some ⟨bx, 0, none⟩), .int .i64 k, .pointer (some ⟨g, k * 89, none⟩), .pointer (some ⟨g, k * 89 + 22, none⟩), .pointer (some ⟨g, k * 89 + 6, none⟩)] 57 (0, 0)) := by rw [hw1, hgx]; exact heap_alloc_new _ _
  have h1 : Bst w1 bx g b (upd ps k p) ss fs := by rw [hw1]; exact h.below (more (Below.refl _ _) _)
  have hbw : Below w.heap.size w w1 := by rw [hw1]; exact more (Below.refl _ _) _
  have HBW := Lib.hid hbw
  have HGX := Lib.hid hgx
  have ho1 : Only (· = g) w w1 := by rw [hw1]; exact (Only.refl _ _).alloc _
  have ngx : ¬ gx = g := by have := h.p.lt; omega
  have nxg : ¬ g = gx := by have := h.p.lt; omega
  have nxb : ¬ gx = bx := by have := h.lt; omega
  have H1 := Lib.hid h1
  have HO1 := Lib.hid ho1
  have lx := (Array.getElem?_eq_some_iff.1 hX1).1
  have HX1 := Lib.hid hX1
  clear hw1 hgx hX1 h1 ho1 h hbw
  have x0 : w1.cell? ⟨gx, 0, none⟩ = some (.pointer (some ⟨bx, 0, none⟩)) := cells_of HX1.out 0
  have x1 : w1.cell? ⟨gx, 1, none⟩ = some (.int .i64 k) := cells_of HX1.out 1
  have x2 : w1.cell? ⟨gx, 2, none⟩ = some (.pointer (some ⟨g, k * 89, none⟩)) := cells_of HX1.out 2
  have x3 : w1.cell? ⟨gx, 3, none⟩ = some (.pointer (some ⟨g, k * 89 + 22, none⟩)) := cells_of HX1.out 3
  have x4 : w1.cell? ⟨gx, 4, none⟩ = some (.pointer (some ⟨g, k * 89 + 6, none⟩)) := cells_of HX1.out 4
  have c87 : w1.cell? ⟨g, k * 89 + 87, none⟩ = some (.int .i64 (p.i 87)) := (H1.out.p.cell hk (j := 87) (by omega)).trans (by rw [upd_same]; rfl)
  have c88 : w1.cell? ⟨g, k * 89 + 88, none⟩ = some (.int .i64 (p.i 88)) := (H1.out.p.cell hk (j := 88) (by omega)).trans (by rw [upd_same]; rfl)
  go_upto_region 3 with (fail)
  obtain ⟨qo, hqo⟩ : ∃ x : Bool, x = (p.i 87 != p.i 88) := ⟨_, rfl⟩
  rw [← hqo]
  have Hqo := Lib.hid hqo
  clear hqo
  obtain ⟨q20, hq20⟩ : ∃ x : Bool, x = ((p.i 88) == 0) := ⟨_, rfl⟩
  have Hq20 := Lib.hid hq20
  clear hq20
  obtain ⟨q21, hq21⟩ : ∃ x : Bool, x = (qo && q20) := ⟨_, rfl⟩
  have Hq21 := Lib.hid hq21
  clear hq21
  obtain ⟨q28, hq28⟩ : ∃ x : Bool, x = ((p.i 88) == 3) := ⟨_, rfl⟩
  have Hq28 := Lib.hid hq28
  clear hq28
  obtain ⟨q29, hq29⟩ : ∃ x : Bool, x = (qo && q28) := ⟨_, rfl⟩
  have Hq29 := Lib.hid hq29
  clear hq29
  obtain ⟨q36, hq36⟩ : ∃ x : Bool, x = ((p.i 88) == 4) := ⟨_, rfl⟩
  have Hq36 := Lib.hid hq36
  clear hq36
  obtain ⟨q37, hq37⟩ : ∃ x : Bool, x = (qo && q36) := ⟨_, rfl⟩
  have Hq37 := Lib.hid hq37
  clear hq37
  obtain ⟨q44, hq44⟩ : ∃ x : Bool, x = ((p.i 88) == 1) := ⟨_, rfl⟩
  have Hq44 := Lib.hid hq44
  clear hq44
  obtain ⟨q47, hq47⟩ : ∃ x : Bool, x = ((p.i 88) == 2) := ⟨_, rfl⟩
  have Hq47 := Lib.hid hq47
  clear hq47
  obtain ⟨q48, hq48⟩ : ∃ x : Bool, x = (q44 || q47) := ⟨_, rfl⟩
  have Hq48 := Lib.hid hq48
  clear hq48
  obtain ⟨q49, hq49⟩ : ∃ x : Bool, x = (qo && q48) := ⟨_, rfl⟩
  have Hq49 := Lib.hid hq49
  clear hq49
  refine wp_region_held_drew (S := fun w' => Below w1.heap.size w1 w') (by kernel_rfl) (Below.refl _ _).drew (fun hH => ?_)
  refine wpAnyH_take (i := 0) (v := .bool qo) rfl (by kernel_rfl) (by kernel_rfl) (by kernel_rfl) (fun _ _ _ h => h) (Or.inl ⟨by kernel_rfl, fun z hz => by kernel_rfl⟩) hH ?_
  simp only [List.getElem_toArray, List.getElem_cons_succ, List.getElem_cons_zero, Act.put, List.setIfInBounds_toArray, List.set_cons_zero, List.set_cons_succ]
  refine wpAnyH_take (i := 1) (v := .bool qo) rfl (by kernel_rfl) (by kernel_rfl) (by kernel_rfl) (fun _ _ _ h => h) (Or.inl ⟨by kernel_rfl, fun z hz => by kernel_rfl⟩) hH ?_
  simp only [List.getElem_toArray, List.getElem_cons_succ, List.getElem_cons_zero, Act.put, List.setIfInBounds_toArray, List.set_cons_zero, List.set_cons_succ]
  refine wpAnyH_take (i := 2) (v := (bif qo then .int .i64 (p.i 88) else undef)) rfl (by kernel_rfl) (by kernel_rfl) (by kernel_rfl) (fun _ _ _ h => h) (yields_bif (wanted_t rfl (by kernel_rfl)) (fun hc z hz => by have h0 := hc; simp [go_sem, execOp, h0])) hH ?_
  simp only [List.getElem_toArray, List.getElem_cons_succ, List.getElem_cons_zero, Act.put, List.setIfInBounds_toArray, List.set_cons_zero, List.set_cons_succ]
  refine wpAnyH_take (i := 3) (v := (bif qo then .bool q20 else undef)) rfl (by kernel_rfl) (by kernel_rfl) (by kernel_rfl) (fun _ _ _ h => h) (yields_bif (wanted_t rfl (by kernel_rfl)) (fun hc z hz => by have h0 := hc; rw [Hq20.out]; simp [go_sem, execOp, h0])) hH ?_
  simp only [List.getElem_toArray, List.getElem_cons_succ, List.getElem_cons_zero, Act.put, List.setIfInBounds_toArray, List.set_cons_zero, List.set_cons_succ]
  refine wpAnyH_take (i := 4) (v := .bool q21) rfl (by kernel_rfl) (by kernel_rfl) (by kernel_rfl) (fun _ _ _ h => h) (Or.inl ⟨by kernel_rfl, fun z hz => by rw [Hq21.out]; cases hA : qo <;> simp [go_sem, execOp, hA]⟩) hH ?_
  simp only [List.getElem_toArray, List.getElem_cons_succ, List.getElem_cons_zero, Act.put, List.setIfInBounds_toArray, List.set_cons_zero, List.set_cons_succ]
  refine wpAnyH_take (i := 5) (v := .agg #[.pointer (some ⟨bx, 0, none⟩), .int .i64 k, .pointer (some ⟨g, k * 89, none⟩), .pointer (some ⟨g, k * 89 + 22, none⟩), .pointer (some ⟨g, k * 89 + 6, none⟩)]) rfl (by kernel_rfl) (by kernel_rfl) (by kernel_rfl) (fun _ _ _ h => h) (by exact yieldsIf_load_mid (by kernel_rfl) 57 (.tmp 1) (by kernel_rfl) gx (0) (by kernel_rfl) (#[.pointer (some ⟨bx, 0, none⟩), .int .i64 k, .pointer (some ⟨g, k * 89, none⟩), .pointer (some ⟨g, k * 89 + 22, none⟩), .pointer (some ⟨g, k * 89 + 6, none⟩)]).toList _ (row_held HX1.out lx) Try.underlying57 rfl (by kernel_rfl)) hH ?_
  simp only [List.getElem_toArray, List.getElem_cons_succ, List.getElem_cons_zero, Act.put, List.setIfInBounds_toArray, List.set_cons_zero, List.set_cons_succ]
  refine wpAnyH_take (i := 8) (v := .bool qo) rfl (by kernel_rfl) (by kernel_rfl) (by kernel_rfl) (fun _ _ _ h => h) (Or.inl ⟨by kernel_rfl, fun z hz => by kernel_rfl⟩) hH ?_
  simp only [List.getElem_toArray, List.getElem_cons_succ, List.getElem_cons_zero, Act.put, List.setIfInBounds_toArray, List.set_cons_zero, List.set_cons_succ]
  refine wpAnyH_take (i := 13) (v := .agg #[.pointer (some ⟨bx, 0, none⟩), .int .i64 k, .pointer (some ⟨g, k * 89, none⟩), .pointer (some ⟨g, k * 89 + 22, none⟩), .pointer (some ⟨g, k * 89 + 6, none⟩)]) rfl (by kernel_rfl) (by kernel_rfl) (by kernel_rfl) (fun _ _ _ h => h) (by exact yieldsIf_load_mid (by kernel_rfl) 57 (.tmp 1) (by kernel_rfl) gx (0) (by kernel_rfl) (#[.pointer (some ⟨bx, 0, none⟩), .int .i64 k, .pointer (some ⟨g, k * 89, none⟩), .pointer (some ⟨g, k * 89 + 22, none⟩), .pointer (some ⟨g, k * 89 + 6, none⟩)]).toList _ (row_held HX1.out lx) Try.underlying57 rfl (by kernel_rfl)) hH ?_
  simp only [List.getElem_toArray, List.getElem_cons_succ, List.getElem_cons_zero, Act.put, List.setIfInBounds_toArray, List.set_cons_zero, List.set_cons_succ]
  refine wpAnyH_take (i := 16) (v := .bool qo) rfl (by kernel_rfl) (by kernel_rfl) (by kernel_rfl) (fun _ _ _ h => h) (Or.inl ⟨by kernel_rfl, fun z hz => by kernel_rfl⟩) hH ?_
  simp only [List.getElem_toArray, List.getElem_cons_succ, List.getElem_cons_zero, Act.put, List.setIfInBounds_toArray, List.set_cons_zero, List.set_cons_succ]
  refine wpAnyH_take (i := 21) (v := .agg #[.pointer (some ⟨bx, 0, none⟩), .int .i64 k, .pointer (some ⟨g, k * 89, none⟩), .pointer (some ⟨g, k * 89 + 22, none⟩), .pointer (some ⟨g, k * 89 + 6, none⟩)]) rfl (by kernel_rfl) (by kernel_rfl) (by kernel_rfl) (fun _ _ _ h => h) (by exact yieldsIf_load_mid (by kernel_rfl) 57 (.tmp 1) (by kernel_rfl) gx (0) (by kernel_rfl) (#[.pointer (some ⟨bx, 0, none⟩), .int .i64 k, .pointer (some ⟨g, k * 89, none⟩), .pointer (some ⟨g, k * 89 + 22, none⟩), .pointer (some ⟨g, k * 89 + 6, none⟩)]).toList _ (row_held HX1.out lx) Try.underlying57 rfl (by kernel_rfl)) hH ?_
  simp only [List.getElem_toArray, List.getElem_cons_succ, List.getElem_cons_zero, Act.put, List.setIfInBounds_toArray, List.set_cons_zero, List.set_cons_succ]
  refine wpAnyH_take (i := 24) (v := .bool qo) rfl (by kernel_rfl) (by kernel_rfl) (by kernel_rfl) (fun _ _ _ h => h) (Or.inl ⟨by kernel_rfl, fun z hz => by kernel_rfl⟩) hH ?_
  simp only [List.getElem_toArray, List.getElem_cons_succ, List.getElem_cons_zero, Act.put, List.setIfInBounds_toArray, List.set_cons_zero, List.set_cons_succ]
  refine wpAnyH_take (i := 33) (v := .agg #[.pointer (some ⟨bx, 0, none⟩), .int .i64 k, .pointer (some ⟨g, k * 89, none⟩), .pointer (some ⟨g, k * 89 + 22, none⟩), .pointer (some ⟨g, k * 89 + 6, none⟩)]) rfl (by kernel_rfl) (by kernel_rfl) (by kernel_rfl) (fun _ _ _ h => h) (by exact yieldsIf_load_mid (by kernel_rfl) 57 (.tmp 1) (by kernel_rfl) gx (0) (by kernel_rfl) (#[.pointer (some ⟨bx, 0, none⟩), .int .i64 k, .pointer (some ⟨g, k * 89, none⟩), .pointer (some ⟨g, k * 89 + 22, none⟩), .pointer (some ⟨g, k * 89 + 6, none⟩)]).toList _ (row_held HX1.out lx) Try.underlying57 rfl (by kernel_rfl)) hH ?_
  simp only [List.getElem_toArray, List.getElem_cons_succ, List.getElem_cons_zero, Act.put, List.setIfInBounds_toArray, List.set_cons_zero, List.set_cons_succ]
  refine wpAnyH_ready (rs := [6]) (by kernel_rfl) (by simp) (AllReadyH.cons rfl (fun K hK => ?_) AllReadyH.nil)
  go_simp
  refine (enter_any _ bx g k b ps ss fs p (H1.out.below hH) hk 0 (by omega)).mono ?_
  rintro e we23 ⟨f23, bn23, cp23, rfl, hD23, hbe⟩
  have HD23 := Lib.hid hD23
  refine hK.out _ _ (hH.trans (hbe.mono hH.size)) (fun hA => ?_)
  have hb23 := Lib.hid hbe
  clear hK K hbe hD23
  refine wpAnyH_take (i := 7) (v := .agg #[.bool q21, .func (.func f23) bn23 cp23]) rfl (by kernel_rfl) (by kernel_rfl) (by kernel_rfl) (fun _ _ _ h => h) (Or.inl ⟨by kernel_rfl, fun z hz => by simp [go_sem, execOp, bldRow]⟩) hA ?_
  simp only [List.getElem_toArray, List.getElem_cons_succ, List.getElem_cons_zero, Act.put, List.setIfInBounds_toArray, List.set_cons_zero, List.set_cons_succ]
  refine wpAnyH_take (i := 9) (v := .bool qo) rfl (by kernel_rfl) (by kernel_rfl) (by kernel_rfl) (fun _ _ _ h => h) (Or.inl ⟨by kernel_rfl, fun z hz => by kernel_rfl⟩) hA ?_
  simp only [List.getElem_toArray, List.getElem_cons_succ, List.getElem_cons_zero, Act.put, List.setIfInBounds_toArray, List.set_cons_zero, List.set_cons_succ]
  refine wpAnyH_take (i := 10) (v := (bif qo then .int .i64 (p.i 88) else undef)) rfl (by kernel_rfl) (by kernel_rfl) (by kernel_rfl) (fun _ _ _ h => h) (yields_bif (wanted_t rfl (by kernel_rfl)) (fun hc z hz => by have h0 := hc; simp [go_sem, execOp, h0])) hA ?_
  simp only [List.getElem_toArray, List.getElem_cons_succ, List.getElem_cons_zero, Act.put, List.setIfInBounds_toArray, List.set_cons_zero, List.set_cons_succ]
  refine wpAnyH_take (i := 11) (v := (bif qo then .bool q28 else undef)) rfl (by kernel_rfl) (by kernel_rfl) (by kernel_rfl) (fun _ _ _ h => h) (yields_bif (wanted_t rfl (by kernel_rfl)) (fun hc z hz => by have h0 := hc; rw [Hq28.out]; simp [go_sem, execOp, h0])) hA ?_
  simp only [List.getElem_toArray, List.getElem_cons_succ, List.getElem_cons_zero, Act.put, List.setIfInBounds_toArray, List.set_cons_zero, List.set_cons_succ]
  refine wpAnyH_take (i := 12) (v := .bool q29) rfl (by kernel_rfl) (by kernel_rfl) (by kernel_rfl) (fun _ _ _ h => h) (Or.inl ⟨by kernel_rfl, fun z hz => by rw [Hq29.out]; cases hA : qo <;> simp [go_sem, execOp, hA]⟩) hA ?_
  simp only [List.getElem_toArray, List.getElem_cons_succ, List.getElem_cons_zero, Act.put, List.setIfInBounds_toArray, List.set_cons_zero, List.set_cons_succ]
  refine wpAnyH_ready (rs := [14]) (by kernel_rfl) (by simp) (AllReadyH.cons rfl (fun K hK => ?_) AllReadyH.nil)
  go_simp
  refine (enter_any _ bx g k b ps ss fs p (H1.out.below hA) hk 2 (by omega)).mono ?_
  rintro e we31 ⟨f31, bn31, cp31, rfl, hD31, hbe⟩
  have HD31 := Lib.hid hD31
  refine hK.out _ _ (hA.trans (hbe.mono hA.size)) (fun hB => ?_)
  have hb31 := Lib.hid hbe
  clear hK K hbe hD31
  refine wpAnyH_take (i := 15) (v := .agg #[.bool q29, .func (.func f31) bn31 cp31]) rfl (by kernel_rfl) (by kernel_rfl) (by kernel_rfl) (fun _ _ _ h => h) (Or.inl ⟨by kernel_rfl, fun z hz => by simp [go_sem, execOp, bldRow]⟩) hB ?_
  simp only [List.getElem_toArray, List.getElem_cons_succ, List.getElem_cons_zero, Act.put, List.setIfInBounds_toArray, List.set_cons_zero, List.set_cons_succ]
  refine wpAnyH_take (i := 17) (v := .bool qo) rfl (by kernel_rfl) (by kernel_rfl) (by kernel_rfl) (fun _ _ _ h => h) (Or.inl ⟨by kernel_rfl, fun z hz => by kernel_rfl⟩) hB ?_
  simp only [List.getElem_toArray, List.getElem_cons_succ, List.getElem_cons_zero, Act.put, List.setIfInBounds_toArray, List.set_cons_zero, List.set_cons_succ]
  refine wpAnyH_take (i := 18) (v := (bif qo then .int .i64 (p.i 88) else undef)) rfl (by kernel_rfl) (by kernel_rfl) (by kernel_rfl) (fun _ _ _ h => h) (yields_bif (wanted_t rfl (by kernel_rfl)) (fun hc z hz => by have h0 := hc; simp [go_sem, execOp, h0])) hB ?_
  simp only [List.getElem_toArray, List.getElem_cons_succ, List.getElem_cons_zero, Act.put, List.setIfInBounds_toArray, List.set_cons_zero, List.set_cons_succ]
  refine wpAnyH_take (i := 19) (v := (bif qo then .bool q36 else undef)) rfl (by kernel_rfl) (by kernel_rfl) (by kernel_rfl) (fun _ _ _ h => h) (yields_bif (wanted_t rfl (by kernel_rfl)) (fun hc z hz => by have h0 := hc; rw [Hq36.out]; simp [go_sem, execOp, h0])) hB ?_
  simp only [List.getElem_toArray, List.getElem_cons_succ, List.getElem_cons_zero, Act.put, List.setIfInBounds_toArray, List.set_cons_zero, List.set_cons_succ]
  refine wpAnyH_take (i := 20) (v := .bool q37) rfl (by kernel_rfl) (by kernel_rfl) (by kernel_rfl) (fun _ _ _ h => h) (Or.inl ⟨by kernel_rfl, fun z hz => by rw [Hq37.out]; cases hA : qo <;> simp [go_sem, execOp, hA]⟩) hB ?_
  simp only [List.getElem_toArray, List.getElem_cons_succ, List.getElem_cons_zero, Act.put, List.setIfInBounds_toArray, List.set_cons_zero, List.set_cons_succ]
  refine wpAnyH_ready (rs := [22]) (by kernel_rfl) (by simp) (AllReadyH.cons rfl (fun K hK => ?_) AllReadyH.nil)
  go_simp
  refine (enter_any _ bx g k b ps ss fs p (H1.out.below hB) hk 3 (by omega)).mono ?_
  rintro e we39 ⟨f39, bn39, cp39, rfl, hD39, hbe⟩
  have HD39 := Lib.hid hD39
  refine hK.out _ _ (hB.trans (hbe.mono hB.size)) (fun hC => ?_)
  have hb39 := Lib.hid hbe
  clear hK K hbe hD39
  refine wpAnyH_take (i := 23) (v := .agg #[.bool q37, .func (.func f39) bn39 cp39]) rfl (by kernel_rfl) (by kernel_rfl) (by kernel_rfl) (fun _ _ _ h => h) (Or.inl ⟨by kernel_rfl, fun z hz => by simp [go_sem, execOp, bldRow]⟩) hC ?_
  simp only [List.getElem_toArray, List.getElem_cons_succ, List.getElem_cons_zero, Act.put, List.setIfInBounds_toArray, List.set_cons_zero, List.set_cons_succ]
  refine wpAnyH_take (i := 25) (v := .bool qo) rfl (by kernel_rfl) (by kernel_rfl) (by kernel_rfl) (fun _ _ _ h => h) (Or.inl ⟨by kernel_rfl, fun z hz => by kernel_rfl⟩) hC ?_
  simp only [List.getElem_toArray, List.getElem_cons_succ, List.getElem_cons_zero, Act.put, List.setIfInBounds_toArray, List.set_cons_zero, List.set_cons_succ]
  refine wpAnyH_take (i := 26) (v := (bif qo then .int .i64 (p.i 88) else undef)) rfl (by kernel_rfl) (by kernel_rfl) (by kernel_rfl) (fun _ _ _ h => h) (yields_bif (wanted_t rfl (by kernel_rfl)) (fun hc z hz => by have h0 := hc; simp [go_sem, execOp, h0])) hC ?_
  simp only [List.getElem_toArray, List.getElem_cons_succ, List.getElem_cons_zero, Act.put, List.setIfInBounds_toArray, List.set_cons_zero, List.set_cons_succ]
  refine wpAnyH_take (i := 27) (v := (bif qo then .bool q44 else undef)) rfl (by kernel_rfl) (by kernel_rfl) (by kernel_rfl) (fun _ _ _ h => h) (yields_bif (wanted_t rfl (by kernel_rfl)) (fun hc z hz => by have h0 := hc; rw [Hq44.out]; simp [go_sem, execOp, h0])) hC ?_
  simp only [List.getElem_toArray, List.getElem_cons_succ, List.getElem_cons_zero, Act.put, List.setIfInBounds_toArray, List.set_cons_zero, List.set_cons_succ]
  refine wpAnyH_take (i := 28) (v := (bif qo then .bool q44 else undef)) rfl (by kernel_rfl) (by kernel_rfl) (by kernel_rfl) (fun _ _ _ h => h) (yields_bif (wanted_t rfl (by kernel_rfl)) (fun hc z hz => by have h0 := hc; simp [go_sem, execOp, h0])) hC ?_
  simp only [List.getElem_toArray, List.getElem_cons_succ, List.getElem_cons_zero, Act.put, List.setIfInBounds_toArray, List.set_cons_zero, List.set_cons_succ]
  refine wpAnyH_take (i := 29) (v := (bif (qo && (!q44)) then .int .i64 (p.i 88) else undef)) rfl (by kernel_rfl) (by kernel_rfl) (by kernel_rfl) (fun _ _ _ h => h) (yields_bif (wanted_cf rfl (yielded_bif (by kernel_rfl))) (fun hc z hz => by have h1 := notT (andR hc); have hc1 := andL hc; have h0 := hc1; simp [go_sem, execOp, h1, h0])) hC ?_
  simp only [List.getElem_toArray, List.getElem_cons_succ, List.getElem_cons_zero, Act.put, List.setIfInBounds_toArray, List.set_cons_zero, List.set_cons_succ]
  refine wpAnyH_take (i := 30) (v := (bif (qo && (!q44)) then .bool q47 else undef)) rfl (by kernel_rfl) (by kernel_rfl) (by kernel_rfl) (fun _ _ _ h => h) (yields_bif (wanted_cf rfl (yielded_bif (by kernel_rfl))) (fun hc z hz => by have h1 := notT (andR hc); have hc1 := andL hc; have h0 := hc1; rw [Hq47.out]; simp [go_sem, execOp, h1, h0])) hC ?_
  simp only [List.getElem_toArray, List.getElem_cons_succ, List.getElem_cons_zero, Act.put, List.setIfInBounds_toArray, List.set_cons_zero, List.set_cons_succ]
  refine wpAnyH_take (i := 31) (v := (bif qo then .bool q48 else undef)) rfl (by kernel_rfl) (by kernel_rfl) (by kernel_rfl) (fun _ _ _ h => h) (yields_bif (wanted_t rfl (by kernel_rfl)) (fun hc z hz => by have h0 := hc; rw [Hq48.out]; cases hA : q44 <;> simp [go_sem, execOp, hA, h0])) hC ?_
  simp only [List.getElem_toArray, List.getElem_cons_succ, List.getElem_cons_zero, Act.put, List.setIfInBounds_toArray, List.set_cons_zero, List.set_cons_succ]
  refine wpAnyH_take (i := 32) (v := .bool q49) rfl (by kernel_rfl) (by kernel_rfl) (by kernel_rfl) (fun _ _ _ h => h) (Or.inl ⟨by kernel_rfl, fun z hz => by rw [Hq49.out]; cases hA : qo <;> simp [go_sem, execOp, hA]⟩) hC ?_
  simp only [List.getElem_toArray, List.getElem_cons_succ, List.getElem_cons_zero, Act.put, List.setIfInBounds_toArray, List.set_cons_zero, List.set_cons_succ]
  refine wpAnyH_ready (rs := [34]) (by kernel_rfl) (by simp) (AllReadyH.cons rfl (fun K hK => ?_) AllReadyH.nil)
  go_simp
  refine (enter_any _ bx g k b ps ss fs p (H1.out.below hC) hk 4 (by omega)).mono ?_
  rintro e we51 ⟨f51, bn51, cp51, rfl, hD51, hbe⟩
  have HD51 := Lib.hid hD51
  refine hK.out _ _ (hC.trans (hbe.mono hC.size)) (fun hD => ?_)
  have hb51 := Lib.hid hbe
  clear hK K hbe hD51
  refine wpAnyH_take (i := 35) (v := .agg #[.bool q49, .func (.func f51) bn51 cp51]) rfl (by kernel_rfl) (by kernel_rfl) (by kernel_rfl) (fun _ _ _ h => h) (Or.inl ⟨by kernel_rfl, fun z hz => by simp [go_sem, execOp, bldRow]⟩) hD ?_
  simp only [List.getElem_toArray, List.getElem_cons_succ, List.getElem_cons_zero, Act.put, List.setIfInBounds_toArray, List.set_cons_zero, List.set_cons_succ]
  refine wpAnyH_ready (rs := [36]) (by kernel_rfl) (by simp) (AllReadyH.cons rfl (fun K hK => ?_) AllReadyH.nil)
  go_simp
  refine hK.out _ _ (hD.alloc hD.size _) (fun hE => ?_)
  clear hK K
  refine wpAnyH_take (i := 37) (v := .slice (some ⟨we51.heap.size, 0, none⟩) 4 4) rfl (by kernel_rfl) (by kernel_rfl) (by kernel_rfl) (fun _ _ _ h => h) (Or.inl ⟨by kernel_rfl, fun z hz => by kernel_rfl⟩) hE ?_
  simp only [List.getElem_toArray, List.getElem_cons_succ, List.getElem_cons_zero, Act.put, List.setIfInBounds_toArray, List.set_cons_zero, List.set_cons_succ]
  refine wpAnyH_done (by kernel_rfl) ?_ _
  have hq1 : q21 = ((p.i 87 != p.i 88) && (p.i 88 == 0)) := by rw [Hq21.out, Hq20.out, Hqo.out]
  have hq2 : q29 = ((p.i 87 != p.i 88) && (p.i 88 == 3)) := by rw [Hq29.out, Hq28.out, Hqo.out]
  have hq3 : q37 = ((p.i 87 != p.i 88) && (p.i 88 == 4)) := by rw [Hq37.out, Hq36.out, Hqo.out]
  have hq4 : q49 = ((p.i 87 != p.i 88) && ((p.i 88 == 1) || (p.i 88 == 2))) := by rw [Hq49.out, Hq48.out, Hq47.out, Hq44.out, Hqo.out]
  have b3 := hb51.out
  have b2 := hb39.out.trans (b3.mono hb39.out.size)
  have b1 := hb31.out.trans (b2.mono hb31.out.size)
  have ba := more (Below.refl we51.heap.size we51) (.cells #[.bool q21, .func (.func f23) bn23 cp23, .bool q29, .func (.func f31) bn31 cp31, .bool q37, .func (.func f39) bn39 cp39, .bool q49, .func (.func f51) bn51 cp51] 61)
  have HR := Lib.hid (rows_new (W := we51.alloc (.cells #[.bool q21, .func (.func f23) bn23 cp23, .bool q29, .func (.func f31) bn31 cp31, .bool q37, .func (.func f39) bn39 cp39, .bool q49, .func (.func f51) bn51 cp51] 61)) (n := 4) [(q21, .func (.func f23) bn23 cp23), (q29, .func (.func f31) bn31 cp31), (q37, .func (.func f39) bn39 cp39), (q49, .func (.func f51) bn51 cp51)] (heap_alloc_new we51 _) rfl rfl (by omega)
    (ds := rolesL b k p ps) ⟨⟨hq1, (HD23.out.later b1).later ba⟩, ⟨hq2, (HD31.out.later b2).later ba⟩, ⟨hq3, (HD39.out.later b3).later ba⟩, ⟨hq4, HD51.out.later ba⟩, trivial⟩)
  clear hq1 hq2 hq3 hq4 b1 b2 b3 ba
  go_wp2_with fail
  go_ret
  exact ⟨_, rfl, HR.out, HBW.out.trans (hE.mono HBW.out.size)⟩
end Go.Proofs.Ytdangeefecdbaaa.Br
