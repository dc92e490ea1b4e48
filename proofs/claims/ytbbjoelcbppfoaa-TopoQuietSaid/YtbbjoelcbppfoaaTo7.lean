/- Chapter 17: what the example of its laws answers: true. No condition. -/
import Derived.Test.YtbbjoelcbppfoaaTo5
import Derived.Test.YtbbjoelcbppfoaaSame
set_option linter.unusedSimpArgs false
set_option linter.unusedVariables false
namespace Go.Proofs.Ytbbjoelcbppfoaa.Br
open Go.RowKit
/-- The example's port. -/
def awakeP : Rec := ⟨fun j => if j = 21 then 2 else if j = 87 then 4 else 0, fun j => j == 39⟩
theorem wpList_store_at {P : Program} {ops : Array Oper} {rest : List Oper} {o : Oper} {a : Act} {w : World} {Q : Exit → Act → World → Prop} (hgd : o.guard = none) (ty : TypeId) (x y : Operand) (ho : o.op = .store ty x y) (w0 : World) (C : Array Value) (T : TypeId) (cells : Array Value) (g : Nat) (hw : w = w0.alloc (.cells C T))
    (hx : a.eval x = .pointer (some ⟨g, 0, none⟩)) (hg : g = w0.heap.size) (hy : a.eval y = .agg cells) (hi : (P.info? ty).map (·.size) = some cells.size) (hold : C.size = cells.size) (h1 : cells.all (·.oneCell') = true)
    (h : wpList P ops Q rest (a.put o.dst undef) (w0.alloc (.cells cells T))) : wpList P ops Q (o :: rest) a w := by
  subst hg
  exact wpList_store_new hgd ty x y ho w0 C T cells hw hx hy hi hold h1 h
theorem wpList_build {P : Program} {ops : Array Oper} {rest : List Oper} {o : Oper} {a : Act} {w : World} {Q : Exit → Act → World → Prop} (hgd : o.guard = none) (t : TypeId) (parts : Array (Nat × Operand)) (ho : o.op = .build t parts)
    (vs : Array (Nat × Value)) (v : Value) (h : (Instr.build t vs).run P w = .ok v w) (hv : (parts.map fun p => (p.1, a.eval p.2)) = vs) (hk : wpList P ops Q rest (a.put o.dst v) w) : wpList P ops Q (o :: rest) a w :=
  wpList_plain hgd fun _ hK => by
    unfold Oper.wp execOp
    simp only [ho]
    rw [show (parts.map fun x => match x with | (i, x) => (i, a.eval x)) = vs from hv]
    simp only [Sem.run_bind, h, Result.andThen_ok, Sem.run_pure]
    exact hK _ _ hk
theorem wpList_buildSlice {P : Program} {ops : Array Oper} {rest : List Oper} {o : Oper} {a : Act} {w w' : World} {Q : Exit → Act → World → Prop} (hgd : o.guard = none) (t : TypeId) (n : Nat) (parts : Array (Nat × Operand)) (ho : o.op = .buildSlice t n parts)
    (vs : Array (Nat × Value)) (v : Value) (h : (Instr.buildSlice t n vs).run P w = .ok v w') (hv : (parts.map fun p => (p.1, a.eval p.2)) = vs) (hk : wpList P ops Q rest (a.put o.dst v) w') : wpList P ops Q (o :: rest) a w :=
  wpList_plain hgd fun _ hK => by
    unfold Oper.wp execOp
    simp only [ho]
    rw [show (parts.map fun x => match x with | (i, x) => (i, a.eval x)) = vs from hv]
    simp only [Sem.run_bind, h, Result.andThen_ok, Sem.run_pure]
    exact hK _ _ hk

theorem t0 (w : World) : Sem.run Try.prog (Instr.build 43 #[(17, .bool true)]) w = .ok (.agg #[.bool false, .bool false, .bool false, .bool false, .bool false, .bool false, .bool false, .bool false, .bool false, .bool false, .bool false, .bool false, .bool false, .bool false, .bool false, .bool false, .bool false, .bool true, .bool false, .bool false, .bool false, .bool false, .bool false, .bool false, .bool false, .bool false, .bool false, .bool false, .bool false]) w := by kernel_rfl
theorem t00 (w : World) : Sem.run Try.prog (Instr.build 47 #[(6, .int .i64 2)]) w = .ok (.agg #[.int .i64 0, .int .i64 0, .int .i64 0, .int .i64 0, .int .i64 0, .int .i64 0, .int .i64 2]) w := by kernel_rfl
theorem t1 (w : World) : Sem.run Try.prog (Instr.build 51 #[(15, .int .i64 4), (7, .agg #[.int .i64 0, .int .i64 0, .int .i64 0, .int .i64 0, .int .i64 0, .int .i64 0, .int .i64 2]), (8, .agg #[.bool false, .bool false, .bool false, .bool false, .bool false, .bool false, .bool false, .bool false, .bool false, .bool false, .bool false, .bool false, .bool false, .bool false, .bool false, .bool false, .bool false, .bool true, .bool false, .bool false, .bool false, .bool false, .bool false, .bool false, .bool false, .bool false, .bool false, .bool false, .bool false])]) w = .ok (.agg (rowP awakeP)) w := by kernel_rfl
theorem t1z (w : World) : Sem.run Try.prog (Instr.build 51 #[]) w = .ok (.agg (rowP zeroR)) w := by kernel_rfl
theorem t2 (w : World) : Sem.run Try.prog (Instr.buildSlice 29 2 #[(0, .agg (rowP awakeP)), (1, .agg (rowP zeroR))]) w = .ok (.slice (some ⟨w.heap.size, 0, none⟩) 2 2) (w.alloc (.cells (rowP awakeP ++ rowP zeroR) 51)) := by kernel_rfl
/-- The example's bridge. -/
def awakeB (g : Nat) : Bri := ⟨⟨fun j => if j = 3 then 20 else if j = 4 then 2 else if j = 5 then 15 else if j = 6 then 6 else 0, fun _ => false⟩, some ⟨g, 0, none⟩, 2, 2, none, 0, 0, none, 0, 0⟩
theorem t3 (w : World) (g : Nat) : Sem.run Try.prog (Instr.build 33 #[(2, .agg #[.int .i64 0, .int .i64 20, .int .i64 2, .int .i64 15]), (3, .int .i64 6), (7, .slice (some ⟨g, 0, none⟩) 2 2)]) w = .ok (.agg (rowB (awakeB g))) w := by kernel_rfl
theorem awakeT (g : Nat) (x : Nat) (hx : x < 3) : 0 ≤ (awakeB g).r.i (3 + x) ∧ (awakeB g).r.i (3 + x) ≤ 1000 := by
  rcases (show x = 0 ∨ x = 1 ∨ x = 2 by omega) with rfl | rfl | rfl
  · exact ⟨show (0 : Int) ≤ 20 by decide, show (20 : Int) ≤ 1000 by decide⟩
  · exact ⟨show (0 : Int) ≤ 2 by decide, show (2 : Int) ≤ 1000 by decide⟩
  · exact ⟨show (0 : Int) ≤ 15 by decide, show (15 : Int) ≤ 1000 by decide⟩
theorem two_row (p q : Rec) : ∀ k, k < 2 → ∀ j, j < 89 → (rowP p ++ rowP q)[k * 89 + j]? = some (cellP (if k = 0 then p else q) j) := fun k hk j hj => by
  rw [Array.getElem?_append, rowP_size]
  rcases (show k = 0 ∨ k = 1 by omega) with rfl | rfl
  · rw [if_pos (by omega), if_pos rfl, Nat.zero_mul, Nat.zero_add]
    exact rowP_get hj
  · rw [if_neg (by omega), if_neg (by omega), show 1 * 89 + j - 89 = j by omega]
    exact rowP_get hj
theorem awakeF (g : Nat) : topoB (awakeB g) awakeP = (noteF awakeP, true, false, true) := by
  unfold topoB topoP
  rw [if_neg (by decide), if_neg (by decide), if_neg (by decide), if_pos (by decide)]
  unfold activeP
  rw [if_neg (by decide), if_neg (by decide), if_pos (by decide)]
theorem awake_p : ∃ (p : Rec) (C : Array Value), (∀ w, Sem.run Try.prog (Instr.build 51 #[(15, .int .i64 4), (7, .agg #[.int .i64 0, .int .i64 0, .int .i64 0, .int .i64 0, .int .i64 0, .int .i64 0, .int .i64 2]), (8, .agg #[.bool false, .bool false, .bool false, .bool false, .bool false, .bool false, .bool false, .bool false, .bool false, .bool false, .bool false, .bool false, .bool false, .bool false, .bool false, .bool false, .bool false, .bool true, .bool false, .bool false, .bool false, .bool false, .bool false, .bool false, .bool false, .bool false, .bool false, .bool false, .bool false])]) w = .ok (.agg (rowP p)) w) ∧
    (∀ w, Sem.run Try.prog (Instr.buildSlice 29 2 #[(0, .agg (rowP p)), (1, .agg (rowP zeroR))]) w = .ok (.slice (some ⟨w.heap.size, 0, none⟩) 2 2) (w.alloc (.cells C 51))) ∧
    (∀ k, k < 2 → ∀ j, j < 89 → C[k * 89 + j]? = some (cellP (if k = 0 then p else zeroR) j)) ∧ (∀ g, topoB (awakeB g) p = (noteF p, true, false, true)) ∧ (noteF p).b 48 = true ∧ p.b 49 = false ∧ p.b 25 = false :=
  ⟨awakeP, _, t1, t2, two_row _ _, awakeF, by rfl, by rfl, by rfl⟩
attribute [local go_sem] zeroBr
set_option maxRecDepth 100000 in
set_option maxHeartbeats 4000000 in
theorem awake_any (w : World) : Calls Try.prog 9 #[] w fun e w' => e = .returned (.bool true) ∧ Below w.heap.size w w' := by
  obtain ⟨p, C, ht1, ht2, hC, hF, h48, h49, h25⟩ := awake_p
  have T1 := Lib.hid ht1
  have T2 := Lib.hid ht2
  have HC := Lib.hid hC
  have HF := Lib.hid hF
  have H48 := Lib.hid h48
  have H49 := Lib.hid h49
  have H25 := Lib.hid h25
  clear ht1 ht2 hC hF h48 h49 h25
  go_enter Try.func9, Try.ntmps9
  go_upto_region 2 with (first
    | (refine wpList_build rfl 51 #[(15, .const (.int .i64 4)), (7, .tmp 4), (8, .tmp 5)] rfl _ _ (T1.out w) (by kernel_rfl) ?_; simp only [Act.put, List.setIfInBounds_toArray, List.set_cons_zero, List.set_cons_succ])
    | (refine wpList_build rfl 51 #[] rfl _ _ (t1z w) (by kernel_rfl) ?_; simp only [Act.put, List.setIfInBounds_toArray, List.set_cons_zero, List.set_cons_succ])
    | (refine wpList_build rfl 47 _ rfl _ _ (t00 w) (by kernel_rfl) ?_; simp only [Act.put, List.setIfInBounds_toArray, List.set_cons_zero, List.set_cons_succ])
    | (refine wpList_build rfl 43 _ rfl _ _ (t0 w) (by kernel_rfl) ?_; simp only [Act.put, List.setIfInBounds_toArray, List.set_cons_zero, List.set_cons_succ])
    | (refine wpList_buildSlice rfl 29 _ _ rfl _ _ (T2.out w) (by kernel_rfl) ?_; simp only [Act.put, List.setIfInBounds_toArray, List.set_cons_zero, List.set_cons_succ])
    | (refine wpList_build rfl 33 _ rfl _ _ (t3 _ w.heap.size) (by kernel_rfl) ?_; simp only [Act.put, List.setIfInBounds_toArray, List.set_cons_zero, List.set_cons_succ])
    | (refine wpList_store_at rfl 33 _ _ rfl _ (rowB zeroBri) 33 (rowB (awakeB w.heap.size)) _ rfl rfl (by simp) rfl (sizeB _) rfl (rowB_one _) ?_; simp only [Act.put])
    | fail)
  refine ((?_ : ∀ x, x = (w.alloc (.cells C 51)).alloc (.cells (rowB (awakeB w.heap.size)) 33) → Code.wp _ _ _ _ x) _ rfl)
  intro w2 hw2
  have hB2 : Below w.heap.size w w2 := by rw [hw2]; exact more (more (Below.refl _ _) _) _
  have hp2 : w2.heap[w.heap.size]? = some (.cells C 51 (0, 0)) := by rw [hw2]; exact at_old (by simp) (at_new rfl)
  have hb2 : w2.heap[w.heap.size + 1]? = some (.cells (rowB (awakeB w.heap.size)) 33 (0, 0)) := by rw [hw2]; exact at_new (by simp)
  obtain ⟨g, hg⟩ : ∃ x, x = w.heap.size := ⟨_, rfl⟩
  clear hw2
  rw [← hg] at hp2 hb2 hB2 ⊢
  have hs : Bst w2 (g + 1) g (awakeB g) (upd (fun k => if k = 0 then p else zeroR) 0 p) (fun _ => zeroR) (fun _ => 0) := ⟨hb2, rfl, ⟨C, hp2, fun k hk j hj => by
      rw [HC.out k hk j hj]
      by_cases e : k = 0
      · subst e; rw [upd_same]; rfl
      · rw [upd_other _ _ e]⟩, .inl rfl, .inl rfl, by omega, (fun _ _ e => by cases e), (fun _ _ e => by cases e), (fun _ => ⟨rfl, rfl⟩), (fun _ => ⟨rfl, rfl⟩), ⟨Nat.le_refl _, by show (0 : Nat) ≤ maxLen; decide⟩, ⟨Nat.le_refl _, by show (0 : Nat) ≤ maxLen; decide⟩⟩
  have hg2 : g ≤ w2.heap.size := by have := hs.p.lt; omega
  have HB2 := Lib.hid hB2
  have HS := Lib.hid hs
  have Hg := Lib.hid hg
  clear hB2 hb2 hp2 hs hg
  go_wp2_with fail
  refine (step_any w2 (g + 1) g 0 (awakeB g) _ _ _ p HS.out (show 0 < 2 by omega) (awakeT g) (show 2 ≤ 1000 by omega) (show 0 ≤ 100000 by omega) (fun h => by rw [H25.out] at h; cases h)).mono ?_
  rintro e w3 ⟨af, cf, rfl, h3, ho3, _⟩
  rw [HF.out] at h3 ⊢
  have HB3 := Lib.hid (HB2.out.trans (ho3.below (B := g) hg2 (fun k hk => by omega)))
  have H3 := Lib.hid h3
  clear h3 ho3 HS HB2
  have b17 : w3.cell? ⟨g + 1, 17, none⟩ = some (.slice (some ⟨g, 0, none⟩) 2 2) := H3.out.c17
  have c39 : w3.cell? ⟨g, 22 + 17, none⟩ = some (.bool false) := (H3.out.p.cell (k := 0) (j := 39) (show 0 < 2 by omega) (by omega)).trans (by rw [upd_same]; rfl)
  have c48 : w3.cell? ⟨g, 22 + 26, none⟩ = some (.bool true) := (H3.out.p.cell (k := 0) (j := 48) (show 0 < 2 by omega) (by omega)).trans (by rw [upd_same]; show some (Value.bool ((noteF p).b 48)) = _; rw [H48.out])
  have c49 : w3.cell? ⟨g, 22 + 27, none⟩ = some (.bool false) := (H3.out.p.cell (k := 0) (j := 49) (show 0 < 2 by omega) (by omega)).trans (by rw [upd_same]; show some (Value.bool (p.b 49)) = _; rw [H49.out])
  have e49 : w3.cell? ⟨g, 89 + 22 + 27, none⟩ = some (.bool true) := (H3.out.p.cell (k := 1) (j := 49) (show 1 < 2 by omega) (by omega)).trans (by rw [upd_other _ _ (by omega)]; rfl)
  go_wp2_with fail
  go_ret
  exact ⟨rfl, by rw [← Hg.out]; exact HB3.out⟩
end Go.Proofs.Ytbbjoelcbppfoaa.Br
