/- Chapter 15: what the example of its laws answers: true. No condition. -/
import Derived.Test.YtdangeefecdbaaaTr17
import Derived.Test.YtdangeefecdbaaaSame
set_option linter.unusedSimpArgs false
set_option linter.unusedVariables false
namespace Go.Proofs.Ytdangeefecdbaaa.Br
open Go.RowKit
/-- The example's port. -/
def awakeP : Rec := ⟨fun j => if j = 19 then 2 else if j = 87 then 3 else if j = 88 then 1 else 0, fun j => j == 44 || j == 28 || j == 26⟩
theorem wpList_store_at {P : Program} {ops : Array Oper} {rest : List Oper} {o : Oper} {a : Act} {w : World} {Q : Exit → Act → World → Prop} (hgd : o.guard = none) (ty : TypeId) (x y : Operand) (ho : o.op = .store ty x y) (w0 : World) (C : Array Value) (T : TypeId) (cells : Array Value) (g : Nat) (hw : w = w0.alloc (.cells C T))
    (hx : a.eval x = .pointer (some ⟨g, 0, none⟩)) (hg : g = w0.heap.size) (hy : a.eval y = .agg cells) (hi : (P.info? ty).map (·.size) = some cells.size) (hold : C.size = cells.size) (h1 : cells.all (·.oneCell') = true)
    (h : wpList P ops Q rest (a.put o.dst undef) (w0.alloc (.cells cells T))) : wpList P ops Q (o :: rest) a w := by
  subst hg
  exact wpList_store_new hgd ty x y ho w0 C T cells hw hx hy hi hold h1 h
theorem wpList_build {P : Program} {ops : Array Oper} {rest : List Oper} {o : Oper} {a : Act} {w : World} {Q : Exit → Act → World → Prop} (hgd : o.guard = none) (t : TypeId) (parts : Array (Nat × Operand)) (ho : o.op = .build t parts)
    (vs : Array (Nat × Value)) (v : Value) (h : (Instr.build t vs).run P w = .ok v w) (hv : (parts.map fun p => (p.1, a.eval p.2)) = vs) (hk : wpList P ops Q rest (a.put o.dst v) w) : wpList P ops Q (o :: rest) a w :=
  wpList_plain hgd fun _ hK => by
    unfold Oper.wp execOp
    simp only [ho]
    rw [show (parts.map fun x => match x with | (i, x) => (i, a.eval x)) = vs from hv]
    simp only [Sem.run_bind, h, Result.andThen_ok, Sem.run_pure]
    exact hK _ _ hk
theorem wpList_buildSlice {P : Program} {ops : Array Oper} {rest : List Oper} {o : Oper} {a : Act} {w w' : World} {Q : Exit → Act → World → Prop} (hgd : o.guard = none) (t : TypeId) (n : Nat) (parts : Array (Nat × Operand)) (ho : o.op = .buildSlice t n parts)
    (vs : Array (Nat × Value)) (v : Value) (h : (Instr.buildSlice t n vs).run P w = .ok v w') (hv : (parts.map fun p => (p.1, a.eval p.2)) = vs) (hk : wpList P ops Q rest (a.put o.dst v) w') : wpList P ops Q (o :: rest) a w :=
  wpList_plain hgd fun _ hK => by
    unfold Oper.wp execOp
    simp only [ho]
    rw [show (parts.map fun x => match x with | (i, x) => (i, a.eval x)) = vs from hv]
    simp only [Sem.run_bind, h, Result.andThen_ok, Sem.run_pure]
    exact hK _ _ hk

theorem t0 (w : World) : Sem.run Try.prog (Instr.build 43 #[(22, .bool true), (6, .bool true), (4, .bool true)]) w = .ok (.agg #[.bool false, .bool false, .bool false, .bool false, .bool true, .bool false, .bool true, .bool false, .bool false, .bool false, .bool false, .bool false, .bool false, .bool false, .bool false, .bool false, .bool false, .bool false, .bool false, .bool false, .bool false, .bool false, .bool true, .bool false, .bool false, .bool false, .bool false, .bool false, .bool false]) w := by kernel_rfl
theorem t00 (w : World) : Sem.run Try.prog (Instr.build 47 #[(4, .int .i64 2)]) w = .ok (.agg #[.int .i64 0, .int .i64 0, .int .i64 0, .int .i64 0, .int .i64 2, .int .i64 0, .int .i64 0]) w := by kernel_rfl
theorem t1 (w : World) : Sem.run Try.prog (Instr.build 51 #[(15, .int .i64 3), (16, .int .i64 1), (7, .agg #[.int .i64 0, .int .i64 0, .int .i64 0, .int .i64 0, .int .i64 2, .int .i64 0, .int .i64 0]), (8, .agg #[.bool false, .bool false, .bool false, .bool false, .bool true, .bool false, .bool true, .bool false, .bool false, .bool false, .bool false, .bool false, .bool false, .bool false, .bool false, .bool false, .bool false, .bool false, .bool false, .bool false, .bool false, .bool false, .bool true, .bool false, .bool false, .bool false, .bool false, .bool false, .bool false])]) w = .ok (.agg (rowP awakeP)) w := by kernel_rfl
theorem t2 (w : World) : Sem.run Try.prog (Instr.buildSlice 29 1 #[(0, .agg (rowP awakeP))]) w = .ok (.slice (some ⟨w.heap.size, 0, none⟩) 1 1) (w.alloc (.cells (rowP awakeP) 51)) := by kernel_rfl
/-- The example's bridge. -/
def awakeB (g : Nat) : Bri := ⟨⟨fun j => if j = 3 then 20 else if j = 4 then 2 else if j = 5 then 15 else if j = 6 then 6 else 0, fun _ => false⟩, some ⟨g, 0, none⟩, 1, 1, none, 0, 0, none, 0, 0⟩
theorem t3 (w : World) (g : Nat) : Sem.run Try.prog (Instr.build 33 #[(2, .agg #[.int .i64 0, .int .i64 20, .int .i64 2, .int .i64 15]), (3, .int .i64 6), (7, .slice (some ⟨g, 0, none⟩) 1 1)]) w = .ok (.agg (rowB (awakeB g))) w := by kernel_rfl
theorem awakeT (g : Nat) (x : Nat) (hx : x < 3) : 0 ≤ (awakeB g).r.i (3 + x) ∧ (awakeB g).r.i (3 + x) ≤ 1000 := by
  rcases (show x = 0 ∨ x = 1 ∨ x = 2 by omega) with rfl | rfl | rfl
  · exact ⟨show (0 : Int) ≤ 20 by decide, show (20 : Int) ≤ 1000 by decide⟩
  · exact ⟨show (0 : Int) ≤ 2 by decide, show (2 : Int) ≤ 1000 by decide⟩
  · exact ⟨show (0 : Int) ≤ 15 by decide, show (15 : Int) ≤ 1000 by decide⟩
theorem awakeF (g : Nat) (ps : Nat → Rec) : transT (awakeB g) 0 awakeP ps = some (upd ps 0 ((((awakeP.setI 87 (awakeP.i 88)).setI 19 4).setB 28 false).setB 26 false)) := by
  rw [transT_on _ _ _ _ (by rfl) (by rfl), roles_pick (awakeB g) 0 awakeP ps _ false false false true (by decide) (by rfl) (by rfl) (by rfl) (by rfl), enter_4]
  rfl
theorem awake_p : ∃ (p p' : Rec) (C : Array Value), (∀ w, Sem.run Try.prog (Instr.build 51 #[(15, .int .i64 3), (16, .int .i64 1), (7, .agg #[.int .i64 0, .int .i64 0, .int .i64 0, .int .i64 0, .int .i64 2, .int .i64 0, .int .i64 0]), (8, .agg #[.bool false, .bool false, .bool false, .bool false, .bool true, .bool false, .bool true, .bool false, .bool false, .bool false, .bool false, .bool false, .bool false, .bool false, .bool false, .bool false, .bool false, .bool false, .bool false, .bool false, .bool false, .bool false, .bool true, .bool false, .bool false, .bool false, .bool false, .bool false, .bool false])]) w = .ok (.agg (rowP p)) w) ∧
    (∀ w, Sem.run Try.prog (Instr.buildSlice 29 1 #[(0, .agg (rowP p))]) w = .ok (.slice (some ⟨w.heap.size, 0, none⟩) 1 1) (w.alloc (.cells C 51))) ∧
    (∀ j, j < 89 → C[j]? = some (cellP p j)) ∧ (∀ g ps, transT (awakeB g) 0 p ps = some (upd ps 0 p')) ∧ p'.i 87 = 1 ∧ p'.i 19 = 4 ∧ p'.b 28 = false ∧ p'.b 26 = false :=
  ⟨awakeP, _, _, t1, t2, fun j hj => rowP_get hj, awakeF, by rfl, by rfl, by rfl, by rfl⟩
attribute [local go_sem] zeroBr zeroP
set_option maxRecDepth 100000 in
set_option maxHeartbeats 4000000 in
theorem awake_any (w : World) : Calls Try.prog 10 #[] w fun e w' => e = .returned (.bool true) ∧ Below w.heap.size w w' := by
  obtain ⟨p, p', C, ht1, ht2, hC, hF, h87, h19, h28, h26⟩ := awake_p
  have T1 := Lib.hid ht1
  have T2 := Lib.hid ht2
  have HC := Lib.hid hC
  have HF := Lib.hid hF
  have HP := Lib.hid (And.intro h87 (And.intro h19 (And.intro h28 h26)))
  clear ht1 ht2 hC hF h87 h19 h28 h26
  go_enter Try.func10, Try.ntmps10
  go_upto_region 2 with (first
    | (refine wpList_build rfl 51 #[(15, .const (.int .i64 3)), (16, .const (.int .i64 1)), (7, .tmp 5), (8, .tmp 6)] rfl _ _ (T1.out w) (by kernel_rfl) ?_; simp only [Act.put, List.setIfInBounds_toArray, List.set_cons_zero, List.set_cons_succ])
    | (refine wpList_build rfl 47 _ rfl _ _ (t00 w) (by kernel_rfl) ?_; simp only [Act.put, List.setIfInBounds_toArray, List.set_cons_zero, List.set_cons_succ])
    | (refine wpList_build rfl 43 _ rfl _ _ (t0 w) (by kernel_rfl) ?_; simp only [Act.put, List.setIfInBounds_toArray, List.set_cons_zero, List.set_cons_succ])
    | (refine wpList_buildSlice rfl 29 _ _ rfl _ _ (T2.out w) (by kernel_rfl) ?_; simp only [Act.put, List.setIfInBounds_toArray, List.set_cons_zero, List.set_cons_succ])
    | (refine wpList_build rfl 33 _ rfl _ _ (t3 _ w.heap.size) (by kernel_rfl) ?_; simp only [Act.put, List.setIfInBounds_toArray, List.set_cons_zero, List.set_cons_succ])
    | (refine wpList_store_at rfl 33 _ _ rfl _ (rowB zeroBri) 33 (rowB (awakeB w.heap.size)) _ rfl rfl (by simp) rfl (sizeB _) rfl (rowB_one _) ?_; simp only [Act.put])
    | fail)
  refine ((?_ : ∀ x, x = (w.alloc (.cells C 51)).alloc (.cells (rowB (awakeB w.heap.size)) 33) → Code.wp _ _ _ _ x) _ rfl)
  intro w2 hw2
  have hB2 : Below w.heap.size w w2 := by rw [hw2]; exact more (more (Below.refl _ _) _) _
  have hp2 : w2.heap[w.heap.size]? = some (.cells C 51 (0, 0)) := by rw [hw2]; exact at_old (by simp) (at_new rfl)
  have hb2 : w2.heap[w.heap.size + 1]? = some (.cells (rowB (awakeB w.heap.size)) 33 (0, 0)) := by rw [hw2]; exact at_new (by simp)
  obtain ⟨g, hg⟩ : ∃ x, x = w.heap.size := ⟨_, rfl⟩
  clear hw2
  rw [← hg] at hp2 hb2 hB2 ⊢
  have hs : Bst w2 (g + 1) g (awakeB g) (upd (fun _ => p) 0 p) (fun _ => zeroR) (fun _ => 0) := ⟨hb2, rfl, ⟨C, hp2, fun k hk j hj => by
      obtain rfl : k = 0 := by have : k < 1 := hk; omega
      rw [Nat.zero_mul, Nat.zero_add, HC.out j hj, upd_same]⟩, .inl rfl, .inl rfl, by omega, (fun _ _ e => by cases e), (fun _ _ e => by cases e), (fun _ => ⟨rfl, rfl⟩), (fun _ => ⟨rfl, rfl⟩), ⟨Nat.le_refl _, by show (0 : Nat) ≤ maxLen; decide⟩, ⟨Nat.le_refl _, by show (0 : Nat) ≤ maxLen; decide⟩⟩
  have hg2 : g ≤ w2.heap.size := by have := hs.p.lt; omega
  have HB2 := Lib.hid hB2
  have HS := Lib.hid hs
  have Hg := Lib.hid hg
  clear hB2 hb2 hp2 hs hg
  go_wp2_with fail
  refine (step_any w2 (g + 1) g 0 (awakeB g) _ _ _ p HS.out (show 0 < 1 by omega) (awakeT g) (show 1 ≤ 1000 by omega)).mono ?_
  rintro e w3 ⟨rfl, h3, ho3⟩
  rw [HF.out] at h3 ⊢
  have HB3 := Lib.hid (HB2.out.trans (ho3.below (B := g) hg2 (fun k hk => by omega)))
  have H3 := Lib.hid (show Bst w3 (g + 1) g (awakeB g) (upd (fun _ => p) 0 p') (fun _ => zeroR) (fun _ => 0) from h3)
  have hg3 := ho3.size
  clear h3 ho3 HS HB2
  have b17 : w3.cell? ⟨g + 1, 17, none⟩ = some (.slice (some ⟨g, 0, none⟩) 1 1) := H3.out.c17
  have hr : w3.rangeAt g 0 (rowP p').toList := by
    have := H3.out.p.range (k := 0) (show 0 < 1 by omega)
    rw [upd_same, Nat.zero_mul] at this
    exact this
  go_upto_region 4 with (first | (refine wpList_row rfl 51 _ rfl g 0 rfl (rowP p') _ hr Try.underlying51 rfl (sizeP _) ?_; simp only [Act.put, List.setIfInBounds_toArray, List.set_cons_zero, List.set_cons_succ]) | (refine wpList_store_new rfl 51 _ _ rfl w3 (rowP zeroR) 51 _ rfl rfl rfl (sizeP _) rfl (rowP_one _) ?_; simp only [Act.put]) | fail)
  refine ((?_ : ∀ x, x = w3.alloc (.cells (rowP p') 51) → Code.wp _ _ _ _ x) _ rfl)
  intro w4 hw4
  have hq : w4.heap[w3.heap.size]? = some (.cells (rowP p') 51 (0, 0)) := by rw [hw4]; exact heap_alloc_new _ _
  have HB4 := Lib.hid (show Below g w w4 by rw [hw4]; exact HB3.out.alloc (by omega) _)
  have c87 : w4.cell? ⟨w3.heap.size, 87, none⟩ = some (.int .i64 1) := (cells_of hq 87).trans (by show some (Value.int .i64 (p'.i 87)) = _; rw [HP.out.1])
  have c19 : w4.cell? ⟨w3.heap.size, 15 + 4, none⟩ = some (.int .i64 4) := (cells_of hq 19).trans (by show some (Value.int .i64 (p'.i 19)) = _; rw [HP.out.2.1])
  have c28 : w4.cell? ⟨w3.heap.size, 22 + 6, none⟩ = some (.bool false) := (cells_of hq 28).trans (by show some (Value.bool (p'.b 28)) = _; rw [HP.out.2.2.1])
  have c26 : w4.cell? ⟨w3.heap.size, 22 + 4, none⟩ = some (.bool false) := (cells_of hq 26).trans (by show some (Value.bool (p'.b 26)) = _; rw [HP.out.2.2.2])
  clear hw4 hr hq b17
  go_wp2_with fail
  go_ret
  exact ⟨rfl, by rw [← Hg.out]; exact HB4.out⟩
end Go.Proofs.Ytdangeefecdbaaa.Br
