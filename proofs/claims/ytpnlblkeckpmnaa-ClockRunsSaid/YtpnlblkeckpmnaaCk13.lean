/- Chapter 8: what the example of its laws answers: true. No condition. -/
import Derived.Test.YtpnlblkeckpmnaaCk3
import Derived.Test.YtpnlblkeckpmnaaCk8
import Derived.Test.YtpnlblkeckpmnaaCk11
import Derived.Test.YtpnlblkeckpmnaaSame
set_option linter.unusedSimpArgs false
namespace Go.Proofs.Ytpnlblkeckpmnaa.Br
open Go.RowKit
/-- The example's port. -/
def awakeP : Rec := ⟨fun j => if j = 7 then 3 else 0, fun _ => false⟩
theorem oneP {w : World} {g : Nat} {p : Rec} (h : w.heap[g]? = some (.cells (rowP p) 48 (0, 0))) : Ports w g 1 (fun _ => p) :=
  ⟨rowP p, h, fun k hk j hj => by
    obtain rfl : k = 0 := by omega
    rw [Nat.zero_mul, Nat.zero_add]
    exact rowP_get hj⟩
theorem wpList_store_at {P : Program} {ops : Array Oper} {rest : List Oper} {o : Oper} {a : Act} {w : World} {Q : Exit → Act → World → Prop} (hgd : o.guard = none) (ty : TypeId) (x y : Operand) (ho : o.op = .store ty x y) (w0 : World) (C : Array Value) (T : TypeId) (cells : Array Value) (g : Nat) (hw : w = w0.alloc (.cells C T))
    (hx : a.eval x = .pointer (some ⟨g, 0, none⟩)) (hg : g = w0.heap.size) (hy : a.eval y = .agg cells) (hi : (P.info? ty).map (·.size) = some cells.size) (hold : C.size = cells.size) (h1 : cells.all (·.oneCell') = true)
    (h : wpList P ops Q rest (a.put o.dst undef) (w0.alloc (.cells cells T))) : wpList P ops Q (o :: rest) a w := by
  subst hg
  exact wpList_store_new hgd ty x y ho w0 C T cells hw hx hy hi hold h1 h
theorem wpList_build {P : Program} {ops : Array Oper} {rest : List Oper} {o : Oper} {a : Act} {w : World} {Q : Exit → Act → World → Prop} (hgd : o.guard = none) (t : TypeId) (parts : Array (Nat × Operand)) (ho : o.op = .build t parts)
    (vs : Array (Nat × Value)) (v : Value) (h : (Instr.build t vs).run P w = .ok v w) (hv : (parts.map fun p => (p.1, a.eval p.2)) = vs) (hk : wpList P ops Q rest (a.put o.dst v) w) : wpList P ops Q (o :: rest) a w :=
  wpList_plain hgd fun _ hK => by
    unfold Oper.wp execOp
    simp only [ho]
    rw [show (parts.map fun x => match x with | (i, x) => (i, a.eval x)) = vs from hv]
    simp only [Sem.run_bind, h, Result.andThen_ok, Sem.run_pure]
    exact hK _ _ hk
theorem wpList_buildSlice {P : Program} {ops : Array Oper} {rest : List Oper} {o : Oper} {a : Act} {w w' : World} {Q : Exit → Act → World → Prop} (hgd : o.guard = none) (t : TypeId) (n : Nat) (parts : Array (Nat × Operand)) (ho : o.op = .buildSlice t n parts)
    (vs : Array (Nat × Value)) (v : Value) (h : (Instr.buildSlice t n vs).run P w = .ok v w') (hv : (parts.map fun p => (p.1, a.eval p.2)) = vs) (hk : wpList P ops Q rest (a.put o.dst v) w') : wpList P ops Q (o :: rest) a w :=
  wpList_plain hgd fun _ hK => by
    unfold Oper.wp execOp
    simp only [ho]
    rw [show (parts.map fun x => match x with | (i, x) => (i, a.eval x)) = vs from hv]
    simp only [Sem.run_bind, h, Result.andThen_ok, Sem.run_pure]
    exact hK _ _ hk
theorem loadBg {P : Program} {ops : Array Oper} {rest : List Oper} {o : Oper} {a : Act} {w : World} {Q : Exit → Act → World → Prop} (hP : P = Try.prog) (hw : Region.wanted o (yielded ops a.tmps) = true) (x : Operand) (ho : o.op = .load 33 x) (g : Nat) (hx : a.eval x = .pointer (some ⟨g, 0, none⟩)) (b : Bri)
    (hg : w.heap[g]? = some (.cells (rowB b) 33 (0, 0))) (h : wpList P ops Q rest (a.put o.dst (.agg (rowB b))) w) : wpList P ops Q (o :: rest) a w := by
  subst hP
  exact wpList_step fun _ hK => by
    rw [if_pos hw]
    exact wp_load_row 33 x ho g hx 33 (rowB b) (0, 0) _ hg Try.underlying33 rfl (sizeB b) (hK _ _ h)

theorem t00 (w : World) : Sem.run Try.prog (Instr.build 40 #[(1, .int .i64 3)]) w = .ok (.agg #[.int .i64 0, .int .i64 3, .int .i64 0, .int .i64 0, .int .i64 0, .int .i64 0, .int .i64 0, .int .i64 0, .int .i64 0]) w := by kernel_rfl
theorem t1 (w : World) : Sem.run Try.prog (Instr.build 48 #[(6, .agg #[.int .i64 0, .int .i64 3, .int .i64 0, .int .i64 0, .int .i64 0, .int .i64 0, .int .i64 0, .int .i64 0, .int .i64 0])]) w = .ok (.agg (rowP awakeP)) w := by kernel_rfl
theorem t2 (w : World) : Sem.run Try.prog (Instr.buildSlice 29 1 #[(0, .agg (rowP awakeP))]) w = .ok (.slice (some ⟨w.heap.size, 0, none⟩) 1 1) (w.alloc (.cells (rowP awakeP) 48)) := by kernel_rfl
/-- The example's bridge. -/
def awakeB (g : Nat) : Bri := ⟨⟨fun j => if j = 3 then 20 else if j = 4 then 2 else if j = 5 then 15 else if j = 6 then 6 else if j = 12 then -1 else 0, fun _ => false⟩, some ⟨g, 0, none⟩, 1, 1, none, 0, 0, none, 0, 0⟩
theorem t3 (w : World) (g : Nat) : Sem.run Try.prog (Instr.build 33 #[(2, .agg #[.int .i64 0, .int .i64 20, .int .i64 2, .int .i64 15]), (3, .int .i64 6), (5, .int .i64 (-1)), (7, .slice (some ⟨g, 0, none⟩) 1 1)]) w = .ok (.agg (rowB (awakeB g))) w := by kernel_rfl
theorem awake_p : ∃ p : Rec, (∀ w, Sem.run Try.prog (Instr.build 48 #[(6, .agg #[.int .i64 0, .int .i64 3, .int .i64 0, .int .i64 0, .int .i64 0, .int .i64 0, .int .i64 0, .int .i64 0, .int .i64 0])]) w = .ok (.agg (rowP p)) w) ∧
    (∀ w, Sem.run Try.prog (Instr.buildSlice 29 1 #[(0, .agg (rowP p))]) w = .ok (.slice (some ⟨w.heap.size, 0, none⟩) 1 1) (w.alloc (.cells (rowP p) 48))) ∧
    (∀ g, goodB (awakeB g) (fun _ => p) = true) ∧ (∀ x, x < 9 → 0 ≤ p.i (6 + x) ∧ p.i (6 + x) ≤ 1000) ∧ (∀ x, x < 9 → (tickF p).i (6 + x) = if x = 1 then 2 else 0) ∧ (tickF p).b 3 = false ∧ (tickF p).b 45 = false := by
  refine ⟨awakeP, t1, t2, fun g => by rfl, fun x hx => ?_, fun x hx => ?_, rfl, rfl⟩
  · unfold awakeP
    simp only []
    split <;> omega
  · unfold tickF awakeP
    simp only []
    rw [if_pos (by omega)]
    by_cases h : x = 1
    · subst h; rfl
    · rw [if_neg (by omega), if_neg h]; rfl
attribute [local go_sem] zeroBr
set_option maxRecDepth 100000 in
set_option maxHeartbeats 4000000 in
theorem awake_any (w : World) : Calls Try.prog 8 #[] w fun e w' => e = .returned (.bool true) ∧ Below w.heap.size w w' := by
  obtain ⟨p, ht1, ht2, hg, hR, hF, hb3, hb45⟩ := awake_p
  have T1 := Lib.hid ht1
  have T2 := Lib.hid ht2
  have HG := Lib.hid hg
  have HR := Lib.hid hR
  have HF := Lib.hid hF
  have HB3 := Lib.hid hb3
  have HB45 := Lib.hid hb45
  clear ht1 ht2 hg hR hF hb3 hb45
  go_enter Try.func8, Try.ntmps8
  go_upto_region 2 with (first
    | (refine wpList_build rfl 48 _ rfl _ _ (T1.out w) (by kernel_rfl) ?_; simp only [Act.put, List.setIfInBounds_toArray, List.set_cons_zero, List.set_cons_succ])
    | (refine wpList_build rfl 40 _ rfl _ _ (t00 w) (by kernel_rfl) ?_; simp only [Act.put, List.setIfInBounds_toArray, List.set_cons_zero, List.set_cons_succ])
    | (refine wpList_buildSlice rfl 29 _ _ rfl _ _ (T2.out w) (by kernel_rfl) ?_; simp only [Act.put, List.setIfInBounds_toArray, List.set_cons_zero, List.set_cons_succ])
    | (refine wpList_build rfl 33 _ rfl _ _ (t3 _ w.heap.size) (by kernel_rfl) ?_; simp only [Act.put, List.setIfInBounds_toArray, List.set_cons_zero, List.set_cons_succ])
    | (refine wpList_store_at rfl 33 _ _ rfl _ (rowB zeroBri) 33 (rowB (awakeB w.heap.size)) _ rfl rfl (by simp) rfl (sizeB _) rfl (rowB_one _) ?_; simp only [Act.put])
    | fail)
  refine ((?_ : ∀ x, x = (w.alloc (.cells (rowP p) 48)).alloc (.cells (rowB (awakeB w.heap.size)) 33) → Code.wp _ _ _ _ x) _ rfl)
  intro w2 hw2
  have hB2 : Below w.heap.size w w2 := by rw [hw2]; exact more (more (Below.refl _ _) _) _
  have hp2 : w2.heap[w.heap.size]? = some (.cells (rowP p) 48 (0, 0)) := by rw [hw2]; exact at_old (by simp) (at_new rfl)
  have hb2 : w2.heap[w.heap.size + 1]? = some (.cells (rowB (awakeB w.heap.size)) 33 (0, 0)) := by rw [hw2]; exact at_new (by simp)
  obtain ⟨g, hg⟩ : ∃ x, x = w.heap.size := ⟨_, rfl⟩
  clear hw2
  rw [← hg] at hp2 hb2 hB2 ⊢
  have HB2 := Lib.hid hB2
  have HB2r := Lib.hid hb2
  have HP2 := Lib.hid (oneP hp2)
  have hg2 : g < w2.heap.size := (oneP hp2).lt
  have Hg := Lib.hid hg
  clear hB2 hb2 hp2 hg
  go_wp2_with (first | (refine loadB rfl rfl _ rfl (g + 1) rfl (awakeB g) HB2r.out ?_; simp only [Act.put, List.setIfInBounds_toArray, List.set_cons_zero, List.set_cons_succ]) | fail)
  refine (clockright_any (awakeB g) (fun _ => p) w2 HP2.out.view (by show (1 : Nat) ≤ 1000; omega)).mono ?_
  rintro e w3 ⟨rfl, hb3⟩
  rw [HG.out]
  have HB3r := Lib.hid ((hb3.block _ (Array.getElem?_eq_some_iff.1 HB2r.out).1).trans HB2r.out)
  have HP3 := Lib.hid (HP2.out.below hb3 hg2)
  have HBw3 := Lib.hid (HB2.out.trans (hb3.mono (by omega)))
  have hs3 := hb3.size
  clear hb3
  have c17 : w3.cell? ⟨g + 1, 17, none⟩ = some (.slice (some ⟨g, 0, none⟩) 1 1) := cells_of HB3r.out 17
  go_wp2_with fail
  refine (tick_any w3 (g + 1) g 1 1 (fun _ => p) c17 HP3.out (by omega) (by omega) (fun k hk x hx => HR.out x hx)).mono ?_
  rintro e w4 ⟨rfl, hp4, ho4⟩
  have HP4 := Lib.hid hp4
  have HB4r := Lib.hid ((ho4.block _ (Array.getElem?_eq_some_iff.1 HB3r.out).1 (by omega)).trans HB3r.out)
  have HBw4 := Lib.hid (HBw3.out.trans (ho4.below (B := g) (by omega) (fun k hk => by omega)))
  have hs4 := ho4.size
  clear hp4 ho4 c17
  have c17 : w4.cell? ⟨g + 1, 17, none⟩ = some (.slice (some ⟨g, 0, none⟩) 1 1) := cells_of HB4r.out 17
  have c6 : w4.cell? ⟨g, 6, none⟩ = some (.int .i64 0) := (HP4.out.cell (k := 0) (j := 6) (by omega) (by omega)).trans (by show some (Value.int .i64 ((tickF p).i (6 + 0))) = _; rw [HF.out 0 (by omega)]; rfl)
  have c7 : w4.cell? ⟨g, 6 + 1, none⟩ = some (.int .i64 2) := (HP4.out.cell (k := 0) (j := 7) (by omega) (by omega)).trans (by show some (Value.int .i64 ((tickF p).i (6 + 1))) = _; rw [HF.out 1 (by omega)]; rfl)
  have c8 : w4.cell? ⟨g, 6 + 2, none⟩ = some (.int .i64 0) := (HP4.out.cell (k := 0) (j := 8) (by omega) (by omega)).trans (by show some (Value.int .i64 ((tickF p).i (6 + 2))) = _; rw [HF.out 2 (by omega)]; rfl)
  have c9 : w4.cell? ⟨g, 6 + 3, none⟩ = some (.int .i64 0) := (HP4.out.cell (k := 0) (j := 9) (by omega) (by omega)).trans (by show some (Value.int .i64 ((tickF p).i (6 + 3))) = _; rw [HF.out 3 (by omega)]; rfl)
  have c10 : w4.cell? ⟨g, 6 + 4, none⟩ = some (.int .i64 0) := (HP4.out.cell (k := 0) (j := 10) (by omega) (by omega)).trans (by show some (Value.int .i64 ((tickF p).i (6 + 4))) = _; rw [HF.out 4 (by omega)]; rfl)
  have c11 : w4.cell? ⟨g, 6 + 5, none⟩ = some (.int .i64 0) := (HP4.out.cell (k := 0) (j := 11) (by omega) (by omega)).trans (by show some (Value.int .i64 ((tickF p).i (6 + 5))) = _; rw [HF.out 5 (by omega)]; rfl)
  have c12 : w4.cell? ⟨g, 6 + 6, none⟩ = some (.int .i64 0) := (HP4.out.cell (k := 0) (j := 12) (by omega) (by omega)).trans (by show some (Value.int .i64 ((tickF p).i (6 + 6))) = _; rw [HF.out 6 (by omega)]; rfl)
  have c13 : w4.cell? ⟨g, 6 + 7, none⟩ = some (.int .i64 0) := (HP4.out.cell (k := 0) (j := 13) (by omega) (by omega)).trans (by show some (Value.int .i64 ((tickF p).i (6 + 7))) = _; rw [HF.out 7 (by omega)]; rfl)
  have c14 : w4.cell? ⟨g, 6 + 8, none⟩ = some (.int .i64 0) := (HP4.out.cell (k := 0) (j := 14) (by omega) (by omega)).trans (by show some (Value.int .i64 ((tickF p).i (6 + 8))) = _; rw [HF.out 8 (by omega)]; rfl)
  go_wp2_with (first | (refine loadBg rfl (by rfl) _ rfl (g + 1) rfl (awakeB g) HB4r.out ?_; simp only [Act.put, List.setIfInBounds_toArray, List.set_cons_zero, List.set_cons_succ]) | fail)
  refine (edge_any (awakeB g) (fun _ => tickF p) 0 w4 HP4.out.view (by show 0 < 1; omega)).mono ?_
  rintro e w5 ⟨rfl, hb5⟩
  have HB5r := Lib.hid ((hb5.block _ (Array.getElem?_eq_some_iff.1 HB4r.out).1).trans HB4r.out)
  have HP5 := Lib.hid (HP4.out.below hb5 (by have := HP4.out.lt; omega))
  have HBw5 := Lib.hid (HBw4.out.trans (hb5.mono (by omega)))
  have hs5 := hb5.size
  clear hb5
  rw [if_neg (by rw [HB3.out]; simp)]
  go_wp2_with (first | (refine loadBg rfl (by rfl) _ rfl (g + 1) rfl (awakeB g) HB5r.out ?_; simp only [Act.put, List.setIfInBounds_toArray, List.set_cons_zero, List.set_cons_succ]) | fail)
  refine (forward_any (awakeB g) (fun _ => tickF p) 0 w5 HP5.out.view (by show 0 < 1; omega)).mono ?_
  rintro e w6 ⟨rfl, hb6⟩
  have HB6r := Lib.hid ((hb6.block _ (Array.getElem?_eq_some_iff.1 HB5r.out).1).trans HB5r.out)
  have HP6 := Lib.hid (HP5.out.below hb6 (by have := HP5.out.lt; omega))
  have HBw6 := Lib.hid (HBw5.out.trans (hb6.mono (by omega)))
  have hs6 := hb6.size
  clear hb6
  rw [if_neg (by rw [HB45.out]; simp)]
  have h15 : (awakeB g).r.i 5 = 15 := rfl
  rw [h15]
  go_wp2_with (first | (refine loadBg rfl (by rfl) _ rfl (g + 1) rfl (awakeB g) HB6r.out ?_; simp only [Act.put, List.setIfInBounds_toArray, List.set_cons_zero, List.set_cons_succ]) | fail)
  refine (rerooted_any (awakeB g) (fun _ => tickF p) 0 w6 HP6.out.view (by show 1 ≤ 1000; omega)).mono ?_
  rintro e w7 ⟨rfl, hb7⟩
  have hA : anyR (lately (fun _ => tickF p) 0) (awakeB g).n = false := anyR_no fun j hj => by
    obtain rfl : j = 0 := by have : j < 1 := hj; omega
    rfl
  rw [hA]
  have HBw7 := Lib.hid (HBw6.out.trans (hb7.mono (by omega)))
  clear hb7 hA
  go_wp2_with fail
  go_ret
  exact ⟨rfl, by rw [← Hg.out]; exact HBw7.out⟩
end Go.Proofs.Ytpnlblkeckpmnaa.Br
