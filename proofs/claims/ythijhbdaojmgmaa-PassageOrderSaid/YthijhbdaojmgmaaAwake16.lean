/- What the example of the laws of the passage machine answers: true. -/
import Derived.Test.YthijhbdaojmgmaaStep16
import Derived.Test.YthijhbdaojmgmaaSame
namespace Go.Proofs.Ythijhbdaojmgmaa.Br
open Go.RowKit
/-- The example's port. -/
def awakeP : Rec := ⟨fun _ => 0, fun j => j == 26 || j == 28⟩
theorem oneP {w : World} {g : Nat} {p : Rec} (h : w.heap[g]? = some (.cells (rowP p) 52 (0, 0))) : Ports w g 1 (fun _ => p) :=
  ⟨rowP p, h, fun k hk j hj => by
    obtain rfl : k = 0 := by omega
    rw [Nat.zero_mul, Nat.zero_add]
    exact rowP_get hj⟩
theorem wpList_store_at {P : Program} {ops : Array Oper} {rest : List Oper} {o : Oper} {a : Act} {w : World} {Q : Exit → Act → World → Prop} (hgd : o.guard = none) (ty : TypeId) (x y : Operand) (ho : o.op = .store ty x y) (w0 : World) (C : Array Value) (T : TypeId) (cells : Array Value) (g : Nat) (hw : w = w0.alloc (.cells C T))
    (hx : a.eval x = .pointer (some ⟨g, 0, none⟩)) (hg : g = w0.heap.size) (hy : a.eval y = .agg cells) (hi : (P.info? ty).map (·.size) = some cells.size) (hold : C.size = cells.size) (h1 : cells.all (·.oneCell') = true)
    (h : wpList P ops Q rest (a.put o.dst undef) (w0.alloc (.cells cells T))) : wpList P ops Q (o :: rest) a w := by
  subst hg
  exact wpList_store_new hgd ty x y ho w0 C T cells hw hx hy hi hold h1 h
theorem wpList_build {P : Program} {ops : Array Oper} {rest : List Oper} {o : Oper} {a : Act} {w : World} {Q : Exit → Act → World → Prop} (hgd : o.guard = none) (t : TypeId) (parts : Array (Nat × Operand)) (ho : o.op = .build t parts)
    (vs : Array (Nat × Value)) (v : Value) (h : (Instr.build t vs).run P w = .ok v w) (hv : (parts.map fun p => (p.1, a.eval p.2)) = vs) (hk : wpList P ops Q rest (a.put o.dst v) w) : wpList P ops Q (o :: rest) a w :=
  wpList_plain hgd fun _ hK => by
    unfold Oper.wp execOp
    simp only [ho]
    rw [show (parts.map fun x => match x with | (i, x) => (i, a.eval x)) = vs from hv]
    simp only [Sem.run_bind, h, Result.andThen_ok, Sem.run_pure]
    exact hK _ _ hk
theorem wpList_buildSlice {P : Program} {ops : Array Oper} {rest : List Oper} {o : Oper} {a : Act} {w w' : World} {Q : Exit → Act → World → Prop} (hgd : o.guard = none) (t : TypeId) (n : Nat) (parts : Array (Nat × Operand)) (ho : o.op = .buildSlice t n parts)
    (vs : Array (Nat × Value)) (v : Value) (h : (Instr.buildSlice t n vs).run P w = .ok v w') (hv : (parts.map fun p => (p.1, a.eval p.2)) = vs) (hk : wpList P ops Q rest (a.put o.dst v) w') : wpList P ops Q (o :: rest) a w :=
  wpList_plain hgd fun _ hK => by
    unfold Oper.wp execOp
    simp only [ho]
    rw [show (parts.map fun x => match x with | (i, x) => (i, a.eval x)) = vs from hv]
    simp only [Sem.run_bind, h, Result.andThen_ok, Sem.run_pure]
    exact hK _ _ hk
theorem t0 (w : World) : Sem.run Try.prog (Instr.build 48 #[(6, .bool true), (4, .bool true)]) w = .ok (.agg #[.bool false, .bool false, .bool false, .bool false, .bool true, .bool false, .bool true, .bool false, .bool false, .bool false, .bool false, .bool false, .bool false, .bool false, .bool false, .bool false, .bool false, .bool false, .bool false, .bool false, .bool false, .bool false, .bool false, .bool false, .bool false, .bool false, .bool false, .bool false, .bool false]) w := by kernel_rfl
theorem t1 (w : World) : Sem.run Try.prog (Instr.build 52 #[(8, .agg #[.bool false, .bool false, .bool false, .bool false, .bool true, .bool false, .bool true, .bool false, .bool false, .bool false, .bool false, .bool false, .bool false, .bool false, .bool false, .bool false, .bool false, .bool false, .bool false, .bool false, .bool false, .bool false, .bool false, .bool false, .bool false, .bool false, .bool false, .bool false, .bool false])]) w = .ok (.agg (rowP awakeP)) w := by kernel_rfl
theorem t2 (w : World) : Sem.run Try.prog (Instr.buildSlice 29 1 #[(0, .agg (rowP awakeP))]) w = .ok (.slice (some ⟨w.heap.size, 0, none⟩) 1 1) (w.alloc (.cells (rowP awakeP) 52)) := by kernel_rfl
/-- The example's bridge. -/
def awakeB (g : Nat) : Bri := ⟨⟨fun j => if j = 3 then 20 else if j = 4 then 2 else if j = 5 then 15 else if j = 6 then 6 else 0, fun _ => false⟩, some ⟨g, 0, none⟩, 1, 1, none, 0, 0, none, 0, 0⟩
theorem t3 (w : World) (g : Nat) : Sem.run Try.prog (Instr.build 33 #[(2, .agg #[.int .i64 0, .int .i64 20, .int .i64 2, .int .i64 15]), (3, .int .i64 6), (7, .slice (some ⟨g, 0, none⟩) 1 1)]) w = .ok (.agg (rowB (awakeB g))) w := by kernel_rfl
theorem awakeB_17 (g : Nat) : (rowB (awakeB g))[17]? = some (.slice (some ⟨g, 0, none⟩) 1 1) := rfl
attribute [local go_sem] zeroBr awakeB_17
theorem awakeF : passF awakeP = ((awakeP.setB 29 true).setI 20 1, true) ∧ passF ((awakeP.setB 29 true).setI 20 1) = ((((awakeP.setB 29 true).setI 20 1).setB 27 true).setI 20 2, true) ∧
    passF ((((awakeP.setB 29 true).setI 20 1).setB 27 true).setI 20 2) = ((((awakeP.setB 29 true).setI 20 1).setB 27 true).setI 20 2, false) := by
  refine ⟨?_, ?_, ?_⟩ <;> unfold passF
  · rw [if_pos (by decide)]
  · rw [if_neg (by decide), if_neg (by decide), if_pos (by decide)]
  · rw [if_neg (by decide), if_neg (by decide), if_neg (by decide), if_neg (by decide)]
theorem awake_p : ∃ p : Rec, (∀ w, Sem.run Try.prog (Instr.build 52 #[(8, .agg #[.bool false, .bool false, .bool false, .bool false, .bool true, .bool false, .bool true, .bool false, .bool false, .bool false, .bool false, .bool false, .bool false, .bool false, .bool false, .bool false, .bool false, .bool false, .bool false, .bool false, .bool false, .bool false, .bool false, .bool false, .bool false, .bool false, .bool false, .bool false, .bool false])]) w = .ok (.agg (rowP p)) w) ∧
    (∀ w, Sem.run Try.prog (Instr.buildSlice 29 1 #[(0, .agg (rowP p))]) w = .ok (.slice (some ⟨w.heap.size, 0, none⟩) 1 1) (w.alloc (.cells (rowP p) 52))) ∧ passF p = ((p.setB 29 true).setI 20 1, true) ∧ passF ((p.setB 29 true).setI 20 1) = ((((p.setB 29 true).setI 20 1).setB 27 true).setI 20 2, true) ∧
    passF ((((p.setB 29 true).setI 20 1).setB 27 true).setI 20 2) = ((((p.setB 29 true).setI 20 1).setB 27 true).setI 20 2, false) := ⟨awakeP, t1, t2, awakeF⟩
/-- A step, and what holds of the bridge's own cells behind it. -/
theorem step_on (w : World) (bx g n cap k : Nat) (ps : Nat → Rec) (p : Rec) (hk : k < n) (hx : bx < w.heap.size) (hg : bx ≠ g)
    (hb : w.cell? ⟨bx, 17, none⟩ = some (.slice (some ⟨g, 0, none⟩) n cap)) (hp : Ports w g n (upd ps k p)) :
    Calls Try.prog 12 #[.pointer (some ⟨bx, 0, none⟩), .int .i64 k] w fun e w' => e = .returned (.bool (passF p).2) ∧ Ports w' g n (upd ps k (passF p).1) ∧ Only (· = g) w w' ∧ w'.cell? ⟨bx, 17, none⟩ = some (.slice (some ⟨g, 0, none⟩) n cap) :=
  (step_any w bx g n cap k (upd ps k p) hk hb hp).mono fun _ _ ⟨he, hp', ho⟩ => by
    rw [upd_same] at he hp'
    rw [upd_upd] at hp'
    exact ⟨he, hp', ho, (ho.cell hx hg).trans hb⟩
set_option maxHeartbeats 2000000 in
theorem awake_any (w : World) : Calls Try.prog 8 #[] w fun e w' => e = .returned (.bool true) ∧ Below w.heap.size w w' := by
  obtain ⟨p, ht1, ht2, hF1, hF2, hF3⟩ := awake_p
  have T1 := Lib.hid ht1
  have T2 := Lib.hid ht2
  have F1 := Lib.hid hF1
  have F2 := Lib.hid hF2
  have F3 := Lib.hid hF3
  clear ht1 ht2 hF1 hF2 hF3
  go_enter Try.func8, Try.ntmps8
  go_wp2_with (first
    | (refine wpList_build rfl 52 _ rfl _ _ (T1.out w) (by kernel_rfl) ?_; simp only [Act.put, List.setIfInBounds_toArray, List.set_cons_zero, List.set_cons_succ])
    | (refine wpList_build rfl 48 _ rfl _ _ (t0 w) (by kernel_rfl) ?_; simp only [Act.put, List.setIfInBounds_toArray, List.set_cons_zero, List.set_cons_succ])
    | (refine wpList_buildSlice rfl 29 _ _ rfl _ _ (T2.out w) (by kernel_rfl) ?_; simp only [Act.put, List.setIfInBounds_toArray, List.set_cons_zero, List.set_cons_succ])
    | (refine wpList_build rfl 33 _ rfl _ _ (t3 _ w.heap.size) (by kernel_rfl) ?_; simp only [Act.put, List.setIfInBounds_toArray, List.set_cons_zero, List.set_cons_succ])
    | (refine wpList_store_at rfl 33 _ _ rfl _ (rowB zeroBri) 33 (rowB (awakeB w.heap.size)) _ rfl rfl (by simp) rfl (sizeB _) rfl (rowB_one _) ?_; simp only [Act.put])
    | fail)
  refine (step_on _ _ w.heap.size 1 1 0 (fun _ => p) p (by omega) (by simp) (by simp) ?hb ((oneP (at_old ?hn (at_new rfl))).start 0)).mono ?_
  case hb => simp [go_sem]
  case hn => simp
  rintro e w1 ⟨rfl, hp1, ho1, hb1⟩
  rw [F1.out] at hp1 ⊢
  have d1 : w.heap.size + 1 < w1.heap.size := cell_lt (by simpa using hb1)
  have hb1' : w1.cell? ⟨w.heap.size + 1, 17, none⟩ = some (.slice (some ⟨w.heap.size, 0, none⟩) 1 1) := by simpa using hb1
  go_wp2_with fail
  refine (step_on _ _ w.heap.size 1 1 0 (fun _ => p) _ (by omega) d1 (by omega) hb1' hp1).mono ?_
  rintro e w2 ⟨rfl, hp2, ho2, hb2⟩
  rw [F2.out] at hp2 ⊢
  have d2 : w.heap.size + 1 < w2.heap.size := cell_lt hb2
  go_wp2_with fail
  refine (step_on _ _ w.heap.size 1 1 0 (fun _ => p) _ (by omega) d2 (by omega) hb2 hp2).mono ?_
  rintro e w3 ⟨rfl, hp3, ho3, hb3⟩
  rw [F3.out] at hp3 ⊢
  have c27 : w3.cell? ⟨w.heap.size, 22 + 5, none⟩ = some (.bool true) := by
    have h := hp3.cell (k := 0) (j := 27) (by omega) (by omega)
    rw [upd_same] at h
    exact h
  have c20 : w3.cell? ⟨w.heap.size, 15 + 5, none⟩ = some (.int .i64 2) := by
    have h := hp3.cell (k := 0) (j := 20) (by omega) (by omega)
    rw [upd_same] at h
    exact h
  have hb := (more (more (Below.refl w.heap.size w) _) _).trans (((ho1.trans ho2).trans ho3).below (by simp <;> omega) (fun k hk => by omega))
  have Hb := Lib.hid hb
  clear hb hp1 hp2 hp3 ho1 ho2 ho3 hb1 hb2
  go_wp2_with fail
  go_ret
  exact ⟨rfl, Hb.out⟩
end Go.Proofs.Ythijhbdaojmgmaa.Br
