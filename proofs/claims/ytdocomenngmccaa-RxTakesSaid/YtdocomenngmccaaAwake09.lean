/- What the example of the laws of the receiving machine answers: true. -/
import Derived.Test.YtdocomenngmccaaTake09
import Derived.Test.YtdocomenngmccaaSame
namespace Go.Proofs.Ytdocomenngmccaa.Br
open Go.RowKit
/-- The example's port. -/
def awakeP : Rec := ⟨fun j => if j = 6 then 3 else 0, fun j => j == 2⟩
theorem oneP {w : World} {g : Nat} {p : Rec} (h : w.heap[g]? = some (.cells (rowP p) 52 (0, 0))) : Ports w g 1 (fun _ => p) :=
  ⟨rowP p, h, fun k hk j hj => by
    obtain rfl : k = 0 := by omega
    rw [Nat.zero_mul, Nat.zero_add]
    exact rowP_get hj⟩
theorem wpList_store_at {P : Program} {ops : Array Oper} {rest : List Oper} {o : Oper} {a : Act} {w : World} {Q : Exit → Act → World → Prop} (hgd : o.guard = none) (ty : TypeId) (x y : Operand) (ho : o.op = .store ty x y) (w0 : World) (C : Array Value) (T : TypeId) (cells : Array Value) (g : Nat) (hw : w = w0.alloc (.cells C T))
    (hx : a.eval x = .pointer (some ⟨g, 0, none⟩)) (hg : g = w0.heap.size) (hy : a.eval y = .agg cells) (hi : (P.info? ty).map (·.size) = some cells.size) (hold : C.size = cells.size) (h1 : cells.all (·.oneCell') = true)
    (h : wpList P ops Q rest (a.put o.dst undef) (w0.alloc (.cells cells T))) : wpList P ops Q (o :: rest) a w := by
  subst hg
  exact wpList_store_new hgd ty x y ho w0 C T cells hw hx hy hi hold h1 h
theorem wpList_build {P : Program} {ops : Array Oper} {rest : List Oper} {o : Oper} {a : Act} {w : World} {Q : Exit → Act → World → Prop} (hgd : o.guard = none) (t : TypeId) (parts : Array (Nat × Operand)) (ho : o.op = .build t parts)
    (vs : Array (Nat × Value)) (v : Value) (h : (Instr.build t vs).run P w = .ok v w) (hv : (parts.map fun p => (p.1, a.eval p.2)) = vs) (hk : wpList P ops Q rest (a.put o.dst v) w) : wpList P ops Q (o :: rest) a w :=
  wpList_plain hgd fun _ hK => by
    unfold Oper.wp execOp
    simp only [ho]
    rw [show (parts.map fun x => match x with | (i, x) => (i, a.eval x)) = vs from hv]
    simp only [Sem.run_bind, h, Result.andThen_ok, Sem.run_pure]
    exact hK _ _ hk
theorem wpList_buildSlice {P : Program} {ops : Array Oper} {rest : List Oper} {o : Oper} {a : Act} {w w' : World} {Q : Exit → Act → World → Prop} (hgd : o.guard = none) (t : TypeId) (n : Nat) (parts : Array (Nat × Operand)) (ho : o.op = .buildSlice t n parts)
    (vs : Array (Nat × Value)) (v : Value) (h : (Instr.buildSlice t n vs).run P w = .ok v w') (hv : (parts.map fun p => (p.1, a.eval p.2)) = vs) (hk : wpList P ops Q rest (a.put o.dst v) w') : wpList P ops Q (o :: rest) a w :=
  wpList_plain hgd fun _ hK => by
    unfold Oper.wp execOp
    simp only [ho]
    rw [show (parts.map fun x => match x with | (i, x) => (i, a.eval x)) = vs from hv]
    simp only [Sem.run_bind, h, Result.andThen_ok, Sem.run_pure]
    exact hK _ _ hk
theorem t0 (w : World) : Sem.run Try.prog (Instr.build 46 #[(0, .int .i64 3)]) w = .ok (.agg #[.int .i64 3, .int .i64 0, .int .i64 0, .int .i64 0, .int .i64 0, .int .i64 0, .int .i64 0, .int .i64 0, .int .i64 0]) w := by kernel_rfl
/-- The example's message. -/
def awakeM : Rec := ⟨fun j => if j = 51 then 2 else 0, fun _ => false⟩
theorem tm (w : World) : Sem.run Try.prog (Instr.build 35 #[(0, .int .i64 2)]) w = .ok (.agg (rowM awakeM)) w := by kernel_rfl
theorem t1 (w : World) : Sem.run Try.prog (Instr.build 52 #[(2, .bool true), (6, .agg #[.int .i64 3, .int .i64 0, .int .i64 0, .int .i64 0, .int .i64 0, .int .i64 0, .int .i64 0, .int .i64 0, .int .i64 0])]) w = .ok (.agg (rowP awakeP)) w := by kernel_rfl
theorem t2 (w : World) : Sem.run Try.prog (Instr.buildSlice 29 1 #[(0, .agg (rowP awakeP))]) w = .ok (.slice (some ⟨w.heap.size, 0, none⟩) 1 1) (w.alloc (.cells (rowP awakeP) 52)) := by kernel_rfl
/-- The example's bridge. -/
def awakeB (g : Nat) : Bri := ⟨⟨fun j => if j = 3 then 20 else if j = 4 then 2 else if j = 5 then 15 else if j = 6 then 6 else 0, fun j => j == 1⟩, some ⟨g, 0, none⟩, 1, 1, none, 0, 0, none, 0, 0⟩
theorem t3 (w : World) (g : Nat) : Sem.run Try.prog (Instr.build 33 #[(1, .bool true), (2, .agg #[.int .i64 0, .int .i64 20, .int .i64 2, .int .i64 15]), (3, .int .i64 6), (7, .slice (some ⟨g, 0, none⟩) 1 1)]) w = .ok (.agg (rowB (awakeB g))) w := by kernel_rfl
theorem awakeB_17 (g : Nat) : (rowB (awakeB g))[17]? = some (.slice (some ⟨g, 0, none⟩) 1 1) := rfl
theorem awakeB_1 (g : Nat) : (rowB (awakeB g))[1]? = some (.bool true) := rfl
theorem rowFl_13 (p : Rec) : (rowFl p)[13]? = some (.bool (p.b 35)) := rfl
theorem rowFl_14 (p : Rec) : (rowFl p)[14]? = some (.bool (p.b 36)) := rfl
theorem rowFl_15 (p : Rec) : (rowFl p)[15]? = some (.bool (p.b 37)) := rfl
attribute [local go_sem] zeroBr awakeB_17 awakeB_1 zeroFl rowFl_13 rowFl_14 rowFl_15
theorem awakeF : takeF true awakeM awakeP = ((putM awakeP awakeM).setB 35 true, true) ∧ rxF ((putM awakeP awakeM).setB 35 true) = (recF ((putM awakeP awakeM).setB 35 true), true) ∧ rxF (recF ((putM awakeP awakeM).setB 35 true)) = (recF ((putM awakeP awakeM).setB 35 true), false) ∧
    (recF ((putM awakeP awakeM).setB 35 true)).b 36 = true ∧ (recF ((putM awakeP awakeM).setB 35 true)).b 37 = true ∧ (recF ((putM awakeP awakeM).setB 35 true)).b 35 = false ∧ (recF ((putM awakeP awakeM).setB 35 true)).i 15 = 1 := by
  refine ⟨?_, ?_, ?_, by decide, by decide, by decide, by decide⟩
  · unfold takeF
    rw [if_neg (by decide)]
  · unfold rxF
    rw [if_neg (by decide), if_pos (by decide)]
  · unfold rxF
    rw [if_neg (by decide), if_neg (by decide), if_neg (by decide)]
theorem awake_p : ∃ p m q : Rec, (∀ w, Sem.run Try.prog (Instr.build 52 #[(2, .bool true), (6, .agg #[.int .i64 3, .int .i64 0, .int .i64 0, .int .i64 0, .int .i64 0, .int .i64 0, .int .i64 0, .int .i64 0, .int .i64 0])]) w = .ok (.agg (rowP p)) w) ∧
    (∀ w, Sem.run Try.prog (Instr.buildSlice 29 1 #[(0, .agg (rowP p))]) w = .ok (.slice (some ⟨w.heap.size, 0, none⟩) 1 1) (w.alloc (.cells (rowP p) 52))) ∧ (∀ w, Sem.run Try.prog (Instr.build 35 #[(0, .int .i64 2)]) w = .ok (.agg (rowM m)) w) ∧
    (∃ p1, takeF true m p = (p1, true) ∧ rxF p1 = (q, true)) ∧ rxF q = (q, false) ∧ q.b 36 = true ∧ q.b 37 = true ∧ q.b 35 = false ∧ q.i 15 = 1 :=
  ⟨awakeP, awakeM, recF ((putM awakeP awakeM).setB 35 true), t1, t2, tm, ⟨_, awakeF.1, awakeF.2.1⟩, awakeF.2.2⟩
/-- A step, and what holds of the bridge's own cells behind it. -/
theorem step_on (w : World) (bx g n cap k : Nat) (ps : Nat → Rec) (p : Rec) (hk : k < n) (hx : bx < w.heap.size) (hg : bx ≠ g)
    (hb : w.cell? ⟨bx, 17, none⟩ = some (.slice (some ⟨g, 0, none⟩) n cap)) (hp : Ports w g n (upd ps k p)) :
    Calls Try.prog 13 #[.pointer (some ⟨bx, 0, none⟩), .int .i64 k] w fun e w' => e = .returned (.bool (rxF p).2) ∧ Ports w' g n (upd ps k (rxF p).1) ∧ Only (· = g) w w' ∧ w'.cell? ⟨bx, 17, none⟩ = some (.slice (some ⟨g, 0, none⟩) n cap) :=
  (step_any w bx g n cap k (upd ps k p) hk hb hp).mono fun _ _ ⟨he, hp', ho⟩ => by
    rw [upd_same] at he hp'
    rw [upd_upd] at hp'
    exact ⟨he, hp', ho, (ho.cell hx hg).trans hb⟩
set_option maxHeartbeats 2000000 in
theorem awake_any (w : World) : Calls Try.prog 6 #[] w fun e w' => e = .returned (.bool true) ∧ Below w.heap.size w w' := by
  obtain ⟨p, m, q, ht1, ht2, htm, ⟨p1, hf1, hf2⟩, hf3, hq1, hq2, hq3, hq4⟩ := awake_p
  have T1 := Lib.hid ht1
  have T2 := Lib.hid ht2
  have TM := Lib.hid htm
  have F1 := Lib.hid hf1
  have F2 := Lib.hid hf2
  have F3 := Lib.hid hf3
  clear ht1 ht2 htm hf1 hf2 hf3
  go_enter Try.func6, Try.ntmps6
  go_wp2_with (first
    | (refine wpList_build rfl 52 _ rfl _ _ (T1.out w) (by kernel_rfl) ?_; simp only [Act.put, List.setIfInBounds_toArray, List.set_cons_zero, List.set_cons_succ])
    | (refine wpList_build rfl 46 _ rfl _ _ (t0 w) (by kernel_rfl) ?_; simp only [Act.put, List.setIfInBounds_toArray, List.set_cons_zero, List.set_cons_succ])
    | (refine wpList_build rfl 35 _ rfl _ _ (TM.out _) (by kernel_rfl) ?_; simp only [Act.put, List.setIfInBounds_toArray, List.set_cons_zero, List.set_cons_succ])
    | (refine wpList_buildSlice rfl 29 _ _ rfl _ _ (T2.out w) (by kernel_rfl) ?_; simp only [Act.put, List.setIfInBounds_toArray, List.set_cons_zero, List.set_cons_succ])
    | (refine wpList_build rfl 33 _ rfl _ _ (t3 _ w.heap.size) (by kernel_rfl) ?_; simp only [Act.put, List.setIfInBounds_toArray, List.set_cons_zero, List.set_cons_succ])
    | (refine wpList_store_at rfl 33 _ _ rfl _ (rowB zeroBri) 33 (rowB (awakeB w.heap.size)) _ rfl rfl (by simp) rfl (sizeB _) rfl (rowB_one _) ?_; simp only [Act.put])
    | fail)
  refine (take_in _ _ w.heap.size 1 1 0 (fun _ => p) true m (by omega) ?hb ?hr (oneP (at_old ?hn (at_new rfl)))).mono ?_
  case hb => simp [go_sem]
  case hr => simp [go_sem]
  case hn => simp
  rintro e w1 ⟨rfl, hp1, ho1⟩
  rw [F1.out] at hp1 ⊢
  have s1 := ho1.size
  have hb1 : w1.cell? ⟨w.heap.size + 1, 17, none⟩ = some (.slice (some ⟨w.heap.size, 0, none⟩) 1 1) := by
    rw [ho1.cell (p := ⟨w.heap.size + 1, 17, none⟩) (by simp) (by simp)]
    simp [go_sem]
  have d1 : w.heap.size + 1 < w1.heap.size := cell_lt hb1
  go_wp2_with fail
  refine (step_on _ _ w.heap.size 1 1 0 (fun _ => p) _ (by omega) d1 (by omega) hb1 hp1).mono ?_
  rintro e w2 ⟨rfl, hp2, ho2, hb2⟩
  rw [F2.out] at hp2 ⊢
  have d2 : w.heap.size + 1 < w2.heap.size := cell_lt hb2
  go_wp2_with fail
  refine (step_on _ _ w.heap.size 1 1 0 (fun _ => p) _ (by omega) d2 (by omega) hb2 hp2).mono ?_
  rintro e w3 ⟨rfl, hp3, ho3, hb3⟩
  rw [F3.out] at hp3 ⊢
  have d3 : w.heap.size + 1 < w3.heap.size := cell_lt hb3
  have d3' : w.heap.size < w3.heap.size := by omega
  have hr := flagsP hp3 (k := 0) (by omega)
  rw [upd_same, Nat.zero_mul, Nat.zero_add] at hr
  have c15 : w3.cell? ⟨w.heap.size, 15, none⟩ = some (.int .i64 1) := by
    have h := hp3.cell (k := 0) (j := 15) (by omega) (by omega)
    rw [upd_same, Nat.zero_mul, Nat.zero_add] at h
    rw [← hq4]
    exact h
  have hb := (more (more (Below.refl w.heap.size w) _) _).trans (((ho1.trans ho2).trans ho3).below (by simp <;> omega) (fun k hk => by omega))
  have Hb := Lib.hid hb
  clear hb hp1 hp2 hp3 ho1 ho2 ho3 hb1 hb2
  go_wp2_with (first | (refine wpList_row rfl 50 _ rfl w.heap.size 22 rfl _ _ hr Try.underlying50 rfl (sizeFl _) ?_; simp only [Act.put, List.setIfInBounds_toArray, List.set_cons_zero, List.set_cons_succ]) | (refine wpList_store_new rfl 50 _ _ rfl w3 (rowFl zeroR) 50 _ rfl rfl rfl (sizeFl _) rfl (rowFl_one _) ?_; simp only [Act.put]) | fail)
  go_ret
  exact ⟨rfl, Hb.out.alloc Hb.out.size _⟩
end Go.Proofs.Ytdocomenngmccaa.Br
