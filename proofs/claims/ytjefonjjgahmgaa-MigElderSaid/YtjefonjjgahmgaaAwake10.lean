/- What the example of the laws of the protocol migration machine answers: true. -/
import Derived.Test.YtjefonjjgahmgaaStep10
import Derived.Test.YtjefonjjgahmgaaSame
namespace Go.Proofs.Ytjefonjjgahmgaa.Br
open Go.RowKit
/-- The example's port. -/
def awakeP : Rec := ⟨fun j => if j = 16 then 2 else 0, fun j => j == 2 || j == 38 || j == 45⟩
theorem oneP {w : World} {g : Nat} {p : Rec} (h : w.heap[g]? = some (.cells (rowP p) 52 (0, 0))) : Ports w g 1 (fun _ => p) :=
  ⟨rowP p, h, fun k hk j hj => by
    obtain rfl : k = 0 := by omega
    rw [Nat.zero_mul, Nat.zero_add]
    exact rowP_get hj⟩
theorem wpList_store_at {P : Program} {ops : Array Oper} {rest : List Oper} {o : Oper} {a : Act} {w : World} {Q : Exit → Act → World → Prop} (hgd : o.guard = none) (ty : TypeId) (x y : Operand) (ho : o.op = .store ty x y) (w0 : World) (C : Array Value) (T : TypeId) (cells : Array Value) (g : Nat) (hw : w = w0.alloc (.cells C T))
    (hx : a.eval x = .pointer (some ⟨g, 0, none⟩)) (hg : g = w0.heap.size) (hy : a.eval y = .agg cells) (hi : (P.info? ty).map (·.size) = some cells.size) (hold : C.size = cells.size) (h1 : cells.all (·.oneCell') = true)
    (h : wpList P ops Q rest (a.put o.dst undef) (w0.alloc (.cells cells T))) : wpList P ops Q (o :: rest) a w := by
  subst hg
  exact wpList_store_new hgd ty x y ho w0 C T cells hw hx hy hi hold h1 h
theorem wpList_build {P : Program} {ops : Array Oper} {rest : List Oper} {o : Oper} {a : Act} {w : World} {Q : Exit → Act → World → Prop} (hgd : o.guard = none) (t : TypeId) (parts : Array (Nat × Operand)) (ho : o.op = .build t parts)
    (vs : Array (Nat × Value)) (v : Value) (h : (Instr.build t vs).run P w = .ok v w) (hv : (parts.map fun p => (p.1, a.eval p.2)) = vs) (hk : wpList P ops Q rest (a.put o.dst v) w) : wpList P ops Q (o :: rest) a w :=
  wpList_plain hgd fun _ hK => by
    unfold Oper.wp execOp
    simp only [ho]
    rw [show (parts.map fun x => match x with | (i, x) => (i, a.eval x)) = vs from hv]
    simp only [Sem.run_bind, h, Result.andThen_ok, Sem.run_pure]
    exact hK _ _ hk
theorem wpList_buildSlice {P : Program} {ops : Array Oper} {rest : List Oper} {o : Oper} {a : Act} {w w' : World} {Q : Exit → Act → World → Prop} (hgd : o.guard = none) (t : TypeId) (n : Nat) (parts : Array (Nat × Operand)) (ho : o.op = .buildSlice t n parts)
    (vs : Array (Nat × Value)) (v : Value) (h : (Instr.buildSlice t n vs).run P w = .ok v w') (hv : (parts.map fun p => (p.1, a.eval p.2)) = vs) (hk : wpList P ops Q rest (a.put o.dst v) w') : wpList P ops Q (o :: rest) a w :=
  wpList_plain hgd fun _ hK => by
    unfold Oper.wp execOp
    simp only [ho]
    rw [show (parts.map fun x => match x with | (i, x) => (i, a.eval x)) = vs from hv]
    simp only [Sem.run_bind, h, Result.andThen_ok, Sem.run_pure]
    exact hK _ _ hk
theorem t0 (w : World) : Sem.run Try.prog (Instr.build 44 #[(23, .bool true), (16, .bool true)]) w = .ok (.agg #[.bool false, .bool false, .bool false, .bool false, .bool false, .bool false, .bool false, .bool false, .bool false, .bool false, .bool false, .bool false, .bool false, .bool false, .bool false, .bool false, .bool true, .bool false, .bool false, .bool false, .bool false, .bool false, .bool false, .bool true, .bool false, .bool false, .bool false, .bool false, .bool false]) w := by kernel_rfl
theorem t00 (w : World) : Sem.run Try.prog (Instr.build 48 #[(1, .int .i64 2)]) w = .ok (.agg #[.int .i64 0, .int .i64 2, .int .i64 0, .int .i64 0, .int .i64 0, .int .i64 0, .int .i64 0]) w := by kernel_rfl
theorem t1 (w : World) : Sem.run Try.prog (Instr.build 52 #[(2, .bool true), (7, .agg #[.int .i64 0, .int .i64 2, .int .i64 0, .int .i64 0, .int .i64 0, .int .i64 0, .int .i64 0]), (8, .agg #[.bool false, .bool false, .bool false, .bool false, .bool false, .bool false, .bool false, .bool false, .bool false, .bool false, .bool false, .bool false, .bool false, .bool false, .bool false, .bool false, .bool true, .bool false, .bool false, .bool false, .bool false, .bool false, .bool false, .bool true, .bool false, .bool false, .bool false, .bool false, .bool false])]) w = .ok (.agg (rowP awakeP)) w := by kernel_rfl
theorem t2 (w : World) : Sem.run Try.prog (Instr.buildSlice 29 1 #[(0, .agg (rowP awakeP))]) w = .ok (.slice (some ⟨w.heap.size, 0, none⟩) 1 1) (w.alloc (.cells (rowP awakeP) 52)) := by kernel_rfl
/-- The example's bridge. -/
def awakeB (g : Nat) : Bri := ⟨⟨fun j => if j = 3 then 20 else if j = 4 then 2 else if j = 5 then 15 else if j = 6 then 6 else 0, fun j => j == 1⟩, some ⟨g, 0, none⟩, 1, 1, none, 0, 0, none, 0, 0⟩
theorem t3 (w : World) (g : Nat) : Sem.run Try.prog (Instr.build 33 #[(1, .bool true), (2, .agg #[.int .i64 0, .int .i64 20, .int .i64 2, .int .i64 15]), (3, .int .i64 6), (7, .slice (some ⟨g, 0, none⟩) 1 1)]) w = .ok (.agg (rowB (awakeB g))) w := by kernel_rfl
theorem awakeB_17 (g : Nat) : (rowB (awakeB g))[17]? = some (.slice (some ⟨g, 0, none⟩) 1 1) := rfl
theorem awakeB_1 (g : Nat) : (rowB (awakeB g))[1]? = some (.bool true) := rfl
attribute [local go_sem] zeroBr awakeB_17 awakeB_1 zeroP rowP_45 rowP_9 rowP_16
theorem awakeF : migF true awakeP = ((((awakeP.setB 45 false).setI 9 3).setI 16 1), true) := by
  unfold migF
  rw [if_neg (by decide), if_neg (by decide), if_neg (by decide), if_pos (by decide)]
theorem awake_p : ∃ p : Rec, (∀ w, Sem.run Try.prog (Instr.build 52 #[(2, .bool true), (7, .agg #[.int .i64 0, .int .i64 2, .int .i64 0, .int .i64 0, .int .i64 0, .int .i64 0, .int .i64 0]), (8, .agg #[.bool false, .bool false, .bool false, .bool false, .bool false, .bool false, .bool false, .bool false, .bool false, .bool false, .bool false, .bool false, .bool false, .bool false, .bool false, .bool false, .bool true, .bool false, .bool false, .bool false, .bool false, .bool false, .bool false, .bool true, .bool false, .bool false, .bool false, .bool false, .bool false])]) w = .ok (.agg (rowP p)) w) ∧
    (∀ w, Sem.run Try.prog (Instr.buildSlice 29 1 #[(0, .agg (rowP p))]) w = .ok (.slice (some ⟨w.heap.size, 0, none⟩) 1 1) (w.alloc (.cells (rowP p) 52))) ∧ migF true p = ((((p.setB 45 false).setI 9 3).setI 16 1), true) := ⟨awakeP, t1, t2, awakeF⟩
/-- A step, and what holds of the bridge's own cells behind it. -/
theorem step_on (w : World) (bx g n cap k : Nat) (ps : Nat → Rec) (p : Rec) (rst : Bool) (hk : k < n) (hx : bx < w.heap.size) (hg : bx ≠ g)
    (hb : w.cell? ⟨bx, 17, none⟩ = some (.slice (some ⟨g, 0, none⟩) n cap)) (hb1 : w.cell? ⟨bx, 1, none⟩ = some (.bool rst)) (hp : Ports w g n (upd ps k p)) :
    Calls Try.prog 12 #[.pointer (some ⟨bx, 0, none⟩), .int .i64 k] w fun e w' => e = .returned (.bool (migF rst p).2) ∧ Ports w' g n (upd ps k (migF rst p).1) ∧ Only (· = g) w w' ∧ w'.cell? ⟨bx, 17, none⟩ = some (.slice (some ⟨g, 0, none⟩) n cap) ∧ w'.cell? ⟨bx, 1, none⟩ = some (.bool rst) :=
  (step_any w bx g n cap k (upd ps k p) rst hk hb hb1 hp).mono fun _ _ ⟨he, hp', ho⟩ => by
    rw [upd_same] at he hp'
    rw [upd_upd] at hp'
    exact ⟨he, hp', ho, (ho.cell hx hg).trans hb, (ho.cell hx hg).trans hb1⟩
set_option maxHeartbeats 2000000 in
theorem awake_any (w : World) : Calls Try.prog 8 #[] w fun e w' => e = .returned (.bool true) ∧ Below w.heap.size w w' := by
  obtain ⟨p, ht1, ht2, hF1⟩ := awake_p
  have T1 := Lib.hid ht1
  have T2 := Lib.hid ht2
  have F1 := Lib.hid hF1
  clear ht1 ht2 hF1
  go_enter Try.func8, Try.ntmps8
  go_wp2_with (first
    | (refine wpList_build rfl 52 _ rfl _ _ (T1.out w) (by kernel_rfl) ?_; simp only [Act.put, List.setIfInBounds_toArray, List.set_cons_zero, List.set_cons_succ])
    | (refine wpList_build rfl 48 _ rfl _ _ (t00 w) (by kernel_rfl) ?_; simp only [Act.put, List.setIfInBounds_toArray, List.set_cons_zero, List.set_cons_succ])
    | (refine wpList_build rfl 44 _ rfl _ _ (t0 w) (by kernel_rfl) ?_; simp only [Act.put, List.setIfInBounds_toArray, List.set_cons_zero, List.set_cons_succ])
    | (refine wpList_buildSlice rfl 29 _ _ rfl _ _ (T2.out w) (by kernel_rfl) ?_; simp only [Act.put, List.setIfInBounds_toArray, List.set_cons_zero, List.set_cons_succ])
    | (refine wpList_build rfl 33 _ rfl _ _ (t3 _ w.heap.size) (by kernel_rfl) ?_; simp only [Act.put, List.setIfInBounds_toArray, List.set_cons_zero, List.set_cons_succ])
    | (refine wpList_store_at rfl 33 _ _ rfl _ (rowB zeroBri) 33 (rowB (awakeB w.heap.size)) _ rfl rfl (by simp) rfl (sizeB _) rfl (rowB_one _) ?_; simp only [Act.put])
    | fail)
  refine (step_on _ _ w.heap.size 1 1 0 (fun _ => p) p true (by omega) (by simp) (by simp) ?hb ?hr ((oneP (at_old ?hn (at_new rfl))).start 0)).mono ?_
  case hb => simp [go_sem]
  case hr => simp [go_sem]
  case hn => simp
  rintro e w1 ⟨rfl, hp1, ho1, hb1, hr1⟩
  rw [F1.out] at hp1 ⊢
  have d1 : w.heap.size + 1 < w1.heap.size := cell_lt (by simpa using hb1)
  have hb1' : w1.cell? ⟨w.heap.size + 1, 17, none⟩ = some (.slice (some ⟨w.heap.size, 0, none⟩) 1 1) := by simpa using hb1
  have hr := hp1.range (k := 0) (by omega)
  rw [upd_same, Nat.zero_mul] at hr
  have hb := (more (more (Below.refl w.heap.size w) _) _).trans (ho1.below (by simp <;> omega) (fun k hk => by omega))
  have Hb := Lib.hid hb
  clear hb hp1 ho1 hb1 hr1
  go_wp2_with (first | (refine wpList_row rfl 52 _ rfl w.heap.size 0 rfl _ _ hr Try.underlying52 rfl (sizeP _) ?_; simp only [Act.put, List.setIfInBounds_toArray, List.set_cons_zero, List.set_cons_succ]) | (refine wpList_store_new rfl 52 _ _ rfl w1 (rowP zeroR) 52 _ rfl rfl rfl (sizeP _) rfl (rowP_one _) ?_; simp only [Act.put]) | fail)
  go_ret
  exact ⟨rfl, Hb.out.alloc Hb.out.size _⟩
end Go.Proofs.Ytjefonjjgahmgaa.Br
