/- Law TxVec of the sending machine: the walk joined with the plain law. -/
import Derived.Test.YtmlhbfkmnbhoeaaTxOn
import Derived.Test.YtmlhbfkmnbhoeaaTxMsg
import Derived.Test.YtmlhbfkmnbhoeaaOpen
import Derived.Deep.RegionHeld
set_option linter.unusedSimpArgs false
namespace Go.Proofs.Ytmlhbfkmnbhoeaa.Br
open Go.RowKit
set_option maxRecDepth 100000 in
set_option maxHeartbeats 4000000 in
theorem eqM (p : Rec) (w : World) : Sem.run Try.prog (Op.equalIn 10000 43 (.agg (rowMs p)) (.agg (rowMs p))) w = .ok true w := by
  unfold rowMs
  simp [go_sem]
theorem guardM : Try.prog.eqGuardType Try.prog.depth 43 = false := by kernel_rfl
theorem exec_eqM {o : Oper} {a : Act} {w : World} (x y : Operand) (ho : o.op = .binOp .eql 43 x y 43) (p : Rec) (hx : a.eval x = .agg (rowMs p)) (hy : a.eval y = .agg (rowMs p)) : (execOp a.eval o).run Try.prog w = .ok (.value (.bool true)) w := by
  unfold execOp
  simp only [ho, hx, hy, Sem.run_bind, run_eqGuard_agg w .eql 43 x y _ _ guardM, Result.andThen_ok, run_eql_struct, eqM, Sem.run_pure]
theorem row_held1 {W : World} {g B : Nat} {C : Array Value} {T : TypeId} {fr : Nat × Nat} (h : W.heap[g]? = some (.cells C T fr)) (hB : g < B) : ∀ w, Below B W w → w.rangeAt g 0 C.toList := fun w hw j v hv => by
  rw [Nat.zero_add, cells_of ((hw.block g hB).trans h) j]
  simpa using hv

theorem eqV (p : Rec) (w : World) : Sem.run Try.prog (Op.equalIn 10000 28 (.agg (rowVd p)) (.agg (rowVd p))) w = .ok true w := by
  unfold rowVd
  simp [go_sem]
theorem guardV : Try.prog.eqGuardType Try.prog.depth 28 = false := by kernel_rfl
theorem exec_eqV {o : Oper} {a : Act} {w : World} (x y : Operand) (ho : o.op = .binOp .eql 28 x y 28) (p : Rec) (hx : a.eval x = .agg (rowVd p)) (hy : a.eval y = .agg (rowVd p)) : (execOp a.eval o).run Try.prog w = .ok (.value (.bool true)) w := by
  unfold execOp
  simp only [ho, hx, hy, Sem.run_bind, run_eqGuard_agg w .eql 28 x y _ _ guardV, Result.andThen_ok, run_eql_struct, eqV, Sem.run_pure]
theorem eqT (p : Rec) (w : World) : Sem.run Try.prog (Op.equalIn 10000 24 (.agg (rowTd p)) (.agg (rowTd p))) w = .ok true w := by
  unfold rowTd
  simp [go_sem]
theorem guardT : Try.prog.eqGuardType Try.prog.depth 24 = false := by kernel_rfl
theorem exec_eqT {o : Oper} {a : Act} {w : World} (x y : Operand) (ho : o.op = .binOp .eql 24 x y 24) (p : Rec) (hx : a.eval x = .agg (rowTd p)) (hy : a.eval y = .agg (rowTd p)) : (execOp a.eval o).run Try.prog w = .ok (.value (.bool true)) w := by
  unfold execOp
  simp only [ho, hx, hy, Sem.run_bind, run_eqGuard_agg w .eql 24 x y _ _ guardT, Result.andThen_ok, run_eql_struct, eqT, Sem.run_pure]
theorem wpList_val {P : Program} {ops : Array Oper} {rest : List Oper} {o : Oper} {a : Act} {w : World} {Q : Exit → Act → World → Prop} (hw : Region.wanted o (yielded ops a.tmps) = true) (v : Value) (h : (execOp a.eval o).run P w = .ok (.value v) w) (hk : wpList P ops Q rest (a.put o.dst v) w) : wpList P ops Q (o :: rest) a w :=
  wpList_step fun _ hK => by
    rw [if_pos hw]
    unfold Oper.wp
    rw [h]
    exact hK _ _ hk
theorem exec_build {P : Program} {o : Oper} {a : Act} {w : World} (t : TypeId) (parts : Array (Nat × Operand)) (ho : o.op = .build t parts) (vs : Array (Nat × Value)) (v : Value) (h : (Instr.build t vs).run P w = .ok v w) (hv : (parts.map fun p => (p.1, a.eval p.2)) = vs) : (execOp a.eval o).run P w = .ok (.value v) w := by
  unfold execOp
  simp only [ho]
  rw [show (parts.map fun x => match x with | (i, x) => (i, a.eval x)) = vs from hv]
  simp only [Sem.run_bind, h, Result.andThen_ok, Sem.run_pure]
theorem loadMg {P : Program} {ops : Array Oper} {rest : List Oper} {o : Oper} {a : Act} {w : World} {Q : Exit → Act → World → Prop} (hP : P = Try.prog) (hw : Region.wanted o (yielded ops a.tmps) = true) (x : Operand) (ho : o.op = .load 43 x) (g : Nat) (hx : a.eval x = .pointer (some ⟨g, 0, none⟩)) (m : Rec)
    (hg : w.heap[g]? = some (.cells (rowMs m) 43 (0, 0))) (h : wpList P ops Q rest (a.put o.dst (.agg (rowMs m))) w) : wpList P ops Q (o :: rest) a w := by
  subst hP
  exact wpList_step fun _ hK => by
    rw [if_pos hw]
    exact wp_load_row 43 x ho g hx 43 (rowMs m) (0, 0) _ hg Try.underlying43 rfl (sizeM m) (hK _ _ h)
theorem range_below {W : World} {g B o : Nat} {cs : List Value} (h : W.rangeAt g o cs) (hB : g < B) : ∀ w, Below B W w → w.rangeAt g o cs := fun _ hw j v hv => (hw.cell (p := ⟨g, _, none⟩) hB).trans (h j v hv)
theorem rowVd_4 (p : Rec) : (rowVd p)[4]? = some (.int .u16 (p.i 77)) := rfl
theorem rowVd_put (p : Rec) : (rowVd p).setIfInBounds 4 (.int .u16 0) = rowVd (p.setI 77 0) := rfl
theorem rowVd_one (p : Rec) : (rowVd p).all (·.oneCell') = true := by kernel_rfl
theorem zeroVd (w : World) : Sem.run Try.prog (zeroValue 28) w = .ok (.agg (rowVd zeroR)) w := by kernel_rfl
theorem bldM1' (w : World) : Sem.run Try.prog (Instr.build 43 #[(0, .int .i64 1)]) w = .ok (.agg (rowMs (zeroR.setI 1 1))) w := by kernel_rfl
/-- What a message tells of a port's vector and times. -/
structure MV (m p : Rec) : Prop where
  v0 : m.i 9 = p.i 73
  v1 : m.i 10 = p.i 74
  v2 : m.i 11 = p.i 75
  v3 : m.i 12 = p.i 76
  v4 : m.i 13 = 0
  t0 : m.i 14 = p.i 82
  t1 : m.i 15 = p.i 83
  t2 : m.i 16 = p.i 84
  t3 : m.i 17 = p.i 85
  c : m.b 2 = (p.i 13 != 0)
/-- What a step of the law's port does. -/
theorem vec_law (b : Bri) (q : Rec) (k : Nat) (hr6 : 1 ≤ b.r.i 6) : ∃ p1 : Rec, p1 = ((((q.setB 44 true).setB 50 false).setB 31 true).setI 8 1).setI 14 0 ∧ p1.i 14 = 0 ∧ (txF b p1 = (p1, false, none) ∨ ∃ p2 kd m, txF b p1 = (p2, true, some kd) ∧ m = (msgF p1 kd).setI 0 k ∧ m.i 1 = kd ∧ ((kd = 1 ∧ q.i 87 = 3 ∧ (∀ r, rowMs m = r ↔ rowMs (zeroR.setI 1 1) = r)) ∨ (kd ≠ 1 ∧ MV m q))) := by
  have n6 : ¬ b.r.i 6 ≤ 0 := by omega
  have e1 : ((((((q.setB 44 true).setB 50 false).setB 31 true).setI 8 1).setI 14 0).b 44) = true := by simp [Rec.setB_b, Rec.setI_b]
  have e2 : ((((((q.setB 44 true).setB 50 false).setB 31 true).setI 8 1).setI 14 0).b 50) = false := by simp [Rec.setB_b, Rec.setI_b]
  have e3 : ((((((q.setB 44 true).setB 50 false).setB 31 true).setI 8 1).setI 14 0).b 31) = true := by simp [Rec.setB_b, Rec.setI_b]
  have e4 : ((((((q.setB 44 true).setB 50 false).setB 31 true).setI 8 1).setI 14 0).i 8) = 1 := by simp [Rec.setB_i, Rec.setI_i]
  have e5 : ((((((q.setB 44 true).setB 50 false).setB 31 true).setI 8 1).setI 14 0).i 14) = 0 := by simp [Rec.setB_i, Rec.setI_i]
  have e6 : ((((((q.setB 44 true).setB 50 false).setB 31 true).setI 8 1).setI 14 0).b 45) = q.b 45 := by simp [Rec.setB_b, Rec.setI_b]
  have e7 : ((((((q.setB 44 true).setB 50 false).setB 31 true).setI 8 1).setI 14 0).i 87) = q.i 87 := by simp [Rec.setB_i, Rec.setI_i]
  have mv : ∀ kd : Int, kd = 0 ∨ kd = 2 → MV ((msgF (((((q.setB 44 true).setB 50 false).setB 31 true).setI 8 1).setI 14 0) kd).setI 0 k) q ∧ ((msgF (((((q.setB 44 true).setB 50 false).setB 31 true).setI 8 1).setI 14 0) kd).setI 0 k).i 1 = kd := by
    rintro kd (rfl | rfl)
    · rw [msgF_0]
      exact ⟨⟨rfl, rfl, rfl, rfl, rfl, rfl, rfl, rfl, rfl, rfl⟩, rfl⟩
    · rw [msgF_2]
      exact ⟨⟨rfl, rfl, rfl, rfl, rfl, rfl, rfl, rfl, rfl, rfl⟩, rfl⟩
  refine ⟨_, rfl, e5, ?_⟩
  obtain ⟨p1, hp1⟩ : ∃ x, x = ((((q.setB 44 true).setB 50 false).setB 31 true).setI 8 1).setI 14 0 := ⟨_, rfl⟩
  rw [← hp1] at e1 e2 e3 e4 e5 e6 e7 mv ⊢
  clear hp1
  have go : ∀ kd, kindF p1 = (kd, true) → ∃ p2, txF b p1 = (p2, true, some kd) := fun kd h => by
    unfold txF
    rw [if_neg (by simp [e1, e2]), if_neg (by rw [e4]; decide), if_neg (by rw [h]; simp [e3, e5]; omega), h]
    exact ⟨_, rfl⟩
  have no : (kindF p1).2 = false → txF b p1 = (p1, false, none) := fun h => by
    unfold txF
    rw [if_neg (by simp [e1, e2]), if_neg (by rw [e4]; decide), if_pos (by rw [h]; simp)]
  cases h45 : q.b 45 with
  | true =>
    have hk : kindF p1 = (2, q.i 87 != 0) := by unfold kindF; rw [e6, h45, if_pos rfl, e7]
    cases h0 : (q.i 87 != 0) with
    | true =>
      rw [h0] at hk
      obtain ⟨p2, h2⟩ := go 2 hk
      exact .inr ⟨p2, 2, _, h2, rfl, (mv 2 (.inr rfl)).2, .inr ⟨by decide, (mv 2 (.inr rfl)).1⟩⟩
    | false => exact .inl (no (by rw [hk]; exact h0))
  | false =>
    by_cases h4 : q.i 87 = 4
    · have hk : kindF p1 = (0, true) := by unfold kindF; rw [e6, h45, if_neg (by simp), e7, if_pos h4]
      obtain ⟨p2, h2⟩ := go 0 hk
      exact .inr ⟨p2, 0, _, h2, rfl, (mv 0 (.inl rfl)).2, .inr ⟨by decide, (mv 0 (.inl rfl)).1⟩⟩
    · have hk : kindF p1 = (1, q.i 87 == 3) := by unfold kindF; rw [e6, h45, if_neg (by simp), e7, if_neg h4]
      by_cases h3 : q.i 87 = 3
      · obtain ⟨p2, h2⟩ := go 1 (by rw [hk, h3]; rfl)
        exact .inr ⟨p2, 1, _, h2, rfl, by rw [msgF_1]; rfl, .inl ⟨rfl, h3, fun r => by rw [msgF_1]; exact Iff.rfl⟩⟩
      · exact .inl (no (by rw [hk]; simp [h3]))
theorem vdV {w : World} {g o n k : Nat} {ps : Nat → Rec} (h : ∀ k, k < n → ∀ j, j < 89 → w.cell? ⟨g, o + (k * 89 + j), none⟩ = some (cellP (ps k) j)) (hk : k < n) : w.rangeAt g (o + k * 89 + 73) (rowVd (ps k)).toList := fun j v hv => by
  have hj : j < 5 := (List.getElem?_eq_some_iff.1 hv).1
  have h1 := h k hk (73 + j) (by omega)
  rw [show o + (k * 89 + (73 + j)) = o + k * 89 + 73 + j by omega] at h1
  rw [h1, ← hv]
  match j, hj with
  | 0, _ => rfl
  | 1, _ => rfl
  | 2, _ => rfl
  | 3, _ => rfl
  | 4, _ => rfl
theorem tdV {w : World} {g o n k : Nat} {ps : Nat → Rec} (h : ∀ k, k < n → ∀ j, j < 89 → w.cell? ⟨g, o + (k * 89 + j), none⟩ = some (cellP (ps k) j)) (hk : k < n) : w.rangeAt g (o + k * 89 + 82) (rowTd (ps k)).toList := fun j v hv => by
  have hj : j < 4 := (List.getElem?_eq_some_iff.1 hv).1
  have h1 := h k hk (82 + j) (by omega)
  rw [show o + (k * 89 + (82 + j)) = o + k * 89 + 82 + j by omega] at h1
  rw [h1, ← hv]
  match j, hj with
  | 0, _ => rfl
  | 1, _ => rfl
  | 2, _ => rfl
  | 3, _ => rfl
theorem msV {w : World} {g o n k : Nat} {ss : Nat → Rec} (h : ∀ k, k < n → ∀ j, j < 18 → w.cell? ⟨g, o + (k * 18 + j), none⟩ = some (cellS (ss k) j)) (hk : k < n) : w.rangeAt g (o + k * 18 + 1) (rowMs (ss k)).toList := fun j v hv => by
  have hj : j < 17 := (List.getElem?_eq_some_iff.1 hv).1
  have h1 := h k hk (1 + j) (by omega)
  rw [show o + (k * 18 + (1 + j)) = o + k * 18 + 1 + j by omega] at h1
  rw [h1, ← hv]
  match j, hj with
  | 0, _ => rfl
  | 1, _ => rfl
  | 2, _ => rfl
  | 3, _ => rfl
  | 4, _ => rfl
  | 5, _ => rfl
  | 6, _ => rfl
  | 7, _ => rfl
  | 8, _ => rfl
  | 9, _ => rfl
  | 10, _ => rfl
  | 11, _ => rfl
  | 12, _ => rfl
  | 13, _ => rfl
  | 14, _ => rfl
  | 15, _ => rfl
  | 16, _ => rfl
  | j + 17, h => exact absurd h (by omega)
theorem mvV {w : World} {g : Nat} {m p : Rec} (h : w.heap[g]? = some (.cells (rowMs m) 43 (0, 0))) (e : MV m p) : w.rangeAt g 8 (rowVd (p.setI 77 0)).toList := range_sub h 8 _ (fun j v hv => by
  have hj : j < 5 := (List.getElem?_eq_some_iff.1 hv).1
  match j, hj, hv with
  | 0, _, hv => rw [← hv]; show some (Value.int .u64 (m.i 9)) = _; rw [e.v0]; rfl
  | 1, _, hv => rw [← hv]; show some (Value.int .u32 (m.i 10)) = _; rw [e.v1]; rfl
  | 2, _, hv => rw [← hv]; show some (Value.int .u64 (m.i 11)) = _; rw [e.v2]; rfl
  | 3, _, hv => rw [← hv]; show some (Value.int .u16 (m.i 12)) = _; rw [e.v3]; rfl
  | 4, _, hv => rw [← hv]; show some (Value.int .u16 (m.i 13)) = _; rw [e.v4]; rfl)
theorem mtV {w : World} {g : Nat} {m p : Rec} (h : w.heap[g]? = some (.cells (rowMs m) 43 (0, 0))) (e : MV m p) : w.rangeAt g 13 (rowTd p).toList := range_sub h 13 _ (fun j v hv => by
  have hj : j < 4 := (List.getElem?_eq_some_iff.1 hv).1
  match j, hj, hv with
  | 0, _, hv => rw [← hv]; show some (Value.int .i64 (m.i 14)) = _; rw [e.t0]; rfl
  | 1, _, hv => rw [← hv]; show some (Value.int .i64 (m.i 15)) = _; rw [e.t1]; rfl
  | 2, _, hv => rw [← hv]; show some (Value.int .i64 (m.i 16)) = _; rw [e.t2]; rfl
  | 3, _, hv => rw [← hv]; show some (Value.int .i64 (m.i 17)) = _; rw [e.t3]; rfl)
attribute [local go_sem] zeroBr zeroM zeroVd
set_option maxRecDepth 100000 in
set_option maxHeartbeats 8000000 in
theorem vec_any (b : Bri) (ps ss : Nat → Rec) (fs : Nat → Int) (w : World) (i : Nat) (hi : i ≤ 255) (h : Reads0 w b ps ss fs) :
    Calls Try.prog 8 #[.agg (rowB b), .int .u8 i] w fun e w' => e = .returned (.bool true) ∧ Below w.heap.size w w' := by
  have HR := Lib.hid h
  clear h
  go_enter Try.func8, Try.ntmps8
  go_wp2_with fail
  refine (awake_any _).mono ?_
  rintro e w1 ⟨rfl, hb1⟩
  have HB : Hid (w1.heap[w.heap.size]? = some (.cells (rowB b) 33 (0, 0))) := (hb1.block _ (by simp)).trans (at_new rfl)
  have HW1 := Lib.hid (andthen (more (Below.refl w.heap.size w) _) hb1)
  clear hb1
  go_wp2_with (first | (refine loadB rfl rfl _ rfl w.heap.size rfl b HB.out ?_; simp only [Act.put, List.setIfInBounds_toArray, List.set_cons_zero, List.set_cons_succ]) | fail)
  refine (few_any b ps _ (HR.out.below HW1.out).p).mono ?_
  rintro e w2 ⟨r, rfl, hr, hb2⟩
  have HB' : Hid (w2.heap[w.heap.size]? = some (.cells (rowB b) 33 (0, 0))) := (hb2.block _ (Array.getElem?_eq_some_iff.1 HB.out).1).trans HB.out
  have HW2 := Lib.hid (andthen HW1.out hb2)
  have Hr := Lib.hid hr
  clear hb2 hr HB HW1
  cases r
  · go_wp2_with fail
    go_ret
    exact ⟨rfl, HW2.out⟩
  have HL := Lib.hid (Hr.out rfl)
  clear Hr
  have HB := HB'
  clear HB'
  have hn1 : 0 < b.n := HL.out.2.1
  have hn8 : b.n ≤ 8 := HL.out.2.2.1
  go_wp2_with (first | (refine loadB rfl rfl _ rfl w.heap.size rfl b HB.out ?_; simp only [Act.put, List.setIfInBounds_toArray, List.set_cons_zero, List.set_cons_succ]) | fail)
  refine (at_any b i _ hi hn1 hn8).mono ?_
  rintro e w3 ⟨rfl, hb3⟩
  have HB' : Hid (w3.heap[w.heap.size]? = some (.cells (rowB b) 33 (0, 0))) := (hb3.block _ (Array.getElem?_eq_some_iff.1 HB.out).1).trans HB.out
  have HW3 := Lib.hid (andthen HW2.out hb3)
  clear hb3 HB HW2
  have HB := HB'
  clear HB'
  obtain ⟨k, hk⟩ : ∃ k, k = i % b.n := ⟨_, rfl⟩
  have hkn : k < b.n := by rw [hk]; exact Nat.mod_lt _ hn1
  rw [← hk]
  have Hk := Lib.hid hk
  clear hk
  go_wp2_with (first | (refine loadB rfl rfl _ rfl w.heap.size rfl b HB.out ?_; simp only [Act.put, List.setIfInBounds_toArray, List.set_cons_zero, List.set_cons_succ]) | fail)
  refine (clone_any b ps ss fs _ ((HR.out.below HW3.out).looked HL.out)).mono ?_
  rintro e w4 ⟨gp, cp, go, co, gf, cf, rfl, hp1, hp2, hp3, op, os, of, hb⟩
  go_upto_region 7 with (first | (refine wpList_store_at rfl 33 _ _ rfl _ (rowB zeroBri) 33 (rowB (b.at gp cp go co gf cf)) _ rfl rfl rfl rfl (sizeB _) rfl (rowB_one _) ?_; simp only [Act.put]) | fail)
  refine ((?_ : ∀ x, x = w4.alloc (.cells (rowB (b.at gp cp go co gf cf)) 33) → Code.wp _ _ _ _ x) _ rfl)
  intro wx hwx
  obtain ⟨bb, bx, hbx, hX, hgx, hbr, hbn, hbo, hbf, hwx'⟩ := clone_bst op os of hp2 hp3 hwx
  rw [← hbx]
  have hw4 := HW3.out.size
  have HX := Lib.hid hX
  have HWX := Lib.hid (andthen (andthen HW3.out hb) hwx')
  have hlt3 : w.heap.size < w3.heap.size := (Array.getElem?_eq_some_iff.1 HB.out).1
  have hge : w.heap.size < gp := Nat.lt_of_lt_of_le hlt3 hp1
  have HBX := Lib.hid ((hwx'.block _ (Nat.lt_of_lt_of_le hlt3 hb.size)).trans ((hb.block _ hlt3).trans HB.out))
  have HBR := Lib.hid hbr
  have HBN := Lib.hid hbn
  have HBO := Lib.hid hbo
  have HBF := Lib.hid hbf
  have hkb : k < bb.n := by rw [hbn]; exact hkn
  have hnob : bb.no ≤ 20 := by rw [hbo]; exact HL.out.2.2.2.1
  have hk0 : (0 : Int) ≤ k := by omega
  have hk1 : (k : Int) < bb.n := by omega
  clear op os of hb hp1 hp2 hp3 HB hX hwx hwx' hbx hbr hbn hbo hbf hw4 hlt3
  have d17 := HX.out.c17
  have hgl := HX.out.p.lt
  have c44 : wx.cell? ⟨gp, k * 89 + 22 + 22, none⟩ = some (.bool ((ps k).b 44)) := HX.out.p.cell hkb (j := 44) (by omega)
  have f44 : wx.frozen? ⟨gp, k * 89 + 22 + 22, none⟩ = false := HX.out.p.free _
  have c50 : wx.cell? ⟨gp, k * 89 + 22 + 28, none⟩ = some (.bool ((ps k).b 50)) := HX.out.p.cell hkb (j := 50) (by omega)
  have f50 : wx.frozen? ⟨gp, k * 89 + 22 + 28, none⟩ = false := HX.out.p.free _
  have c31 : wx.cell? ⟨gp, k * 89 + 22 + 9, none⟩ = some (.bool ((ps k).b 31)) := HX.out.p.cell hkb (j := 31) (by omega)
  have f31 : wx.frozen? ⟨gp, k * 89 + 22 + 9, none⟩ = false := HX.out.p.free _
  have c8 : wx.cell? ⟨gp, k * 89 + 6 + 2, none⟩ = some (.int .i64 ((ps k).i 8)) := HX.out.p.cell hkb (j := 8) (by omega)
  have f8 : wx.frozen? ⟨gp, k * 89 + 6 + 2, none⟩ = false := HX.out.p.free _
  have c14 : wx.cell? ⟨gp, k * 89 + 6 + 8, none⟩ = some (.int .i64 ((ps k).i 14)) := HX.out.p.cell hkb (j := 14) (by omega)
  have f14 : wx.frozen? ⟨gp, k * 89 + 6 + 8, none⟩ = false := HX.out.p.free _
  have hg6 : 1 ≤ b.r.i 6 := HL.out.1.2.2.2.1
  obtain ⟨p1, hp1, h14, hF⟩ := vec_law b (ps k) k hg6
  clear hg6
  have hS : Bst (((((wx.setCell ⟨gp, k * 89 + 44, none⟩ (.bool true)).setCell ⟨gp, k * 89 + 50, none⟩ (.bool false)).setCell ⟨gp, k * 89 + 31, none⟩ (.bool true)).setCell ⟨gp, k * 89 + 8, none⟩ (.int .i64 1)).setCell ⟨gp, k * 89 + 14, none⟩ (.int .i64 0)) bx gp bb (upd ps k p1) ss fs := by
    rw [hp1]
    exact (((((HX.out.start k).put (j := 44) (by omega) (rowP_put_44 _ _)).put (j := 50) (by omega) (rowP_put_50 _ _)).put (j := 31) (by omega) (rowP_put_31 _ _)).put (j := 8) (by omega) (rowP_put_8 _ _)).put (j := 14) (by omega) (rowP_put_14 _ _)
  have HS := Lib.hid hS
  have H14 := Lib.hid h14
  clear hS hp1 h14
  have hno20 : b.no ≤ 20 := HL.out.2.2.2.1
  have hw1 : IntKind.i64.wrap ((b.no : Int) + 1) = (b.no : Int) + 1 := by unfold IntKind.wrap; simp [IntKind.signed, IntKind.bits]; omega
  rcases hF with hF1 | ⟨p2, kd, m, hF1, hm, hmk, hmw⟩
  · have F1 := Lib.hid hF1
    clear hF1
    go_wp2_with fail
    refine (step_on _ bx gp k bb ps _ fs p1 (HS.out) hkb (by rw [H14.out]; omega) (by omega)).mono ?_
    rintro e w1 ⟨bb1, rfl, hX1, hO1, hr1, hn1, ho1, hf1⟩
    unfold sentR at hX1
    unfold cntR at ho1
    rw [txF_r HBR.out, F1.out] at hX1 ho1
    rw [txF_r HBR.out, F1.out]
    have HX1 := Lib.hid hX1
    have HA1 := Lib.hid (((((((Only.refl (fun x => x = gp ∨ x = bx) wx).setCell (Or.inl (.inl rfl)) _).setCell (Or.inl (.inl rfl)) _).setCell (Or.inl (.inl rfl)) _).setCell (Or.inl (.inl rfl)) _).setCell (Or.inl (.inl rfl)) _).trans hO1)
    have HBO1 := Lib.hid (show bb1.no = b.no + 0 from ho1.trans (by rw [HBO.out] <;> rfl))
    have hkb1 : k < bb1.n := by rw [hn1]; exact hkb
    have HBR1 := Lib.hid (hr1.trans HBR.out)
    have HBN1 := Lib.hid (hn1.trans HBN.out)
    have HBF1 := Lib.hid (hf1.trans HBF.out)
    have hnob1 : bb1.no ≤ 1000 := by rw [HBO1.out]; have := HL.out.2.2.2.1; omega
    have hk11 : (k : Int) < bb1.n := by omega
    clear hX1 hO1 hr1 hn1 ho1 hf1
    have d171 := HX1.out.c17
    have d18 : w1.cell? ⟨bx, 18, none⟩ = some (.slice bb1.ao bb1.no bb1.co) := cells_of HX1.out.h 18
    rw [HBO1.out] at d18
    have o18 : w1.cell? ⟨w.heap.size, 18, none⟩ = some (.slice b.ao b.no b.co) := cells_of (orig HBX.out HA1.out hge hgx) 18
    go_wp2_with fail
    go_ret
    exact ⟨rfl, HWX.out.trans (HA1.out.below HWX.out.size (fun k hk => by omega))⟩
  have F1 := Lib.hid hF1
  have Hm := Lib.hid hm
  have Hmk := Lib.hid hmk
  have Hmw := Lib.hid hmw
  clear hF1 hm hmk hmw
  go_wp2_with fail
  refine (step_on _ bx gp k bb ps _ fs p1 (HS.out) hkb (by rw [H14.out]; omega) (by omega)).mono ?_
  rintro e w1 ⟨bb1, rfl, hX1, hO1, hr1, hn1, ho1, hf1⟩
  unfold sentR at hX1
  unfold cntR at ho1
  rw [txF_r HBR.out, F1.out] at hX1 ho1
  rw [txF_r HBR.out, F1.out]
  have HX1 := Lib.hid hX1
  have HA1 := Lib.hid (((((((Only.refl (fun x => x = gp ∨ x = bx) wx).setCell (Or.inl (.inl rfl)) _).setCell (Or.inl (.inl rfl)) _).setCell (Or.inl (.inl rfl)) _).setCell (Or.inl (.inl rfl)) _).setCell (Or.inl (.inl rfl)) _).trans hO1)
  have HBO1 := Lib.hid (show bb1.no = b.no + 1 from ho1.trans (by rw [HBO.out] <;> rfl))
  have hkb1 : k < bb1.n := by rw [hn1]; exact hkb
  have HBR1 := Lib.hid (hr1.trans HBR.out)
  have HBN1 := Lib.hid (hn1.trans HBN.out)
  have HBF1 := Lib.hid (hf1.trans HBF.out)
  have hnob1 : bb1.no ≤ 1000 := by rw [HBO1.out]; have := HL.out.2.2.2.1; omega
  have hk11 : (k : Int) < bb1.n := by omega
  clear hX1 hO1 hr1 hn1 ho1 hf1
  have d171 := HX1.out.c17
  have d18 : w1.cell? ⟨bx, 18, none⟩ = some (.slice bb1.ao bb1.no bb1.co) := cells_of HX1.out.h 18
  rcases HX1.out.s with hz | ⟨gs, os, hos, hcs⟩
  · rw [HBO1.out] at hz
    omega
  rw [HBO1.out, hos] at d18
  have hms : w1.rangeAt gs (os + b.no * 18 + 1) (rowMs m).toList := by
    have h := msV hcs (k := b.no) (by rw [HBO1.out]; omega)
    simp only [HBO.out, if_true] at h
    rw [Hm.out]
    exact h
  have o18 : w1.cell? ⟨w.heap.size, 18, none⟩ = some (.slice b.ao b.no b.co) := cells_of (orig HBX.out HA1.out hge hgx) 18
  have hW1 := HWX.out.trans (HA1.out.below HWX.out.size (fun k hk => by omega))
  rcases (HR.out.below hW1).p with h0 | ⟨g0, o0, hap, hc0⟩
  · omega
  have o17 : w1.cell? ⟨w.heap.size, 17, none⟩ = some (.slice (some ⟨g0, o0, none⟩) b.n b.cp) := by rw [← hap]; exact cells_of (orig HBX.out HA1.out hge hgx) 17
  have hvd := vdV hc0 hkn
  have hk1' : (k : Int) < b.n := by omega
  have hno1 : (b.no : Int) < (b.no : Int) + 1 := by omega
  have Hos := Lib.hid hos
  have Hcs := Lib.hid hcs
  have Hap := Lib.hid hap
  have Hc0 := Lib.hid hc0
  have HW1 := Lib.hid hW1
  clear hos hcs hap hc0 hW1
  go_upto_region 20 with (first | (refine wpList_row rfl 43 _ rfl gs (os + b.no * 18 + 1) rfl _ _ hms Try.underlying43 rfl (sizeM _) ?_; simp only [Act.put, List.setIfInBounds_toArray, List.set_cons_zero, List.set_cons_succ]) | (refine wpList_store_new rfl 43 _ _ rfl w1 (rowMs zeroR) 43 _ rfl rfl rfl (sizeM _) rfl (rowMs_one _) ?_; simp only [Act.put]) | fail)
  refine ((?_ : ∀ x, x = w1.alloc (.cells (rowMs m) 43) → Code.wp _ _ _ _ x) _ rfl)
  intro w2 hw2
  obtain ⟨gm, hgm⟩ : ∃ x, x = w1.heap.size := ⟨_, rfl⟩
  have hM2 : w2.heap[gm]? = some (.cells (rowMs m) 43 (0, 0)) := by rw [hw2, hgm]; exact heap_alloc_new _ _
  have hB2 : Below w1.heap.size w1 w2 := by rw [hw2]; exact more (Below.refl _ _) _
  rw [← hgm]
  have hg0 : g0 < w1.heap.size := cell_lt (Hc0.out k hkn 0 (by omega))
  have hwl : w.heap.size < w1.heap.size := cell_lt o17
  have hvd2 := range_below hvd hg0 _ hB2
  have q17 : w2.cell? ⟨w.heap.size, 17, none⟩ = some (.slice (some ⟨g0, o0, none⟩) b.n b.cp) := (hB2.cell (p := ⟨w.heap.size, 17, none⟩) hwl).trans o17
  have hgm2 : gm < w2.heap.size := (Array.getElem?_eq_some_iff.1 hM2).1
  have HB2 := Lib.hid hB2
  have HM2 := Lib.hid hM2
  clear hw2 hgm hM2 hB2 hvd hms
  go_upto_region 21 with (first | (refine wpList_row rfl 28 _ rfl g0 (o0 + k * 89 + 73) rfl _ _ hvd2 Try.underlying28 rfl (sizeV _) ?_; simp only [Act.put, List.setIfInBounds_toArray, List.set_cons_zero, List.set_cons_succ]) | (refine wpList_store_new rfl 28 _ _ rfl w2 (rowVd zeroR) 28 _ rfl rfl rfl (sizeV _) rfl (rowVd_one _) ?_; simp only [Act.put]) | fail)
  refine ((?_ : ∀ x, x = w2.alloc (.cells (rowVd (ps k)) 28) → Code.wp _ _ _ _ x) _ rfl)
  intro w3' hw3'
  obtain ⟨gv, hgv⟩ : ∃ x, x = w2.heap.size := ⟨_, rfl⟩
  have hV3 : w3'.heap[gv]? = some (.cells (rowVd (ps k)) 28 (0, 0)) := by rw [hw3', hgv]; exact heap_alloc_new _ _
  have hB3 : Below w2.heap.size w2 w3' := by rw [hw3']; exact more (Below.refl _ _) _
  rw [← hgv]
  have v4 : w3'.cell? ⟨gv, 4, none⟩ = some (.int .u16 ((ps k).i 77)) := (cells_of hV3 4).trans (rowVd_4 _)
  have vf4 : w3'.frozen? ⟨gv, 4, none⟩ = false := free_block hV3 4
  have HB3 := Lib.hid hB3
  have HV3 := Lib.hid hV3
  have hgv2 : w2.heap.size ≤ gv := by omega
  clear hw3' hgv hV3 hB3 hvd2
  go_upto_region 22 with (fail)
  refine ((?_ : ∀ x, x = w3'.setCell ⟨gv, 4, none⟩ (.int .u16 0) → Code.wp _ _ _ _ x) _ rfl)
  intro wz hwz
  have hs2 := HB2.out.size
  have HVz := Lib.hid (show wz.heap[gv]? = some (.cells (rowVd ((ps k).setI 77 0)) 28 (0, 0)) by rw [hwz]; exact at_set HV3.out (rowVd_put _))
  have HMz := Lib.hid (show wz.heap[gm]? = some (.cells (rowMs m) 43 (0, 0)) by rw [hwz]; exact at_far (by show gm ≠ gv; omega) ((HB3.out.block _ hgm2).trans HM2.out))
  have hBz : Below w1.heap.size w1 wz := by
    rw [hwz]
    exact (HB2.out.trans (HB3.out.mono hs2)).setCell (by show w1.heap.size ≤ gv; omega) _
  have HBz := Lib.hid hBz
  have z17 : wz.cell? ⟨w.heap.size, 17, none⟩ = some (.slice (some ⟨g0, o0, none⟩) b.n b.cp) := (hBz.cell (p := ⟨w.heap.size, 17, none⟩) hwl).trans o17
  have hcz : ∀ k, k < b.n → ∀ j, j < 89 → wz.cell? ⟨g0, o0 + (k * 89 + j), none⟩ = some (cellP (ps k) j) := fun k hk j hj => (hBz.cell (p := ⟨g0, _, none⟩) hg0).trans (Hc0.out k hk j hj)
  have z87 : wz.cell? ⟨g0, o0 + k * 89 + 87, none⟩ = some (.int .i64 ((ps k).i 87)) := by rw [Nat.add_assoc]; exact hcz k hkn 87 (by omega)
  have z13 : wz.cell? ⟨g0, o0 + k * 89 + 6 + 7, none⟩ = some (.int .i64 ((ps k).i 13)) := by rw [Nat.add_assoc, Nat.add_assoc]; exact hcz k hkn 13 (by omega)
  have Htd := Lib.hid (tdV hcz hkn)
  have m0 : wz.cell? ⟨gm, 0, none⟩ = some (.int .i64 (m.i 1)) := cells_of HMz.out 0
  rw [Hmk.out] at m0
  have hgz : g0 < wz.heap.size := Nat.lt_of_lt_of_le hg0 hBz.size
  have hwz' : w.heap.size < wz.heap.size := Nat.lt_of_lt_of_le hwl hBz.size
  have hmz : gm < wz.heap.size := (Array.getElem?_eq_some_iff.1 HMz.out).1
  have hvz : gv < wz.heap.size := (Array.getElem?_eq_some_iff.1 HVz.out).1
  clear hwz hBz hcz v4 vf4 q17 o17 o18 d18 hs2 HB3 HV3 HM2
  have Hmw' := Hmw.out
  clear Hmw
  rcases Hmw' with ⟨hk1, hk3, hke⟩ | ⟨hk1, hmv⟩
  · have HM1 := Lib.hid (show wz.heap[gm]? = some (.cells (rowMs (zeroR.setI 1 1)) 43 (0, 0)) by rw [← (hke _).2 rfl]; exact HMz.out)
    subst hk1
    rw [hk3] at z87
    clear hke hk3
    go_wp2_with (first | (refine loadMg rfl (by rfl) _ rfl gm rfl _ HM1.out ?_; simp only [Act.put, List.setIfInBounds_toArray, List.set_cons_zero, List.set_cons_succ]) | (refine wpList_val (by rfl) _ (exec_build 43 _ rfl _ _ (bldM1' _) (by kernel_rfl)) ?_; simp only [Act.put, List.setIfInBounds_toArray, List.set_cons_zero, List.set_cons_succ]) | (refine wpList_val (by rfl) (.bool true) (exec_eqM _ _ rfl (zeroR.setI 1 1) rfl rfl) ?_; simp only [Act.put, List.setIfInBounds_toArray, List.set_cons_zero, List.set_cons_succ]) | fail)
    go_ret
    exact ⟨rfl, HW1.out.trans (HBz.out.mono HW1.out.size)⟩
  · have dk : (kd == 1) = false := by simp [hk1]
    have HMV := Lib.hid hmv
    clear hk1 hmv
    have mc : wz.cell? ⟨gm, 1, none⟩ = some (.bool ((ps k).i 13 != 0)) := by
      rw [← HMV.out.c]
      exact cells_of HMz.out 1
    go_upto_region 24 with (fail)
    refine wp_region_held_drew (S := fun w' => Below wz.heap.size wz w') (by kernel_rfl) (Below.refl _ _).drew (fun hH => ?_)
    refine wpAnyH_take (i := 0) (v := .bool true) rfl (by kernel_rfl) (by kernel_rfl) (by kernel_rfl) (fun _ _ _ h => h) (Or.inl ⟨by rfl, fun z _ => rfl⟩) hH ?_
    simp only [List.getElem_toArray, List.getElem_cons_succ, List.getElem_cons_zero, Act.put, List.setIfInBounds_toArray, List.set_cons_zero, List.set_cons_succ]
    refine wpAnyH_take (i := 1) (v := .bool true) rfl (by kernel_rfl) (by kernel_rfl) (by kernel_rfl) (fun _ _ _ h => h) (Or.inl ⟨by rfl, fun z _ => rfl⟩) hH ?_
    simp only [List.getElem_toArray, List.getElem_cons_succ, List.getElem_cons_zero, Act.put, List.setIfInBounds_toArray, List.set_cons_zero, List.set_cons_succ]
    refine wpAnyH_take (i := 2) (v := .pointer (some ⟨gm, 8, none⟩)) rfl (by kernel_rfl) (by kernel_rfl) (by kernel_rfl) (fun _ _ _ h => h) (Or.inl ⟨by rfl, fun z _ => by simp [go_sem, execOp]⟩) hH ?_
    simp only [List.getElem_toArray, List.getElem_cons_succ, List.getElem_cons_zero, Act.put, List.setIfInBounds_toArray, List.set_cons_zero, List.set_cons_succ]
    refine wpAnyH_take (i := 3) rfl (by kernel_rfl) (by kernel_rfl) (by kernel_rfl) (fun _ _ _ h => h) ((yieldsIf_load_mid (by rfl) 28 _ rfl gm (8) rfl (rowVd ((ps k).setI 77 0)).toList _ (range_below (mvV HMz.out HMV.out) hmz) Try.underlying28 rfl (sizeV _))) hH ?_
    simp only [List.getElem_toArray, List.getElem_cons_succ, List.getElem_cons_zero, Act.put, List.setIfInBounds_toArray, List.set_cons_zero, List.set_cons_succ]
    refine wpAnyH_take (i := 4) rfl (by kernel_rfl) (by kernel_rfl) (by kernel_rfl) (fun _ _ _ h => h) ((yieldsIf_load_mid (by rfl) 28 _ rfl gv (0) rfl (rowVd ((ps k).setI 77 0)).toList _ (row_held1 HVz.out hvz) Try.underlying28 rfl (sizeV _))) hH ?_
    simp only [List.getElem_toArray, List.getElem_cons_succ, List.getElem_cons_zero, Act.put, List.setIfInBounds_toArray, List.set_cons_zero, List.set_cons_succ]
    refine wpAnyH_take (i := 5) (v := .bool true) rfl (by kernel_rfl) (by kernel_rfl) (by kernel_rfl) (fun _ _ _ h => h) (Or.inl ⟨by rfl, fun z _ => exec_eqV _ _ rfl ((ps k).setI 77 0) rfl rfl⟩) hH ?_
    simp only [List.getElem_toArray, List.getElem_cons_succ, List.getElem_cons_zero, Act.put, List.setIfInBounds_toArray, List.set_cons_zero, List.set_cons_succ]
    refine wpAnyH_take (i := 6) rfl (by kernel_rfl) (by kernel_rfl) (by kernel_rfl) (fun _ _ _ h => h) (Or.inl ⟨by rfl, fun z _ => rfl⟩) hH ?_
    simp only [List.getElem_toArray, List.getElem_cons_succ, List.getElem_cons_zero, Act.put, List.setIfInBounds_toArray, List.set_cons_zero, List.set_cons_succ]
    refine wpAnyH_take (i := 7) rfl (by kernel_rfl) (by kernel_rfl) (by kernel_rfl) (fun _ _ _ h => h) (Or.inl ⟨by rfl, fun z _ => rfl⟩) hH ?_
    simp only [List.getElem_toArray, List.getElem_cons_succ, List.getElem_cons_zero, Act.put, List.setIfInBounds_toArray, List.set_cons_zero, List.set_cons_succ]
    refine wpAnyH_take (i := 8) (v := .pointer (some ⟨gm, 13, none⟩)) rfl (by kernel_rfl) (by kernel_rfl) (by kernel_rfl) (fun _ _ _ h => h) (Or.inl ⟨by rfl, fun z _ => by simp [go_sem, execOp]⟩) hH ?_
    simp only [List.getElem_toArray, List.getElem_cons_succ, List.getElem_cons_zero, Act.put, List.setIfInBounds_toArray, List.set_cons_zero, List.set_cons_succ]
    refine wpAnyH_take (i := 9) rfl (by kernel_rfl) (by kernel_rfl) (by kernel_rfl) (fun _ _ _ h => h) ((yieldsIf_load_mid (by rfl) 24 _ rfl gm (13) rfl (rowTd (ps k)).toList _ (range_below (mtV HMz.out HMV.out) hmz) Try.underlying24 rfl (sizeT _))) hH ?_
    simp only [List.getElem_toArray, List.getElem_cons_succ, List.getElem_cons_zero, Act.put, List.setIfInBounds_toArray, List.set_cons_zero, List.set_cons_succ]
    refine wpAnyH_take (i := 10) (v := .pointer (some ⟨w.heap.size, 17, none⟩)) rfl (by kernel_rfl) (by kernel_rfl) (by kernel_rfl) (fun _ _ _ h => h) (Or.inl ⟨by rfl, fun z _ => by simp [go_sem, execOp]⟩) hH ?_
    simp only [List.getElem_toArray, List.getElem_cons_succ, List.getElem_cons_zero, Act.put, List.setIfInBounds_toArray, List.set_cons_zero, List.set_cons_succ]
    refine wpAnyH_take (i := 11) (v := .slice (some ⟨g0, o0, none⟩) b.n b.cp) rfl (by kernel_rfl) (by kernel_rfl) (by kernel_rfl) (fun _ _ _ h => h) (Or.inl ⟨by rfl, fun z hz => by simp [go_sem, execOp, (show z.cell? ⟨w.heap.size, 17, none⟩ = some (.slice (some ⟨g0, o0, none⟩) b.n b.cp) from (hz.cell (p := ⟨w.heap.size, 17, none⟩) hwz').trans z17)]⟩) hH ?_
    simp only [List.getElem_toArray, List.getElem_cons_succ, List.getElem_cons_zero, Act.put, List.setIfInBounds_toArray, List.set_cons_zero, List.set_cons_succ]
    refine wpAnyH_take (i := 12) (v := .int .i64 k) rfl (by kernel_rfl) (by kernel_rfl) (by kernel_rfl) (fun _ _ _ h => h) (Or.inl ⟨by rfl, fun z _ => rfl⟩) hH ?_
    simp only [List.getElem_toArray, List.getElem_cons_succ, List.getElem_cons_zero, Act.put, List.setIfInBounds_toArray, List.set_cons_zero, List.set_cons_succ]
    refine wpAnyH_take (i := 13) (v := .pointer (some ⟨g0, o0 + k * 89, none⟩)) rfl (by kernel_rfl) (by kernel_rfl) (by kernel_rfl) (fun _ _ _ h => h) (Or.inl ⟨by rfl, fun z _ => by simp [go_sem, execOp, hk0, hk1']⟩) hH ?_
    simp only [List.getElem_toArray, List.getElem_cons_succ, List.getElem_cons_zero, Act.put, List.setIfInBounds_toArray, List.set_cons_zero, List.set_cons_succ]
    refine wpAnyH_take (i := 14) (v := .pointer (some ⟨g0, o0 + k * 89 + 82, none⟩)) rfl (by kernel_rfl) (by kernel_rfl) (by kernel_rfl) (fun _ _ _ h => h) (Or.inl ⟨by rfl, fun z _ => by simp [go_sem, execOp]⟩) hH ?_
    simp only [List.getElem_toArray, List.getElem_cons_succ, List.getElem_cons_zero, Act.put, List.setIfInBounds_toArray, List.set_cons_zero, List.set_cons_succ]
    refine wpAnyH_take (i := 15) rfl (by kernel_rfl) (by kernel_rfl) (by kernel_rfl) (fun _ _ _ h => h) ((yieldsIf_load_mid (by rfl) 24 _ rfl g0 (o0 + k * 89 + 82) rfl (rowTd (ps k)).toList _ (range_below Htd.out hgz) Try.underlying24 rfl (sizeT _))) hH ?_
    simp only [List.getElem_toArray, List.getElem_cons_succ, List.getElem_cons_zero, Act.put, List.setIfInBounds_toArray, List.set_cons_zero, List.set_cons_succ]
    refine wpAnyH_take (i := 16) (v := .bool true) rfl (by kernel_rfl) (by kernel_rfl) (by kernel_rfl) (fun _ _ _ h => h) (Or.inl ⟨by rfl, fun z _ => exec_eqT _ _ rfl (ps k) rfl rfl⟩) hH ?_
    simp only [List.getElem_toArray, List.getElem_cons_succ, List.getElem_cons_zero, Act.put, List.setIfInBounds_toArray, List.set_cons_zero, List.set_cons_succ]
    refine wpAnyH_take (i := 17) rfl (by kernel_rfl) (by kernel_rfl) (by kernel_rfl) (fun _ _ _ h => h) (Or.inl ⟨by rfl, fun z _ => rfl⟩) hH ?_
    simp only [List.getElem_toArray, List.getElem_cons_succ, List.getElem_cons_zero, Act.put, List.setIfInBounds_toArray, List.set_cons_zero, List.set_cons_succ]
    refine wpAnyH_take (i := 18) rfl (by kernel_rfl) (by kernel_rfl) (by kernel_rfl) (fun _ _ _ h => h) (Or.inl ⟨by rfl, fun z _ => rfl⟩) hH ?_
    simp only [List.getElem_toArray, List.getElem_cons_succ, List.getElem_cons_zero, Act.put, List.setIfInBounds_toArray, List.set_cons_zero, List.set_cons_succ]
    refine wpAnyH_take (i := 19) (v := .pointer (some ⟨gm, 1, none⟩)) rfl (by kernel_rfl) (by kernel_rfl) (by kernel_rfl) (fun _ _ _ h => h) (Or.inl ⟨by rfl, fun z _ => by simp [go_sem, execOp]⟩) hH ?_
    simp only [List.getElem_toArray, List.getElem_cons_succ, List.getElem_cons_zero, Act.put, List.setIfInBounds_toArray, List.set_cons_zero, List.set_cons_succ]
    refine wpAnyH_take (i := 20) (v := .bool ((ps k).i 13 != 0)) rfl (by kernel_rfl) (by kernel_rfl) (by kernel_rfl) (fun _ _ _ h => h) (Or.inl ⟨by rfl, fun z hz => by simp [go_sem, execOp, (show z.cell? ⟨gm, 1, none⟩ = some (.bool ((ps k).i 13 != 0)) from (hz.cell (p := ⟨gm, 1, none⟩) hmz).trans mc)]⟩) hH ?_
    simp only [List.getElem_toArray, List.getElem_cons_succ, List.getElem_cons_zero, Act.put, List.setIfInBounds_toArray, List.set_cons_zero, List.set_cons_succ]
    refine wpAnyH_take (i := 21) (v := .pointer (some ⟨w.heap.size, 17, none⟩)) rfl (by kernel_rfl) (by kernel_rfl) (by kernel_rfl) (fun _ _ _ h => h) (Or.inl ⟨by rfl, fun z _ => by simp [go_sem, execOp]⟩) hH ?_
    simp only [List.getElem_toArray, List.getElem_cons_succ, List.getElem_cons_zero, Act.put, List.setIfInBounds_toArray, List.set_cons_zero, List.set_cons_succ]
    refine wpAnyH_take (i := 22) (v := .slice (some ⟨g0, o0, none⟩) b.n b.cp) rfl (by kernel_rfl) (by kernel_rfl) (by kernel_rfl) (fun _ _ _ h => h) (Or.inl ⟨by rfl, fun z hz => by simp [go_sem, execOp, (show z.cell? ⟨w.heap.size, 17, none⟩ = some (.slice (some ⟨g0, o0, none⟩) b.n b.cp) from (hz.cell (p := ⟨w.heap.size, 17, none⟩) hwz').trans z17)]⟩) hH ?_
    simp only [List.getElem_toArray, List.getElem_cons_succ, List.getElem_cons_zero, Act.put, List.setIfInBounds_toArray, List.set_cons_zero, List.set_cons_succ]
    refine wpAnyH_take (i := 23) (v := .int .i64 k) rfl (by kernel_rfl) (by kernel_rfl) (by kernel_rfl) (fun _ _ _ h => h) (Or.inl ⟨by rfl, fun z _ => rfl⟩) hH ?_
    simp only [List.getElem_toArray, List.getElem_cons_succ, List.getElem_cons_zero, Act.put, List.setIfInBounds_toArray, List.set_cons_zero, List.set_cons_succ]
    refine wpAnyH_take (i := 24) (v := .pointer (some ⟨g0, o0 + k * 89, none⟩)) rfl (by kernel_rfl) (by kernel_rfl) (by kernel_rfl) (fun _ _ _ h => h) (Or.inl ⟨by rfl, fun z _ => by simp [go_sem, execOp, hk0, hk1']⟩) hH ?_
    simp only [List.getElem_toArray, List.getElem_cons_succ, List.getElem_cons_zero, Act.put, List.setIfInBounds_toArray, List.set_cons_zero, List.set_cons_succ]
    refine wpAnyH_take (i := 25) (v := .pointer (some ⟨g0, o0 + k * 89 + 6, none⟩)) rfl (by kernel_rfl) (by kernel_rfl) (by kernel_rfl) (fun _ _ _ h => h) (Or.inl ⟨by rfl, fun z _ => by simp [go_sem, execOp]⟩) hH ?_
    simp only [List.getElem_toArray, List.getElem_cons_succ, List.getElem_cons_zero, Act.put, List.setIfInBounds_toArray, List.set_cons_zero, List.set_cons_succ]
    refine wpAnyH_take (i := 26) (v := .pointer (some ⟨g0, o0 + k * 89 + 6 + 7, none⟩)) rfl (by kernel_rfl) (by kernel_rfl) (by kernel_rfl) (fun _ _ _ h => h) (Or.inl ⟨by rfl, fun z _ => by simp [go_sem, execOp]⟩) hH ?_
    simp only [List.getElem_toArray, List.getElem_cons_succ, List.getElem_cons_zero, Act.put, List.setIfInBounds_toArray, List.set_cons_zero, List.set_cons_succ]
    refine wpAnyH_take (i := 27) (v := .int .i64 ((ps k).i 13)) rfl (by kernel_rfl) (by kernel_rfl) (by kernel_rfl) (fun _ _ _ h => h) (Or.inl ⟨by rfl, fun z hz => by simp [go_sem, execOp, (show z.cell? ⟨g0, o0 + k * 89 + 6 + 7, none⟩ = some (.int .i64 ((ps k).i 13)) from (hz.cell (p := ⟨g0, o0 + k * 89 + 6 + 7, none⟩) hgz).trans z13)]⟩) hH ?_
    simp only [List.getElem_toArray, List.getElem_cons_succ, List.getElem_cons_zero, Act.put, List.setIfInBounds_toArray, List.set_cons_zero, List.set_cons_succ]
    refine wpAnyH_take (i := 28) (v := .bool ((ps k).i 13 != 0)) rfl (by kernel_rfl) (by kernel_rfl) (by kernel_rfl) (fun _ _ _ h => h) (Or.inl ⟨by rfl, fun z _ => by simp [go_sem, execOp]⟩) hH ?_
    simp only [List.getElem_toArray, List.getElem_cons_succ, List.getElem_cons_zero, Act.put, List.setIfInBounds_toArray, List.set_cons_zero, List.set_cons_succ]
    refine wpAnyH_take (i := 29) (v := .bool true) rfl (by kernel_rfl) (by kernel_rfl) (by kernel_rfl) (fun _ _ _ h => h) (Or.inl ⟨by rfl, fun z _ => by simp [go_sem, execOp]⟩) hH ?_
    simp only [List.getElem_toArray, List.getElem_cons_succ, List.getElem_cons_zero, Act.put, List.setIfInBounds_toArray, List.set_cons_zero, List.set_cons_succ]
    refine wpAnyH_take (i := 30) rfl (by kernel_rfl) (by kernel_rfl) (by kernel_rfl) (fun _ _ _ h => h) (Or.inl ⟨by rfl, fun z _ => rfl⟩) hH ?_
    simp only [List.getElem_toArray, List.getElem_cons_succ, List.getElem_cons_zero, Act.put, List.setIfInBounds_toArray, List.set_cons_zero, List.set_cons_succ]
    refine wpAnyH_take (i := 31) rfl (by kernel_rfl) (by kernel_rfl) (by kernel_rfl) (fun _ _ _ h => h) (Or.inl ⟨by rfl, fun z _ => rfl⟩) hH ?_
    simp only [List.getElem_toArray, List.getElem_cons_succ, List.getElem_cons_zero, Act.put, List.setIfInBounds_toArray, List.set_cons_zero, List.set_cons_succ]
    refine wpAnyH_done (by kernel_rfl) ?_ _
    go_wp2_with fail
    go_ret
    exact ⟨rfl, HW1.out.trans ((HBz.out.mono HW1.out.size).trans (hH.mono (by have := HBz.out.size; have := HW1.out.size; omega)))⟩
end Go.Proofs.Ytmlhbfkmnbhoeaa.Br
