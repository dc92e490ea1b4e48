/- What a step of the sending machine does to a bridge in memory (ford/tx.Step). Conditions: there is such a port, which hasn't sent very much; the bridge hasn't either. -/
import Derived.Test.YtmlhbfkmnbhoeaaTxMsg
import Derived.Test.YtmlhbfkmnbhoeaaFwd
import Derived.Test.YtmlhbfkmnbhoeaaLast
set_option linter.unusedSimpArgs false
namespace Go.Proofs.Ytmlhbfkmnbhoeaa.Br
open Go.RowKit
/-- What a step does to a port, whether it was one, and what it sends. -/
def txF (b : Bri) (p : Rec) : Rec × Bool × Option Int :=
  if (!p.b 44 || p.b 50) = true then (p, false, none)
  else if p.i 8 = 0 then ((p.setB 31 (p.b 31 || p.i 87 == 4 || (p.i 87 == 3 && p.i 13 != 0))).setI 8 (b.r.i 4), true, none)
  else if (!p.b 31 || decide (b.r.i 6 ≤ p.i 14) || !(kindF p).2) = true then (p, false, none)
  else ((((p.setB 31 false).setI 14 (p.i 14 + 1)).setB 48 (p.b 48 && (kindF p).1 == 1)).setI 8 (b.r.i 4), true, some (kindF p).1)
def outB (b : Bri) (ao : Option Addr) (no co : Nat) : Bri := { b with ao := ao, no := no, co := co }
def sentN (b : Bri) (p : Rec) : Nat := match (txF b p).2.2 with | none => b.no | some _ => b.no + 1
def sentS (b : Bri) (ps ss : Nat → Rec) (k : Nat) : Nat → Rec := match (txF b (ps k)).2.2 with | none => ss | some kd => fun j => if j = b.no then (msgF (ps k) kd).setI 0 k else ss j
/-- What is told of a step. -/
def TxStep (b : Bri) (ps ss : Nat → Rec) (fs : Nat → Int) (bx g k : Nat) (w : World) (e : Ending) (w' : World) : Prop :=
  ∃ ao co, (ao = b.ao ∨ ∃ g', ao = some ⟨g', 0, none⟩ ∧ w.heap.size ≤ g') ∧ e = .returned (.bool (txF b (ps k)).2.1) ∧ Bst w' bx g (outB b ao (sentN b (ps k)) co) (upd ps k (txF b (ps k)).1) (sentS b ps ss k) fs ∧ Only (fun x => x = g ∨ x = bx) w w'
theorem still_step' {b : Bri} {ps ss : Nat → Rec} {fs : Nat → Int} {bx g k : Nat} {w w' : World} (h : txF b (ps k) = (ps k, false, none)) (hb : Bst w' bx g b ps ss fs) (ho : Only (fun x => x = g ∨ x = bx) w w') : TxStep b ps ss fs bx g k w (.returned (.bool false)) w' :=
  ⟨b.ao, b.co, .inl rfl, by rw [h], by unfold sentN sentS; rw [h]; exact hb.start k, ho⟩
theorem infoS' : (Try.prog.info? 56).map (fun i => (i.zero, i.size, i.bytes)) = some (some (.agg (rowS zeroR)), 18, 96) := by kernel_rfl
theorem mkS (r : Rec) (w : World) : Sem.run Try.prog (Instr.buildSlice 30 1 #[(0, .agg (rowS r))]) w = .ok (.slice (some ⟨w.heap.size, 0, none⟩) 1 1) (w.alloc (.cells (rowS r) 56)) := by kernel_rfl
theorem wp_buildSlice {P : Program} {o : Oper} {a : Act} {w w' : World} {K : Act → World → Prop} {Q : Exit → Act → World → Prop} (t : TypeId) (n : Nat) (parts : Array (Nat × Operand)) (ho : o.op = .buildSlice t n parts)
    (vs : Array (Nat × Value)) (v : Value) (h : (Instr.buildSlice t n vs).run P w = .ok v w') (hv : (parts.map fun p => (p.1, a.eval p.2)) = vs) (hK : K (a.put o.dst v) w') : o.wp P a w K Q := by
  unfold Oper.wp execOp
  simp only [ho]
  rw [show (parts.map fun x => match x with | (i, x) => (i, a.eval x)) = vs from hv]
  simp only [Sem.run_bind, h, Result.andThen_ok, Sem.run_pure]
  exact hK
theorem wp_append_full {P : Program} {w : World} {o : Oper} {a : Act} {K : Act → World → Prop} {Q : Exit → Act → World → Prop} (s x : Operand) (t : TypeId)
    (ho : o.op = .call { callee := .builtin .append, args := #[s, x], argTypes := #[t, t] })
    (e : TypeId) (i : TypeInfo) (z : Value) (sz bytes : Nat) (ht : P.underlying t = some (.slice e)) (hi : P.info? e = some i) (hz : i.zero = some z)
    (hsize : i.size = sz) (hby : i.bytes = bytes) (hzs : z.cells.size = sz) (hsz : 0 < sz)
    (ao : Option Addr) (n : Nat) (f : Nat → Nat → Value) (hs : a.eval s = .slice ao n n) (hv : View w ao sz n f) (hnil : ao = none → n = 0) (c : Nat → Value) (ad : Addr) (cc : Nat) (hx : a.eval x = .slice (some ad) 1 cc) (hnews : ∀ j, j < sz → w.cell? (ad.add j) = some (c j)) (h1 : ∀ j, j < sz → (c j).oneCell' = true)
    (h63 : n + 1 ≤ maxLen) (hbytes : (n + 1) * bytes ≤ 140737488355328)
    (h : ∀ g' cap' w', w.heap.size ≤ g' → Own w' g' e sz (n + 1) cap' (fun k j => if k < n then f k j else c j) → Below w.heap.size w w' → K (a.put o.dst (.slice (some ⟨g', 0, none⟩) (n + 1) cap')) w') : o.wp P a w K Q := by
  obtain ⟨g', cap', w', hr, h2, h3, h4⟩ := run_append_full (P := P) (w := w) t o.type e i z sz bytes ht hi hz hsize hby hzs hsz ao n f hv hnil c ad cc hnews h1 h63 hbytes
  unfold Oper.wp execOp
  simp only [ho, resolve, invoke, builtin, Sem.run_bind, Sem.run_pure, Result.andThen_ok, List.map_toArray, List.map_cons, List.map_nil, hs, hx, hr]
  exact h g' cap' w' h2 h3 h4
theorem own_congr {w : World} {g n cap sz : Nat} {T : TypeId} {c d : Nat → Nat → Value} (h : Own w g T sz n cap c) (hs : 0 < sz) (e : ∀ k j, k < n → j < sz → c k j = d k j) : Own w g T sz n cap d := by
  obtain ⟨cur, hg, h1, h2, h3, h4⟩ := h
  refine ⟨cur, hg, h1, h2, h3, h4.trans ?_⟩
  unfold grid
  apply List.map_congr_left
  intro x hx
  have hx' := List.mem_range.1 hx
  exact e _ _ (Nat.div_lt_of_lt_mul (by rw [Nat.mul_comm]; exact hx')) (Nat.mod_lt _ hs)
theorem elem30 : Try.prog.underlying 30 = some (.slice (Try.prog.elem 30)) := by kernel_rfl
theorem add_0 (a : Addr) : a.add 0 = a := by cases a; rfl
theorem sliced_full (ao : Option Addr) (n s : Nat) : sliced ao 0 n n s = .slice ao n n := by
  unfold sliced
  cases ao with
  | none => simp
  | some a => simp [add_0]
theorem exec_slice {o : Oper} {a : Act} {w : World} (x y z : Operand) (ho : o.op = .slice 30 x none (some y) (some z)) (ao : Option Addr) (n c : Nat) (hx : a.eval x = .slice ao n c) (hy : a.eval y = .int .i64 n) (hz : a.eval z = .int .i64 n) (hc : n ≤ c) :
    (execOp a.eval o).run Try.prog w = .ok (.value (.slice ao n n)) w := by
  have hr : (Instr.sliceAt 30 (.slice ao n c) none (some (.int .i64 n)) (some (.int .i64 n))).run Try.prog w = .ok (.slice ao n n) w := by
    rw [run_sliceAt_slice (P := Try.prog) w _ _ _ _ _ elem30, run_slice_hm (P := Try.prog) w _ ao n c elem30 .i64 .i64 n n (by omega) (by omega) (by omega)]
    have hs : (sizeOf (Try.prog.elem 30)).run Try.prog w = .ok 18 w := by kernel_rfl
    rw [hs]
    simp only [Result.andThen_ok, Int.toNat_natCast, sliced_full]
  unfold execOp
  simp only [ho, hx, hy, hz, Option.map_none, Option.map_some, Sem.run_bind, hr, Result.andThen_ok, Sem.run_pure]
theorem row_heldB {W : World} {g B : Nat} {C : Array Value} {T : TypeId} {fr : Nat × Nat} (h : W.heap[g]? = some (.cells C T fr)) (hB : g < B) : ∀ w, Below B W w → w.rangeAt g 0 C.toList := fun w hw j v hv => by
  rw [Nat.zero_add, cells_of ((hw.block g hB).trans h) j]
  simpa using hv
theorem View.of_ap {w : World} {g : Nat} {b : Bri} {ps : Nat → Rec} (h : View w (some ⟨g, 0, none⟩) 89 b.n fun k j => cellP (ps k) j) (e : b.ap = some ⟨g, 0, none⟩) : PortsV w b ps := by
  show View w b.ap 89 b.n _
  rw [e]
  exact h
theorem free_block {w : World} {g : Nat} {C : Array Value} {T : TypeId} (h : w.heap[g]? = some (.cells C T (0, 0))) (j : Nat) : w.frozen? ⟨g, j, none⟩ = false := by
  simp [World.frozen?, h]
attribute [local go_sem] zeroP rowB_17 rowB_18 fwd_normal fwd_exit fwd_ret fwd_panic
set_option maxRecDepth 100000 in
set_option maxHeartbeats 8000000 in
theorem step_any (w : World) (bx g k : Nat) (b : Bri) (ps ss : Nat → Rec) (fs : Nat → Int) (h : Bst w bx g b ps ss fs) (hk : k < b.n) (hT : 0 ≤ (ps k).i 14 ∧ (ps k).i 14 ≤ 1000000) (hno : b.no ≤ 100000) :
    Calls Try.prog 13 #[.pointer (some ⟨bx, 0, none⟩), .int .i64 k] w (TxStep b ps ss fs bx g k w) := by
  have hk0 : (0 : Int) ≤ k := by omega
  have hk1 : (k : Int) < b.n := by omega
  have b17 : w.cell? ⟨bx, 17, none⟩ = some (.slice (some ⟨g, 0, none⟩) b.n b.cp) := by rw [← h.ap]; exact cells_of h.h 17
  have hr := h.p.range hk
  have Hs := Lib.hid h
  have hT0 := hT.1
  have hT1 := hT.2
  clear h hT
  go_enter Try.func13, Try.ntmps13
  go_wp2_with fail
  refine wp_scope_fwd (fun c0 hc0 => ?_)
  have Hc0 := Lib.hid hc0
  clear hc0
  go_wp2_with (first | (refine wpList_row rfl 53 _ rfl g (k * 89) rfl _ _ hr Try.underlying53 rfl (sizeP _) ?_; simp only [Act.put, List.setIfInBounds_toArray, List.set_cons_zero, List.set_cons_succ]) | fail)
  refine (kind_any (ps k) w).mono ?_
  rintro e w1 ⟨rfl, hb1⟩
  have H1 := Lib.hid (Hs.out.below hb1)
  have HO1 := Lib.hid (show Only (fun x => x = g ∨ x = bx) w w1 from Only.of_below hb1)
  clear hb1 hr b17
  have c44 : w1.cell? ⟨g, k * 89 + 22 + 22, none⟩ = some (.bool ((ps k).b 44)) := H1.out.p.cell hk (j := 44) (by omega)
  have c50 : w1.cell? ⟨g, k * 89 + 22 + 28, none⟩ = some (.bool ((ps k).b 50)) := H1.out.p.cell hk (j := 50) (by omega)
  have c8 : w1.cell? ⟨g, k * 89 + 6 + 2, none⟩ = some (.int .i64 ((ps k).i 8)) := H1.out.p.cell hk (j := 8) (by omega)
  have c31 : w1.cell? ⟨g, k * 89 + 22 + 9, none⟩ = some (.bool ((ps k).b 31)) := H1.out.p.cell hk (j := 31) (by omega)
  have c87 : w1.cell? ⟨g, k * 89 + 87, none⟩ = some (.int .i64 ((ps k).i 87)) := H1.out.p.cell hk (j := 87) (by omega)
  have c13 : w1.cell? ⟨g, k * 89 + 6 + 7, none⟩ = some (.int .i64 ((ps k).i 13)) := H1.out.p.cell hk (j := 13) (by omega)
  have c14 : w1.cell? ⟨g, k * 89 + 6 + 8, none⟩ = some (.int .i64 ((ps k).i 14)) := H1.out.p.cell hk (j := 14) (by omega)
  have c48 : w1.cell? ⟨g, k * 89 + 22 + 26, none⟩ = some (.bool ((ps k).b 48)) := H1.out.p.cell hk (j := 48) (by omega)
  have f31 : w1.frozen? ⟨g, k * 89 + 22 + 9, none⟩ = false := H1.out.p.free _
  have f8 : w1.frozen? ⟨g, k * 89 + 6 + 2, none⟩ = false := H1.out.p.free _
  have f14 : w1.frozen? ⟨g, k * 89 + 6 + 8, none⟩ = false := H1.out.p.free _
  have f48 : w1.frozen? ⟨g, k * 89 + 22 + 26, none⟩ = false := H1.out.p.free _
  have b4 : w1.cell? ⟨bx, 4, none⟩ = some (.int .i64 (b.r.i 4)) := cells_of H1.out.h 4
  have b6 : w1.cell? ⟨bx, 6, none⟩ = some (.int .i64 (b.r.i 6)) := cells_of H1.out.h 6
  have b18 : w1.cell? ⟨bx, 18, none⟩ = some (.slice b.ao b.no b.co) := cells_of H1.out.h 18
  have hgl := H1.out.p.lt
  have hbl := H1.out.lt
  by_cases ha : (!(ps k).b 44 || (ps k).b 50) = true
  · have He := Lib.hid (show txF b (ps k) = (ps k, false, none) by unfold txF; rw [if_pos ha])
    rcases (show (ps k).b 44 = false ∨ ((ps k).b 44 = true ∧ (ps k).b 50 = true) by cases h44 : (ps k).b 44 <;> simp_all) with h44 | ⟨h44, h50⟩
    · rw [h44] at c44
      clear ha
      go_wp2_with fail
      go_step3
      refine ⟨_, by rw [Hc0.out]; rfl, ?_⟩
      go_wp2_with fail
      simp only [Exit.noGoto_ret]
      go_ret
      exact still_step' He.out H1.out HO1.out
    · rw [h44] at c44
      rw [h50] at c50
      clear ha
      go_wp2_with fail
      go_step3
      refine ⟨_, by rw [Hc0.out]; rfl, ?_⟩
      go_wp2_with fail
      simp only [Exit.noGoto_ret]
      go_ret
      exact still_step' He.out H1.out HO1.out
  have h44 : (ps k).b 44 = true := by cases h : (ps k).b 44 <;> simp_all
  have h50 : (ps k).b 50 = false := by cases h : (ps k).b 50 <;> simp_all
  have Ha := Lib.hid ha
  rw [h44] at c44
  rw [h50] at c50
  clear ha h44 h50
  by_cases h8 : (ps k).i 8 = 0
  · have He := Lib.hid (show txF b (ps k) = (((ps k).setB 31 ((ps k).b 31 || (ps k).i 87 == 4 || ((ps k).i 87 == 3 && (ps k).i 13 != 0))).setI 8 (b.r.i 4), true, none) by unfold txF; rw [if_neg Ha.out, if_pos h8])
    rw [h8] at c8
    clear h8
    rcases (show (ps k).b 31 = true ∨ ((ps k).b 31 = false ∧ (ps k).i 87 = 4) ∨ ((ps k).b 31 = false ∧ ¬ (ps k).i 87 = 4 ∧ (ps k).i 87 = 3) ∨ ((ps k).b 31 = false ∧ ¬ (ps k).i 87 = 4 ∧ ¬ (ps k).i 87 = 3) by cases (ps k).b 31 <;> by_cases h4 : (ps k).i 87 = 4 <;> by_cases h3 : (ps k).i 87 = 3 <;> simp_all) with h31 | ⟨h31, h4⟩ | ⟨h31, h4, h3⟩ | ⟨h31, h4, h3⟩
    · have hv : ((ps k).b 31 || (ps k).i 87 == 4 || ((ps k).i 87 == 3 && (ps k).i 13 != 0)) = true := by simp [h31]
      rw [hv] at He
      have He' := Lib.hid He.out
      rw [h31] at c31
      clear hv h31
      go_wp2_with fail
      go_step3
      refine ⟨_, by rw [Hc0.out]; rfl, ?_⟩
      go_wp2_with fail
      simp only [Exit.noGoto_ret]
      go_ret
      exact ⟨b.ao, b.co, .inl rfl, by rw [He'.out]; rfl, by unfold sentN sentS; rw [He'.out]; exact (((H1.out.start k).put (j := 31) (by omega) (rowP_put_31 _ _)).put (j := 8) (by omega) (rowP_put_8 _ _)), (HO1.out.setCell (Or.inl (.inl rfl)) _).setCell (Or.inl (.inl rfl)) _⟩
    · have hv : ((ps k).b 31 || (ps k).i 87 == 4 || ((ps k).i 87 == 3 && (ps k).i 13 != 0)) = true := by simp [h31, h4]
      rw [hv] at He
      have He' := Lib.hid He.out
      rw [h31] at c31
      have d4 : ((ps k).i 87 == 4) = true := by simp [h4]
      clear hv h31 h4
      go_wp2_with fail
      go_step3
      refine ⟨_, by rw [Hc0.out]; rfl, ?_⟩
      go_wp2_with fail
      simp only [Exit.noGoto_ret]
      go_ret
      exact ⟨b.ao, b.co, .inl rfl, by rw [He'.out]; rfl, by unfold sentN sentS; rw [He'.out]; exact (((H1.out.start k).put (j := 31) (by omega) (rowP_put_31 _ _)).put (j := 8) (by omega) (rowP_put_8 _ _)), (HO1.out.setCell (Or.inl (.inl rfl)) _).setCell (Or.inl (.inl rfl)) _⟩
    · have hv : ((ps k).b 31 || (ps k).i 87 == 4 || ((ps k).i 87 == 3 && (ps k).i 13 != 0)) = ((ps k).i 13 != 0) := by simp [h31, h3]
      rw [hv] at He
      have He' := Lib.hid He.out
      rw [h31] at c31
      have d4 : ((ps k).i 87 == 4) = false := by simp [h4]
      have d3 : ((ps k).i 87 == 3) = true := by simp [h3]
      clear hv h31 h4 h3
      go_wp2_with fail
      go_step3
      refine ⟨_, by rw [Hc0.out]; rfl, ?_⟩
      go_wp2_with fail
      simp only [Exit.noGoto_ret]
      go_ret
      exact ⟨b.ao, b.co, .inl rfl, by rw [He'.out]; rfl, by unfold sentN sentS; rw [He'.out]; exact (((H1.out.start k).put (j := 31) (by omega) (rowP_put_31 _ _)).put (j := 8) (by omega) (rowP_put_8 _ _)), (HO1.out.setCell (Or.inl (.inl rfl)) _).setCell (Or.inl (.inl rfl)) _⟩
    · have hv : ((ps k).b 31 || (ps k).i 87 == 4 || ((ps k).i 87 == 3 && (ps k).i 13 != 0)) = false := by simp [h31, h4, h3]
      rw [hv] at He
      have He' := Lib.hid He.out
      rw [h31] at c31
      have d4 : ((ps k).i 87 == 4) = false := by simp [h4]
      have d3 : ((ps k).i 87 == 3) = false := by simp [h3]
      clear hv h31 h4 h3
      go_wp2_with fail
      go_step3
      refine ⟨_, by rw [Hc0.out]; rfl, ?_⟩
      go_wp2_with fail
      simp only [Exit.noGoto_ret]
      go_ret
      exact ⟨b.ao, b.co, .inl rfl, by rw [He'.out]; rfl, by unfold sentN sentS; rw [He'.out]; exact (((H1.out.start k).put (j := 31) (by omega) (rowP_put_31 _ _)).put (j := 8) (by omega) (rowP_put_8 _ _)), (HO1.out.setCell (Or.inl (.inl rfl)) _).setCell (Or.inl (.inl rfl)) _⟩
  have He8 := Lib.hid h8
  have h8' : ((ps k).i 8 == 0) = false := beq_eq_false_iff_ne.2 h8
  clear h8
  by_cases hn : (!(ps k).b 31 || decide (b.r.i 6 ≤ (ps k).i 14) || !(kindF (ps k)).2) = true
  · have He := Lib.hid (show txF b (ps k) = (ps k, false, none) by unfold txF; rw [if_neg Ha.out, if_neg He8.out, if_pos hn])
    obtain ⟨kd, hkd⟩ : ∃ x, x = kindF (ps k) := ⟨_, rfl⟩
    rw [← hkd] at hn ⊢
    clear hkd
    obtain ⟨kd1, kd2⟩ := kd
    simp only at hn
    rcases (show (ps k).b 31 = false ∨ ((ps k).b 31 = true ∧ decide (b.r.i 6 ≤ (ps k).i 14) = true) ∨ ((ps k).b 31 = true ∧ decide (b.r.i 6 ≤ (ps k).i 14) = false ∧ kd2 = false) by revert hn; generalize decide (b.r.i 6 ≤ (ps k).i 14) = d; generalize (ps k).b 31 = c; cases c <;> cases d <;> cases kd2 <;> simp) with h31 | ⟨h31, d6⟩ | ⟨h31, d6, hk2⟩
    · rw [h31] at c31
      clear hn h31
      go_wp2_with fail
      refine wp_region_held_drew (S := fun w' => Below w1.heap.size w1 w') (by kernel_rfl) (Below.refl _ _).drew (fun hH => ?_)
      refine wpAnyH_take (i := 0) (v := .pointer (some ⟨g, k * 89, none⟩)) rfl (by kernel_rfl) (by kernel_rfl) (by kernel_rfl) (fun _ _ _ h => h) (Or.inl ⟨by rfl, fun z _ => rfl⟩) hH ?_
      simp only [List.getElem_toArray, List.getElem_cons_succ, List.getElem_cons_zero, Act.put, List.setIfInBounds_toArray, List.set_cons_zero, List.set_cons_succ]
      refine wpAnyH_take (i := 1) (v := .pointer (some ⟨g, k * 89, none⟩)) rfl (by kernel_rfl) (by kernel_rfl) (by kernel_rfl) (fun _ _ _ h => h) (Or.inl ⟨by rfl, fun z _ => by simp [go_sem, execOp]⟩) hH ?_
      simp only [List.getElem_toArray, List.getElem_cons_succ, List.getElem_cons_zero, Act.put, List.setIfInBounds_toArray, List.set_cons_zero, List.set_cons_succ]
      refine wpAnyH_take (i := 2) (v := .pointer (some ⟨g, k * 89 + 22, none⟩)) rfl (by kernel_rfl) (by kernel_rfl) (by kernel_rfl) (fun _ _ _ h => h) (Or.inl ⟨by rfl, fun z _ => by simp [go_sem, execOp]⟩) hH ?_
      simp only [List.getElem_toArray, List.getElem_cons_succ, List.getElem_cons_zero, Act.put, List.setIfInBounds_toArray, List.set_cons_zero, List.set_cons_succ]
      refine wpAnyH_take (i := 3) (v := .pointer (some ⟨g, k * 89 + 22 + 9, none⟩)) rfl (by kernel_rfl) (by kernel_rfl) (by kernel_rfl) (fun _ _ _ h => h) (Or.inl ⟨by rfl, fun z _ => by simp [go_sem, execOp]⟩) hH ?_
      simp only [List.getElem_toArray, List.getElem_cons_succ, List.getElem_cons_zero, Act.put, List.setIfInBounds_toArray, List.set_cons_zero, List.set_cons_succ]
      refine wpAnyH_take (i := 4) (v := .bool false) rfl (by kernel_rfl) (by kernel_rfl) (by kernel_rfl) (fun _ _ _ h => h) (Or.inl ⟨by rfl, fun z hz => by simp [go_sem, execOp, (show z.cell? ⟨g, k * 89 + 22 + 9, none⟩ = some (.bool false) from (hz.cell (p := ⟨g, k * 89 + 22 + 9, none⟩) hgl).trans c31)]⟩) hH ?_
      simp only [List.getElem_toArray, List.getElem_cons_succ, List.getElem_cons_zero, Act.put, List.setIfInBounds_toArray, List.set_cons_zero, List.set_cons_succ]
      refine wpAnyH_take (i := 5) (v := .bool true) rfl (by kernel_rfl) (by kernel_rfl) (by kernel_rfl) (fun _ _ _ h => h) (Or.inl ⟨by rfl, fun z _ => by simp [go_sem, execOp]⟩) hH ?_
      simp only [List.getElem_toArray, List.getElem_cons_succ, List.getElem_cons_zero, Act.put, List.setIfInBounds_toArray, List.set_cons_zero, List.set_cons_succ]
      refine wpAnyH_take (i := 6) (v := .bool true) rfl (by kernel_rfl) (by kernel_rfl) (by kernel_rfl) (fun _ _ _ h => h) (Or.inl ⟨by rfl, fun z _ => rfl⟩) hH ?_
      simp only [List.getElem_toArray, List.getElem_cons_succ, List.getElem_cons_zero, Act.put, List.setIfInBounds_toArray, List.set_cons_zero, List.set_cons_succ]
      refine wpAnyH_take (i := 7) (v := undef) rfl (by kernel_rfl) (by kernel_rfl) (by kernel_rfl) (fun _ _ _ h => h) (Or.inr ⟨by rfl, rfl⟩) hH ?_
      simp only [List.getElem_toArray, List.getElem_cons_succ, List.getElem_cons_zero, Act.put, List.setIfInBounds_toArray, List.set_cons_zero, List.set_cons_succ]
      refine wpAnyH_take (i := 8) (v := undef) rfl (by kernel_rfl) (by kernel_rfl) (by kernel_rfl) (fun _ _ _ h => h) (Or.inr ⟨by rfl, rfl⟩) hH ?_
      simp only [List.getElem_toArray, List.getElem_cons_succ, List.getElem_cons_zero, Act.put, List.setIfInBounds_toArray, List.set_cons_zero, List.set_cons_succ]
      refine wpAnyH_take (i := 9) (v := undef) rfl (by kernel_rfl) (by kernel_rfl) (by kernel_rfl) (fun _ _ _ h => h) (Or.inr ⟨by rfl, rfl⟩) hH ?_
      simp only [List.getElem_toArray, List.getElem_cons_succ, List.getElem_cons_zero, Act.put, List.setIfInBounds_toArray, List.set_cons_zero, List.set_cons_succ]
      refine wpAnyH_take (i := 10) (v := undef) rfl (by kernel_rfl) (by kernel_rfl) (by kernel_rfl) (fun _ _ _ h => h) (Or.inr ⟨by rfl, rfl⟩) hH ?_
      simp only [List.getElem_toArray, List.getElem_cons_succ, List.getElem_cons_zero, Act.put, List.setIfInBounds_toArray, List.set_cons_zero, List.set_cons_succ]
      refine wpAnyH_take (i := 11) (v := undef) rfl (by kernel_rfl) (by kernel_rfl) (by kernel_rfl) (fun _ _ _ h => h) (Or.inr ⟨by rfl, rfl⟩) hH ?_
      simp only [List.getElem_toArray, List.getElem_cons_succ, List.getElem_cons_zero, Act.put, List.setIfInBounds_toArray, List.set_cons_zero, List.set_cons_succ]
      refine wpAnyH_take (i := 12) (v := undef) rfl (by kernel_rfl) (by kernel_rfl) (by kernel_rfl) (fun _ _ _ h => h) (Or.inr ⟨by rfl, rfl⟩) hH ?_
      simp only [List.getElem_toArray, List.getElem_cons_succ, List.getElem_cons_zero, Act.put, List.setIfInBounds_toArray, List.set_cons_zero, List.set_cons_succ]
      refine wpAnyH_take (i := 13) (v := undef) rfl (by kernel_rfl) (by kernel_rfl) (by kernel_rfl) (fun _ _ _ h => h) (Or.inr ⟨by rfl, rfl⟩) hH ?_
      simp only [List.getElem_toArray, List.getElem_cons_succ, List.getElem_cons_zero, Act.put, List.setIfInBounds_toArray, List.set_cons_zero, List.set_cons_succ]
      refine wpAnyH_take (i := 14) (v := undef) rfl (by kernel_rfl) (by kernel_rfl) (by kernel_rfl) (fun _ _ _ h => h) (Or.inr ⟨by rfl, rfl⟩) hH ?_
      simp only [List.getElem_toArray, List.getElem_cons_succ, List.getElem_cons_zero, Act.put, List.setIfInBounds_toArray, List.set_cons_zero, List.set_cons_succ]
      refine wpAnyH_take (i := 15) (v := undef) rfl (by kernel_rfl) (by kernel_rfl) (by kernel_rfl) (fun _ _ _ h => h) (Or.inr ⟨by rfl, rfl⟩) hH ?_
      simp only [List.getElem_toArray, List.getElem_cons_succ, List.getElem_cons_zero, Act.put, List.setIfInBounds_toArray, List.set_cons_zero, List.set_cons_succ]
      refine wpAnyH_take (i := 16) (v := undef) rfl (by kernel_rfl) (by kernel_rfl) (by kernel_rfl) (fun _ _ _ h => h) (Or.inr ⟨by rfl, rfl⟩) hH ?_
      simp only [List.getElem_toArray, List.getElem_cons_succ, List.getElem_cons_zero, Act.put, List.setIfInBounds_toArray, List.set_cons_zero, List.set_cons_succ]
      refine wpAnyH_take (i := 17) (v := .bool true) rfl (by kernel_rfl) (by kernel_rfl) (by kernel_rfl) (fun _ _ _ h => h) (Or.inl ⟨by rfl, fun z _ => rfl⟩) hH ?_
      simp only [List.getElem_toArray, List.getElem_cons_succ, List.getElem_cons_zero, Act.put, List.setIfInBounds_toArray, List.set_cons_zero, List.set_cons_succ]
      refine wpAnyH_take (i := 18) (v := .bool true) rfl (by kernel_rfl) (by kernel_rfl) (by kernel_rfl) (fun _ _ _ h => h) (Or.inl ⟨by rfl, fun z _ => rfl⟩) hH ?_
      simp only [List.getElem_toArray, List.getElem_cons_succ, List.getElem_cons_zero, Act.put, List.setIfInBounds_toArray, List.set_cons_zero, List.set_cons_succ]
      refine wpAnyH_take (i := 19) (v := undef) rfl (by kernel_rfl) (by kernel_rfl) (by kernel_rfl) (fun _ _ _ h => h) (Or.inr ⟨by rfl, rfl⟩) hH ?_
      simp only [List.getElem_toArray, List.getElem_cons_succ, List.getElem_cons_zero, Act.put, List.setIfInBounds_toArray, List.set_cons_zero, List.set_cons_succ]
      refine wpAnyH_take (i := 20) (v := undef) rfl (by kernel_rfl) (by kernel_rfl) (by kernel_rfl) (fun _ _ _ h => h) (Or.inr ⟨by rfl, rfl⟩) hH ?_
      simp only [List.getElem_toArray, List.getElem_cons_succ, List.getElem_cons_zero, Act.put, List.setIfInBounds_toArray, List.set_cons_zero, List.set_cons_succ]
      refine wpAnyH_take (i := 21) (v := .bool true) rfl (by kernel_rfl) (by kernel_rfl) (by kernel_rfl) (fun _ _ _ h => h) (Or.inl ⟨by rfl, fun z _ => rfl⟩) hH ?_
      simp only [List.getElem_toArray, List.getElem_cons_succ, List.getElem_cons_zero, Act.put, List.setIfInBounds_toArray, List.set_cons_zero, List.set_cons_succ]
      refine wpAnyH_done (by kernel_rfl) ?_ _
      clear hH
      go_wp2_with fail
      go_step3
      refine ⟨_, by rw [Hc0.out]; rfl, ?_⟩
      go_wp2_with fail
      simp only [Exit.noGoto_ret]
      go_ret
      exact still_step' He.out (H1.out.below (Below.refl _ _).drew) HO1.out.drew
    · rw [h31] at c31
      clear hn h31
      go_wp2_with fail
      refine wp_region_held_drew (S := fun w' => Below w1.heap.size w1 w') (by kernel_rfl) (Below.refl _ _).drew (fun hH => ?_)
      refine wpAnyH_take (i := 0) (v := .pointer (some ⟨g, k * 89, none⟩)) rfl (by kernel_rfl) (by kernel_rfl) (by kernel_rfl) (fun _ _ _ h => h) (Or.inl ⟨by rfl, fun z _ => rfl⟩) hH ?_
      simp only [List.getElem_toArray, List.getElem_cons_succ, List.getElem_cons_zero, Act.put, List.setIfInBounds_toArray, List.set_cons_zero, List.set_cons_succ]
      refine wpAnyH_take (i := 1) (v := .pointer (some ⟨g, k * 89, none⟩)) rfl (by kernel_rfl) (by kernel_rfl) (by kernel_rfl) (fun _ _ _ h => h) (Or.inl ⟨by rfl, fun z _ => by simp [go_sem, execOp]⟩) hH ?_
      simp only [List.getElem_toArray, List.getElem_cons_succ, List.getElem_cons_zero, Act.put, List.setIfInBounds_toArray, List.set_cons_zero, List.set_cons_succ]
      refine wpAnyH_take (i := 2) (v := .pointer (some ⟨g, k * 89 + 22, none⟩)) rfl (by kernel_rfl) (by kernel_rfl) (by kernel_rfl) (fun _ _ _ h => h) (Or.inl ⟨by rfl, fun z _ => by simp [go_sem, execOp]⟩) hH ?_
      simp only [List.getElem_toArray, List.getElem_cons_succ, List.getElem_cons_zero, Act.put, List.setIfInBounds_toArray, List.set_cons_zero, List.set_cons_succ]
      refine wpAnyH_take (i := 3) (v := .pointer (some ⟨g, k * 89 + 22 + 9, none⟩)) rfl (by kernel_rfl) (by kernel_rfl) (by kernel_rfl) (fun _ _ _ h => h) (Or.inl ⟨by rfl, fun z _ => by simp [go_sem, execOp]⟩) hH ?_
      simp only [List.getElem_toArray, List.getElem_cons_succ, List.getElem_cons_zero, Act.put, List.setIfInBounds_toArray, List.set_cons_zero, List.set_cons_succ]
      refine wpAnyH_take (i := 4) (v := .bool true) rfl (by kernel_rfl) (by kernel_rfl) (by kernel_rfl) (fun _ _ _ h => h) (Or.inl ⟨by rfl, fun z hz => by simp [go_sem, execOp, (show z.cell? ⟨g, k * 89 + 22 + 9, none⟩ = some (.bool true) from (hz.cell (p := ⟨g, k * 89 + 22 + 9, none⟩) hgl).trans c31)]⟩) hH ?_
      simp only [List.getElem_toArray, List.getElem_cons_succ, List.getElem_cons_zero, Act.put, List.setIfInBounds_toArray, List.set_cons_zero, List.set_cons_succ]
      refine wpAnyH_take (i := 5) (v := .bool false) rfl (by kernel_rfl) (by kernel_rfl) (by kernel_rfl) (fun _ _ _ h => h) (Or.inl ⟨by rfl, fun z _ => by simp [go_sem, execOp]⟩) hH ?_
      simp only [List.getElem_toArray, List.getElem_cons_succ, List.getElem_cons_zero, Act.put, List.setIfInBounds_toArray, List.set_cons_zero, List.set_cons_succ]
      refine wpAnyH_take (i := 6) (v := .bool false) rfl (by kernel_rfl) (by kernel_rfl) (by kernel_rfl) (fun _ _ _ h => h) (Or.inl ⟨by rfl, fun z _ => rfl⟩) hH ?_
      simp only [List.getElem_toArray, List.getElem_cons_succ, List.getElem_cons_zero, Act.put, List.setIfInBounds_toArray, List.set_cons_zero, List.set_cons_succ]
      refine wpAnyH_take (i := 7) (v := .pointer (some ⟨g, k * 89, none⟩)) rfl (by kernel_rfl) (by kernel_rfl) (by kernel_rfl) (fun _ _ _ h => h) (Or.inl ⟨by rfl, fun z _ => rfl⟩) hH ?_
      simp only [List.getElem_toArray, List.getElem_cons_succ, List.getElem_cons_zero, Act.put, List.setIfInBounds_toArray, List.set_cons_zero, List.set_cons_succ]
      refine wpAnyH_take (i := 8) (v := .pointer (some ⟨g, k * 89, none⟩)) rfl (by kernel_rfl) (by kernel_rfl) (by kernel_rfl) (fun _ _ _ h => h) (Or.inl ⟨by rfl, fun z _ => by simp [go_sem, execOp]⟩) hH ?_
      simp only [List.getElem_toArray, List.getElem_cons_succ, List.getElem_cons_zero, Act.put, List.setIfInBounds_toArray, List.set_cons_zero, List.set_cons_succ]
      refine wpAnyH_take (i := 9) (v := .pointer (some ⟨g, k * 89 + 6, none⟩)) rfl (by kernel_rfl) (by kernel_rfl) (by kernel_rfl) (fun _ _ _ h => h) (Or.inl ⟨by rfl, fun z _ => by simp [go_sem, execOp]⟩) hH ?_
      simp only [List.getElem_toArray, List.getElem_cons_succ, List.getElem_cons_zero, Act.put, List.setIfInBounds_toArray, List.set_cons_zero, List.set_cons_succ]
      refine wpAnyH_take (i := 10) (v := .pointer (some ⟨g, k * 89 + 6 + 8, none⟩)) rfl (by kernel_rfl) (by kernel_rfl) (by kernel_rfl) (fun _ _ _ h => h) (Or.inl ⟨by rfl, fun z _ => by simp [go_sem, execOp]⟩) hH ?_
      simp only [List.getElem_toArray, List.getElem_cons_succ, List.getElem_cons_zero, Act.put, List.setIfInBounds_toArray, List.set_cons_zero, List.set_cons_succ]
      refine wpAnyH_take (i := 11) (v := .int .i64 ((ps k).i 14)) rfl (by kernel_rfl) (by kernel_rfl) (by kernel_rfl) (fun _ _ _ h => h) (Or.inl ⟨by rfl, fun z hz => by simp [go_sem, execOp, (show z.cell? ⟨g, k * 89 + 6 + 8, none⟩ = some (.int .i64 ((ps k).i 14)) from (hz.cell (p := ⟨g, k * 89 + 6 + 8, none⟩) hgl).trans c14)]⟩) hH ?_
      simp only [List.getElem_toArray, List.getElem_cons_succ, List.getElem_cons_zero, Act.put, List.setIfInBounds_toArray, List.set_cons_zero, List.set_cons_succ]
      refine wpAnyH_take (i := 12) (v := .pointer (some ⟨bx, 0, none⟩)) rfl (by kernel_rfl) (by kernel_rfl) (by kernel_rfl) (fun _ _ _ h => h) (Or.inl ⟨by rfl, fun z _ => rfl⟩) hH ?_
      simp only [List.getElem_toArray, List.getElem_cons_succ, List.getElem_cons_zero, Act.put, List.setIfInBounds_toArray, List.set_cons_zero, List.set_cons_succ]
      refine wpAnyH_take (i := 13) (v := .pointer (some ⟨bx, 0, none⟩)) rfl (by kernel_rfl) (by kernel_rfl) (by kernel_rfl) (fun _ _ _ h => h) (Or.inl ⟨by rfl, fun z _ => by simp [go_sem, execOp]⟩) hH ?_
      simp only [List.getElem_toArray, List.getElem_cons_succ, List.getElem_cons_zero, Act.put, List.setIfInBounds_toArray, List.set_cons_zero, List.set_cons_succ]
      refine wpAnyH_take (i := 14) (v := .pointer (some ⟨bx, 6, none⟩)) rfl (by kernel_rfl) (by kernel_rfl) (by kernel_rfl) (fun _ _ _ h => h) (Or.inl ⟨by rfl, fun z _ => by simp [go_sem, execOp]⟩) hH ?_
      simp only [List.getElem_toArray, List.getElem_cons_succ, List.getElem_cons_zero, Act.put, List.setIfInBounds_toArray, List.set_cons_zero, List.set_cons_succ]
      refine wpAnyH_take (i := 15) (v := .int .i64 (b.r.i 6)) rfl (by kernel_rfl) (by kernel_rfl) (by kernel_rfl) (fun _ _ _ h => h) (Or.inl ⟨by rfl, fun z hz => by simp [go_sem, execOp, (show z.cell? ⟨bx, 6, none⟩ = some (.int .i64 (b.r.i 6)) from (hz.cell (p := ⟨bx, 6, none⟩) hbl).trans b6)]⟩) hH ?_
      simp only [List.getElem_toArray, List.getElem_cons_succ, List.getElem_cons_zero, Act.put, List.setIfInBounds_toArray, List.set_cons_zero, List.set_cons_succ]
      refine wpAnyH_take (i := 16) (v := .bool true) rfl (by kernel_rfl) (by kernel_rfl) (by kernel_rfl) (fun _ _ _ h => h) (Or.inl ⟨by rfl, fun z _ => by simp [go_sem, execOp, d6]⟩) hH ?_
      simp only [List.getElem_toArray, List.getElem_cons_succ, List.getElem_cons_zero, Act.put, List.setIfInBounds_toArray, List.set_cons_zero, List.set_cons_succ]
      refine wpAnyH_take (i := 17) (v := .bool true) rfl (by kernel_rfl) (by kernel_rfl) (by kernel_rfl) (fun _ _ _ h => h) (Or.inl ⟨by rfl, fun z _ => rfl⟩) hH ?_
      simp only [List.getElem_toArray, List.getElem_cons_succ, List.getElem_cons_zero, Act.put, List.setIfInBounds_toArray, List.set_cons_zero, List.set_cons_succ]
      refine wpAnyH_take (i := 18) (v := .bool true) rfl (by kernel_rfl) (by kernel_rfl) (by kernel_rfl) (fun _ _ _ h => h) (Or.inl ⟨by rfl, fun z _ => rfl⟩) hH ?_
      simp only [List.getElem_toArray, List.getElem_cons_succ, List.getElem_cons_zero, Act.put, List.setIfInBounds_toArray, List.set_cons_zero, List.set_cons_succ]
      refine wpAnyH_take (i := 19) (v := undef) rfl (by kernel_rfl) (by kernel_rfl) (by kernel_rfl) (fun _ _ _ h => h) (Or.inr ⟨by rfl, rfl⟩) hH ?_
      simp only [List.getElem_toArray, List.getElem_cons_succ, List.getElem_cons_zero, Act.put, List.setIfInBounds_toArray, List.set_cons_zero, List.set_cons_succ]
      refine wpAnyH_take (i := 20) (v := undef) rfl (by kernel_rfl) (by kernel_rfl) (by kernel_rfl) (fun _ _ _ h => h) (Or.inr ⟨by rfl, rfl⟩) hH ?_
      simp only [List.getElem_toArray, List.getElem_cons_succ, List.getElem_cons_zero, Act.put, List.setIfInBounds_toArray, List.set_cons_zero, List.set_cons_succ]
      refine wpAnyH_take (i := 21) (v := .bool true) rfl (by kernel_rfl) (by kernel_rfl) (by kernel_rfl) (fun _ _ _ h => h) (Or.inl ⟨by rfl, fun z _ => rfl⟩) hH ?_
      simp only [List.getElem_toArray, List.getElem_cons_succ, List.getElem_cons_zero, Act.put, List.setIfInBounds_toArray, List.set_cons_zero, List.set_cons_succ]
      refine wpAnyH_done (by kernel_rfl) ?_ _
      clear hH
      go_wp2_with fail
      go_step3
      refine ⟨_, by rw [Hc0.out]; rfl, ?_⟩
      go_wp2_with fail
      simp only [Exit.noGoto_ret]
      go_ret
      exact still_step' He.out (H1.out.below (Below.refl _ _).drew) HO1.out.drew
    · rw [h31] at c31
      subst hk2
      clear hn h31
      go_wp2_with fail
      refine wp_region_held_drew (S := fun w' => Below w1.heap.size w1 w') (by kernel_rfl) (Below.refl _ _).drew (fun hH => ?_)
      refine wpAnyH_take (i := 0) (v := .pointer (some ⟨g, k * 89, none⟩)) rfl (by kernel_rfl) (by kernel_rfl) (by kernel_rfl) (fun _ _ _ h => h) (Or.inl ⟨by rfl, fun z _ => rfl⟩) hH ?_
      simp only [List.getElem_toArray, List.getElem_cons_succ, List.getElem_cons_zero, Act.put, List.setIfInBounds_toArray, List.set_cons_zero, List.set_cons_succ]
      refine wpAnyH_take (i := 1) (v := .pointer (some ⟨g, k * 89, none⟩)) rfl (by kernel_rfl) (by kernel_rfl) (by kernel_rfl) (fun _ _ _ h => h) (Or.inl ⟨by rfl, fun z _ => by simp [go_sem, execOp]⟩) hH ?_
      simp only [List.getElem_toArray, List.getElem_cons_succ, List.getElem_cons_zero, Act.put, List.setIfInBounds_toArray, List.set_cons_zero, List.set_cons_succ]
      refine wpAnyH_take (i := 2) (v := .pointer (some ⟨g, k * 89 + 22, none⟩)) rfl (by kernel_rfl) (by kernel_rfl) (by kernel_rfl) (fun _ _ _ h => h) (Or.inl ⟨by rfl, fun z _ => by simp [go_sem, execOp]⟩) hH ?_
      simp only [List.getElem_toArray, List.getElem_cons_succ, List.getElem_cons_zero, Act.put, List.setIfInBounds_toArray, List.set_cons_zero, List.set_cons_succ]
      refine wpAnyH_take (i := 3) (v := .pointer (some ⟨g, k * 89 + 22 + 9, none⟩)) rfl (by kernel_rfl) (by kernel_rfl) (by kernel_rfl) (fun _ _ _ h => h) (Or.inl ⟨by rfl, fun z _ => by simp [go_sem, execOp]⟩) hH ?_
      simp only [List.getElem_toArray, List.getElem_cons_succ, List.getElem_cons_zero, Act.put, List.setIfInBounds_toArray, List.set_cons_zero, List.set_cons_succ]
      refine wpAnyH_take (i := 4) (v := .bool true) rfl (by kernel_rfl) (by kernel_rfl) (by kernel_rfl) (fun _ _ _ h => h) (Or.inl ⟨by rfl, fun z hz => by simp [go_sem, execOp, (show z.cell? ⟨g, k * 89 + 22 + 9, none⟩ = some (.bool true) from (hz.cell (p := ⟨g, k * 89 + 22 + 9, none⟩) hgl).trans c31)]⟩) hH ?_
      simp only [List.getElem_toArray, List.getElem_cons_succ, List.getElem_cons_zero, Act.put, List.setIfInBounds_toArray, List.set_cons_zero, List.set_cons_succ]
      refine wpAnyH_take (i := 5) (v := .bool false) rfl (by kernel_rfl) (by kernel_rfl) (by kernel_rfl) (fun _ _ _ h => h) (Or.inl ⟨by rfl, fun z _ => by simp [go_sem, execOp]⟩) hH ?_
      simp only [List.getElem_toArray, List.getElem_cons_succ, List.getElem_cons_zero, Act.put, List.setIfInBounds_toArray, List.set_cons_zero, List.set_cons_succ]
      refine wpAnyH_take (i := 6) (v := .bool false) rfl (by kernel_rfl) (by kernel_rfl) (by kernel_rfl) (fun _ _ _ h => h) (Or.inl ⟨by rfl, fun z _ => rfl⟩) hH ?_
      simp only [List.getElem_toArray, List.getElem_cons_succ, List.getElem_cons_zero, Act.put, List.setIfInBounds_toArray, List.set_cons_zero, List.set_cons_succ]
      refine wpAnyH_take (i := 7) (v := .pointer (some ⟨g, k * 89, none⟩)) rfl (by kernel_rfl) (by kernel_rfl) (by kernel_rfl) (fun _ _ _ h => h) (Or.inl ⟨by rfl, fun z _ => rfl⟩) hH ?_
      simp only [List.getElem_toArray, List.getElem_cons_succ, List.getElem_cons_zero, Act.put, List.setIfInBounds_toArray, List.set_cons_zero, List.set_cons_succ]
      refine wpAnyH_take (i := 8) (v := .pointer (some ⟨g, k * 89, none⟩)) rfl (by kernel_rfl) (by kernel_rfl) (by kernel_rfl) (fun _ _ _ h => h) (Or.inl ⟨by rfl, fun z _ => by simp [go_sem, execOp]⟩) hH ?_
      simp only [List.getElem_toArray, List.getElem_cons_succ, List.getElem_cons_zero, Act.put, List.setIfInBounds_toArray, List.set_cons_zero, List.set_cons_succ]
      refine wpAnyH_take (i := 9) (v := .pointer (some ⟨g, k * 89 + 6, none⟩)) rfl (by kernel_rfl) (by kernel_rfl) (by kernel_rfl) (fun _ _ _ h => h) (Or.inl ⟨by rfl, fun z _ => by simp [go_sem, execOp]⟩) hH ?_
      simp only [List.getElem_toArray, List.getElem_cons_succ, List.getElem_cons_zero, Act.put, List.setIfInBounds_toArray, List.set_cons_zero, List.set_cons_succ]
      refine wpAnyH_take (i := 10) (v := .pointer (some ⟨g, k * 89 + 6 + 8, none⟩)) rfl (by kernel_rfl) (by kernel_rfl) (by kernel_rfl) (fun _ _ _ h => h) (Or.inl ⟨by rfl, fun z _ => by simp [go_sem, execOp]⟩) hH ?_
      simp only [List.getElem_toArray, List.getElem_cons_succ, List.getElem_cons_zero, Act.put, List.setIfInBounds_toArray, List.set_cons_zero, List.set_cons_succ]
      refine wpAnyH_take (i := 11) (v := .int .i64 ((ps k).i 14)) rfl (by kernel_rfl) (by kernel_rfl) (by kernel_rfl) (fun _ _ _ h => h) (Or.inl ⟨by rfl, fun z hz => by simp [go_sem, execOp, (show z.cell? ⟨g, k * 89 + 6 + 8, none⟩ = some (.int .i64 ((ps k).i 14)) from (hz.cell (p := ⟨g, k * 89 + 6 + 8, none⟩) hgl).trans c14)]⟩) hH ?_
      simp only [List.getElem_toArray, List.getElem_cons_succ, List.getElem_cons_zero, Act.put, List.setIfInBounds_toArray, List.set_cons_zero, List.set_cons_succ]
      refine wpAnyH_take (i := 12) (v := .pointer (some ⟨bx, 0, none⟩)) rfl (by kernel_rfl) (by kernel_rfl) (by kernel_rfl) (fun _ _ _ h => h) (Or.inl ⟨by rfl, fun z _ => rfl⟩) hH ?_
      simp only [List.getElem_toArray, List.getElem_cons_succ, List.getElem_cons_zero, Act.put, List.setIfInBounds_toArray, List.set_cons_zero, List.set_cons_succ]
      refine wpAnyH_take (i := 13) (v := .pointer (some ⟨bx, 0, none⟩)) rfl (by kernel_rfl) (by kernel_rfl) (by kernel_rfl) (fun _ _ _ h => h) (Or.inl ⟨by rfl, fun z _ => by simp [go_sem, execOp]⟩) hH ?_
      simp only [List.getElem_toArray, List.getElem_cons_succ, List.getElem_cons_zero, Act.put, List.setIfInBounds_toArray, List.set_cons_zero, List.set_cons_succ]
      refine wpAnyH_take (i := 14) (v := .pointer (some ⟨bx, 6, none⟩)) rfl (by kernel_rfl) (by kernel_rfl) (by kernel_rfl) (fun _ _ _ h => h) (Or.inl ⟨by rfl, fun z _ => by simp [go_sem, execOp]⟩) hH ?_
      simp only [List.getElem_toArray, List.getElem_cons_succ, List.getElem_cons_zero, Act.put, List.setIfInBounds_toArray, List.set_cons_zero, List.set_cons_succ]
      refine wpAnyH_take (i := 15) (v := .int .i64 (b.r.i 6)) rfl (by kernel_rfl) (by kernel_rfl) (by kernel_rfl) (fun _ _ _ h => h) (Or.inl ⟨by rfl, fun z hz => by simp [go_sem, execOp, (show z.cell? ⟨bx, 6, none⟩ = some (.int .i64 (b.r.i 6)) from (hz.cell (p := ⟨bx, 6, none⟩) hbl).trans b6)]⟩) hH ?_
      simp only [List.getElem_toArray, List.getElem_cons_succ, List.getElem_cons_zero, Act.put, List.setIfInBounds_toArray, List.set_cons_zero, List.set_cons_succ]
      refine wpAnyH_take (i := 16) (v := .bool false) rfl (by kernel_rfl) (by kernel_rfl) (by kernel_rfl) (fun _ _ _ h => h) (Or.inl ⟨by rfl, fun z _ => by simp [go_sem, execOp, d6]⟩) hH ?_
      simp only [List.getElem_toArray, List.getElem_cons_succ, List.getElem_cons_zero, Act.put, List.setIfInBounds_toArray, List.set_cons_zero, List.set_cons_succ]
      refine wpAnyH_take (i := 17) (v := .bool false) rfl (by kernel_rfl) (by kernel_rfl) (by kernel_rfl) (fun _ _ _ h => h) (Or.inl ⟨by rfl, fun z _ => rfl⟩) hH ?_
      simp only [List.getElem_toArray, List.getElem_cons_succ, List.getElem_cons_zero, Act.put, List.setIfInBounds_toArray, List.set_cons_zero, List.set_cons_succ]
      refine wpAnyH_take (i := 18) (v := .bool false) rfl (by kernel_rfl) (by kernel_rfl) (by kernel_rfl) (fun _ _ _ h => h) (Or.inl ⟨by rfl, fun z _ => rfl⟩) hH ?_
      simp only [List.getElem_toArray, List.getElem_cons_succ, List.getElem_cons_zero, Act.put, List.setIfInBounds_toArray, List.set_cons_zero, List.set_cons_succ]
      refine wpAnyH_take (i := 19) (v := .bool false) rfl (by kernel_rfl) (by kernel_rfl) (by kernel_rfl) (fun _ _ _ h => h) (Or.inl ⟨by rfl, fun z _ => rfl⟩) hH ?_
      simp only [List.getElem_toArray, List.getElem_cons_succ, List.getElem_cons_zero, Act.put, List.setIfInBounds_toArray, List.set_cons_zero, List.set_cons_succ]
      refine wpAnyH_take (i := 20) (v := .bool true) rfl (by kernel_rfl) (by kernel_rfl) (by kernel_rfl) (fun _ _ _ h => h) (Or.inl ⟨by rfl, fun z _ => by simp [go_sem, execOp]⟩) hH ?_
      simp only [List.getElem_toArray, List.getElem_cons_succ, List.getElem_cons_zero, Act.put, List.setIfInBounds_toArray, List.set_cons_zero, List.set_cons_succ]
      refine wpAnyH_take (i := 21) (v := .bool true) rfl (by kernel_rfl) (by kernel_rfl) (by kernel_rfl) (fun _ _ _ h => h) (Or.inl ⟨by rfl, fun z _ => rfl⟩) hH ?_
      simp only [List.getElem_toArray, List.getElem_cons_succ, List.getElem_cons_zero, Act.put, List.setIfInBounds_toArray, List.set_cons_zero, List.set_cons_succ]
      refine wpAnyH_done (by kernel_rfl) ?_ _
      clear hH
      go_wp2_with fail
      go_step3
      refine ⟨_, by rw [Hc0.out]; rfl, ?_⟩
      go_wp2_with fail
      simp only [Exit.noGoto_ret]
      go_ret
      exact still_step' He.out (H1.out.below (Below.refl _ _).drew) HO1.out.drew
  have He := Lib.hid (show txF b (ps k) = (((((ps k).setB 31 false).setI 14 ((ps k).i 14 + 1)).setB 48 ((ps k).b 48 && (kindF (ps k)).1 == 1)).setI 8 (b.r.i 4), true, some (kindF (ps k)).1) by unfold txF; rw [if_neg Ha.out, if_neg He8.out, if_neg hn])
  obtain ⟨kd, hkd⟩ : ∃ x, x = kindF (ps k) := ⟨_, rfl⟩
  rw [← hkd] at hn ⊢
  have Hkd := Lib.hid hkd
  clear hkd
  simp only [Bool.or_eq_true, not_or, Bool.not_eq_true', Bool.not_eq_false, Bool.not_eq_true, decide_eq_false_iff_not] at hn
  obtain ⟨⟨hn1, hn2⟩, hn3⟩ := hn
  obtain ⟨kd1, kd2⟩ := kd
  simp only at hn3
  subst hn3
  rw [hn1] at c31
  have d6 : decide (b.r.i 6 ≤ (ps k).i 14) = false := decide_eq_false hn2
  clear hn1 hn2
  go_wp2_with fail
  refine wp_region_held_drew (S := fun w' => Below w1.heap.size w1 w') (by kernel_rfl) (Below.refl _ _).drew (fun hH => ?_)
  refine wpAnyH_take (i := 0) (v := .pointer (some ⟨g, k * 89, none⟩)) rfl (by kernel_rfl) (by kernel_rfl) (by kernel_rfl) (fun _ _ _ h => h) (Or.inl ⟨by rfl, fun z _ => rfl⟩) hH ?_
  simp only [List.getElem_toArray, List.getElem_cons_succ, List.getElem_cons_zero, Act.put, List.setIfInBounds_toArray, List.set_cons_zero, List.set_cons_succ]
  refine wpAnyH_take (i := 1) (v := .pointer (some ⟨g, k * 89, none⟩)) rfl (by kernel_rfl) (by kernel_rfl) (by kernel_rfl) (fun _ _ _ h => h) (Or.inl ⟨by rfl, fun z _ => by simp [go_sem, execOp]⟩) hH ?_
  simp only [List.getElem_toArray, List.getElem_cons_succ, List.getElem_cons_zero, Act.put, List.setIfInBounds_toArray, List.set_cons_zero, List.set_cons_succ]
  refine wpAnyH_take (i := 2) (v := .pointer (some ⟨g, k * 89 + 22, none⟩)) rfl (by kernel_rfl) (by kernel_rfl) (by kernel_rfl) (fun _ _ _ h => h) (Or.inl ⟨by rfl, fun z _ => by simp [go_sem, execOp]⟩) hH ?_
  simp only [List.getElem_toArray, List.getElem_cons_succ, List.getElem_cons_zero, Act.put, List.setIfInBounds_toArray, List.set_cons_zero, List.set_cons_succ]
  refine wpAnyH_take (i := 3) (v := .pointer (some ⟨g, k * 89 + 22 + 9, none⟩)) rfl (by kernel_rfl) (by kernel_rfl) (by kernel_rfl) (fun _ _ _ h => h) (Or.inl ⟨by rfl, fun z _ => by simp [go_sem, execOp]⟩) hH ?_
  simp only [List.getElem_toArray, List.getElem_cons_succ, List.getElem_cons_zero, Act.put, List.setIfInBounds_toArray, List.set_cons_zero, List.set_cons_succ]
  refine wpAnyH_take (i := 4) (v := .bool true) rfl (by kernel_rfl) (by kernel_rfl) (by kernel_rfl) (fun _ _ _ h => h) (Or.inl ⟨by rfl, fun z hz => by simp [go_sem, execOp, (show z.cell? ⟨g, k * 89 + 22 + 9, none⟩ = some (.bool true) from (hz.cell (p := ⟨g, k * 89 + 22 + 9, none⟩) hgl).trans c31)]⟩) hH ?_
  simp only [List.getElem_toArray, List.getElem_cons_succ, List.getElem_cons_zero, Act.put, List.setIfInBounds_toArray, List.set_cons_zero, List.set_cons_succ]
  refine wpAnyH_take (i := 5) (v := .bool false) rfl (by kernel_rfl) (by kernel_rfl) (by kernel_rfl) (fun _ _ _ h => h) (Or.inl ⟨by rfl, fun z _ => by simp [go_sem, execOp]⟩) hH ?_
  simp only [List.getElem_toArray, List.getElem_cons_succ, List.getElem_cons_zero, Act.put, List.setIfInBounds_toArray, List.set_cons_zero, List.set_cons_succ]
  refine wpAnyH_take (i := 6) (v := .bool false) rfl (by kernel_rfl) (by kernel_rfl) (by kernel_rfl) (fun _ _ _ h => h) (Or.inl ⟨by rfl, fun z _ => rfl⟩) hH ?_
  simp only [List.getElem_toArray, List.getElem_cons_succ, List.getElem_cons_zero, Act.put, List.setIfInBounds_toArray, List.set_cons_zero, List.set_cons_succ]
  refine wpAnyH_take (i := 7) (v := .pointer (some ⟨g, k * 89, none⟩)) rfl (by kernel_rfl) (by kernel_rfl) (by kernel_rfl) (fun _ _ _ h => h) (Or.inl ⟨by rfl, fun z _ => rfl⟩) hH ?_
  simp only [List.getElem_toArray, List.getElem_cons_succ, List.getElem_cons_zero, Act.put, List.setIfInBounds_toArray, List.set_cons_zero, List.set_cons_succ]
  refine wpAnyH_take (i := 8) (v := .pointer (some ⟨g, k * 89, none⟩)) rfl (by kernel_rfl) (by kernel_rfl) (by kernel_rfl) (fun _ _ _ h => h) (Or.inl ⟨by rfl, fun z _ => by simp [go_sem, execOp]⟩) hH ?_
  simp only [List.getElem_toArray, List.getElem_cons_succ, List.getElem_cons_zero, Act.put, List.setIfInBounds_toArray, List.set_cons_zero, List.set_cons_succ]
  refine wpAnyH_take (i := 9) (v := .pointer (some ⟨g, k * 89 + 6, none⟩)) rfl (by kernel_rfl) (by kernel_rfl) (by kernel_rfl) (fun _ _ _ h => h) (Or.inl ⟨by rfl, fun z _ => by simp [go_sem, execOp]⟩) hH ?_
  simp only [List.getElem_toArray, List.getElem_cons_succ, List.getElem_cons_zero, Act.put, List.setIfInBounds_toArray, List.set_cons_zero, List.set_cons_succ]
  refine wpAnyH_take (i := 10) (v := .pointer (some ⟨g, k * 89 + 6 + 8, none⟩)) rfl (by kernel_rfl) (by kernel_rfl) (by kernel_rfl) (fun _ _ _ h => h) (Or.inl ⟨by rfl, fun z _ => by simp [go_sem, execOp]⟩) hH ?_
  simp only [List.getElem_toArray, List.getElem_cons_succ, List.getElem_cons_zero, Act.put, List.setIfInBounds_toArray, List.set_cons_zero, List.set_cons_succ]
  refine wpAnyH_take (i := 11) (v := .int .i64 ((ps k).i 14)) rfl (by kernel_rfl) (by kernel_rfl) (by kernel_rfl) (fun _ _ _ h => h) (Or.inl ⟨by rfl, fun z hz => by simp [go_sem, execOp, (show z.cell? ⟨g, k * 89 + 6 + 8, none⟩ = some (.int .i64 ((ps k).i 14)) from (hz.cell (p := ⟨g, k * 89 + 6 + 8, none⟩) hgl).trans c14)]⟩) hH ?_
  simp only [List.getElem_toArray, List.getElem_cons_succ, List.getElem_cons_zero, Act.put, List.setIfInBounds_toArray, List.set_cons_zero, List.set_cons_succ]
  refine wpAnyH_take (i := 12) (v := .pointer (some ⟨bx, 0, none⟩)) rfl (by kernel_rfl) (by kernel_rfl) (by kernel_rfl) (fun _ _ _ h => h) (Or.inl ⟨by rfl, fun z _ => rfl⟩) hH ?_
  simp only [List.getElem_toArray, List.getElem_cons_succ, List.getElem_cons_zero, Act.put, List.setIfInBounds_toArray, List.set_cons_zero, List.set_cons_succ]
  refine wpAnyH_take (i := 13) (v := .pointer (some ⟨bx, 0, none⟩)) rfl (by kernel_rfl) (by kernel_rfl) (by kernel_rfl) (fun _ _ _ h => h) (Or.inl ⟨by rfl, fun z _ => by simp [go_sem, execOp]⟩) hH ?_
  simp only [List.getElem_toArray, List.getElem_cons_succ, List.getElem_cons_zero, Act.put, List.setIfInBounds_toArray, List.set_cons_zero, List.set_cons_succ]
  refine wpAnyH_take (i := 14) (v := .pointer (some ⟨bx, 6, none⟩)) rfl (by kernel_rfl) (by kernel_rfl) (by kernel_rfl) (fun _ _ _ h => h) (Or.inl ⟨by rfl, fun z _ => by simp [go_sem, execOp]⟩) hH ?_
  simp only [List.getElem_toArray, List.getElem_cons_succ, List.getElem_cons_zero, Act.put, List.setIfInBounds_toArray, List.set_cons_zero, List.set_cons_succ]
  refine wpAnyH_take (i := 15) (v := .int .i64 (b.r.i 6)) rfl (by kernel_rfl) (by kernel_rfl) (by kernel_rfl) (fun _ _ _ h => h) (Or.inl ⟨by rfl, fun z hz => by simp [go_sem, execOp, (show z.cell? ⟨bx, 6, none⟩ = some (.int .i64 (b.r.i 6)) from (hz.cell (p := ⟨bx, 6, none⟩) hbl).trans b6)]⟩) hH ?_
  simp only [List.getElem_toArray, List.getElem_cons_succ, List.getElem_cons_zero, Act.put, List.setIfInBounds_toArray, List.set_cons_zero, List.set_cons_succ]
  refine wpAnyH_take (i := 16) (v := .bool false) rfl (by kernel_rfl) (by kernel_rfl) (by kernel_rfl) (fun _ _ _ h => h) (Or.inl ⟨by rfl, fun z _ => by simp [go_sem, execOp, d6]⟩) hH ?_
  simp only [List.getElem_toArray, List.getElem_cons_succ, List.getElem_cons_zero, Act.put, List.setIfInBounds_toArray, List.set_cons_zero, List.set_cons_succ]
  refine wpAnyH_take (i := 17) (v := .bool false) rfl (by kernel_rfl) (by kernel_rfl) (by kernel_rfl) (fun _ _ _ h => h) (Or.inl ⟨by rfl, fun z _ => rfl⟩) hH ?_
  simp only [List.getElem_toArray, List.getElem_cons_succ, List.getElem_cons_zero, Act.put, List.setIfInBounds_toArray, List.set_cons_zero, List.set_cons_succ]
  refine wpAnyH_take (i := 18) (v := .bool false) rfl (by kernel_rfl) (by kernel_rfl) (by kernel_rfl) (fun _ _ _ h => h) (Or.inl ⟨by rfl, fun z _ => rfl⟩) hH ?_
  simp only [List.getElem_toArray, List.getElem_cons_succ, List.getElem_cons_zero, Act.put, List.setIfInBounds_toArray, List.set_cons_zero, List.set_cons_succ]
  refine wpAnyH_take (i := 19) (v := .bool true) rfl (by kernel_rfl) (by kernel_rfl) (by kernel_rfl) (fun _ _ _ h => h) (Or.inl ⟨by rfl, fun z _ => rfl⟩) hH ?_
  simp only [List.getElem_toArray, List.getElem_cons_succ, List.getElem_cons_zero, Act.put, List.setIfInBounds_toArray, List.set_cons_zero, List.set_cons_succ]
  refine wpAnyH_take (i := 20) (v := .bool false) rfl (by kernel_rfl) (by kernel_rfl) (by kernel_rfl) (fun _ _ _ h => h) (Or.inl ⟨by rfl, fun z _ => by simp [go_sem, execOp]⟩) hH ?_
  simp only [List.getElem_toArray, List.getElem_cons_succ, List.getElem_cons_zero, Act.put, List.setIfInBounds_toArray, List.set_cons_zero, List.set_cons_succ]
  refine wpAnyH_take (i := 21) (v := .bool false) rfl (by kernel_rfl) (by kernel_rfl) (by kernel_rfl) (fun _ _ _ h => h) (Or.inl ⟨by rfl, fun z _ => rfl⟩) hH ?_
  simp only [List.getElem_toArray, List.getElem_cons_succ, List.getElem_cons_zero, Act.put, List.setIfInBounds_toArray, List.set_cons_zero, List.set_cons_succ]
  refine wpAnyH_done (by kernel_rfl) ?_ _
  clear hH
  go_upto_region 7 with (fail)
  obtain ⟨w2, hw2⟩ : ∃ x, x = w1.drew := ⟨_, rfl⟩
  rw [← hw2]
  have H2 := Lib.hid (show Bst w2 bx g b ps ss fs by rw [hw2]; exact H1.out.below (Below.refl _ _).drew)
  have HO2 := Lib.hid (show Only (fun x => x = g ∨ x = bx) w w2 by rw [hw2]; exact HO1.out.drew)
  clear hw2 c44 c50 c8 c31 c87 c13 c14 c48 f31 f8 f14 f48 b4 b6 b18 hgl hbl HO1 H1 d6
  have H1 := H2
  have hgl := H2.out.p.lt
  have hbl := H2.out.lt
  have b18 : w2.cell? ⟨bx, 18, none⟩ = some (.slice b.ao b.no b.co) := cells_of H2.out.h 18
  have hsc := H2.out.sc.1
  obtain ⟨iS, hiS, hzS, hsS, hbS⟩ := info_parts infoS'
  have HI := Lib.hid (And.intro hiS (And.intro hzS (And.intro hsS hbS)))
  clear hiS hzS hsS hbS
  refine wp_region_last 28 (S := fun w' => Below w2.heap.size w2 w') (by kernel_rfl) (Below.refl _ _).drew (fun hH => ?_)
  refine wpAnyE_take (i := 0) (v := .pointer (some ⟨bx, 0, none⟩)) rfl (by kernel_rfl) (by kernel_rfl) (by kernel_rfl) (by kernel_rfl) (fun _ _ _ h => h) (Or.inl ⟨by rfl, fun z _ => rfl⟩) hH ?_
  simp only [List.getElem_toArray, List.getElem_cons_succ, List.getElem_cons_zero, Act.put, List.setIfInBounds_toArray, List.set_cons_zero, List.set_cons_succ]
  refine wpAnyE_take (i := 1) (v := .pointer (some ⟨bx, 0, none⟩)) rfl (by kernel_rfl) (by kernel_rfl) (by kernel_rfl) (by kernel_rfl) (fun _ _ _ h => h) (Or.inl ⟨by rfl, fun z _ => rfl⟩) hH ?_
  simp only [List.getElem_toArray, List.getElem_cons_succ, List.getElem_cons_zero, Act.put, List.setIfInBounds_toArray, List.set_cons_zero, List.set_cons_succ]
  refine wpAnyE_take (i := 2) (v := .pointer (some ⟨bx, 0, none⟩)) rfl (by kernel_rfl) (by kernel_rfl) (by kernel_rfl) (by kernel_rfl) (fun _ _ _ h => h) (Or.inl ⟨by rfl, fun z _ => by simp [go_sem, execOp]⟩) hH ?_
  simp only [List.getElem_toArray, List.getElem_cons_succ, List.getElem_cons_zero, Act.put, List.setIfInBounds_toArray, List.set_cons_zero, List.set_cons_succ]
  refine wpAnyE_take (i := 3) (v := .pointer (some ⟨bx, 18, none⟩)) rfl (by kernel_rfl) (by kernel_rfl) (by kernel_rfl) (by kernel_rfl) (fun _ _ _ h => h) (Or.inl ⟨by rfl, fun z _ => by simp [go_sem, execOp]⟩) hH ?_
  simp only [List.getElem_toArray, List.getElem_cons_succ, List.getElem_cons_zero, Act.put, List.setIfInBounds_toArray, List.set_cons_zero, List.set_cons_succ]
  refine wpAnyE_take (i := 4) (v := .slice b.ao b.no b.co) rfl (by kernel_rfl) (by kernel_rfl) (by kernel_rfl) (by kernel_rfl) (fun _ _ _ h => h) (Or.inl ⟨by rfl, fun z hz => by simp [go_sem, execOp, (show z.cell? ⟨bx, 18, none⟩ = some (.slice b.ao b.no b.co) from (hz.cell (p := ⟨bx, 18, none⟩) hbl).trans b18)]⟩) hH ?_
  simp only [List.getElem_toArray, List.getElem_cons_succ, List.getElem_cons_zero, Act.put, List.setIfInBounds_toArray, List.set_cons_zero, List.set_cons_succ]
  refine wpAnyE_take (i := 5) (v := .pointer (some ⟨bx, 0, none⟩)) rfl (by kernel_rfl) (by kernel_rfl) (by kernel_rfl) (by kernel_rfl) (fun _ _ _ h => h) (Or.inl ⟨by rfl, fun z _ => rfl⟩) hH ?_
  simp only [List.getElem_toArray, List.getElem_cons_succ, List.getElem_cons_zero, Act.put, List.setIfInBounds_toArray, List.set_cons_zero, List.set_cons_succ]
  refine wpAnyE_take (i := 6) (v := .pointer (some ⟨bx, 0, none⟩)) rfl (by kernel_rfl) (by kernel_rfl) (by kernel_rfl) (by kernel_rfl) (fun _ _ _ h => h) (Or.inl ⟨by rfl, fun z _ => by simp [go_sem, execOp]⟩) hH ?_
  simp only [List.getElem_toArray, List.getElem_cons_succ, List.getElem_cons_zero, Act.put, List.setIfInBounds_toArray, List.set_cons_zero, List.set_cons_succ]
  refine wpAnyE_take (i := 7) (v := .pointer (some ⟨bx, 18, none⟩)) rfl (by kernel_rfl) (by kernel_rfl) (by kernel_rfl) (by kernel_rfl) (fun _ _ _ h => h) (Or.inl ⟨by rfl, fun z _ => by simp [go_sem, execOp]⟩) hH ?_
  simp only [List.getElem_toArray, List.getElem_cons_succ, List.getElem_cons_zero, Act.put, List.setIfInBounds_toArray, List.set_cons_zero, List.set_cons_succ]
  refine wpAnyE_take (i := 8) (v := .slice b.ao b.no b.co) rfl (by kernel_rfl) (by kernel_rfl) (by kernel_rfl) (by kernel_rfl) (fun _ _ _ h => h) (Or.inl ⟨by rfl, fun z hz => by simp [go_sem, execOp, (show z.cell? ⟨bx, 18, none⟩ = some (.slice b.ao b.no b.co) from (hz.cell (p := ⟨bx, 18, none⟩) hbl).trans b18)]⟩) hH ?_
  simp only [List.getElem_toArray, List.getElem_cons_succ, List.getElem_cons_zero, Act.put, List.setIfInBounds_toArray, List.set_cons_zero, List.set_cons_succ]
  refine wpAnyE_take (i := 9) (v := .int .i64 b.no) rfl (by kernel_rfl) (by kernel_rfl) (by kernel_rfl) (by kernel_rfl) (fun _ _ _ h => h) (Or.inl ⟨by rfl, fun z _ => by simp [go_sem, execOp]⟩) hH ?_
  simp only [List.getElem_toArray, List.getElem_cons_succ, List.getElem_cons_zero, Act.put, List.setIfInBounds_toArray, List.set_cons_zero, List.set_cons_succ]
  refine wpAnyE_take (i := 10) (v := .pointer (some ⟨bx, 0, none⟩)) rfl (by kernel_rfl) (by kernel_rfl) (by kernel_rfl) (by kernel_rfl) (fun _ _ _ h => h) (Or.inl ⟨by rfl, fun z _ => rfl⟩) hH ?_
  simp only [List.getElem_toArray, List.getElem_cons_succ, List.getElem_cons_zero, Act.put, List.setIfInBounds_toArray, List.set_cons_zero, List.set_cons_succ]
  refine wpAnyE_take (i := 11) (v := .pointer (some ⟨bx, 0, none⟩)) rfl (by kernel_rfl) (by kernel_rfl) (by kernel_rfl) (by kernel_rfl) (fun _ _ _ h => h) (Or.inl ⟨by rfl, fun z _ => by simp [go_sem, execOp]⟩) hH ?_
  simp only [List.getElem_toArray, List.getElem_cons_succ, List.getElem_cons_zero, Act.put, List.setIfInBounds_toArray, List.set_cons_zero, List.set_cons_succ]
  refine wpAnyE_take (i := 12) (v := .pointer (some ⟨bx, 18, none⟩)) rfl (by kernel_rfl) (by kernel_rfl) (by kernel_rfl) (by kernel_rfl) (fun _ _ _ h => h) (Or.inl ⟨by rfl, fun z _ => by simp [go_sem, execOp]⟩) hH ?_
  simp only [List.getElem_toArray, List.getElem_cons_succ, List.getElem_cons_zero, Act.put, List.setIfInBounds_toArray, List.set_cons_zero, List.set_cons_succ]
  refine wpAnyE_take (i := 13) (v := .slice b.ao b.no b.co) rfl (by kernel_rfl) (by kernel_rfl) (by kernel_rfl) (by kernel_rfl) (fun _ _ _ h => h) (Or.inl ⟨by rfl, fun z hz => by simp [go_sem, execOp, (show z.cell? ⟨bx, 18, none⟩ = some (.slice b.ao b.no b.co) from (hz.cell (p := ⟨bx, 18, none⟩) hbl).trans b18)]⟩) hH ?_
  simp only [List.getElem_toArray, List.getElem_cons_succ, List.getElem_cons_zero, Act.put, List.setIfInBounds_toArray, List.set_cons_zero, List.set_cons_succ]
  refine wpAnyE_take (i := 14) (v := .int .i64 b.no) rfl (by kernel_rfl) (by kernel_rfl) (by kernel_rfl) (by kernel_rfl) (fun _ _ _ h => h) (Or.inl ⟨by rfl, fun z _ => by simp [go_sem, execOp]⟩) hH ?_
  simp only [List.getElem_toArray, List.getElem_cons_succ, List.getElem_cons_zero, Act.put, List.setIfInBounds_toArray, List.set_cons_zero, List.set_cons_succ]
  refine wpAnyE_take (i := 15) (v := .slice b.ao b.no b.no) rfl (by kernel_rfl) (by kernel_rfl) (by kernel_rfl) (by kernel_rfl) (fun _ _ _ h => h) (Or.inl ⟨by rfl, fun z _ => exec_slice _ _ _ rfl b.ao b.no b.co rfl rfl rfl hsc⟩) hH ?_
  simp only [List.getElem_toArray, List.getElem_cons_succ, List.getElem_cons_zero, Act.put, List.setIfInBounds_toArray, List.set_cons_zero, List.set_cons_succ]
  refine wpAnyE_take (i := 16) (v := .int .i64 k) rfl (by kernel_rfl) (by kernel_rfl) (by kernel_rfl) (by kernel_rfl) (fun _ _ _ h => h) (Or.inl ⟨by rfl, fun z _ => rfl⟩) hH ?_
  simp only [List.getElem_toArray, List.getElem_cons_succ, List.getElem_cons_zero, Act.put, List.setIfInBounds_toArray, List.set_cons_zero, List.set_cons_succ]
  refine wpAnyE_take (i := 17) (v := .pointer (some ⟨bx, 0, none⟩)) rfl (by kernel_rfl) (by kernel_rfl) (by kernel_rfl) (by kernel_rfl) (fun _ _ _ h => h) (Or.inl ⟨by rfl, fun z _ => rfl⟩) hH ?_
  simp only [List.getElem_toArray, List.getElem_cons_succ, List.getElem_cons_zero, Act.put, List.setIfInBounds_toArray, List.set_cons_zero, List.set_cons_succ]
  refine wpAnyE_take (i := 18) (v := .pointer (some ⟨bx, 0, none⟩)) rfl (by kernel_rfl) (by kernel_rfl) (by kernel_rfl) (by kernel_rfl) (fun _ _ _ h => h) (Or.inl ⟨by rfl, fun z _ => by simp [go_sem, execOp]⟩) hH ?_
  simp only [List.getElem_toArray, List.getElem_cons_succ, List.getElem_cons_zero, Act.put, List.setIfInBounds_toArray, List.set_cons_zero, List.set_cons_succ]
  refine wpAnyE_take (i := 19) rfl (by kernel_rfl) (by kernel_rfl) (by kernel_rfl) (by kernel_rfl) (fun _ _ _ h => h) ((yieldsIf_load_mid (by rfl) 33 _ rfl bx (0) rfl (rowB b).toList _ (row_heldB H2.out.h hbl) Try.underlying33 rfl (sizeB _))) hH ?_
  simp only [List.getElem_toArray, List.getElem_cons_succ, List.getElem_cons_zero, Act.put, List.setIfInBounds_toArray, List.set_cons_zero, List.set_cons_succ]
  refine wpAnyE_take (i := 20) (v := .int .i64 k) rfl (by kernel_rfl) (by kernel_rfl) (by kernel_rfl) (by kernel_rfl) (fun _ _ _ h => h) (Or.inl ⟨by rfl, fun z _ => rfl⟩) hH ?_
  simp only [List.getElem_toArray, List.getElem_cons_succ, List.getElem_cons_zero, Act.put, List.setIfInBounds_toArray, List.set_cons_zero, List.set_cons_succ]
  refine wpAnyE_take (i := 21) (v := .int .i64 kd1) rfl (by kernel_rfl) (by kernel_rfl) (by kernel_rfl) (by kernel_rfl) (fun _ _ _ h => h) (Or.inl ⟨by rfl, fun z _ => rfl⟩) hH ?_
  simp only [List.getElem_toArray, List.getElem_cons_succ, List.getElem_cons_zero, Act.put, List.setIfInBounds_toArray, List.set_cons_zero, List.set_cons_succ]
  refine wpAnyE_ready (i := 22) (by kernel_rfl) rfl (by decide) (fun K hK => ?_)
  go_simp
  refine (msg_any b ps k kd1 w2.drew ?_ hk).mono ?_
  · exact (H2.out.p.view.below (Below.refl _ _).drew).of_ap H2.out.ap
  rintro e w3 ⟨rfl, hb3⟩
  have h23 : Below w2.heap.size w2 w3 := (Below.refl w2.heap.size w2).drew.trans hb3
  refine hK.out _ _ h23 (fun hH3 => ?_)
  clear hK K hb3 hH
  refine wpAnyE_take (i := 23) (v := .agg (rowS ((msgF (ps k) kd1).setI 0 k))) rfl (by kernel_rfl) (by kernel_rfl) (by kernel_rfl) (by kernel_rfl) (fun _ _ _ h => h) (Or.inl ⟨by rfl, fun z _ => by kernel_rfl⟩) hH3 ?_
  simp only [List.getElem_toArray, List.getElem_cons_succ, List.getElem_cons_zero, Act.put, List.setIfInBounds_toArray, List.set_cons_zero, List.set_cons_succ]
  refine wpAnyE_ready (i := 24) (by kernel_rfl) rfl (by decide) (fun K hK => ?_)
  rw [if_pos (by rfl)]
  refine wp_buildSlice 30 1 _ rfl _ _ (mkS ((msgF (ps k) kd1).setI 0 k) w3) (by kernel_rfl) ?_
  obtain ⟨w4, hw4⟩ : ∃ x, x = w3.alloc (.cells (rowS ((msgF (ps k) kd1).setI 0 k)) 56) := ⟨_, rfl⟩
  obtain ⟨gs, hgs⟩ : ∃ x, x = w3.heap.size := ⟨_, rfl⟩
  have h24 : Below w2.heap.size w2 w4 := by rw [hw4]; exact h23.alloc h23.size _
  have hg4 : w4.heap[gs]? = some (.cells (rowS ((msgF (ps k) kd1).setI 0 k)) 56 (0, 0)) := by rw [hw4, hgs]; exact heap_alloc_new _ _
  rw [← hw4, ← hgs]
  have HG4 := Lib.hid hg4
  refine hK.out _ _ h24 (fun hH4 => ?_)
  simp only [List.getElem_toArray, List.getElem_cons_succ, List.getElem_cons_zero, Act.put, List.setIfInBounds_toArray, List.set_cons_zero, List.set_cons_succ]
  clear hK K hw4 hgs hg4 h23 hH3
  refine wpAnyE_ready (i := 25) (by kernel_rfl) rfl (by decide) (fun K hK => ?_)
  rw [if_pos (by rfl)]
  refine wp_append_full (.tmp 108) (.tmp 117) 30 rfl 56 iS _ 18 96 Try.underlying30 HI.out.1 HI.out.2.1 HI.out.2.2.1 HI.out.2.2.2 rfl (by decide) b.ao b.no (fun k j => cellS (ss k) j) rfl (H2.out.s.keep (fun _ _ _ hg => h24.block _ hg)) (fun e => (H2.out.so e).1) (fun j => cellS ((msgF (ps k) kd1).setI 0 k) j) ⟨gs, 0, none⟩ 1 rfl (fun j hj => by
    rw [Addr.add_mid, Nat.zero_add, cells_of HG4.out]
    exact rowS_get hj) (fun j hj => cellS_one _ _ hj) (by unfold maxLen; omega) (by omega) ?_
  intro go' co' w5 hgo hown hb5
  have h25 : Below w2.heap.size w2 w5 := h24.trans (hb5.mono h24.size)
  have hgo2 : w2.heap.size ≤ go' := Nat.le_trans h24.size hgo
  have hown' := own_congr hown (d := fun x j => cellS ((fun j => if j = b.no then (msgF (ps k) kd1).setI 0 k else ss j) x) j) (by decide) (fun x j hx hj => by
    by_cases e : x < b.no
    · simp only [if_pos e, if_neg (show ¬ x = b.no by omega)]
    · obtain rfl : x = b.no := by omega
      simp only [if_neg e, if_true])
  have Hown := Lib.hid hown'
  have H5 := Lib.hid (H2.out.below h25)
  have HO5 := Lib.hid (HO2.out.trans (Only.of_below h25))
  have HB5 := Lib.hid h25
  refine hK.out _ _ h25 (fun hH5 => ?_)
  simp only [List.getElem_toArray, List.getElem_cons_succ, List.getElem_cons_zero, Act.put, List.setIfInBounds_toArray, List.set_cons_zero, List.set_cons_succ]
  clear hK K hown hown' hb5 h24 h25 hH4
  refine wpAnyE_take (i := 26) (v := .pointer (some ⟨bx, 0, none⟩)) rfl (by kernel_rfl) (by kernel_rfl) (by kernel_rfl) (by kernel_rfl) (fun _ _ _ h => h) (Or.inl ⟨by rfl, fun z _ => by simp [go_sem, execOp]⟩) hH5 ?_
  simp only [List.getElem_toArray, List.getElem_cons_succ, List.getElem_cons_zero, Act.put, List.setIfInBounds_toArray, List.set_cons_zero, List.set_cons_succ]
  refine wpAnyE_take (i := 27) (v := .pointer (some ⟨bx, 18, none⟩)) rfl (by kernel_rfl) (by kernel_rfl) (by kernel_rfl) (by kernel_rfl) (fun _ _ _ h => h) (Or.inl ⟨by rfl, fun z _ => by simp [go_sem, execOp]⟩) hH5 ?_
  simp only [List.getElem_toArray, List.getElem_cons_succ, List.getElem_cons_zero, Act.put, List.setIfInBounds_toArray, List.set_cons_zero, List.set_cons_succ]
  refine wpAnyE_last (by kernel_rfl) rfl (fun K hK => ?_)
  have hbl5 := H5.out.lt
  have b18' : w5.cell? ⟨bx, 18, none⟩ = some (.slice b.ao b.no b.co) := cells_of H5.out.h 18
  have bf18 : w5.frozen? ⟨bx, 18, none⟩ = false := free_block H5.out.h 18
  clear hH5
  go_simp
  refine hK.out _ _ ?_
  clear hK K
  refine wpAnyE_done (by kernel_rfl) ?_ _
  obtain ⟨w6, hw6⟩ : ∃ x, x = w5.setCell ⟨bx, 18, none⟩ (.slice (some ⟨go', 0, none⟩) (b.no + 1) co') := ⟨_, rfl⟩
  rw [← hw6]
  have H6 := Lib.hid (show Bst w6 bx g (outB b (some ⟨go', 0, none⟩) (b.no + 1) co') ps (fun j => if j = b.no then (msgF (ps k) kd1).setI 0 k else ss j) fs by rw [hw6]; exact H5.out.out Hown.out (by omega) (by omega))
  have HO6 := Lib.hid (show Only (fun x => x = g ∨ x = bx) w w6 by rw [hw6]; exact HO5.out.setCell (Or.inl (.inr rfl)) _)
  have hgoW : w.heap.size ≤ go' := Nat.le_trans HO2.out.size hgo2
  clear hw6 hbl5 b18' bf18 H5 HO5 HB5 HI HG4 Hown hgl hbl b18 hsc H1 H2 HO2 hgo hgo2
  have hgl := H6.out.p.lt
  have hbl := H6.out.lt
  have b4 : w6.cell? ⟨bx, 4, none⟩ = some (.int .i64 (b.r.i 4)) := cells_of H6.out.h 4
  have c31 : w6.cell? ⟨g, k * 89 + 22 + 9, none⟩ = some (.bool ((ps k).b 31)) := H6.out.p.cell hk (j := 31) (by omega)
  have f31 : w6.frozen? ⟨g, k * 89 + 22 + 9, none⟩ = false := H6.out.p.free _
  have c14 : w6.cell? ⟨g, k * 89 + 6 + 8, none⟩ = some (.int .i64 ((ps k).i 14)) := H6.out.p.cell hk (j := 14) (by omega)
  have f14 : w6.frozen? ⟨g, k * 89 + 6 + 8, none⟩ = false := H6.out.p.free _
  have c48 : w6.cell? ⟨g, k * 89 + 22 + 26, none⟩ = some (.bool ((ps k).b 48)) := H6.out.p.cell hk (j := 48) (by omega)
  have f48 : w6.frozen? ⟨g, k * 89 + 22 + 26, none⟩ = false := H6.out.p.free _
  have c8 : w6.cell? ⟨g, k * 89 + 6 + 2, none⟩ = some (.int .i64 ((ps k).i 8)) := H6.out.p.cell hk (j := 8) (by omega)
  have f8 : w6.frozen? ⟨g, k * 89 + 6 + 2, none⟩ = false := H6.out.p.free _
  have hn14 : IntKind.i64.wrap ((ps k).i 14 + 1) = (ps k).i 14 + 1 := by unfold IntKind.wrap; simp [IntKind.signed, IntKind.bits]; omega
  cases h48 : (ps k).b 48 with
  | true =>
    rw [h48] at c48 He
    rw [← Hkd.out] at He
    have He' := Lib.hid He.out
    clear He h48 Hkd
    go_wp2_with fail
    go_step3
    go_wp2_with fail
    go_ret
    exact ⟨some ⟨go', 0, none⟩, co', .inr ⟨go', rfl, hgoW⟩, by rw [He'.out]; rfl, by unfold sentN sentS; rw [He'.out]; exact ((((H6.out.start k).put (j := 31) (by omega) (rowP_put_31 _ _)).put (j := 14) (by omega) (rowP_put_14 _ _)).put (j := 48) (by omega) (rowP_put_48 _ _)).put (j := 8) (by omega) (rowP_put_8 _ _), (((HO6.out.setCell (Or.inl (.inl rfl)) _).setCell (Or.inl (.inl rfl)) _).setCell (Or.inl (.inl rfl)) _).setCell (Or.inl (.inl rfl)) _⟩
  | false =>
    rw [h48] at c48 He
    rw [← Hkd.out] at He
    have He' := Lib.hid He.out
    clear He h48 Hkd
    go_wp2_with fail
    go_step3
    go_wp2_with fail
    go_ret
    exact ⟨some ⟨go', 0, none⟩, co', .inr ⟨go', rfl, hgoW⟩, by rw [He'.out]; rfl, by unfold sentN sentS; rw [He'.out]; exact ((((H6.out.start k).put (j := 31) (by omega) (rowP_put_31 _ _)).put (j := 14) (by omega) (rowP_put_14 _ _)).put (j := 48) (by omega) (rowP_put_48 _ _)).put (j := 8) (by omega) (rowP_put_8 _ _), (((HO6.out.setCell (Or.inl (.inl rfl)) _).setCell (Or.inl (.inl rfl)) _).setCell (Or.inl (.inl rfl)) _).setCell (Or.inl (.inl rfl)) _⟩
end Go.Proofs.Ytmlhbfkmnbhoeaa.Br
