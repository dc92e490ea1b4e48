/- Chapter 15: the document's designated: the first row of a designated port; the document's waiting times. Condition: the bridge lies in memory. -/
import Derived.Test.YtdangeefecdbaaaTr12
import Derived.Test.YtdangeefecdbaaaTr13
set_option linter.unusedSimpArgs false
set_option linter.unusedVariables false
namespace Go.Proofs.Ytdangeefecdbaaa.Br
open Go.RowKit
theorem reffwd_any {w : World} {bx g k : Nat} {b : Bri} {ps ss : Nat → Rec} {fs : Nat → Int} {p : Rec} (h : Bst w bx g b (upd ps k p) ss fs) (hk : k < b.n) : Calls Try.prog 20 #[.agg (rowB b), .int .i64 k] w fun e w' => e = .returned (.int .i64 (fwdN b p)) ∧ Below w.heap.size w w' := by
  have := refforward_any b (upd ps k p) k w h.portsV hk
  rw [upd_same] at this
  exact this
theorem refedgedelay_any {w : World} {bx g k : Nat} {b : Bri} {ps ss : Nat → Rec} {fs : Nat → Int} {p : Rec} (h : Bst w bx g b (upd ps k p) ss fs) (hk : k < b.n) : Calls Try.prog 37 #[.agg (rowB b), .int .i64 k] w fun e w' => e = .returned (.int .i64 (edgeN b p)) ∧ Below w.heap.size w w' := by
  have := refedge_any b (upd ps k p) k w h.portsV hk
  rw [upd_same] at this
  exact this
/-- A port's flags, as cells. -/
def rowF (r : Rec) : Array Value := #[.bool (r.b 22), .bool (r.b 23), .bool (r.b 24), .bool (r.b 25), .bool (r.b 26), .bool (r.b 27), .bool (r.b 28), .bool (r.b 29), .bool (r.b 30), .bool (r.b 31), .bool (r.b 32), .bool (r.b 33), .bool (r.b 34), .bool (r.b 35), .bool (r.b 36), .bool (r.b 37), .bool (r.b 38), .bool (r.b 39), .bool (r.b 40), .bool (r.b 41), .bool (r.b 42), .bool (r.b 43), .bool (r.b 44), .bool (r.b 45), .bool (r.b 46), .bool (r.b 47), .bool (r.b 48), .bool (r.b 49), .bool (r.b 50)]
theorem rowF_get (r : Rec) : ∀ j, j < 29 → (rowF r)[j]? = some (cellP r (22 + j))
  | 0, _ => rfl
  | 1, _ => rfl
  | 2, _ => rfl
  | 3, _ => rfl
  | 4, _ => rfl
  | 5, _ => rfl
  | 6, _ => rfl
  | 7, _ => rfl
  | 8, _ => rfl
  | 9, _ => rfl
  | 10, _ => rfl
  | 11, _ => rfl
  | 12, _ => rfl
  | 13, _ => rfl
  | 14, _ => rfl
  | 15, _ => rfl
  | 16, _ => rfl
  | 17, _ => rfl
  | 18, _ => rfl
  | 19, _ => rfl
  | 20, _ => rfl
  | 21, _ => rfl
  | 22, _ => rfl
  | 23, _ => rfl
  | 24, _ => rfl
  | 25, _ => rfl
  | 26, _ => rfl
  | 27, _ => rfl
  | 28, _ => rfl
  | j + 29, h => absurd h (by omega)
theorem sizeF (r : Rec) : (Try.prog.info? 43).map (·.size) = some (rowF r).size := by kernel_rfl
theorem rowF_one (r : Rec) : (rowF r).all (·.oneCell') = true := by kernel_rfl
theorem rangeF {w : World} {g n k : Nat} {ps : Nat → Rec} {p : Rec} (h : Ports w g n (upd ps k p)) (hk : k < n) : w.rangeAt g (k * 89 + 22) (rowF p).toList := fun j v hv => by
  rw [Array.getElem?_toList] at hv
  have hj : j < 29 := (Array.getElem?_eq_some_iff.1 hv).1
  rw [rowF_get p j hj] at hv
  have := h.cell hk (j := 22 + j) (by omega)
  rw [upd_same] at this
  rw [Nat.add_assoc, this, hv]
set_option maxRecDepth 100000 in
set_option maxHeartbeats 8000000 in
theorem refdes_any (w : World) (bx g k : Nat) (b : Bri) (ps ss : Nat → Rec) (fs : Nat → Int) (p : Rec) (h : Bst w bx g b (upd ps k p) ss fs) (hk : k < b.n) : Calls Try.prog 24 #[.pointer (some ⟨bx, 0, none⟩), .int .i64 k, .pointer (some ⟨g, k * 89, none⟩), .int .i64 (fwdN b p)] w fun e w' => e = .returned (.bool (firstOn (desL b k p ps)).isSome) ∧ Bst w' bx g b ((firstOn (desL b k p ps)).getD (upd ps k p)) ss fs ∧ Only (· = g) w w' := by
  obtain ⟨T, hT0⟩ : ∃ T, T = firstOn (desL b k p ps) := ⟨_, rfl⟩
  rw [← hT0]
  have HT0 := Lib.hid (show T = (bif ((!p.b 26 && !p.b 23) && !p.b 34) && !p.b 32 then some (upd ps k (propF b p)) else (bif (!p.b 47 && ((quietF p || p.b 23) || p.b 32)) || (p.b 47 && p.b 46) then some (upd ps k (syncedF p)) else (bif p.b 42 && p.i 12 == 0 then some (upd ps k (p.setB 42 false)) else (bif ((p.b 28 || p.b 26) && !p.b 32) && stopD p then some (upd ps k (stopF b p)) else (bif onD p && !p.b 28 then some (upd ps k ((p.setB 28 true).setI 7 (fwdN b p))) else (bif (onD p && p.b 28) && !p.b 26 then some (upd ps k (openF p)) else none)))))) from hT0)
  clear hT0
  have H1 := Lib.hid h
  have hr := rangeF h.p hk
  have hg1 := h.p.lt
  clear h
  go_enter Try.func24, Try.ntmps24
  go_upto_region 2 with (first | (refine wpList_row rfl 43 _ rfl g (k * 89 + 22) rfl (rowF p) _ hr Try.underlying43 rfl (sizeF _) ?_; simp only [Act.put, List.setIfInBounds_toArray, List.set_cons_zero, List.set_cons_succ]) | (refine wpList_store_new rfl 43 _ _ rfl w (rowF zeroR) 43 _ rfl rfl rfl (sizeF _) rfl (rowF_one _) ?_; simp only [Act.put]) | fail)
  refine ((?_ : ∀ x, x = w.alloc (.cells (rowF p) 43) → Code.wp _ _ _ _ x) _ rfl)
  intro w2 hw2
  obtain ⟨gv, hgv⟩ : ∃ x, x = w.heap.size := ⟨_, rfl⟩
  rw [← hgv]
  have hv := show w2.heap[gv]? = some (.cells (rowF p) 43 (0, 0)) by rw [hw2, hgv]; exact heap_alloc_new _ _
  have hbw : Below w.heap.size w w2 := by rw [hw2]; exact more (Below.refl _ _) _
  have H2 := Lib.hid (H1.out.below hbw)
  have HO2 := Lib.hid (show Only (· = g) w w2 from Only.of_below hbw)
  have HV := Lib.hid hv
  have nvg : ¬ gv = g := by omega
  clear hr hg1 hw2 hbw hv hgv
  have v23 : w2.cell? ⟨gv, 1, none⟩ = some (.bool (p.b 23)) := cells_of HV.out 1
  have v24 : w2.cell? ⟨gv, 2, none⟩ = some (.bool (p.b 24)) := cells_of HV.out 2
  have v26 : w2.cell? ⟨gv, 4, none⟩ = some (.bool (p.b 26)) := cells_of HV.out 4
  have v27 : w2.cell? ⟨gv, 5, none⟩ = some (.bool (p.b 27)) := cells_of HV.out 5
  have v28 : w2.cell? ⟨gv, 6, none⟩ = some (.bool (p.b 28)) := cells_of HV.out 6
  have v29 : w2.cell? ⟨gv, 7, none⟩ = some (.bool (p.b 29)) := cells_of HV.out 7
  have v32 : w2.cell? ⟨gv, 10, none⟩ = some (.bool (p.b 32)) := cells_of HV.out 10
  have v34 : w2.cell? ⟨gv, 12, none⟩ = some (.bool (p.b 34)) := cells_of HV.out 12
  have v42 : w2.cell? ⟨gv, 20, none⟩ = some (.bool (p.b 42)) := cells_of HV.out 20
  have v45 : w2.cell? ⟨gv, 23, none⟩ = some (.bool (p.b 45)) := cells_of HV.out 23
  have v46 : w2.cell? ⟨gv, 24, none⟩ = some (.bool (p.b 46)) := cells_of HV.out 24
  have v47 : w2.cell? ⟨gv, 25, none⟩ = some (.bool (p.b 47)) := cells_of HV.out 25
  have c7 : w2.cell? ⟨g, k * 89 + 6 + 1, none⟩ = some (.int .i64 (p.i 7)) := (H2.out.p.cell hk (j := 7) (by omega)).trans (by rw [upd_same]; rfl)
  have c12 : w2.cell? ⟨g, k * 89 + 6 + 6, none⟩ = some (.int .i64 (p.i 12)) := (H2.out.p.cell hk (j := 12) (by omega)).trans (by rw [upd_same]; rfl)
  go_upto_region 2 with (fail)
  obtain ⟨qo20, hqo20⟩ : ∃ x : Bool, x = ((p.i 7) == 0) := ⟨_, rfl⟩
  have Hqo20 := Lib.hid hqo20
  clear hqo20
  obtain ⟨qo24, hqo24⟩ : ∃ x : Bool, x = (qo20 || (p.b 23)) := ⟨_, rfl⟩
  have Hqo24 := Lib.hid hqo24
  clear hqo24
  obtain ⟨qo28, hqo28⟩ : ∃ x : Bool, x = (qo24 || (p.b 32)) := ⟨_, rfl⟩
  have Hqo28 := Lib.hid hqo28
  clear hqo28
  obtain ⟨qo35, hqo35⟩ : ∃ x : Bool, x = ((p.i 12) == 0) := ⟨_, rfl⟩
  have Hqo35 := Lib.hid hqo35
  clear hqo35
  obtain ⟨qo39, hqo39⟩ : ∃ x : Bool, x = (!(p.b 42)) := ⟨_, rfl⟩
  have Hqo39 := Lib.hid hqo39
  clear hqo39
  obtain ⟨qo40, hqo40⟩ : ∃ x : Bool, x = (qo35 || qo39) := ⟨_, rfl⟩
  have Hqo40 := Lib.hid hqo40
  clear hqo40
  obtain ⟨qo41, hqo41⟩ : ∃ x : Bool, x = (qo28 && qo40) := ⟨_, rfl⟩
  have Hqo41 := Lib.hid hqo41
  clear hqo41
  obtain ⟨qo45, hqo45⟩ : ∃ x : Bool, x = (!(p.b 46)) := ⟨_, rfl⟩
  have Hqo45 := Lib.hid hqo45
  clear hqo45
  obtain ⟨qo46, hqo46⟩ : ∃ x : Bool, x = (qo41 && qo45) := ⟨_, rfl⟩
  have Hqo46 := Lib.hid hqo46
  clear hqo46
  refine wp_region_lit ?_
  refine wpList_val (by kernel_rfl) (.pointer (some ⟨g, k * 89, none⟩)) (by kernel_rfl) ?_
  simp only [List.getElem_toArray, List.getElem_cons_succ, List.getElem_cons_zero, Act.put, List.setIfInBounds_toArray, List.set_cons_zero, List.set_cons_succ]
  refine wpList_val (by kernel_rfl) (.pointer (some ⟨g, k * 89, none⟩)) (by simp [go_sem, execOp]) ?_
  simp only [List.getElem_toArray, List.getElem_cons_succ, List.getElem_cons_zero, Act.put, List.setIfInBounds_toArray, List.set_cons_zero, List.set_cons_succ]
  refine wpList_val (by kernel_rfl) (.pointer (some ⟨g, k * 89 + 6, none⟩)) (by simp [go_sem, execOp]) ?_
  simp only [List.getElem_toArray, List.getElem_cons_succ, List.getElem_cons_zero, Act.put, List.setIfInBounds_toArray, List.set_cons_zero, List.set_cons_succ]
  refine wpList_val (by kernel_rfl) (.pointer (some ⟨g, k * 89 + 6 + 1, none⟩)) (by simp [go_sem, execOp]) ?_
  simp only [List.getElem_toArray, List.getElem_cons_succ, List.getElem_cons_zero, Act.put, List.setIfInBounds_toArray, List.set_cons_zero, List.set_cons_succ]
  refine wpList_val (by kernel_rfl) (.int .i64 (p.i 7)) (by simp [go_sem, execOp, (show w2.cell? ⟨g, k * 89 + 6 + 1, none⟩ = some (.int .i64 (p.i 7)) from c7)]) ?_
  simp only [List.getElem_toArray, List.getElem_cons_succ, List.getElem_cons_zero, Act.put, List.setIfInBounds_toArray, List.set_cons_zero, List.set_cons_succ]
  refine wpList_val (by kernel_rfl) (.bool qo20) (by rw [Hqo20.out]; simp [go_sem, execOp]) ?_
  simp only [List.getElem_toArray, List.getElem_cons_succ, List.getElem_cons_zero, Act.put, List.setIfInBounds_toArray, List.set_cons_zero, List.set_cons_succ]
  refine wpList_val (by kernel_rfl) (.bool qo20) (by kernel_rfl) ?_
  simp only [List.getElem_toArray, List.getElem_cons_succ, List.getElem_cons_zero, Act.put, List.setIfInBounds_toArray, List.set_cons_zero, List.set_cons_succ]
  refine wpList_bif (c := (!qo20)) (v := .pointer (some ⟨gv, 1, none⟩)) (wanted_f rfl (by kernel_rfl)) (fun hc => by have h0 := notT (hc); simp [go_sem, execOp, h0]) ?_
  simp only [List.getElem_toArray, List.getElem_cons_succ, List.getElem_cons_zero, Act.put, List.setIfInBounds_toArray, List.set_cons_zero, List.set_cons_succ]
  refine wpList_bif (c := (!qo20)) (v := .bool (p.b 23)) (wanted_f rfl (by kernel_rfl)) (fun hc => by have h0 := notT (hc); simp [go_sem, execOp, h0, (show w2.cell? ⟨gv, 1, none⟩ = some (.bool (p.b 23)) from v23)]) ?_
  simp only [List.getElem_toArray, List.getElem_cons_succ, List.getElem_cons_zero, Act.put, List.setIfInBounds_toArray, List.set_cons_zero, List.set_cons_succ]
  refine wpList_val (by kernel_rfl) (.bool qo24) (by rw [Hqo24.out]; cases hA : qo20 <;> simp [go_sem, execOp, hA]) ?_
  simp only [List.getElem_toArray, List.getElem_cons_succ, List.getElem_cons_zero, Act.put, List.setIfInBounds_toArray, List.set_cons_zero, List.set_cons_succ]
  refine wpList_val (by kernel_rfl) (.bool qo24) (by kernel_rfl) ?_
  simp only [List.getElem_toArray, List.getElem_cons_succ, List.getElem_cons_zero, Act.put, List.setIfInBounds_toArray, List.set_cons_zero, List.set_cons_succ]
  refine wpList_bif (c := (!qo24)) (v := .pointer (some ⟨gv, 10, none⟩)) (wanted_f rfl (by kernel_rfl)) (fun hc => by have h0 := notT (hc); simp [go_sem, execOp, h0]) ?_
  simp only [List.getElem_toArray, List.getElem_cons_succ, List.getElem_cons_zero, Act.put, List.setIfInBounds_toArray, List.set_cons_zero, List.set_cons_succ]
  refine wpList_bif (c := (!qo24)) (v := .bool (p.b 32)) (wanted_f rfl (by kernel_rfl)) (fun hc => by have h0 := notT (hc); simp [go_sem, execOp, h0, (show w2.cell? ⟨gv, 10, none⟩ = some (.bool (p.b 32)) from v32)]) ?_
  simp only [List.getElem_toArray, List.getElem_cons_succ, List.getElem_cons_zero, Act.put, List.setIfInBounds_toArray, List.set_cons_zero, List.set_cons_succ]
  refine wpList_val (by kernel_rfl) (.bool qo28) (by rw [Hqo28.out]; cases hA : qo24 <;> simp [go_sem, execOp, hA]) ?_
  simp only [List.getElem_toArray, List.getElem_cons_succ, List.getElem_cons_zero, Act.put, List.setIfInBounds_toArray, List.set_cons_zero, List.set_cons_succ]
  refine wpList_val (by kernel_rfl) (.bool qo28) (by kernel_rfl) ?_
  simp only [List.getElem_toArray, List.getElem_cons_succ, List.getElem_cons_zero, Act.put, List.setIfInBounds_toArray, List.set_cons_zero, List.set_cons_succ]
  refine wpList_bif (c := qo28) (v := .pointer (some ⟨g, k * 89, none⟩)) (wanted_t rfl (by kernel_rfl)) (fun hc => by have h0 := hc; simp [go_sem, execOp, h0]) ?_
  simp only [List.getElem_toArray, List.getElem_cons_succ, List.getElem_cons_zero, Act.put, List.setIfInBounds_toArray, List.set_cons_zero, List.set_cons_succ]
  refine wpList_bif (c := qo28) (v := .pointer (some ⟨g, k * 89, none⟩)) (wanted_t rfl (by kernel_rfl)) (fun hc => by have h0 := hc; simp [go_sem, execOp, h0]) ?_
  simp only [List.getElem_toArray, List.getElem_cons_succ, List.getElem_cons_zero, Act.put, List.setIfInBounds_toArray, List.set_cons_zero, List.set_cons_succ]
  refine wpList_bif (c := qo28) (v := .pointer (some ⟨g, k * 89 + 6, none⟩)) (wanted_t rfl (by kernel_rfl)) (fun hc => by have h0 := hc; simp [go_sem, execOp, h0]) ?_
  simp only [List.getElem_toArray, List.getElem_cons_succ, List.getElem_cons_zero, Act.put, List.setIfInBounds_toArray, List.set_cons_zero, List.set_cons_succ]
  refine wpList_bif (c := qo28) (v := .pointer (some ⟨g, k * 89 + 6 + 6, none⟩)) (wanted_t rfl (by kernel_rfl)) (fun hc => by have h0 := hc; simp [go_sem, execOp, h0]) ?_
  simp only [List.getElem_toArray, List.getElem_cons_succ, List.getElem_cons_zero, Act.put, List.setIfInBounds_toArray, List.set_cons_zero, List.set_cons_succ]
  refine wpList_bif (c := qo28) (v := .int .i64 (p.i 12)) (wanted_t rfl (by kernel_rfl)) (fun hc => by have h0 := hc; simp [go_sem, execOp, h0, (show w2.cell? ⟨g, k * 89 + 6 + 6, none⟩ = some (.int .i64 (p.i 12)) from c12)]) ?_
  simp only [List.getElem_toArray, List.getElem_cons_succ, List.getElem_cons_zero, Act.put, List.setIfInBounds_toArray, List.set_cons_zero, List.set_cons_succ]
  refine wpList_bif (c := qo28) (v := .bool qo35) (wanted_t rfl (by kernel_rfl)) (fun hc => by have h0 := hc; rw [Hqo35.out]; simp [go_sem, execOp, h0]) ?_
  simp only [List.getElem_toArray, List.getElem_cons_succ, List.getElem_cons_zero, Act.put, List.setIfInBounds_toArray, List.set_cons_zero, List.set_cons_succ]
  refine wpList_bif (c := qo28) (v := .bool qo35) (wanted_t rfl (by kernel_rfl)) (fun hc => by have h0 := hc; simp [go_sem, execOp, h0]) ?_
  simp only [List.getElem_toArray, List.getElem_cons_succ, List.getElem_cons_zero, Act.put, List.setIfInBounds_toArray, List.set_cons_zero, List.set_cons_succ]
  refine wpList_bif (c := (qo28 && (!qo35))) (v := .pointer (some ⟨gv, 20, none⟩)) (wanted_cf rfl (yielded_bif (by kernel_rfl))) (fun hc => by have h1 := notT (andR hc); have hc1 := andL hc; have h0 := hc1; simp [go_sem, execOp, h1, h0]) ?_
  simp only [List.getElem_toArray, List.getElem_cons_succ, List.getElem_cons_zero, Act.put, List.setIfInBounds_toArray, List.set_cons_zero, List.set_cons_succ]
  refine wpList_bif (c := (qo28 && (!qo35))) (v := .bool (p.b 42)) (wanted_cf rfl (yielded_bif (by kernel_rfl))) (fun hc => by have h1 := notT (andR hc); have hc1 := andL hc; have h0 := hc1; simp [go_sem, execOp, h1, h0, (show w2.cell? ⟨gv, 20, none⟩ = some (.bool (p.b 42)) from v42)]) ?_
  simp only [List.getElem_toArray, List.getElem_cons_succ, List.getElem_cons_zero, Act.put, List.setIfInBounds_toArray, List.set_cons_zero, List.set_cons_succ]
  refine wpList_bif (c := (qo28 && (!qo35))) (v := .bool qo39) (wanted_cf rfl (yielded_bif (by kernel_rfl))) (fun hc => by have h1 := notT (andR hc); have hc1 := andL hc; have h0 := hc1; rw [Hqo39.out]; simp [go_sem, execOp, h1, h0]) ?_
  simp only [List.getElem_toArray, List.getElem_cons_succ, List.getElem_cons_zero, Act.put, List.setIfInBounds_toArray, List.set_cons_zero, List.set_cons_succ]
  refine wpList_bif (c := qo28) (v := .bool qo40) (wanted_t rfl (by kernel_rfl)) (fun hc => by have h0 := hc; rw [Hqo40.out]; cases hA : qo35 <;> simp [go_sem, execOp, hA, h0]) ?_
  simp only [List.getElem_toArray, List.getElem_cons_succ, List.getElem_cons_zero, Act.put, List.setIfInBounds_toArray, List.set_cons_zero, List.set_cons_succ]
  refine wpList_val (by kernel_rfl) (.bool qo41) (by rw [Hqo41.out]; cases hA : qo28 <;> simp [go_sem, execOp, hA]) ?_
  simp only [List.getElem_toArray, List.getElem_cons_succ, List.getElem_cons_zero, Act.put, List.setIfInBounds_toArray, List.set_cons_zero, List.set_cons_succ]
  refine wpList_val (by kernel_rfl) (.bool qo41) (by kernel_rfl) ?_
  simp only [List.getElem_toArray, List.getElem_cons_succ, List.getElem_cons_zero, Act.put, List.setIfInBounds_toArray, List.set_cons_zero, List.set_cons_succ]
  refine wpList_bif (c := qo41) (v := .pointer (some ⟨gv, 24, none⟩)) (wanted_t rfl (by kernel_rfl)) (fun hc => by have h0 := hc; simp [go_sem, execOp, h0]) ?_
  simp only [List.getElem_toArray, List.getElem_cons_succ, List.getElem_cons_zero, Act.put, List.setIfInBounds_toArray, List.set_cons_zero, List.set_cons_succ]
  refine wpList_bif (c := qo41) (v := .bool (p.b 46)) (wanted_t rfl (by kernel_rfl)) (fun hc => by have h0 := hc; simp [go_sem, execOp, h0, (show w2.cell? ⟨gv, 24, none⟩ = some (.bool (p.b 46)) from v46)]) ?_
  simp only [List.getElem_toArray, List.getElem_cons_succ, List.getElem_cons_zero, Act.put, List.setIfInBounds_toArray, List.set_cons_zero, List.set_cons_succ]
  refine wpList_bif (c := qo41) (v := .bool qo45) (wanted_t rfl (by kernel_rfl)) (fun hc => by have h0 := hc; rw [Hqo45.out]; simp [go_sem, execOp, h0]) ?_
  simp only [List.getElem_toArray, List.getElem_cons_succ, List.getElem_cons_zero, Act.put, List.setIfInBounds_toArray, List.set_cons_zero, List.set_cons_succ]
  refine wpList_val (by kernel_rfl) (.bool qo46) (by rw [Hqo46.out]; cases hA : qo41 <;> simp [go_sem, execOp, hA]) ?_
  simp only [List.getElem_toArray, List.getElem_cons_succ, List.getElem_cons_zero, Act.put, List.setIfInBounds_toArray, List.set_cons_zero, List.set_cons_succ]
  refine wpList_val (by kernel_rfl) (.bool qo46) (by kernel_rfl) ?_
  simp only [List.getElem_toArray, List.getElem_cons_succ, List.getElem_cons_zero, Act.put, List.setIfInBounds_toArray, List.set_cons_zero, List.set_cons_succ]
  refine wpList_nil ?_
  have Hon := Lib.hid (show qo46 = onD p by rw [Hqo46.out, Hqo45.out, Hqo41.out, Hqo40.out, Hqo39.out, Hqo35.out, Hqo28.out, Hqo24.out, Hqo20.out]; unfold onD; cases (p.i 12 == 0) <;> cases p.b 42 <;> simp)
  go_upto_region 4 with (fail)
  obtain ⟨qa50, hqa50⟩ : ∃ x : Bool, x = (!(p.b 26)) := ⟨_, rfl⟩
  have Hqa50 := Lib.hid hqa50
  clear hqa50
  obtain ⟨qa54, hqa54⟩ : ∃ x : Bool, x = (!(p.b 23)) := ⟨_, rfl⟩
  have Hqa54 := Lib.hid hqa54
  clear hqa54
  obtain ⟨qa55, hqa55⟩ : ∃ x : Bool, x = (qa50 && qa54) := ⟨_, rfl⟩
  have Hqa55 := Lib.hid hqa55
  clear hqa55
  obtain ⟨qa59, hqa59⟩ : ∃ x : Bool, x = (!(p.b 34)) := ⟨_, rfl⟩
  have Hqa59 := Lib.hid hqa59
  clear hqa59
  obtain ⟨qa60, hqa60⟩ : ∃ x : Bool, x = (qa55 && qa59) := ⟨_, rfl⟩
  have Hqa60 := Lib.hid hqa60
  clear hqa60
  obtain ⟨qa64, hqa64⟩ : ∃ x : Bool, x = (!(p.b 32)) := ⟨_, rfl⟩
  have Hqa64 := Lib.hid hqa64
  clear hqa64
  obtain ⟨qa65, hqa65⟩ : ∃ x : Bool, x = (qa60 && qa64) := ⟨_, rfl⟩
  have Hqa65 := Lib.hid hqa65
  clear hqa65
  refine wp_region_lit ?_
  refine wpList_val (by kernel_rfl) (.pointer (some ⟨gv, 4, none⟩)) (by simp [go_sem, execOp]) ?_
  simp only [List.getElem_toArray, List.getElem_cons_succ, List.getElem_cons_zero, Act.put, List.setIfInBounds_toArray, List.set_cons_zero, List.set_cons_succ]
  refine wpList_val (by kernel_rfl) (.bool (p.b 26)) (by simp [go_sem, execOp, (show w2.cell? ⟨gv, 4, none⟩ = some (.bool (p.b 26)) from v26)]) ?_
  simp only [List.getElem_toArray, List.getElem_cons_succ, List.getElem_cons_zero, Act.put, List.setIfInBounds_toArray, List.set_cons_zero, List.set_cons_succ]
  refine wpList_val (by kernel_rfl) (.bool qa50) (by rw [Hqa50.out]; simp [go_sem, execOp]) ?_
  simp only [List.getElem_toArray, List.getElem_cons_succ, List.getElem_cons_zero, Act.put, List.setIfInBounds_toArray, List.set_cons_zero, List.set_cons_succ]
  refine wpList_val (by kernel_rfl) (.bool qa50) (by kernel_rfl) ?_
  simp only [List.getElem_toArray, List.getElem_cons_succ, List.getElem_cons_zero, Act.put, List.setIfInBounds_toArray, List.set_cons_zero, List.set_cons_succ]
  refine wpList_bif (c := qa50) (v := .pointer (some ⟨gv, 1, none⟩)) (wanted_t rfl (by kernel_rfl)) (fun hc => by have h0 := hc; simp [go_sem, execOp, h0]) ?_
  simp only [List.getElem_toArray, List.getElem_cons_succ, List.getElem_cons_zero, Act.put, List.setIfInBounds_toArray, List.set_cons_zero, List.set_cons_succ]
  refine wpList_bif (c := qa50) (v := .bool (p.b 23)) (wanted_t rfl (by kernel_rfl)) (fun hc => by have h0 := hc; simp [go_sem, execOp, h0, (show w2.cell? ⟨gv, 1, none⟩ = some (.bool (p.b 23)) from v23)]) ?_
  simp only [List.getElem_toArray, List.getElem_cons_succ, List.getElem_cons_zero, Act.put, List.setIfInBounds_toArray, List.set_cons_zero, List.set_cons_succ]
  refine wpList_bif (c := qa50) (v := .bool qa54) (wanted_t rfl (by kernel_rfl)) (fun hc => by have h0 := hc; rw [Hqa54.out]; simp [go_sem, execOp, h0]) ?_
  simp only [List.getElem_toArray, List.getElem_cons_succ, List.getElem_cons_zero, Act.put, List.setIfInBounds_toArray, List.set_cons_zero, List.set_cons_succ]
  refine wpList_val (by kernel_rfl) (.bool qa55) (by rw [Hqa55.out]; cases hA : qa50 <;> simp [go_sem, execOp, hA]) ?_
  simp only [List.getElem_toArray, List.getElem_cons_succ, List.getElem_cons_zero, Act.put, List.setIfInBounds_toArray, List.set_cons_zero, List.set_cons_succ]
  refine wpList_val (by kernel_rfl) (.bool qa55) (by kernel_rfl) ?_
  simp only [List.getElem_toArray, List.getElem_cons_succ, List.getElem_cons_zero, Act.put, List.setIfInBounds_toArray, List.set_cons_zero, List.set_cons_succ]
  refine wpList_bif (c := qa55) (v := .pointer (some ⟨gv, 12, none⟩)) (wanted_t rfl (by kernel_rfl)) (fun hc => by have h0 := hc; simp [go_sem, execOp, h0]) ?_
  simp only [List.getElem_toArray, List.getElem_cons_succ, List.getElem_cons_zero, Act.put, List.setIfInBounds_toArray, List.set_cons_zero, List.set_cons_succ]
  refine wpList_bif (c := qa55) (v := .bool (p.b 34)) (wanted_t rfl (by kernel_rfl)) (fun hc => by have h0 := hc; simp [go_sem, execOp, h0, (show w2.cell? ⟨gv, 12, none⟩ = some (.bool (p.b 34)) from v34)]) ?_
  simp only [List.getElem_toArray, List.getElem_cons_succ, List.getElem_cons_zero, Act.put, List.setIfInBounds_toArray, List.set_cons_zero, List.set_cons_succ]
  refine wpList_bif (c := qa55) (v := .bool qa59) (wanted_t rfl (by kernel_rfl)) (fun hc => by have h0 := hc; rw [Hqa59.out]; simp [go_sem, execOp, h0]) ?_
  simp only [List.getElem_toArray, List.getElem_cons_succ, List.getElem_cons_zero, Act.put, List.setIfInBounds_toArray, List.set_cons_zero, List.set_cons_succ]
  refine wpList_val (by kernel_rfl) (.bool qa60) (by rw [Hqa60.out]; cases hA : qa55 <;> simp [go_sem, execOp, hA]) ?_
  simp only [List.getElem_toArray, List.getElem_cons_succ, List.getElem_cons_zero, Act.put, List.setIfInBounds_toArray, List.set_cons_zero, List.set_cons_succ]
  refine wpList_val (by kernel_rfl) (.bool qa60) (by kernel_rfl) ?_
  simp only [List.getElem_toArray, List.getElem_cons_succ, List.getElem_cons_zero, Act.put, List.setIfInBounds_toArray, List.set_cons_zero, List.set_cons_succ]
  refine wpList_bif (c := qa60) (v := .pointer (some ⟨gv, 10, none⟩)) (wanted_t rfl (by kernel_rfl)) (fun hc => by have h0 := hc; simp [go_sem, execOp, h0]) ?_
  simp only [List.getElem_toArray, List.getElem_cons_succ, List.getElem_cons_zero, Act.put, List.setIfInBounds_toArray, List.set_cons_zero, List.set_cons_succ]
  refine wpList_bif (c := qa60) (v := .bool (p.b 32)) (wanted_t rfl (by kernel_rfl)) (fun hc => by have h0 := hc; simp [go_sem, execOp, h0, (show w2.cell? ⟨gv, 10, none⟩ = some (.bool (p.b 32)) from v32)]) ?_
  simp only [List.getElem_toArray, List.getElem_cons_succ, List.getElem_cons_zero, Act.put, List.setIfInBounds_toArray, List.set_cons_zero, List.set_cons_succ]
  refine wpList_bif (c := qa60) (v := .bool qa64) (wanted_t rfl (by kernel_rfl)) (fun hc => by have h0 := hc; rw [Hqa64.out]; simp [go_sem, execOp, h0]) ?_
  simp only [List.getElem_toArray, List.getElem_cons_succ, List.getElem_cons_zero, Act.put, List.setIfInBounds_toArray, List.set_cons_zero, List.set_cons_succ]
  refine wpList_val (by kernel_rfl) (.bool qa65) (by rw [Hqa65.out]; cases hA : qa60 <;> simp [go_sem, execOp, hA]) ?_
  simp only [List.getElem_toArray, List.getElem_cons_succ, List.getElem_cons_zero, Act.put, List.setIfInBounds_toArray, List.set_cons_zero, List.set_cons_succ]
  refine wpList_val (by kernel_rfl) (.bool qa65) (by kernel_rfl) ?_
  simp only [List.getElem_toArray, List.getElem_cons_succ, List.getElem_cons_zero, Act.put, List.setIfInBounds_toArray, List.set_cons_zero, List.set_cons_succ]
  refine wpList_nil ?_
  have hc0 : qa65 = (((!p.b 26 && !p.b 23) && !p.b 34) && !p.b 32) := by rw [Hqa65.out, Hqa64.out, Hqa60.out, Hqa59.out, Hqa55.out, Hqa54.out, Hqa50.out]
  have Hc0 := Lib.hid hc0
  clear hc0
  cases hv0 : qa65
  case true =>
    have HR := Lib.hid (show T = some (upd ps k (propF b p)) by rw [HT0.out, ← Hc0.out, hv0]; rfl)
    have c34 : w2.cell? ⟨g, k * 89 + 22 + 12, none⟩ = some (.bool (p.b 34)) := (H2.out.p.cell hk (j := 34) (by omega)).trans (by rw [upd_same]; rfl)
    have c31 : w2.cell? ⟨g, k * 89 + 22 + 9, none⟩ = some (.bool (p.b 31)) := (H2.out.p.cell hk (j := 31) (by omega)).trans (by rw [upd_same]; rfl)
    have f34 : w2.frozen? ⟨g, k * 89 + 22 + 12, none⟩ = false := H2.out.p.free _
    have f31 : w2.frozen? ⟨g, k * 89 + 22 + 9, none⟩ = false := H2.out.p.free _
    go_upto_region 7 with (fail)
    refine ((?_ : ∀ y, y = ((w2.setCell ⟨g, k * 89 + 22 + 12, none⟩ (.bool true)).setCell ⟨g, k * 89 + 22 + 9, none⟩ (.bool true)) → Code.wp _ _ _ _ y) _ rfl)
    intro w4 hw4
    have H4 := Lib.hid (show Bst w4 bx g b (upd ps k ((p.setB 34 true).setB 31 true)) ss fs by rw [hw4]; exact ((H2.out).put (j := 34) (by omega) (rowP_put_34 _ _)).put (j := 31) (by omega) (rowP_put_31 _ _))
    have HO4 := Lib.hid (show Only (· = g) w w4 by rw [hw4]; exact ((HO2.out).setCell (Or.inl rfl) _).setCell (Or.inl rfl) _)
    clear hw4 c34 f34 c31 f31
    go_wp2_with (first | (refine wpList_load_row rfl 33 _ rfl bx rfl 33 (rowB b) (0, 0) _ H4.out.h Try.underlying33 rfl (sizeBr _) ?_; simp only [Act.put, List.setIfInBounds_toArray, List.set_cons_zero, List.set_cons_succ]) | fail)
    refine (refedgedelay_any H4.out hk).mono ?_
    rintro e w5 ⟨rfl, hb5⟩
    rw [show edgeN b ((p.setB 34 true).setB 31 true) = edgeN b p from rfl]
    have H5 := Lib.hid (H4.out.below hb5)
    have HO5 := Lib.hid (HO4.out.trans (Only.of_below hb5))
    clear hb5
    have c6 : w5.cell? ⟨g, k * 89 + 6, none⟩ = some (.int .i64 (((p.setB 34 true).setB 31 true).i 6)) := (H5.out.p.cell hk (j := 6) (by omega)).trans (by rw [upd_same]; rfl)
    have f6 : w5.frozen? ⟨g, k * 89 + 6, none⟩ = false := H5.out.p.free _
    go_wp2_with fail
    go_ret
    have HB := Lib.hid (show Bst (w5.setCell ⟨g, k * 89 + 6, none⟩ (.int .i64 (edgeN b p))) bx g b (upd ps k (((p.setB 34 true).setB 31 true).setI 6 (edgeN b p))) ss fs from (H5.out).put (j := 6) (by omega) (rowP_put_6 _ _))
    rw [HR.out]
    exact ⟨rfl, HB.out, (HO5.out).setCell (Or.inl rfl) _⟩
  case false =>
    have HT1 := Lib.hid (show T = (bif (!p.b 47 && ((quietF p || p.b 23) || p.b 32)) || (p.b 47 && p.b 46) then some (upd ps k (syncedF p)) else (bif p.b 42 && p.i 12 == 0 then some (upd ps k (p.setB 42 false)) else (bif ((p.b 28 || p.b 26) && !p.b 32) && stopD p then some (upd ps k (stopF b p)) else (bif onD p && !p.b 28 then some (upd ps k ((p.setB 28 true).setI 7 (fwdN b p))) else (bif (onD p && p.b 28) && !p.b 26 then some (upd ps k (openF p)) else none))))) by rw [HT0.out, ← Hc0.out, hv0]; rfl)
    go_upto_region 8 with (fail)
    obtain ⟨qb86, hqb86⟩ : ∃ x : Bool, x = (!(p.b 47)) := ⟨_, rfl⟩
    have Hqb86 := Lib.hid hqb86
    clear hqb86
    obtain ⟨qb90, hqb90⟩ : ∃ x : Bool, x = (!(p.b 29)) := ⟨_, rfl⟩
    have Hqb90 := Lib.hid hqb90
    clear hqb90
    obtain ⟨qb94, hqb94⟩ : ∃ x : Bool, x = (!(p.b 27)) := ⟨_, rfl⟩
    have Hqb94 := Lib.hid hqb94
    clear hqb94
    obtain ⟨qb95, hqb95⟩ : ∃ x : Bool, x = (qb90 && qb94) := ⟨_, rfl⟩
    have Hqb95 := Lib.hid hqb95
    clear hqb95
    obtain ⟨qb99, hqb99⟩ : ∃ x : Bool, x = (qb95 || (p.b 23)) := ⟨_, rfl⟩
    have Hqb99 := Lib.hid hqb99
    clear hqb99
    obtain ⟨qb103, hqb103⟩ : ∃ x : Bool, x = (qb99 || (p.b 32)) := ⟨_, rfl⟩
    have Hqb103 := Lib.hid hqb103
    clear hqb103
    obtain ⟨qb104, hqb104⟩ : ∃ x : Bool, x = (qb86 && qb103) := ⟨_, rfl⟩
    have Hqb104 := Lib.hid hqb104
    clear hqb104
    obtain ⟨qb111, hqb111⟩ : ∃ x : Bool, x = ((p.b 46) && (p.b 47)) := ⟨_, rfl⟩
    have Hqb111 := Lib.hid hqb111
    clear hqb111
    obtain ⟨qb112, hqb112⟩ : ∃ x : Bool, x = (qb104 || qb111) := ⟨_, rfl⟩
    have Hqb112 := Lib.hid hqb112
    clear hqb112
    refine wp_region_lit ?_
    refine wpList_val (by kernel_rfl) (.pointer (some ⟨gv, 25, none⟩)) (by simp [go_sem, execOp]) ?_
    simp only [List.getElem_toArray, List.getElem_cons_succ, List.getElem_cons_zero, Act.put, List.setIfInBounds_toArray, List.set_cons_zero, List.set_cons_succ]
    refine wpList_val (by kernel_rfl) (.bool (p.b 47)) (by simp [go_sem, execOp, (show w2.cell? ⟨gv, 25, none⟩ = some (.bool (p.b 47)) from v47)]) ?_
    simp only [List.getElem_toArray, List.getElem_cons_succ, List.getElem_cons_zero, Act.put, List.setIfInBounds_toArray, List.set_cons_zero, List.set_cons_succ]
    refine wpList_val (by kernel_rfl) (.bool qb86) (by rw [Hqb86.out]; simp [go_sem, execOp]) ?_
    simp only [List.getElem_toArray, List.getElem_cons_succ, List.getElem_cons_zero, Act.put, List.setIfInBounds_toArray, List.set_cons_zero, List.set_cons_succ]
    refine wpList_val (by kernel_rfl) (.bool qb86) (by kernel_rfl) ?_
    simp only [List.getElem_toArray, List.getElem_cons_succ, List.getElem_cons_zero, Act.put, List.setIfInBounds_toArray, List.set_cons_zero, List.set_cons_succ]
    refine wpList_bif (c := qb86) (v := .pointer (some ⟨gv, 7, none⟩)) (wanted_t rfl (by kernel_rfl)) (fun hc => by have h0 := hc; simp [go_sem, execOp, h0]) ?_
    simp only [List.getElem_toArray, List.getElem_cons_succ, List.getElem_cons_zero, Act.put, List.setIfInBounds_toArray, List.set_cons_zero, List.set_cons_succ]
    refine wpList_bif (c := qb86) (v := .bool (p.b 29)) (wanted_t rfl (by kernel_rfl)) (fun hc => by have h0 := hc; simp [go_sem, execOp, h0, (show w2.cell? ⟨gv, 7, none⟩ = some (.bool (p.b 29)) from v29)]) ?_
    simp only [List.getElem_toArray, List.getElem_cons_succ, List.getElem_cons_zero, Act.put, List.setIfInBounds_toArray, List.set_cons_zero, List.set_cons_succ]
    refine wpList_bif (c := qb86) (v := .bool qb90) (wanted_t rfl (by kernel_rfl)) (fun hc => by have h0 := hc; rw [Hqb90.out]; simp [go_sem, execOp, h0]) ?_
    simp only [List.getElem_toArray, List.getElem_cons_succ, List.getElem_cons_zero, Act.put, List.setIfInBounds_toArray, List.set_cons_zero, List.set_cons_succ]
    refine wpList_bif (c := qb86) (v := .bool qb90) (wanted_t rfl (by kernel_rfl)) (fun hc => by have h0 := hc; simp [go_sem, execOp, h0]) ?_
    simp only [List.getElem_toArray, List.getElem_cons_succ, List.getElem_cons_zero, Act.put, List.setIfInBounds_toArray, List.set_cons_zero, List.set_cons_succ]
    refine wpList_bif (c := (qb86 && qb90)) (v := .pointer (some ⟨gv, 5, none⟩)) (wanted_ct rfl (yielded_bif (by kernel_rfl))) (fun hc => by have h1 := andR hc; have hc1 := andL hc; have h0 := hc1; simp [go_sem, execOp, h1, h0]) ?_
    simp only [List.getElem_toArray, List.getElem_cons_succ, List.getElem_cons_zero, Act.put, List.setIfInBounds_toArray, List.set_cons_zero, List.set_cons_succ]
    refine wpList_bif (c := (qb86 && qb90)) (v := .bool (p.b 27)) (wanted_ct rfl (yielded_bif (by kernel_rfl))) (fun hc => by have h1 := andR hc; have hc1 := andL hc; have h0 := hc1; simp [go_sem, execOp, h1, h0, (show w2.cell? ⟨gv, 5, none⟩ = some (.bool (p.b 27)) from v27)]) ?_
    simp only [List.getElem_toArray, List.getElem_cons_succ, List.getElem_cons_zero, Act.put, List.setIfInBounds_toArray, List.set_cons_zero, List.set_cons_succ]
    refine wpList_bif (c := (qb86 && qb90)) (v := .bool qb94) (wanted_ct rfl (yielded_bif (by kernel_rfl))) (fun hc => by have h1 := andR hc; have hc1 := andL hc; have h0 := hc1; rw [Hqb94.out]; simp [go_sem, execOp, h1, h0]) ?_
    simp only [List.getElem_toArray, List.getElem_cons_succ, List.getElem_cons_zero, Act.put, List.setIfInBounds_toArray, List.set_cons_zero, List.set_cons_succ]
    refine wpList_bif (c := qb86) (v := .bool qb95) (wanted_t rfl (by kernel_rfl)) (fun hc => by have h0 := hc; rw [Hqb95.out]; cases hA : qb90 <;> simp [go_sem, execOp, hA, h0]) ?_
    simp only [List.getElem_toArray, List.getElem_cons_succ, List.getElem_cons_zero, Act.put, List.setIfInBounds_toArray, List.set_cons_zero, List.set_cons_succ]
    refine wpList_bif (c := qb86) (v := .bool qb95) (wanted_t rfl (by kernel_rfl)) (fun hc => by have h0 := hc; simp [go_sem, execOp, h0]) ?_
    simp only [List.getElem_toArray, List.getElem_cons_succ, List.getElem_cons_zero, Act.put, List.setIfInBounds_toArray, List.set_cons_zero, List.set_cons_succ]
    refine wpList_bif (c := (qb86 && (!qb95))) (v := .pointer (some ⟨gv, 1, none⟩)) (wanted_cf rfl (yielded_bif (by kernel_rfl))) (fun hc => by have h1 := notT (andR hc); have hc1 := andL hc; have h0 := hc1; simp [go_sem, execOp, h1, h0]) ?_
    simp only [List.getElem_toArray, List.getElem_cons_succ, List.getElem_cons_zero, Act.put, List.setIfInBounds_toArray, List.set_cons_zero, List.set_cons_succ]
    refine wpList_bif (c := (qb86 && (!qb95))) (v := .bool (p.b 23)) (wanted_cf rfl (yielded_bif (by kernel_rfl))) (fun hc => by have h1 := notT (andR hc); have hc1 := andL hc; have h0 := hc1; simp [go_sem, execOp, h1, h0, (show w2.cell? ⟨gv, 1, none⟩ = some (.bool (p.b 23)) from v23)]) ?_
    simp only [List.getElem_toArray, List.getElem_cons_succ, List.getElem_cons_zero, Act.put, List.setIfInBounds_toArray, List.set_cons_zero, List.set_cons_succ]
    refine wpList_bif (c := qb86) (v := .bool qb99) (wanted_t rfl (by kernel_rfl)) (fun hc => by have h0 := hc; rw [Hqb99.out]; cases hA : qb95 <;> simp [go_sem, execOp, hA, h0]) ?_
    simp only [List.getElem_toArray, List.getElem_cons_succ, List.getElem_cons_zero, Act.put, List.setIfInBounds_toArray, List.set_cons_zero, List.set_cons_succ]
    refine wpList_bif (c := qb86) (v := .bool qb99) (wanted_t rfl (by kernel_rfl)) (fun hc => by have h0 := hc; simp [go_sem, execOp, h0]) ?_
    simp only [List.getElem_toArray, List.getElem_cons_succ, List.getElem_cons_zero, Act.put, List.setIfInBounds_toArray, List.set_cons_zero, List.set_cons_succ]
    refine wpList_bif (c := (qb86 && (!qb99))) (v := .pointer (some ⟨gv, 10, none⟩)) (wanted_cf rfl (yielded_bif (by kernel_rfl))) (fun hc => by have h1 := notT (andR hc); have hc1 := andL hc; have h0 := hc1; simp [go_sem, execOp, h1, h0]) ?_
    simp only [List.getElem_toArray, List.getElem_cons_succ, List.getElem_cons_zero, Act.put, List.setIfInBounds_toArray, List.set_cons_zero, List.set_cons_succ]
    refine wpList_bif (c := (qb86 && (!qb99))) (v := .bool (p.b 32)) (wanted_cf rfl (yielded_bif (by kernel_rfl))) (fun hc => by have h1 := notT (andR hc); have hc1 := andL hc; have h0 := hc1; simp [go_sem, execOp, h1, h0, (show w2.cell? ⟨gv, 10, none⟩ = some (.bool (p.b 32)) from v32)]) ?_
    simp only [List.getElem_toArray, List.getElem_cons_succ, List.getElem_cons_zero, Act.put, List.setIfInBounds_toArray, List.set_cons_zero, List.set_cons_succ]
    refine wpList_bif (c := qb86) (v := .bool qb103) (wanted_t rfl (by kernel_rfl)) (fun hc => by have h0 := hc; rw [Hqb103.out]; cases hA : qb99 <;> simp [go_sem, execOp, hA, h0]) ?_
    simp only [List.getElem_toArray, List.getElem_cons_succ, List.getElem_cons_zero, Act.put, List.setIfInBounds_toArray, List.set_cons_zero, List.set_cons_succ]
    refine wpList_val (by kernel_rfl) (.bool qb104) (by rw [Hqb104.out]; cases hA : qb86 <;> simp [go_sem, execOp, hA]) ?_
    simp only [List.getElem_toArray, List.getElem_cons_succ, List.getElem_cons_zero, Act.put, List.setIfInBounds_toArray, List.set_cons_zero, List.set_cons_succ]
    refine wpList_val (by kernel_rfl) (.bool qb104) (by kernel_rfl) ?_
    simp only [List.getElem_toArray, List.getElem_cons_succ, List.getElem_cons_zero, Act.put, List.setIfInBounds_toArray, List.set_cons_zero, List.set_cons_succ]
    refine wpList_bif (c := (!qb104)) (v := .pointer (some ⟨gv, 24, none⟩)) (wanted_f rfl (by kernel_rfl)) (fun hc => by have h0 := notT (hc); simp [go_sem, execOp, h0]) ?_
    simp only [List.getElem_toArray, List.getElem_cons_succ, List.getElem_cons_zero, Act.put, List.setIfInBounds_toArray, List.set_cons_zero, List.set_cons_succ]
    refine wpList_bif (c := (!qb104)) (v := .bool (p.b 46)) (wanted_f rfl (by kernel_rfl)) (fun hc => by have h0 := notT (hc); simp [go_sem, execOp, h0, (show w2.cell? ⟨gv, 24, none⟩ = some (.bool (p.b 46)) from v46)]) ?_
    simp only [List.getElem_toArray, List.getElem_cons_succ, List.getElem_cons_zero, Act.put, List.setIfInBounds_toArray, List.set_cons_zero, List.set_cons_succ]
    refine wpList_bif (c := (!qb104)) (v := .bool (p.b 46)) (wanted_f rfl (by kernel_rfl)) (fun hc => by have h0 := notT (hc); simp [go_sem, execOp, h0]) ?_
    simp only [List.getElem_toArray, List.getElem_cons_succ, List.getElem_cons_zero, Act.put, List.setIfInBounds_toArray, List.set_cons_zero, List.set_cons_succ]
    refine wpList_bif (c := ((!qb104) && (p.b 46))) (v := .pointer (some ⟨gv, 25, none⟩)) (wanted_ct rfl (yielded_bif (by kernel_rfl))) (fun hc => by have h1 := andR hc; have hc1 := andL hc; have h0 := notT (hc1); simp [go_sem, execOp, h1, h0]) ?_
    simp only [List.getElem_toArray, List.getElem_cons_succ, List.getElem_cons_zero, Act.put, List.setIfInBounds_toArray, List.set_cons_zero, List.set_cons_succ]
    refine wpList_bif (c := ((!qb104) && (p.b 46))) (v := .bool (p.b 47)) (wanted_ct rfl (yielded_bif (by kernel_rfl))) (fun hc => by have h1 := andR hc; have hc1 := andL hc; have h0 := notT (hc1); simp [go_sem, execOp, h1, h0, (show w2.cell? ⟨gv, 25, none⟩ = some (.bool (p.b 47)) from v47)]) ?_
    simp only [List.getElem_toArray, List.getElem_cons_succ, List.getElem_cons_zero, Act.put, List.setIfInBounds_toArray, List.set_cons_zero, List.set_cons_succ]
    refine wpList_bif (c := (!qb104)) (v := .bool qb111) (wanted_f rfl (by kernel_rfl)) (fun hc => by have h0 := notT (hc); rw [Hqb111.out]; cases hA : (p.b 46) <;> simp [go_sem, execOp, hA, h0]) ?_
    simp only [List.getElem_toArray, List.getElem_cons_succ, List.getElem_cons_zero, Act.put, List.setIfInBounds_toArray, List.set_cons_zero, List.set_cons_succ]
    refine wpList_val (by kernel_rfl) (.bool qb112) (by rw [Hqb112.out]; cases hA : qb104 <;> simp [go_sem, execOp, hA]) ?_
    simp only [List.getElem_toArray, List.getElem_cons_succ, List.getElem_cons_zero, Act.put, List.setIfInBounds_toArray, List.set_cons_zero, List.set_cons_succ]
    refine wpList_val (by kernel_rfl) (.bool qb112) (by kernel_rfl) ?_
    simp only [List.getElem_toArray, List.getElem_cons_succ, List.getElem_cons_zero, Act.put, List.setIfInBounds_toArray, List.set_cons_zero, List.set_cons_succ]
    refine wpList_nil ?_
    have hc1 : qb112 = ((!p.b 47 && ((quietF p || p.b 23) || p.b 32)) || (p.b 47 && p.b 46)) := by rw [Hqb112.out, Hqb111.out, Hqb104.out, Hqb103.out, Hqb99.out, Hqb95.out, Hqb94.out, Hqb90.out, Hqb86.out]; unfold quietF; rw [Bool.and_comm (p.b 46) (p.b 47)]
    have Hc1 := Lib.hid hc1
    clear hc1
    cases hv1 : qb112
    case true =>
      have HR := Lib.hid (show T = some (upd ps k (syncedF p)) by rw [HT1.out, ← Hc1.out, hv1]; rfl)
      have c47 : w2.cell? ⟨g, k * 89 + 22 + 25, none⟩ = some (.bool (p.b 47)) := (H2.out.p.cell hk (j := 47) (by omega)).trans (by rw [upd_same]; rfl)
      have c46 : w2.cell? ⟨g, k * 89 + 22 + 24, none⟩ = some (.bool (p.b 46)) := (H2.out.p.cell hk (j := 46) (by omega)).trans (by rw [upd_same]; rfl)
      have f12 : w2.frozen? ⟨g, k * 89 + 6 + 6, none⟩ = false := H2.out.p.free _
      have f47 : w2.frozen? ⟨g, k * 89 + 22 + 25, none⟩ = false := H2.out.p.free _
      have f46 : w2.frozen? ⟨g, k * 89 + 22 + 24, none⟩ = false := H2.out.p.free _
      go_wp2_with fail
      go_ret
      have HB := Lib.hid (show Bst (((w2.setCell ⟨g, k * 89 + 6 + 6, none⟩ (.int .i64 0)).setCell ⟨g, k * 89 + 22 + 25, none⟩ (.bool true)).setCell ⟨g, k * 89 + 22 + 24, none⟩ (.bool false)) bx g b (upd ps k (((p.setI 12 0).setB 47 true).setB 46 false)) ss fs from (((H2.out).put (j := 12) (by omega) (rowP_put_12 _ _)).put (j := 47) (by omega) (rowP_put_47 _ _)).put (j := 46) (by omega) (rowP_put_46 _ _))
      rw [HR.out]
      exact ⟨rfl, HB.out, (((HO2.out).setCell (Or.inl rfl) _).setCell (Or.inl rfl) _).setCell (Or.inl rfl) _⟩
    case false =>
      have HT2 := Lib.hid (show T = (bif p.b 42 && p.i 12 == 0 then some (upd ps k (p.setB 42 false)) else (bif ((p.b 28 || p.b 26) && !p.b 32) && stopD p then some (upd ps k (stopF b p)) else (bif onD p && !p.b 28 then some (upd ps k ((p.setB 28 true).setI 7 (fwdN b p))) else (bif (onD p && p.b 28) && !p.b 26 then some (upd ps k (openF p)) else none)))) by rw [HT1.out, ← Hc1.out, hv1]; rfl)
      go_upto_region 12 with (fail)
      obtain ⟨qc131, hqc131⟩ : ∃ x : Bool, x = ((p.i 12) == 0) := ⟨_, rfl⟩
      have Hqc131 := Lib.hid hqc131
      clear hqc131
      obtain ⟨qc135, hqc135⟩ : ∃ x : Bool, x = (qc131 && (p.b 42)) := ⟨_, rfl⟩
      have Hqc135 := Lib.hid hqc135
      clear hqc135
      refine wp_region_lit ?_
      refine wpList_val (by kernel_rfl) (.pointer (some ⟨g, k * 89, none⟩)) (by kernel_rfl) ?_
      simp only [List.getElem_toArray, List.getElem_cons_succ, List.getElem_cons_zero, Act.put, List.setIfInBounds_toArray, List.set_cons_zero, List.set_cons_succ]
      refine wpList_val (by kernel_rfl) (.pointer (some ⟨g, k * 89, none⟩)) (by simp [go_sem, execOp]) ?_
      simp only [List.getElem_toArray, List.getElem_cons_succ, List.getElem_cons_zero, Act.put, List.setIfInBounds_toArray, List.set_cons_zero, List.set_cons_succ]
      refine wpList_val (by kernel_rfl) (.pointer (some ⟨g, k * 89 + 6, none⟩)) (by simp [go_sem, execOp]) ?_
      simp only [List.getElem_toArray, List.getElem_cons_succ, List.getElem_cons_zero, Act.put, List.setIfInBounds_toArray, List.set_cons_zero, List.set_cons_succ]
      refine wpList_val (by kernel_rfl) (.pointer (some ⟨g, k * 89 + 6 + 6, none⟩)) (by simp [go_sem, execOp]) ?_
      simp only [List.getElem_toArray, List.getElem_cons_succ, List.getElem_cons_zero, Act.put, List.setIfInBounds_toArray, List.set_cons_zero, List.set_cons_succ]
      refine wpList_val (by kernel_rfl) (.int .i64 (p.i 12)) (by simp [go_sem, execOp, (show w2.cell? ⟨g, k * 89 + 6 + 6, none⟩ = some (.int .i64 (p.i 12)) from c12)]) ?_
      simp only [List.getElem_toArray, List.getElem_cons_succ, List.getElem_cons_zero, Act.put, List.setIfInBounds_toArray, List.set_cons_zero, List.set_cons_succ]
      refine wpList_val (by kernel_rfl) (.bool qc131) (by rw [Hqc131.out]; simp [go_sem, execOp]) ?_
      simp only [List.getElem_toArray, List.getElem_cons_succ, List.getElem_cons_zero, Act.put, List.setIfInBounds_toArray, List.set_cons_zero, List.set_cons_succ]
      refine wpList_val (by kernel_rfl) (.bool qc131) (by kernel_rfl) ?_
      simp only [List.getElem_toArray, List.getElem_cons_succ, List.getElem_cons_zero, Act.put, List.setIfInBounds_toArray, List.set_cons_zero, List.set_cons_succ]
      refine wpList_bif (c := qc131) (v := .pointer (some ⟨gv, 20, none⟩)) (wanted_t rfl (by kernel_rfl)) (fun hc => by have h0 := hc; simp [go_sem, execOp, h0]) ?_
      simp only [List.getElem_toArray, List.getElem_cons_succ, List.getElem_cons_zero, Act.put, List.setIfInBounds_toArray, List.set_cons_zero, List.set_cons_succ]
      refine wpList_bif (c := qc131) (v := .bool (p.b 42)) (wanted_t rfl (by kernel_rfl)) (fun hc => by have h0 := hc; simp [go_sem, execOp, h0, (show w2.cell? ⟨gv, 20, none⟩ = some (.bool (p.b 42)) from v42)]) ?_
      simp only [List.getElem_toArray, List.getElem_cons_succ, List.getElem_cons_zero, Act.put, List.setIfInBounds_toArray, List.set_cons_zero, List.set_cons_succ]
      refine wpList_val (by kernel_rfl) (.bool qc135) (by rw [Hqc135.out]; cases hA : qc131 <;> simp [go_sem, execOp, hA]) ?_
      simp only [List.getElem_toArray, List.getElem_cons_succ, List.getElem_cons_zero, Act.put, List.setIfInBounds_toArray, List.set_cons_zero, List.set_cons_succ]
      refine wpList_val (by kernel_rfl) (.bool qc135) (by kernel_rfl) ?_
      simp only [List.getElem_toArray, List.getElem_cons_succ, List.getElem_cons_zero, Act.put, List.setIfInBounds_toArray, List.set_cons_zero, List.set_cons_succ]
      refine wpList_nil ?_
      have hc2 : qc135 = (p.b 42 && p.i 12 == 0) := by rw [Hqc135.out, Hqc131.out]; exact Bool.and_comm _ _
      have Hc2 := Lib.hid hc2
      clear hc2
      cases hv2 : qc135
      case true =>
        have HR := Lib.hid (show T = some (upd ps k (p.setB 42 false)) by rw [HT2.out, ← Hc2.out, hv2]; rfl)
        have c42 : w2.cell? ⟨g, k * 89 + 22 + 20, none⟩ = some (.bool (p.b 42)) := (H2.out.p.cell hk (j := 42) (by omega)).trans (by rw [upd_same]; rfl)
        have f42 : w2.frozen? ⟨g, k * 89 + 22 + 20, none⟩ = false := H2.out.p.free _
        go_wp2_with fail
        go_ret
        have HB := Lib.hid (show Bst (w2.setCell ⟨g, k * 89 + 22 + 20, none⟩ (.bool false)) bx g b (upd ps k (p.setB 42 false)) ss fs from (H2.out).put (j := 42) (by omega) (rowP_put_42 _ _))
        rw [HR.out]
        exact ⟨rfl, HB.out, (HO2.out).setCell (Or.inl rfl) _⟩
      case false =>
        have HT3 := Lib.hid (show T = (bif ((p.b 28 || p.b 26) && !p.b 32) && stopD p then some (upd ps k (stopF b p)) else (bif onD p && !p.b 28 then some (upd ps k ((p.setB 28 true).setI 7 (fwdN b p))) else (bif (onD p && p.b 28) && !p.b 26 then some (upd ps k (openF p)) else none))) by rw [HT2.out, ← Hc2.out, hv2]; rfl)
        go_upto_region 14 with (fail)
        obtain ⟨qd146, hqd146⟩ : ∃ x : Bool, x = (!(p.b 47)) := ⟨_, rfl⟩
        have Hqd146 := Lib.hid hqd146
        clear hqd146
        obtain ⟨qd147, hqd147⟩ : ∃ x : Bool, x = ((p.b 46) && qd146) := ⟨_, rfl⟩
        have Hqd147 := Lib.hid hqd147
        clear hqd147
        obtain ⟨qd157, hqd157⟩ : ∃ x : Bool, x = ((p.i 12) != 0) := ⟨_, rfl⟩
        have Hqd157 := Lib.hid hqd157
        clear hqd157
        obtain ⟨qd158, hqd158⟩ : ∃ x : Bool, x = ((p.b 42) && qd157) := ⟨_, rfl⟩
        have Hqd158 := Lib.hid hqd158
        clear hqd158
        obtain ⟨qd159, hqd159⟩ : ∃ x : Bool, x = (qd147 || qd158) := ⟨_, rfl⟩
        have Hqd159 := Lib.hid hqd159
        clear hqd159
        obtain ⟨qd163, hqd163⟩ : ∃ x : Bool, x = (qd159 || (p.b 24)) := ⟨_, rfl⟩
        have Hqd163 := Lib.hid hqd163
        clear hqd163
        obtain ⟨qd167, hqd167⟩ : ∃ x : Bool, x = (!(p.b 32)) := ⟨_, rfl⟩
        have Hqd167 := Lib.hid hqd167
        clear hqd167
        obtain ⟨qd168, hqd168⟩ : ∃ x : Bool, x = (qd163 && qd167) := ⟨_, rfl⟩
        have Hqd168 := Lib.hid hqd168
        clear hqd168
        obtain ⟨qd175, hqd175⟩ : ∃ x : Bool, x = ((p.b 28) || (p.b 26)) := ⟨_, rfl⟩
        have Hqd175 := Lib.hid hqd175
        clear hqd175
        obtain ⟨qd176, hqd176⟩ : ∃ x : Bool, x = (qd168 && qd175) := ⟨_, rfl⟩
        have Hqd176 := Lib.hid hqd176
        clear hqd176
        refine wp_region_lit ?_
        refine wpList_val (by kernel_rfl) (.pointer (some ⟨gv, 24, none⟩)) (by simp [go_sem, execOp]) ?_
        simp only [List.getElem_toArray, List.getElem_cons_succ, List.getElem_cons_zero, Act.put, List.setIfInBounds_toArray, List.set_cons_zero, List.set_cons_succ]
        refine wpList_val (by kernel_rfl) (.bool (p.b 46)) (by simp [go_sem, execOp, (show w2.cell? ⟨gv, 24, none⟩ = some (.bool (p.b 46)) from v46)]) ?_
        simp only [List.getElem_toArray, List.getElem_cons_succ, List.getElem_cons_zero, Act.put, List.setIfInBounds_toArray, List.set_cons_zero, List.set_cons_succ]
        refine wpList_val (by kernel_rfl) (.bool (p.b 46)) (by kernel_rfl) ?_
        simp only [List.getElem_toArray, List.getElem_cons_succ, List.getElem_cons_zero, Act.put, List.setIfInBounds_toArray, List.set_cons_zero, List.set_cons_succ]
        refine wpList_bif (c := (p.b 46)) (v := .pointer (some ⟨gv, 25, none⟩)) (wanted_t rfl (by kernel_rfl)) (fun hc => by have h0 := hc; simp [go_sem, execOp, h0]) ?_
        simp only [List.getElem_toArray, List.getElem_cons_succ, List.getElem_cons_zero, Act.put, List.setIfInBounds_toArray, List.set_cons_zero, List.set_cons_succ]
        refine wpList_bif (c := (p.b 46)) (v := .bool (p.b 47)) (wanted_t rfl (by kernel_rfl)) (fun hc => by have h0 := hc; simp [go_sem, execOp, h0, (show w2.cell? ⟨gv, 25, none⟩ = some (.bool (p.b 47)) from v47)]) ?_
        simp only [List.getElem_toArray, List.getElem_cons_succ, List.getElem_cons_zero, Act.put, List.setIfInBounds_toArray, List.set_cons_zero, List.set_cons_succ]
        refine wpList_bif (c := (p.b 46)) (v := .bool qd146) (wanted_t rfl (by kernel_rfl)) (fun hc => by have h0 := hc; rw [Hqd146.out]; simp [go_sem, execOp, h0]) ?_
        simp only [List.getElem_toArray, List.getElem_cons_succ, List.getElem_cons_zero, Act.put, List.setIfInBounds_toArray, List.set_cons_zero, List.set_cons_succ]
        refine wpList_val (by kernel_rfl) (.bool qd147) (by rw [Hqd147.out]; cases hA : (p.b 46) <;> simp [go_sem, execOp, hA]) ?_
        simp only [List.getElem_toArray, List.getElem_cons_succ, List.getElem_cons_zero, Act.put, List.setIfInBounds_toArray, List.set_cons_zero, List.set_cons_succ]
        refine wpList_val (by kernel_rfl) (.bool qd147) (by kernel_rfl) ?_
        simp only [List.getElem_toArray, List.getElem_cons_succ, List.getElem_cons_zero, Act.put, List.setIfInBounds_toArray, List.set_cons_zero, List.set_cons_succ]
        refine wpList_bif (c := (!qd147)) (v := .pointer (some ⟨gv, 20, none⟩)) (wanted_f rfl (by kernel_rfl)) (fun hc => by have h0 := notT (hc); simp [go_sem, execOp, h0]) ?_
        simp only [List.getElem_toArray, List.getElem_cons_succ, List.getElem_cons_zero, Act.put, List.setIfInBounds_toArray, List.set_cons_zero, List.set_cons_succ]
        refine wpList_bif (c := (!qd147)) (v := .bool (p.b 42)) (wanted_f rfl (by kernel_rfl)) (fun hc => by have h0 := notT (hc); simp [go_sem, execOp, h0, (show w2.cell? ⟨gv, 20, none⟩ = some (.bool (p.b 42)) from v42)]) ?_
        simp only [List.getElem_toArray, List.getElem_cons_succ, List.getElem_cons_zero, Act.put, List.setIfInBounds_toArray, List.set_cons_zero, List.set_cons_succ]
        refine wpList_bif (c := (!qd147)) (v := .bool (p.b 42)) (wanted_f rfl (by kernel_rfl)) (fun hc => by have h0 := notT (hc); simp [go_sem, execOp, h0]) ?_
        simp only [List.getElem_toArray, List.getElem_cons_succ, List.getElem_cons_zero, Act.put, List.setIfInBounds_toArray, List.set_cons_zero, List.set_cons_succ]
        refine wpList_bif (c := ((!qd147) && (p.b 42))) (v := .pointer (some ⟨g, k * 89, none⟩)) (wanted_ct rfl (yielded_bif (by kernel_rfl))) (fun hc => by have h1 := andR hc; have hc1 := andL hc; have h0 := notT (hc1); simp [go_sem, execOp, h1, h0]) ?_
        simp only [List.getElem_toArray, List.getElem_cons_succ, List.getElem_cons_zero, Act.put, List.setIfInBounds_toArray, List.set_cons_zero, List.set_cons_succ]
        refine wpList_bif (c := ((!qd147) && (p.b 42))) (v := .pointer (some ⟨g, k * 89, none⟩)) (wanted_ct rfl (yielded_bif (by kernel_rfl))) (fun hc => by have h1 := andR hc; have hc1 := andL hc; have h0 := notT (hc1); simp [go_sem, execOp, h1, h0]) ?_
        simp only [List.getElem_toArray, List.getElem_cons_succ, List.getElem_cons_zero, Act.put, List.setIfInBounds_toArray, List.set_cons_zero, List.set_cons_succ]
        refine wpList_bif (c := ((!qd147) && (p.b 42))) (v := .pointer (some ⟨g, k * 89 + 6, none⟩)) (wanted_ct rfl (yielded_bif (by kernel_rfl))) (fun hc => by have h1 := andR hc; have hc1 := andL hc; have h0 := notT (hc1); simp [go_sem, execOp, h1, h0]) ?_
        simp only [List.getElem_toArray, List.getElem_cons_succ, List.getElem_cons_zero, Act.put, List.setIfInBounds_toArray, List.set_cons_zero, List.set_cons_succ]
        refine wpList_bif (c := ((!qd147) && (p.b 42))) (v := .pointer (some ⟨g, k * 89 + 6 + 6, none⟩)) (wanted_ct rfl (yielded_bif (by kernel_rfl))) (fun hc => by have h1 := andR hc; have hc1 := andL hc; have h0 := notT (hc1); simp [go_sem, execOp, h1, h0]) ?_
        simp only [List.getElem_toArray, List.getElem_cons_succ, List.getElem_cons_zero, Act.put, List.setIfInBounds_toArray, List.set_cons_zero, List.set_cons_succ]
        refine wpList_bif (c := ((!qd147) && (p.b 42))) (v := .int .i64 (p.i 12)) (wanted_ct rfl (yielded_bif (by kernel_rfl))) (fun hc => by have h1 := andR hc; have hc1 := andL hc; have h0 := notT (hc1); simp [go_sem, execOp, h1, h0, (show w2.cell? ⟨g, k * 89 + 6 + 6, none⟩ = some (.int .i64 (p.i 12)) from c12)]) ?_
        simp only [List.getElem_toArray, List.getElem_cons_succ, List.getElem_cons_zero, Act.put, List.setIfInBounds_toArray, List.set_cons_zero, List.set_cons_succ]
        refine wpList_bif (c := ((!qd147) && (p.b 42))) (v := .bool qd157) (wanted_ct rfl (yielded_bif (by kernel_rfl))) (fun hc => by have h1 := andR hc; have hc1 := andL hc; have h0 := notT (hc1); rw [Hqd157.out]; simp [go_sem, execOp, h1, h0]) ?_
        simp only [List.getElem_toArray, List.getElem_cons_succ, List.getElem_cons_zero, Act.put, List.setIfInBounds_toArray, List.set_cons_zero, List.set_cons_succ]
        refine wpList_bif (c := (!qd147)) (v := .bool qd158) (wanted_f rfl (by kernel_rfl)) (fun hc => by have h0 := notT (hc); rw [Hqd158.out]; cases hA : (p.b 42) <;> simp [go_sem, execOp, hA, h0]) ?_
        simp only [List.getElem_toArray, List.getElem_cons_succ, List.getElem_cons_zero, Act.put, List.setIfInBounds_toArray, List.set_cons_zero, List.set_cons_succ]
        refine wpList_val (by kernel_rfl) (.bool qd159) (by rw [Hqd159.out]; cases hA : qd147 <;> simp [go_sem, execOp, hA]) ?_
        simp only [List.getElem_toArray, List.getElem_cons_succ, List.getElem_cons_zero, Act.put, List.setIfInBounds_toArray, List.set_cons_zero, List.set_cons_succ]
        refine wpList_val (by kernel_rfl) (.bool qd159) (by kernel_rfl) ?_
        simp only [List.getElem_toArray, List.getElem_cons_succ, List.getElem_cons_zero, Act.put, List.setIfInBounds_toArray, List.set_cons_zero, List.set_cons_succ]
        refine wpList_bif (c := (!qd159)) (v := .pointer (some ⟨gv, 2, none⟩)) (wanted_f rfl (by kernel_rfl)) (fun hc => by have h0 := notT (hc); simp [go_sem, execOp, h0]) ?_
        simp only [List.getElem_toArray, List.getElem_cons_succ, List.getElem_cons_zero, Act.put, List.setIfInBounds_toArray, List.set_cons_zero, List.set_cons_succ]
        refine wpList_bif (c := (!qd159)) (v := .bool (p.b 24)) (wanted_f rfl (by kernel_rfl)) (fun hc => by have h0 := notT (hc); simp [go_sem, execOp, h0, (show w2.cell? ⟨gv, 2, none⟩ = some (.bool (p.b 24)) from v24)]) ?_
        simp only [List.getElem_toArray, List.getElem_cons_succ, List.getElem_cons_zero, Act.put, List.setIfInBounds_toArray, List.set_cons_zero, List.set_cons_succ]
        refine wpList_val (by kernel_rfl) (.bool qd163) (by rw [Hqd163.out]; cases hA : qd159 <;> simp [go_sem, execOp, hA]) ?_
        simp only [List.getElem_toArray, List.getElem_cons_succ, List.getElem_cons_zero, Act.put, List.setIfInBounds_toArray, List.set_cons_zero, List.set_cons_succ]
        refine wpList_val (by kernel_rfl) (.bool qd163) (by kernel_rfl) ?_
        simp only [List.getElem_toArray, List.getElem_cons_succ, List.getElem_cons_zero, Act.put, List.setIfInBounds_toArray, List.set_cons_zero, List.set_cons_succ]
        refine wpList_bif (c := qd163) (v := .pointer (some ⟨gv, 10, none⟩)) (wanted_t rfl (by kernel_rfl)) (fun hc => by have h0 := hc; simp [go_sem, execOp, h0]) ?_
        simp only [List.getElem_toArray, List.getElem_cons_succ, List.getElem_cons_zero, Act.put, List.setIfInBounds_toArray, List.set_cons_zero, List.set_cons_succ]
        refine wpList_bif (c := qd163) (v := .bool (p.b 32)) (wanted_t rfl (by kernel_rfl)) (fun hc => by have h0 := hc; simp [go_sem, execOp, h0, (show w2.cell? ⟨gv, 10, none⟩ = some (.bool (p.b 32)) from v32)]) ?_
        simp only [List.getElem_toArray, List.getElem_cons_succ, List.getElem_cons_zero, Act.put, List.setIfInBounds_toArray, List.set_cons_zero, List.set_cons_succ]
        refine wpList_bif (c := qd163) (v := .bool qd167) (wanted_t rfl (by kernel_rfl)) (fun hc => by have h0 := hc; rw [Hqd167.out]; simp [go_sem, execOp, h0]) ?_
        simp only [List.getElem_toArray, List.getElem_cons_succ, List.getElem_cons_zero, Act.put, List.setIfInBounds_toArray, List.set_cons_zero, List.set_cons_succ]
        refine wpList_val (by kernel_rfl) (.bool qd168) (by rw [Hqd168.out]; cases hA : qd163 <;> simp [go_sem, execOp, hA]) ?_
        simp only [List.getElem_toArray, List.getElem_cons_succ, List.getElem_cons_zero, Act.put, List.setIfInBounds_toArray, List.set_cons_zero, List.set_cons_succ]
        refine wpList_val (by kernel_rfl) (.bool qd168) (by kernel_rfl) ?_
        simp only [List.getElem_toArray, List.getElem_cons_succ, List.getElem_cons_zero, Act.put, List.setIfInBounds_toArray, List.set_cons_zero, List.set_cons_succ]
        refine wpList_bif (c := qd168) (v := .pointer (some ⟨gv, 6, none⟩)) (wanted_t rfl (by kernel_rfl)) (fun hc => by have h0 := hc; simp [go_sem, execOp, h0]) ?_
        simp only [List.getElem_toArray, List.getElem_cons_succ, List.getElem_cons_zero, Act.put, List.setIfInBounds_toArray, List.set_cons_zero, List.set_cons_succ]
        refine wpList_bif (c := qd168) (v := .bool (p.b 28)) (wanted_t rfl (by kernel_rfl)) (fun hc => by have h0 := hc; simp [go_sem, execOp, h0, (show w2.cell? ⟨gv, 6, none⟩ = some (.bool (p.b 28)) from v28)]) ?_
        simp only [List.getElem_toArray, List.getElem_cons_succ, List.getElem_cons_zero, Act.put, List.setIfInBounds_toArray, List.set_cons_zero, List.set_cons_succ]
        refine wpList_bif (c := qd168) (v := .bool (p.b 28)) (wanted_t rfl (by kernel_rfl)) (fun hc => by have h0 := hc; simp [go_sem, execOp, h0]) ?_
        simp only [List.getElem_toArray, List.getElem_cons_succ, List.getElem_cons_zero, Act.put, List.setIfInBounds_toArray, List.set_cons_zero, List.set_cons_succ]
        refine wpList_bif (c := (qd168 && (!(p.b 28)))) (v := .pointer (some ⟨gv, 4, none⟩)) (wanted_cf rfl (yielded_bif (by kernel_rfl))) (fun hc => by have h1 := notT (andR hc); have hc1 := andL hc; have h0 := hc1; simp [go_sem, execOp, h1, h0]) ?_
        simp only [List.getElem_toArray, List.getElem_cons_succ, List.getElem_cons_zero, Act.put, List.setIfInBounds_toArray, List.set_cons_zero, List.set_cons_succ]
        refine wpList_bif (c := (qd168 && (!(p.b 28)))) (v := .bool (p.b 26)) (wanted_cf rfl (yielded_bif (by kernel_rfl))) (fun hc => by have h1 := notT (andR hc); have hc1 := andL hc; have h0 := hc1; simp [go_sem, execOp, h1, h0, (show w2.cell? ⟨gv, 4, none⟩ = some (.bool (p.b 26)) from v26)]) ?_
        simp only [List.getElem_toArray, List.getElem_cons_succ, List.getElem_cons_zero, Act.put, List.setIfInBounds_toArray, List.set_cons_zero, List.set_cons_succ]
        refine wpList_bif (c := qd168) (v := .bool qd175) (wanted_t rfl (by kernel_rfl)) (fun hc => by have h0 := hc; rw [Hqd175.out]; cases hA : (p.b 28) <;> simp [go_sem, execOp, hA, h0]) ?_
        simp only [List.getElem_toArray, List.getElem_cons_succ, List.getElem_cons_zero, Act.put, List.setIfInBounds_toArray, List.set_cons_zero, List.set_cons_succ]
        refine wpList_val (by kernel_rfl) (.bool qd176) (by rw [Hqd176.out]; cases hA : qd168 <;> simp [go_sem, execOp, hA]) ?_
        simp only [List.getElem_toArray, List.getElem_cons_succ, List.getElem_cons_zero, Act.put, List.setIfInBounds_toArray, List.set_cons_zero, List.set_cons_succ]
        refine wpList_val (by kernel_rfl) (.bool qd176) (by kernel_rfl) ?_
        simp only [List.getElem_toArray, List.getElem_cons_succ, List.getElem_cons_zero, Act.put, List.setIfInBounds_toArray, List.set_cons_zero, List.set_cons_succ]
        refine wpList_nil ?_
        have hc3 : qd176 = (((p.b 28 || p.b 26) && !p.b 32) && stopD p) := by rw [Hqd176.out, Hqd175.out, Hqd168.out, Hqd167.out, Hqd163.out, Hqd159.out, Hqd158.out, Hqd157.out, Hqd147.out, Hqd146.out]; unfold stopD; generalize (p.b 46 && !p.b 47 || p.b 42 && p.i 12 != 0 || p.b 24) = X; cases X <;> cases p.b 32 <;> simp
        have Hc3 := Lib.hid hc3
        clear hc3
        cases hv3 : qd176
        case true =>
          have HR := Lib.hid (show T = some (upd ps k (stopF b p)) by rw [HT3.out, ← Hc3.out, hv3]; rfl)
          have c28 : w2.cell? ⟨g, k * 89 + 22 + 6, none⟩ = some (.bool (p.b 28)) := (H2.out.p.cell hk (j := 28) (by omega)).trans (by rw [upd_same]; rfl)
          have c26 : w2.cell? ⟨g, k * 89 + 22 + 4, none⟩ = some (.bool (p.b 26)) := (H2.out.p.cell hk (j := 26) (by omega)).trans (by rw [upd_same]; rfl)
          have c24 : w2.cell? ⟨g, k * 89 + 22 + 2, none⟩ = some (.bool (p.b 24)) := (H2.out.p.cell hk (j := 24) (by omega)).trans (by rw [upd_same]; rfl)
          have f28 : w2.frozen? ⟨g, k * 89 + 22 + 6, none⟩ = false := H2.out.p.free _
          have f26 : w2.frozen? ⟨g, k * 89 + 22 + 4, none⟩ = false := H2.out.p.free _
          have f24 : w2.frozen? ⟨g, k * 89 + 22 + 2, none⟩ = false := H2.out.p.free _
          have f7 : w2.frozen? ⟨g, k * 89 + 6 + 1, none⟩ = false := H2.out.p.free _
          go_wp2_with fail
          go_ret
          have HB := Lib.hid (show Bst ((((w2.setCell ⟨g, k * 89 + 22 + 6, none⟩ (.bool false)).setCell ⟨g, k * 89 + 22 + 4, none⟩ (.bool false)).setCell ⟨g, k * 89 + 22 + 2, none⟩ (.bool false)).setCell ⟨g, k * 89 + 6 + 1, none⟩ (.int .i64 (fwdN b p))) bx g b (upd ps k ((((p.setB 28 false).setB 26 false).setB 24 false).setI 7 (fwdN b p))) ss fs from ((((H2.out).put (j := 28) (by omega) (rowP_put_28 _ _)).put (j := 26) (by omega) (rowP_put_26 _ _)).put (j := 24) (by omega) (rowP_put_24 _ _)).put (j := 7) (by omega) (rowP_put_7 _ _))
          rw [HR.out]
          exact ⟨rfl, HB.out, ((((HO2.out).setCell (Or.inl rfl) _).setCell (Or.inl rfl) _).setCell (Or.inl rfl) _).setCell (Or.inl rfl) _⟩
        case false =>
          have HT4 := Lib.hid (show T = (bif onD p && !p.b 28 then some (upd ps k ((p.setB 28 true).setI 7 (fwdN b p))) else (bif (onD p && p.b 28) && !p.b 26 then some (upd ps k (openF p)) else none)) by rw [HT3.out, ← Hc3.out, hv3]; rfl)
          go_upto_region 19 with (fail)
          obtain ⟨qe199, hqe199⟩ : ∃ x : Bool, x = (!(p.b 28)) := ⟨_, rfl⟩
          have Hqe199 := Lib.hid hqe199
          clear hqe199
          obtain ⟨qe200, hqe200⟩ : ∃ x : Bool, x = (qo46 && qe199) := ⟨_, rfl⟩
          have Hqe200 := Lib.hid hqe200
          clear hqe200
          refine wp_region_lit ?_
          refine wpList_val (by kernel_rfl) (.bool qo46) (by kernel_rfl) ?_
          simp only [List.getElem_toArray, List.getElem_cons_succ, List.getElem_cons_zero, Act.put, List.setIfInBounds_toArray, List.set_cons_zero, List.set_cons_succ]
          refine wpList_val (by kernel_rfl) (.bool qo46) (by kernel_rfl) ?_
          simp only [List.getElem_toArray, List.getElem_cons_succ, List.getElem_cons_zero, Act.put, List.setIfInBounds_toArray, List.set_cons_zero, List.set_cons_succ]
          refine wpList_bif (c := qo46) (v := .pointer (some ⟨gv, 6, none⟩)) (wanted_t rfl (by kernel_rfl)) (fun hc => by have h0 := hc; simp [go_sem, execOp, h0]) ?_
          simp only [List.getElem_toArray, List.getElem_cons_succ, List.getElem_cons_zero, Act.put, List.setIfInBounds_toArray, List.set_cons_zero, List.set_cons_succ]
          refine wpList_bif (c := qo46) (v := .bool (p.b 28)) (wanted_t rfl (by kernel_rfl)) (fun hc => by have h0 := hc; simp [go_sem, execOp, h0, (show w2.cell? ⟨gv, 6, none⟩ = some (.bool (p.b 28)) from v28)]) ?_
          simp only [List.getElem_toArray, List.getElem_cons_succ, List.getElem_cons_zero, Act.put, List.setIfInBounds_toArray, List.set_cons_zero, List.set_cons_succ]
          refine wpList_bif (c := qo46) (v := .bool qe199) (wanted_t rfl (by kernel_rfl)) (fun hc => by have h0 := hc; rw [Hqe199.out]; simp [go_sem, execOp, h0]) ?_
          simp only [List.getElem_toArray, List.getElem_cons_succ, List.getElem_cons_zero, Act.put, List.setIfInBounds_toArray, List.set_cons_zero, List.set_cons_succ]
          refine wpList_val (by kernel_rfl) (.bool qe200) (by rw [Hqe200.out]; cases hA : qo46 <;> simp [go_sem, execOp, hA]) ?_
          simp only [List.getElem_toArray, List.getElem_cons_succ, List.getElem_cons_zero, Act.put, List.setIfInBounds_toArray, List.set_cons_zero, List.set_cons_succ]
          refine wpList_val (by kernel_rfl) (.bool qe200) (by kernel_rfl) ?_
          simp only [List.getElem_toArray, List.getElem_cons_succ, List.getElem_cons_zero, Act.put, List.setIfInBounds_toArray, List.set_cons_zero, List.set_cons_succ]
          refine wpList_nil ?_
          have hc4 : qe200 = (onD p && !p.b 28) := by rw [Hqe200.out, Hqe199.out, Hon.out]
          have Hc4 := Lib.hid hc4
          clear hc4
          cases hv4 : qe200
          case true =>
            have HR := Lib.hid (show T = some (upd ps k ((p.setB 28 true).setI 7 (fwdN b p))) by rw [HT4.out, ← Hc4.out, hv4]; rfl)
            have c28 : w2.cell? ⟨g, k * 89 + 22 + 6, none⟩ = some (.bool (p.b 28)) := (H2.out.p.cell hk (j := 28) (by omega)).trans (by rw [upd_same]; rfl)
            have f28 : w2.frozen? ⟨g, k * 89 + 22 + 6, none⟩ = false := H2.out.p.free _
            have f7 : w2.frozen? ⟨g, k * 89 + 6 + 1, none⟩ = false := H2.out.p.free _
            go_wp2_with fail
            go_ret
            have HB := Lib.hid (show Bst ((w2.setCell ⟨g, k * 89 + 22 + 6, none⟩ (.bool true)).setCell ⟨g, k * 89 + 6 + 1, none⟩ (.int .i64 (fwdN b p))) bx g b (upd ps k ((p.setB 28 true).setI 7 (fwdN b p))) ss fs from ((H2.out).put (j := 28) (by omega) (rowP_put_28 _ _)).put (j := 7) (by omega) (rowP_put_7 _ _))
            rw [HR.out]
            exact ⟨rfl, HB.out, ((HO2.out).setCell (Or.inl rfl) _).setCell (Or.inl rfl) _⟩
          case false =>
            have HT5 := Lib.hid (show T = (bif (onD p && p.b 28) && !p.b 26 then some (upd ps k (openF p)) else none) by rw [HT4.out, ← Hc4.out, hv4]; rfl)
            go_upto_region 22 with (fail)
            obtain ⟨qf215, hqf215⟩ : ∃ x : Bool, x = (!(p.b 26)) := ⟨_, rfl⟩
            have Hqf215 := Lib.hid hqf215
            clear hqf215
            obtain ⟨qf216, hqf216⟩ : ∃ x : Bool, x = (qo46 && qf215) := ⟨_, rfl⟩
            have Hqf216 := Lib.hid hqf216
            clear hqf216
            refine wp_region_lit ?_
            refine wpList_val (by kernel_rfl) (.bool qo46) (by kernel_rfl) ?_
            simp only [List.getElem_toArray, List.getElem_cons_succ, List.getElem_cons_zero, Act.put, List.setIfInBounds_toArray, List.set_cons_zero, List.set_cons_succ]
            refine wpList_val (by kernel_rfl) (.bool qo46) (by kernel_rfl) ?_
            simp only [List.getElem_toArray, List.getElem_cons_succ, List.getElem_cons_zero, Act.put, List.setIfInBounds_toArray, List.set_cons_zero, List.set_cons_succ]
            refine wpList_bif (c := qo46) (v := .pointer (some ⟨gv, 4, none⟩)) (wanted_t rfl (by kernel_rfl)) (fun hc => by have h0 := hc; simp [go_sem, execOp, h0]) ?_
            simp only [List.getElem_toArray, List.getElem_cons_succ, List.getElem_cons_zero, Act.put, List.setIfInBounds_toArray, List.set_cons_zero, List.set_cons_succ]
            refine wpList_bif (c := qo46) (v := .bool (p.b 26)) (wanted_t rfl (by kernel_rfl)) (fun hc => by have h0 := hc; simp [go_sem, execOp, h0, (show w2.cell? ⟨gv, 4, none⟩ = some (.bool (p.b 26)) from v26)]) ?_
            simp only [List.getElem_toArray, List.getElem_cons_succ, List.getElem_cons_zero, Act.put, List.setIfInBounds_toArray, List.set_cons_zero, List.set_cons_succ]
            refine wpList_bif (c := qo46) (v := .bool qf215) (wanted_t rfl (by kernel_rfl)) (fun hc => by have h0 := hc; rw [Hqf215.out]; simp [go_sem, execOp, h0]) ?_
            simp only [List.getElem_toArray, List.getElem_cons_succ, List.getElem_cons_zero, Act.put, List.setIfInBounds_toArray, List.set_cons_zero, List.set_cons_succ]
            refine wpList_val (by kernel_rfl) (.bool qf216) (by rw [Hqf216.out]; cases hA : qo46 <;> simp [go_sem, execOp, hA]) ?_
            simp only [List.getElem_toArray, List.getElem_cons_succ, List.getElem_cons_zero, Act.put, List.setIfInBounds_toArray, List.set_cons_zero, List.set_cons_succ]
            refine wpList_val (by kernel_rfl) (.bool qf216) (by kernel_rfl) ?_
            simp only [List.getElem_toArray, List.getElem_cons_succ, List.getElem_cons_zero, Act.put, List.setIfInBounds_toArray, List.set_cons_zero, List.set_cons_succ]
            refine wpList_nil ?_
            have hc5 : qf216 = ((onD p && p.b 28) && !p.b 26) := by rw [Hqf216.out, Hqf215.out, Hon.out]; have h3 := Hc4.out; rw [hv4] at h3; revert h3; cases onD p <;> cases p.b 28 <;> simp
            have Hc5 := Lib.hid hc5
            clear hc5
            cases hv5 : qf216
            case true =>
              have HR := Lib.hid (show T = some (upd ps k (openF p)) by rw [HT5.out, ← Hc5.out, hv5]; rfl)
              have c26 : w2.cell? ⟨g, k * 89 + 22 + 4, none⟩ = some (.bool (p.b 26)) := (H2.out.p.cell hk (j := 26) (by omega)).trans (by rw [upd_same]; rfl)
              have c23 : w2.cell? ⟨g, k * 89 + 22 + 1, none⟩ = some (.bool (p.b 23)) := (H2.out.p.cell hk (j := 23) (by omega)).trans (by rw [upd_same]; rfl)
              have f26 : w2.frozen? ⟨g, k * 89 + 22 + 4, none⟩ = false := H2.out.p.free _
              have f7 : w2.frozen? ⟨g, k * 89 + 6 + 1, none⟩ = false := H2.out.p.free _
              have f23 : w2.frozen? ⟨g, k * 89 + 22 + 1, none⟩ = false := H2.out.p.free _
              go_wp2_with fail
              go_ret
              have HB := Lib.hid (show Bst (((w2.setCell ⟨g, k * 89 + 22 + 4, none⟩ (.bool true)).setCell ⟨g, k * 89 + 6 + 1, none⟩ (.int .i64 0)).setCell ⟨g, k * 89 + 22 + 1, none⟩ (.bool (p.b 45))) bx g b (upd ps k (((p.setB 26 true).setI 7 0).setB 23 (p.b 45))) ss fs from (((H2.out).put (j := 26) (by omega) (rowP_put_26 _ _)).put (j := 7) (by omega) (rowP_put_7 _ _)).put (j := 23) (by omega) (rowP_put_23 _ _))
              rw [HR.out]
              exact ⟨rfl, HB.out, (((HO2.out).setCell (Or.inl rfl) _).setCell (Or.inl rfl) _).setCell (Or.inl rfl) _⟩
            case false =>
              have HT6 := Lib.hid (show T = (none) by rw [HT5.out, ← Hc5.out, hv5]; rfl)
              go_wp2_with fail
              go_ret
              rw [HT6.out]
              exact ⟨rfl, H2.out, HO2.out⟩
end Go.Proofs.Ytdangeefecdbaaa.Br
