/- What a port sends (ford/tx.kind, ford/tx.Msg): the plain functions, and that the code comes to them. -/
import Derived.Test.YtmlhbfkmnbhoeaaBst
import Derived.Deep.RegionHeld
import Derived.Deep.CutRange
import Derived.StillTailTactics
set_option linter.unusedSimpArgs false
namespace Go.Proofs.Ytmlhbfkmnbhoeaa.Br
open Go.RowKit
/-- What a port sends, if it may. -/
def kindF (p : Rec) : Int × Bool := if p.b 45 = true then (2, p.i 87 != 0) else if p.i 87 = 4 then (0, true) else (1, p.i 87 == 3)
def msg0 (p : Rec) (kind : Int) : Rec := ⟨fun j => match j with | 1 => kind | 9 => p.i 73 | 10 => p.i 74 | 11 => p.i 75 | 12 => p.i 76 | 13 => p.i 77 | 14 => p.i 82 | 15 => p.i 83 | 16 => p.i 84 | 17 => p.i 85 | _ => 0, fun j => match j with | 2 => p.i 13 != 0 | _ => false⟩
/-- What is told in a message of a kind. -/
def msgF (p : Rec) (kind : Int) : Rec :=
  if kind = 0 then ((((msg0 p 0).setI 13 0).setB 3 (p.b 48)).setI 8 4)
  else if kind = 1 then zeroR.setI 1 1
  else if kind = 2 then (((((((msg0 p 2).setI 13 0).setB 4 (p.b 34)).setB 5 (p.b 22)).setB 6 (p.b 29)).setB 7 (p.b 27)).setI 8 (p.i 87))
  else zeroR
theorem msgF_0 (p : Rec) : msgF p 0 = ((((msg0 p 0).setI 13 0).setB 3 (p.b 48)).setI 8 4) := if_pos rfl
theorem msgF_1 (p : Rec) : msgF p 1 = zeroR.setI 1 1 := by
  unfold msgF
  rw [if_neg (by decide), if_pos rfl]
theorem msgF_2 (p : Rec) : msgF p 2 = (((((((msg0 p 2).setI 13 0).setB 4 (p.b 34)).setB 5 (p.b 22)).setB 6 (p.b 29)).setB 7 (p.b 27)).setI 8 (p.i 87)) := by
  unfold msgF
  rw [if_neg (by decide), if_neg (by decide), if_pos rfl]
theorem msgF_no (p : Rec) (k : Int) (h : ¬ (k = 0 ∨ k = 1 ∨ k = 2)) : msgF p k = zeroR := by
  unfold msgF
  rw [if_neg (by omega), if_neg (by omega), if_neg (by omega)]
attribute [local go_sem] rowP_45 rowP_87
theorem kind_any (p : Rec) (w : World) : Calls Try.prog 19 #[.agg (rowP p)] w fun e w' => e = .returned (.tuple #[.int .i64 (kindF p).1, .bool (kindF p).2]) ∧ Below w.heap.size w w' := by
  unfold kindF
  cases h45 : p.b 45 with
  | true =>
    rw [if_pos rfl]
    go_enter Try.func19, Try.ntmps19
    go_wp2_with fail
    refine wp_region_held_drew (S := fun w' => w'.heap[w.heap.size]? = some (.cells (rowP p) 53 (0, 0))) (by kernel_rfl) (heap_alloc_new _ _) (fun hH => ?_)
    refine wpAnyH_take (i := 0) (v := .pointer (some ⟨w.heap.size, 87, none⟩)) rfl (by kernel_rfl) (by kernel_rfl) (by kernel_rfl) (fun _ _ _ h => h) (Or.inl ⟨by rfl, fun z _ => by simp [go_sem, execOp]⟩) hH ?_
    simp only [List.getElem_toArray, List.getElem_cons_succ, List.getElem_cons_zero, Act.put, List.setIfInBounds_toArray, List.set_cons_zero, List.set_cons_succ]
    refine wpAnyH_take (i := 1) (v := .int .i64 (p.i 87)) rfl (by kernel_rfl) (by kernel_rfl) (by kernel_rfl) (fun _ _ _ h => h) (Or.inl ⟨by rfl, fun z hz => by simp [go_sem, execOp, (show z.cell? ⟨w.heap.size, 87, none⟩ = some (.int .i64 (p.i 87)) from cells_of hz 87)]⟩) hH ?_
    simp only [List.getElem_toArray, List.getElem_cons_succ, List.getElem_cons_zero, Act.put, List.setIfInBounds_toArray, List.set_cons_zero, List.set_cons_succ]
    refine wpAnyH_take (i := 2) (v := .bool (p.i 87 != 0)) rfl (by kernel_rfl) (by kernel_rfl) (by kernel_rfl) (fun _ _ _ h => h) (Or.inl ⟨by rfl, fun z _ => by simp [go_sem, execOp]⟩) hH ?_
    simp only [List.getElem_toArray, List.getElem_cons_succ, List.getElem_cons_zero, Act.put, List.setIfInBounds_toArray, List.set_cons_zero, List.set_cons_succ]
    refine wpAnyH_take (i := 3) (v := .int .i64 2) rfl (by kernel_rfl) (by kernel_rfl) (by kernel_rfl) (fun _ _ _ h => h) (Or.inl ⟨by rfl, fun z _ => rfl⟩) hH ?_
    simp only [List.getElem_toArray, List.getElem_cons_succ, List.getElem_cons_zero, Act.put, List.setIfInBounds_toArray, List.set_cons_zero, List.set_cons_succ]
    refine wpAnyH_take (i := 4) (v := .bool (p.i 87 != 0)) rfl (by kernel_rfl) (by kernel_rfl) (by kernel_rfl) (fun _ _ _ h => h) (Or.inl ⟨by rfl, fun z _ => rfl⟩) hH ?_
    simp only [List.getElem_toArray, List.getElem_cons_succ, List.getElem_cons_zero, Act.put, List.setIfInBounds_toArray, List.set_cons_zero, List.set_cons_succ]
    refine wpAnyH_done (by kernel_rfl) ?_ _
    go_wp2_with fail
    go_ret2
    exact ⟨rfl, (more (Below.refl _ _) _).drew⟩
  | false =>
    rw [if_neg (by simp)]
    by_cases h4 : p.i 87 = 4
    · rw [if_pos h4]
      have d4 : (p.i 87 == 4) = true := by simp [h4]
      have H4 := Lib.hid h4
      clear h4
      go_enter Try.func19, Try.ntmps19
      go_wp2_with fail
      go_ret2
      exact ⟨rfl, more (Below.refl _ _) _⟩
    · rw [if_neg h4]
      have d4 : (p.i 87 == 4) = false := by simp [h4]
      clear h4
      go_enter Try.func19, Try.ntmps19
      go_wp2_with fail
      refine wp_region_held_drew (S := fun w' => w'.heap[w.heap.size]? = some (.cells (rowP p) 53 (0, 0))) (by kernel_rfl) (heap_alloc_new _ _) (fun hH => ?_)
      refine wpAnyH_take (i := 0) (v := .pointer (some ⟨w.heap.size, 87, none⟩)) rfl (by kernel_rfl) (by kernel_rfl) (by kernel_rfl) (fun _ _ _ h => h) (Or.inl ⟨by rfl, fun z _ => by simp [go_sem, execOp]⟩) hH ?_
      simp only [List.getElem_toArray, List.getElem_cons_succ, List.getElem_cons_zero, Act.put, List.setIfInBounds_toArray, List.set_cons_zero, List.set_cons_succ]
      refine wpAnyH_take (i := 1) (v := .int .i64 (p.i 87)) rfl (by kernel_rfl) (by kernel_rfl) (by kernel_rfl) (fun _ _ _ h => h) (Or.inl ⟨by rfl, fun z hz => by simp [go_sem, execOp, (show z.cell? ⟨w.heap.size, 87, none⟩ = some (.int .i64 (p.i 87)) from cells_of hz 87)]⟩) hH ?_
      simp only [List.getElem_toArray, List.getElem_cons_succ, List.getElem_cons_zero, Act.put, List.setIfInBounds_toArray, List.set_cons_zero, List.set_cons_succ]
      refine wpAnyH_take (i := 2) (v := .bool (p.i 87 == 3)) rfl (by kernel_rfl) (by kernel_rfl) (by kernel_rfl) (fun _ _ _ h => h) (Or.inl ⟨by rfl, fun z _ => by simp [go_sem, execOp]⟩) hH ?_
      simp only [List.getElem_toArray, List.getElem_cons_succ, List.getElem_cons_zero, Act.put, List.setIfInBounds_toArray, List.set_cons_zero, List.set_cons_succ]
      refine wpAnyH_take (i := 3) (v := .int .i64 1) rfl (by kernel_rfl) (by kernel_rfl) (by kernel_rfl) (fun _ _ _ h => h) (Or.inl ⟨by rfl, fun z _ => rfl⟩) hH ?_
      simp only [List.getElem_toArray, List.getElem_cons_succ, List.getElem_cons_zero, Act.put, List.setIfInBounds_toArray, List.set_cons_zero, List.set_cons_succ]
      refine wpAnyH_take (i := 4) (v := .bool (p.i 87 == 3)) rfl (by kernel_rfl) (by kernel_rfl) (by kernel_rfl) (fun _ _ _ h => h) (Or.inl ⟨by rfl, fun z _ => rfl⟩) hH ?_
      simp only [List.getElem_toArray, List.getElem_cons_succ, List.getElem_cons_zero, Act.put, List.setIfInBounds_toArray, List.set_cons_zero, List.set_cons_succ]
      refine wpAnyH_done (by kernel_rfl) ?_ _
      go_wp2_with fail
      go_ret2
      exact ⟨rfl, (more (Below.refl _ _) _).drew⟩
/-- The flags, as cells. -/
def rowFl (p : Rec) : Array Value := #[.bool (p.b 22), .bool (p.b 23), .bool (p.b 24), .bool (p.b 25), .bool (p.b 26), .bool (p.b 27), .bool (p.b 28), .bool (p.b 29), .bool (p.b 30), .bool (p.b 31), .bool (p.b 32), .bool (p.b 33), .bool (p.b 34), .bool (p.b 35), .bool (p.b 36), .bool (p.b 37), .bool (p.b 38), .bool (p.b 39), .bool (p.b 40), .bool (p.b 41), .bool (p.b 42), .bool (p.b 43), .bool (p.b 44), .bool (p.b 45), .bool (p.b 46), .bool (p.b 47), .bool (p.b 48), .bool (p.b 49), .bool (p.b 50)]
theorem sizeFl (p : Rec) : (Try.prog.info? 47).map (·.size) = some (rowFl p).size := by show _ = some 29; kernel_rfl
theorem rowFl_one (p : Rec) : (rowFl p).all (·.oneCell') = true := by kernel_rfl
theorem zeroFl (w : World) : Sem.run Try.prog (zeroValue 47) w = .ok (.agg (rowFl zeroR)) w := by kernel_rfl
theorem flagsV {w : World} {g o n k : Nat} {ps : Nat → Rec} (h : ∀ k, k < n → ∀ j, j < 89 → w.cell? ⟨g, o + (k * 89 + j), none⟩ = some (cellP (ps k) j)) (hk : k < n) : w.rangeAt g (o + k * 89 + 22) (rowFl (ps k)).toList := fun j v hv => by
  have hj : j < 29 := by
    have := (List.getElem?_eq_some_iff.1 hv).1
    simpa [rowFl] using this
  have h1 := h k hk (22 + j) (by omega)
  rw [show o + (k * 89 + (22 + j)) = o + k * 89 + 22 + j by omega] at h1
  rw [h1, ← rowP_get (by omega), ← hv]
  match j, hj with
  | 0, _ => rfl
  | 1, _ => rfl
  | 2, _ => rfl
  | 3, _ => rfl
  | 4, _ => rfl
  | 5, _ => rfl
  | 6, _ => rfl
  | 7, _ => rfl
  | 8, _ => rfl
  | 9, _ => rfl
  | 10, _ => rfl
  | 11, _ => rfl
  | 12, _ => rfl
  | 13, _ => rfl
  | 14, _ => rfl
  | 15, _ => rfl
  | 16, _ => rfl
  | 17, _ => rfl
  | 18, _ => rfl
  | 19, _ => rfl
  | 20, _ => rfl
  | 21, _ => rfl
  | 22, _ => rfl
  | 23, _ => rfl
  | 24, _ => rfl
  | 25, _ => rfl
  | 26, _ => rfl
  | 27, _ => rfl
  | 28, _ => rfl
  | j + 29, h => exact absurd h (by omega)
theorem portV {w : World} {g o n k : Nat} {ps : Nat → Rec} (h : ∀ k, k < n → ∀ j, j < 89 → w.cell? ⟨g, o + (k * 89 + j), none⟩ = some (cellP (ps k) j)) (hk : k < n) : w.rangeAt g (o + k * 89) (rowP (ps k)).toList := fun j v hv => by
  have hj : j < 89 := by
    have := (List.getElem?_eq_some_iff.1 hv).1
    simpa [rowP_size] using this
  rw [Nat.add_assoc, h k hk j hj, ← rowP_get hj, ← hv]
  simp
/-- A port's designated vector, and its designated times. -/
def rowVd (p : Rec) : Array Value := #[.int .u64 (p.i 73), .int .u32 (p.i 74), .int .u64 (p.i 75), .int .u16 (p.i 76), .int .u16 (p.i 77)]
def rowTd (p : Rec) : Array Value := #[.int .i64 (p.i 82), .int .i64 (p.i 83), .int .i64 (p.i 84), .int .i64 (p.i 85)]
theorem sizeV (p : Rec) : (Try.prog.info? 28).map (·.size) = some (rowVd p).size := by show _ = some 5; kernel_rfl
theorem sizeT (p : Rec) : (Try.prog.info? 24).map (·.size) = some (rowTd p).size := by show _ = some 4; kernel_rfl
theorem rangeVd {w : World} {g : Nat} {p : Rec} (h : w.heap[g]? = some (.cells (rowP p) 53 (0, 0))) : w.rangeAt g 73 (rowVd p).toList := range_sub h 73 _ (fun j v hv => by
  have hj : j < 5 := (List.getElem?_eq_some_iff.1 hv).1
  match j, hj, hv with
  | 0, _, hv => exact hv
  | 1, _, hv => exact hv
  | 2, _, hv => exact hv
  | 3, _, hv => exact hv
  | 4, _, hv => exact hv)
theorem rangeTd {w : World} {g : Nat} {p : Rec} (h : w.heap[g]? = some (.cells (rowP p) 53 (0, 0))) : w.rangeAt g 82 (rowTd p).toList := range_sub h 82 _ (fun j v hv => by
  have hj : j < 4 := (List.getElem?_eq_some_iff.1 hv).1
  match j, hj, hv with
  | 0, _, hv => exact hv
  | 1, _, hv => exact hv
  | 2, _, hv => exact hv
  | 3, _, hv => exact hv)
theorem bldM (p : Rec) (k : Int) (w : World) : Sem.run Try.prog (Instr.build 43 #[(0, .int .i64 k), (1, .bool (p.i 13 != 0)), (8, .agg (rowVd p)), (9, .agg (rowTd p))]) w = .ok (.agg (rowMs (msg0 p k))) w := by kernel_rfl
theorem bldM1 (k : Int) (w : World) : Sem.run Try.prog (Instr.build 43 #[(0, .int .i64 k)]) w = .ok (.agg (rowMs (zeroR.setI 1 k))) w := by kernel_rfl
theorem bldM0 (w : World) : Sem.run Try.prog (Instr.build 43 #[]) w = .ok (.agg (rowMs zeroR)) w := by kernel_rfl
/-- Behind the first statement: a port and its flags lie in new blocks. -/
def Got (w : World) (p : Rec) (gr : Nat) (vp vf : Value) (wx : World) : Prop :=
  ∃ gp gf, vp = .pointer (some ⟨gp, 0, none⟩) ∧ vf = .pointer (some ⟨gf, 0, none⟩) ∧ wx.heap[gp]? = some (.cells (rowP p) 53 (0, 0)) ∧ wx.heap[gf]? = some (.cells (rowFl p) 47 (0, 0)) ∧
    wx.heap[gr]? = some (.cells (rowMs zeroR) 43 (0, 0)) ∧ Below w.heap.size w wx
end Go.Proofs.Ytmlhbfkmnbhoeaa.Br
