/- What a port tells in a message, by the document (ford/fordref12.Msg): the same. Conditions: there is such a port, whose change clock isn't below 0. -/
import Derived.Test.YtmlhbfkmnbhoeaaTxMsg
set_option linter.unusedSimpArgs false
namespace Go.Proofs.Ytmlhbfkmnbhoeaa.Br
open Go.RowKit
/-- A port's designated vector, without the port that hears it. -/
def rowVz (p : Rec) : Array Value := #[.int .u64 (p.i 73), .int .u32 (p.i 74), .int .u64 (p.i 75), .int .u16 (p.i 76), .int .u16 0]
theorem sizeVz (p : Rec) : (Try.prog.info? 28).map (·.size) = some (rowVz p).size := by show _ = some 5; kernel_rfl
theorem rowVd_size (p : Rec) : (rowVd p).size = 5 := rfl
theorem rowVd_4 (p : Rec) : (rowVd p)[4]? = some (.int .u16 (p.i 77)) := rfl
theorem rowVd_one (p : Rec) : (rowVd p).all (·.oneCell') = true := by kernel_rfl
theorem zeroV (w : World) : Sem.run Try.prog (zeroValue 28) w = .ok (.agg (rowVd zeroR)) w := by kernel_rfl
theorem bldR0 (p : Rec) (w : World) : Sem.run Try.prog (Instr.build 43 #[(1, .bool (p.i 13 != 0)), (2, .bool (p.b 48)), (7, .int .i64 4), (8, .agg (rowVz p)), (9, .agg (rowTd p))]) w = .ok (.agg (rowMs (msgF p 0))) w := by rw [msgF_0]; kernel_rfl
theorem bldR1 (p : Rec) (w : World) : Sem.run Try.prog (Instr.build 43 #[(0, .int .i64 1)]) w = .ok (.agg (rowMs (msgF p 1))) w := by rw [msgF_1]; kernel_rfl
theorem bldR2 (p : Rec) (w : World) : Sem.run Try.prog (Instr.build 43 #[(0, .int .i64 2), (1, .bool (p.i 13 != 0)), (3, .bool (p.b 34)), (4, .bool (p.b 22)), (5, .bool (p.b 29)), (6, .bool (p.b 27)), (7, .int .i64 (p.i 87)), (8, .agg (rowVz p)), (9, .agg (rowTd p))]) w = .ok (.agg (rowMs (msgF p 2))) w := by rw [msgF_2]; kernel_rfl
attribute [local go_sem] zeroP zeroV zeroM rowB_17 rowP_13 rowP_87 rowVd_4 rowVd_size
set_option maxRecDepth 100000 in
set_option maxHeartbeats 8000000 in
theorem refmsg_any (b : Bri) (ps : Nat → Rec) (k : Nat) (kind : Int) (w : World) (hv : PortsV w b ps) (hk : k < b.n) (hT0 : 0 ≤ (ps k).i 13) :
    Calls Try.prog 17 #[.agg (rowB b), .int .i64 k, .int .i64 kind] w fun e w' => e = .returned (.agg (rowMs (msgF (ps k) kind))) ∧ Below w.heap.size w w' := by
  rcases hv with h0 | ⟨g, o, hap, hc⟩
  · omega
  have hk0 : (0 : Int) ≤ k := by omega
  have hk1 : (k : Int) < b.n := by omega
  have hgl0 : g < w.heap.size := cell_lt (hc k hk 0 (by omega))
  have hT : decide (0 < (ps k).i 13) = ((ps k).i 13 != 0) := by
    rw [Bool.eq_iff_iff]
    simp
    omega
  have Hc := Lib.hid hc
  have Hap := Lib.hid hap
  clear hc hap hT0
  go_enter Try.func17, Try.ntmps17
  go_upto_region 1 with (fail)
  refine ((?_ : ∀ x, x = (w.alloc (.cells (rowB b) 33)).alloc (.cells (rowMs zeroR) 43) → Code.wp _ _ _ _ x) _ rfl)
  intro w2 hw2
  obtain ⟨gb, hgb⟩ : ∃ x, x = w.heap.size := ⟨_, rfl⟩
  have hB2 := Lib.hid (show Below w.heap.size w w2 by rw [hw2]; exact more (more (Below.refl _ _) _) _)
  have hb2 : w2.heap[gb]? = some (.cells (rowB b) 33 (0, 0)) := by rw [hw2, hgb]; exact at_old (by simp) (heap_alloc_new _ _)
  have hr2 : w2.heap[gb + 1]? = some (.cells (rowMs zeroR) 43 (0, 0)) := by rw [hw2, hgb]; exact at_new (by simp)
  rw [← hgb]
  have Hr2 := Lib.hid hr2
  have hgrl : gb + 1 < w2.heap.size := (Array.getElem?_eq_some_iff.1 hr2).1
  have hgb0 : w.heap.size ≤ gb := by omega
  have c17 : w2.cell? ⟨gb, 17, none⟩ = some (.slice (some ⟨g, o, none⟩) b.n b.cp) := by rw [← Hap.out]; exact cells_of hb2 17
  have hport : w2.rangeAt g (o + k * 89) (rowP (ps k)).toList := portV (fun k hk j hj => (hB2.out.cell (p := ⟨g, _, none⟩) hgl0).trans (Hc.out k hk j hj)) hk
  clear hw2 hgb hb2 hr2
  go_upto_region 2 with (first
    | (refine wpList_row rfl 53 _ rfl g (o + k * 89) rfl _ _ hport Try.underlying53 rfl (sizeP _) ?_; simp only [Act.put, List.setIfInBounds_toArray, List.set_cons_zero, List.set_cons_succ])
    | (refine wpList_store_new rfl 53 _ _ rfl w2 (rowP zeroR) 53 _ rfl rfl rfl (sizeP _) rfl (rowP_one _) ?_; simp only [Act.put])
    | fail)
  refine ((?_ : ∀ x, x = w2.alloc (.cells (rowP (ps k)) 53) → Code.wp _ _ _ _ x) _ rfl)
  intro w3 hw3
  obtain ⟨gp, hgp⟩ : ∃ x, x = w2.heap.size := ⟨_, rfl⟩
  rw [← hgp]
  have hP3 : w3.heap[gp]? = some (.cells (rowP (ps k)) 53 (0, 0)) := by rw [hw3, hgp]; exact heap_alloc_new _ _
  have hr3 : w3.heap[gb + 1]? = some (.cells (rowMs zeroR) 43 (0, 0)) := by rw [hw3]; exact at_old hgrl Hr2.out
  have hB3 : Below w.heap.size w w3 := by rw [hw3]; exact more hB2.out _
  have hVd := rangeVd hP3
  have HP3 := Lib.hid hP3
  have HR3 := Lib.hid hr3
  have HB3 := Lib.hid hB3
  clear hw3 hgp hP3 hr3 hB3 hB2 c17 hport Hr2 hgrl hgl0
  go_upto_region 4 with (first
    | (refine wpList_row rfl 28 _ rfl gp 73 rfl _ _ hVd Try.underlying28 rfl (sizeV _) ?_; simp only [Act.put, List.setIfInBounds_toArray, List.set_cons_zero, List.set_cons_succ])
    | (refine wpList_store_new rfl 28 _ _ rfl w3 (rowVd zeroR) 28 _ rfl rfl rfl (sizeV _) rfl (rowVd_one _) ?_; simp only [Act.put])
    | fail)
  refine ((?_ : ∀ x, x = w3.alloc (.cells (rowVz (ps k)) 28) → Code.wp _ _ _ _ x) _ rfl)
  intro wc hwc
  obtain ⟨gv, hgv⟩ : ∃ x, x = w3.heap.size := ⟨_, rfl⟩
  rw [← hgv]
  have hV : wc.heap[gv]? = some (.cells (rowVz (ps k)) 28 (0, 0)) := by rw [hwc, hgv]; exact heap_alloc_new _ _
  have hP : wc.heap[gp]? = some (.cells (rowP (ps k)) 53 (0, 0)) := by rw [hwc]; exact at_old (Array.getElem?_eq_some_iff.1 HP3.out).1 HP3.out
  have hM : wc.heap[gb + 1]? = some (.cells (rowMs zeroR) 43 (0, 0)) := by rw [hwc]; exact at_old (Array.getElem?_eq_some_iff.1 HR3.out).1 HR3.out
  have HB := Lib.hid (show Below w.heap.size w wc by rw [hwc]; exact more HB3.out _)
  have HM := Lib.hid hM
  have c13 : wc.cell? ⟨gp, 6 + 7, none⟩ = some (.int .i64 ((ps k).i 13)) := cells_of hP 13
  have c87 : wc.cell? ⟨gp, 87, none⟩ = some (.int .i64 ((ps k).i 87)) := cells_of hP 87
  have f0 : wc.cell? ⟨gp, 22 + 0, none⟩ = some (.bool ((ps k).b 22)) := cells_of hP 22
  have f5 : wc.cell? ⟨gp, 22 + 5, none⟩ = some (.bool ((ps k).b 27)) := cells_of hP 27
  have f7 : wc.cell? ⟨gp, 22 + 7, none⟩ = some (.bool ((ps k).b 29)) := cells_of hP 29
  have f12 : wc.cell? ⟨gp, 22 + 12, none⟩ = some (.bool ((ps k).b 34)) := cells_of hP 34
  have f26 : wc.cell? ⟨gp, 22 + 26, none⟩ = some (.bool ((ps k).b 48)) := cells_of hP 48
  have hVz : wc.rangeAt gv 0 (rowVz (ps k)).toList := range_sub hV 0 _ (fun j v hv => by rw [Nat.zero_add]; simpa using hv)
  have hTd := rangeTd hP
  clear hwc hgv hV hP hM HP3 HR3 HB3 hVd
  by_cases h0 : kind = 0
  · subst h0
    go_wp2_with (first | (refine wpList_row rfl 28 _ rfl gv 0 rfl _ _ hVz Try.underlying28 rfl (sizeVz _) ?_; simp only [Act.put, List.setIfInBounds_toArray, List.set_cons_zero, List.set_cons_succ]) | (refine wpList_row rfl 24 _ rfl gp 82 rfl _ _ hTd Try.underlying24 rfl (sizeT _) ?_; simp only [Act.put, List.setIfInBounds_toArray, List.set_cons_zero, List.set_cons_succ]) | (refine wpList_build rfl 43 #[(1, .tmp 23), (2, .tmp 26), (7, .const (.int .i64 4)), (8, .tmp 27), (9, .tmp 29)] rfl _ _ (bldR0 (ps k) _) (by kernel_rfl) ?_; simp only [Act.put, List.setIfInBounds_toArray, List.set_cons_zero, List.set_cons_succ]) | (refine wpList_store_row rfl 43 _ _ rfl (gb + 1) (rowMs (msgF (ps k) 0)) rfl rfl 43 (rowMs zeroR) HM.out (sizeM _) rfl (rowMs_one _) ?_; simp only [Act.put]) | fail)
    refine bodyPost_ret (results_cell_row rfl _ _ (gb + 1) 43 (rowMs (msgF (ps k) 0)) (0, 0) _ rfl (setRow_heap _ _ (rowMs zeroR) _ _ _ HM.out) Try.underlying43 rfl (sizeM _)) rfl ?_
    exact ⟨rfl, Below.setRow HB.out (by omega) _⟩
  · by_cases h1 : kind = 1
    · subst h1
      go_wp2_with (first | (refine wpList_row rfl 28 _ rfl gv 0 rfl _ _ hVz Try.underlying28 rfl (sizeVz _) ?_; simp only [Act.put, List.setIfInBounds_toArray, List.set_cons_zero, List.set_cons_succ]) | (refine wpList_row rfl 24 _ rfl gp 82 rfl _ _ hTd Try.underlying24 rfl (sizeT _) ?_; simp only [Act.put, List.setIfInBounds_toArray, List.set_cons_zero, List.set_cons_succ]) | (refine wpList_build rfl 43 #[(0, .const (.int .i64 1))] rfl _ _ (bldR1 (ps k) _) (by kernel_rfl) ?_; simp only [Act.put, List.setIfInBounds_toArray, List.set_cons_zero, List.set_cons_succ]) | (refine wpList_store_row rfl 43 _ _ rfl (gb + 1) (rowMs (msgF (ps k) 1)) rfl rfl 43 (rowMs zeroR) HM.out (sizeM _) rfl (rowMs_one _) ?_; simp only [Act.put]) | fail)
      refine bodyPost_ret (results_cell_row rfl _ _ (gb + 1) 43 (rowMs (msgF (ps k) 1)) (0, 0) _ rfl (setRow_heap _ _ (rowMs zeroR) _ _ _ HM.out) Try.underlying43 rfl (sizeM _)) rfl ?_
      exact ⟨rfl, Below.setRow HB.out (by omega) _⟩
    · by_cases h2 : kind = 2
      · subst h2
        go_wp2_with (first | (refine wpList_row rfl 28 _ rfl gv 0 rfl _ _ hVz Try.underlying28 rfl (sizeVz _) ?_; simp only [Act.put, List.setIfInBounds_toArray, List.set_cons_zero, List.set_cons_succ]) | (refine wpList_row rfl 24 _ rfl gp 82 rfl _ _ hTd Try.underlying24 rfl (sizeT _) ?_; simp only [Act.put, List.setIfInBounds_toArray, List.set_cons_zero, List.set_cons_succ]) | (refine wpList_build rfl 43 #[(0, .const (.int .i64 2)), (1, .tmp 39), (3, .tmp 42), (4, .tmp 45), (5, .tmp 48), (6, .tmp 51), (7, .tmp 53), (8, .tmp 54), (9, .tmp 56)] rfl _ _ (bldR2 (ps k) _) (by kernel_rfl) ?_; simp only [Act.put, List.setIfInBounds_toArray, List.set_cons_zero, List.set_cons_succ]) | (refine wpList_store_row rfl 43 _ _ rfl (gb + 1) (rowMs (msgF (ps k) 2)) rfl rfl 43 (rowMs zeroR) HM.out (sizeM _) rfl (rowMs_one _) ?_; simp only [Act.put]) | fail)
        refine bodyPost_ret (results_cell_row rfl _ _ (gb + 1) 43 (rowMs (msgF (ps k) 2)) (0, 0) _ rfl (setRow_heap _ _ (rowMs zeroR) _ _ _ HM.out) Try.underlying43 rfl (sizeM _)) rfl ?_
        exact ⟨rfl, Below.setRow HB.out (by omega) _⟩
      · have d0 : (kind == 0) = false := beq_eq_false_iff_ne.2 h0
        have d1 : (kind == 1) = false := beq_eq_false_iff_ne.2 h1
        have d2 : (kind == 2) = false := beq_eq_false_iff_ne.2 h2
        have Hno := Lib.hid (msgF_no (ps k) kind (by omega))
        clear h0 h1 h2
        go_wp2_with (first | (refine wpList_row rfl 28 _ rfl gv 0 rfl _ _ hVz Try.underlying28 rfl (sizeVz _) ?_; simp only [Act.put, List.setIfInBounds_toArray, List.set_cons_zero, List.set_cons_succ]) | (refine wpList_row rfl 24 _ rfl gp 82 rfl _ _ hTd Try.underlying24 rfl (sizeT _) ?_; simp only [Act.put, List.setIfInBounds_toArray, List.set_cons_zero, List.set_cons_succ]) | (refine wpList_build rfl 43 #[] rfl _ _ (bldM0 _) (by kernel_rfl) ?_; simp only [Act.put, List.setIfInBounds_toArray, List.set_cons_zero, List.set_cons_succ]) | (refine wpList_store_row rfl 43 _ _ rfl (gb + 1) (rowMs zeroR) rfl rfl 43 (rowMs zeroR) HM.out (sizeM _) rfl (rowMs_one _) ?_; simp only [Act.put]) | fail)
        refine bodyPost_ret (results_cell_row rfl _ _ (gb + 1) 43 (rowMs zeroR) (0, 0) _ rfl (setRow_heap _ _ (rowMs zeroR) _ _ _ HM.out) Try.underlying43 rfl (sizeM _)) rfl ?_
        exact ⟨by rw [Hno.out], Below.setRow HB.out (by omega) _⟩
end Go.Proofs.Ytmlhbfkmnbhoeaa.Br
