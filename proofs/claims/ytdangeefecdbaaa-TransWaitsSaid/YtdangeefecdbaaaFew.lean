/- What fordref08.Few answers of a bridge whose ports can be read: where it answers true, the bridge may be, and has from one to eight ports, and up to twenty messages and places. -/
import Derived.Test.YtdangeefecdbaaaRight
namespace Go.Proofs.Ytdangeefecdbaaa.Br
open Go.RowKit
attribute [local go_sem] rowB_size rowB_0 rowB_1 rowB_2 rowB_3 rowB_4 rowB_5 rowB_6 rowB_7 rowB_8 rowB_9 rowB_10 rowB_11 rowB_12 rowB_13 rowB_14 rowB_15 rowB_16 rowB_17 rowB_18 rowB_19
/-- A bridge that is looked at. -/
def Looked (b : Bri) (ps : Nat → Rec) : Prop := Good b ps ∧ 1 ≤ b.n ∧ b.n ≤ 8 ∧ b.no ≤ 20 ∧ b.nf ≤ 20
/-- What is told of Few's answer. -/
def FewTells (b : Bri) (ps : Nat → Rec) (w : World) (e : Ending) (w' : World) : Prop := ∃ r : Bool, e = .returned (.bool r) ∧ (r = true → Looked b ps) ∧ Below w.heap.size w w'
theorem loadB {P : Program} {ops : Array Oper} {rest : List Oper} {o : Oper} {a : Act} {w : World} {Q : Exit → Act → World → Prop} (hP : P = Try.prog) (hgd : o.guard = none) (x : Operand) (ho : o.op = .load 33 x) (g : Nat) (hx : a.eval x = .pointer (some ⟨g, 0, none⟩)) (b : Bri)
    (hg : w.heap[g]? = some (.cells (rowB b) 33 (0, 0))) (h : wpList P ops Q rest (a.put o.dst (.agg (rowB b))) w) : wpList P ops Q (o :: rest) a w := by
  subst hP
  exact wpList_load_row hgd 33 x ho g hx 33 (rowB b) (0, 0) _ hg Try.underlying33 rfl (sizeB b) h
set_option maxHeartbeats 1000000 in
theorem few_any (b : Bri) (ps : Nat → Rec) (w : World) (hv : PortsV w b ps) : Calls Try.prog 11 #[.agg (rowB b)] w (FewTells b ps w) := by
  have hv1 := hv.below (more (Below.refl _ _) (.cells (rowB b) 33))
  have HV := Lib.hid hv1
  clear hv hv1
  go_enter Try.func11, Try.ntmps11
  go_wp2_with (first | (refine loadB rfl rfl _ rfl w.heap.size rfl b (heap_alloc_new _ _) ?_; simp only [Act.put, List.setIfInBounds_toArray, List.set_cons_zero, List.set_cons_succ]) | fail)
  refine (right_any b ps _ HV.out).mono ?_
  rintro e w1 ⟨r, rfl, hr, hb1⟩
  have hB1 : w1.heap[w.heap.size]? = some (.cells (rowB b) 33 (0, 0)) := by
    rw [hb1.block _ (by simp)]
    exact heap_alloc_new _ _
  have HW1 := Lib.hid (andthen (more (Below.refl w.heap.size w) _) hb1)
  have d17 : w1.cell? ⟨w.heap.size, 17, none⟩ = some (.slice b.ap b.n b.cp) := cells_of hB1 17
  have d18 : w1.cell? ⟨w.heap.size, 18, none⟩ = some (.slice b.ao b.no b.co) := cells_of hB1 18
  have d19 : w1.cell? ⟨w.heap.size, 19, none⟩ = some (.slice b.af b.nf b.cf) := cells_of hB1 19
  clear hb1 hB1
  have Hr := Lib.hid hr
  clear hr
  cases r
  · go_wp2
    go_ret
    exact ⟨false, rfl, (fun hf => Bool.noConfusion hf), HW1.out⟩
  · have HG := Lib.hid (Hr.out rfl)
    clear Hr
    by_cases hG : (1 : Int) ≤ b.n ∧ (b.n : Int) ≤ 8 ∧ (b.no : Int) ≤ 20 ∧ (b.nf : Int) ≤ 20
    · obtain ⟨g1, g2, g3, g4⟩ := hG
      go_wp2
      all_goals
        go_ret
        exact ⟨_, rfl, fun _ => ⟨HG.out, by omega, by omega, by omega, by omega⟩, HW1.out⟩
    · go_wp2
      all_goals
        go_ret
        refine ⟨false, ?_, (fun hf => Bool.noConfusion hf), HW1.out⟩
        first | rfl | exact ret_b (decide_eq_false (by omega)).symm
end Go.Proofs.Ytdangeefecdbaaa.Br
