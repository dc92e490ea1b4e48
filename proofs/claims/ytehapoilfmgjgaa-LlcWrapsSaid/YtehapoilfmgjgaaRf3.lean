/- Chapters 5, 6: the document's Encode (layer 5) answers the bytes of a message: a Tcn, and what is none. Conditions: the message's numbers fit. -/
import Derived.Test.YtehapoilfmgjgaaRf2
import Derived.Test.YtehapoilfmgjgaaAv
import Derived.Test.YtehapoilfmgjgaaEn4
import Derived.Test.YtehapoilfmgjgaaPn
import Derived.StillTailTactics
set_option linter.unusedSimpArgs false
set_option linter.unusedVariables false
namespace Go.Proofs.Ytehapoilfmgjgaa.Oct
open Go.RowKit
theorem mkh_1c (w : World) : Sem.run Try.prog (Instr.buildSlice 33 4 #[(0, .int .u8 0), (1, .int .u8 0), (2, .int .u8 0), (3, .int .u8 128)]) w = .ok (.slice (some ⟨w.heap.size, 0, none⟩) 4 4) (w.alloc (.cells (cellsB [0, 0, 0, 128]) 5)) := by kernel_rfl
attribute [local go_sem] mkh_1c
/-- What is told of the document's Encode. -/
def REncTells (m : Msg) (w : World) (e : Ending) (w' : World) : Prop := ∃ v, e = .returned v ∧ OwnB w' w.heap.size v (encB m) ∧ Below w.heap.size w w'
set_option maxRecDepth 100000 in
set_option maxHeartbeats 8000000 in
theorem renc_few (m : Msg) (hm : MsgOk m) (hk : ¬ m.kind = 0 ∧ ¬ m.kind = 2) (w : World) : Calls Try.prog 15 #[.agg (rowM m)] w (REncTells m w) := by
  have HM := Lib.hid hm
  clear hm
  go_enter Try.func15, Try.ntmps15
  go_upto_region 1 with (fail)
  refine ((?_ : ∀ x, x = w.alloc (.cells (rowM m) 30) → Code.wp _ _ _ _ x) _ rfl)
  intro w1 hw1
  obtain ⟨n0, hn0⟩ : ∃ x, x = w.heap.size := ⟨_, rfl⟩
  have HX1 := Lib.hid (show w1.heap[n0]? = some (.cells (rowM m) 30 (0, 0)) by rw [hw1, hn0]; exact heap_alloc_new _ _)
  have HB1 := Lib.hid (show Below n0 w w1 by rw [hw1, hn0]; exact more (Below.refl _ _) _)
  rw [← hn0]
  have HN := Lib.hid hn0
  clear hw1 hn0
  have k0 : w1.cell? ⟨n0, 0, none⟩ = some (.int .i64 m.kind) := cells_of HX1.out 0
  by_cases h1 : m.kind = 1
  · have HE := Lib.hid (encB_1 h1)
    rw [h1] at k0
    clear h1 hk
    go_wp2_with fail
    go_ret
    refine ⟨_, rfl, ?_, by rw [← HN.out]; exact HB1.out.alloc (by have := HB1.out.size; have := HN.out; omega) _⟩
    rw [HE.out, ← HN.out]
    exact ownB_new (heap_alloc_new _ _) (by have := HB1.out.size; have := HN.out; omega) rfl (by omega)
  have hk' : m.kind < 0 ∨ 2 < m.kind := by omega
  have HE := Lib.hid (encB_no hk')
  rcases hk' with h | h
  · have d0 : decide (m.kind < 0) = true := decide_eq_true h
    go_wp2_with fail
    go_ret
    refine ⟨_, rfl, ?_, by rw [← HN.out]; exact HB1.out⟩
    rw [HE.out]
    exact ⟨rfl, .inl ⟨rfl, rfl⟩⟩
  · have d0 : decide (m.kind < 0) = false := decide_eq_false (by omega)
    have d1 : decide (2 < m.kind) = true := decide_eq_true h
    go_wp2_with fail
    go_ret
    refine ⟨_, rfl, ?_, by rw [← HN.out]; exact HB1.out⟩
    rw [HE.out]
    exact ⟨rfl, .inl ⟨rfl, rfl⟩⟩
end Go.Proofs.Ytehapoilfmgjgaa.Oct
