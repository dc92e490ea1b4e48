/- Chapter 6: the laws' example: it answers true. No condition. -/
import Derived.Test.YtehapoilfmgjgaaLf
import Derived.Deep.RegionHeld
import Derived.Deep.CutRange
set_option linter.unusedSimpArgs false
set_option linter.unusedVariables false
namespace Go.Proofs.Ytehapoilfmgjgaa.Oct
open Go.RowKit
theorem row_held {W : World} {g B : Nat} {C : Array Value} {T : TypeId} {fr : Nat × Nat} (h : W.heap[g]? = some (.cells C T fr)) (hB : g < B) : ∀ w, Below B W w → w.rangeAt g 0 C.toList := fun w hw j v hv => by
  rw [Nat.zero_add, cells_of ((hw.block g hB).trans h) j]
  simpa using hv
def tcnM : Msg := { zeroMsg with kind := 1 }
theorem tcnM_ok : MsgOk tcnM := ⟨by decide, by decide, by decide, by decide⟩
theorem tcnM_kind : Kinds tcnM := .inr (.inl rfl)
theorem bldTcn (w : World) : Sem.run Try.prog (Instr.build 30 #[(0, .int .i64 1)]) w = .ok (.agg (rowM tcnM)) w := by kernel_rfl
theorem tcn_open : openP (fB (wrapB 5 tcnM)) 60 = (5, tcnM, 0) := by
  have h := wrap_is tcnM_kind 5 []
  rw [List.append_nil] at h
  rw [open_is tcnM_ok tcnM_kind h (by decide), show ansM tcnM = (tcnM, 0) from rfl]
  rfl
attribute [local go_sem] bldTcn
set_option maxRecDepth 100000 in
set_option maxHeartbeats 8000000 in
theorem awake_any (w : World) : Calls Try.prog 7 #[] w fun e w' => e = .returned (.bool true) ∧ Below w.heap.size w w' := by
  go_enter Try.func7, Try.ntmps7
  go_wp2_with fail
  refine (wrap_any 5 (by omega) tcnM tcnM_ok w).mono ?_
  rintro e w1 ⟨v, rfl, hO, _, hb1⟩
  have hlen := wrap_len tcnM_kind 5
  have hop := tcn_open
  have hW := wrap_is tcnM_kind 5 []
  rw [List.append_nil] at hW
  have h12 := hW.hi
  have h13 : fB (wrapB 5 tcnM) 13 = 7 := hW.lo
  have hok := wrap_ok 5 tcnM
  obtain ⟨l, hl⟩ : ∃ l, l = wrapB 5 tcnM := ⟨_, rfl⟩
  rw [← hl] at hO hlen hop h12 h13 hok
  clear hl hW
  obtain ⟨g, c, rfl, _, _⟩ := hO.at (by intro h; rw [h] at hlen; cases hlen)
  rw [hlen] at hO ⊢
  have HO1 := Lib.hid hO
  have HL := Lib.hid hlen
  have HOP := Lib.hid (show openP (fB l) l.length = (5, tcnM, 0) by rw [hlen]; exact hop)
  have HOK := Lib.hid hok
  have HB1 := Lib.hid hb1
  have H12 := Lib.hid h12
  have H13 := Lib.hid h13
  clear hO hlen hop h12 h13 hok hb1
  go_wp2_with fail
  refine (open_own HO1.out HOK.out (by rw [HL.out]; omega) HOP.out).mono ?_
  rintro e w2 ⟨rfl, hb2⟩
  have HO2 := Lib.hid (HO1.out.below hb2)
  have HB2 := Lib.hid (HB1.out.trans (hb2.mono HB1.out.size))
  clear hb2 HB1 HO1
  go_upto_region 5 with (first | (refine wpList_store_new rfl 30 _ _ rfl w2 (rowM zeroMsg) 30 (rowM tcnM) rfl rfl rfl (sizeM _) rfl (rowM_one _) ?_; simp only [Act.put, List.setIfInBounds_toArray, List.set_cons_zero, List.set_cons_succ]) | fail)
  refine ((?_ : ∀ x, x = w2.alloc (.cells (rowM tcnM) 30) → Code.wp _ _ _ _ x) _ rfl)
  intro w3 hw3
  obtain ⟨g2, hg2⟩ : ∃ x, x = w2.heap.size := ⟨_, rfl⟩
  have HX3 := Lib.hid (show w3.heap[g2]? = some (.cells (rowM tcnM) 30 (0, 0)) by rw [hw3, hg2]; exact heap_alloc_new _ _)
  have hb3 : Below w2.heap.size w2 w3 := by rw [hw3]; exact more (Below.refl _ _) _
  have HO3 := HO2.out.below hb3
  have HB3 := Lib.hid (HB2.out.trans (hb3.mono HB2.out.size))
  rw [← hg2]
  have c12 : w3.cell? ⟨g, 12, none⟩ = some (.int .u8 0) := by rw [HO3.cell (by rw [HL.out]; omega), H12.out]
  have c13 : w3.cell? ⟨g, 13, none⟩ = some (.int .u8 7) := by rw [HO3.cell (by rw [HL.out]; omega), H13.out]
  clear hw3 hb3 hg2 HO2 HB2 HO3
  go_wp2_with (first | (refine wpList_val (by rfl) _ (exec_row _ rfl g2 rfl tcnM HX3.out) ?_; simp only [Act.put, List.setIfInBounds_toArray, List.set_cons_zero, List.set_cons_succ]) | (refine wpList_val (by rfl) _ (exec_eqM _ _ rfl tcnM rfl rfl) ?_; simp only [Act.put, List.setIfInBounds_toArray, List.set_cons_zero, List.set_cons_succ]) | fail)
  go_ret
  exact ⟨rfl, HB3.out⟩
end Go.Proofs.Ytehapoilfmgjgaa.Oct
