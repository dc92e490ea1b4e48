/- Law LlcWraps of chapter 6: the walk joined with the plain law. Conditions: the numbers fit. -/
import Derived.Test.YtehapoilfmgjgaaAw6
import Derived.Test.YtehapoilfmgjgaaRw0
set_option linter.unusedSimpArgs false
set_option linter.unusedVariables false
namespace Go.Proofs.Ytehapoilfmgjgaa.Oct
open Go.RowKit
set_option maxRecDepth 100000 in
set_option maxHeartbeats 8000000 in
theorem wraps_any (w : World) (src : Int) (hs : 0 ≤ src ∧ src < 18446744073709551616) (m : Msg) (hm : MsgOk m) : Calls Try.prog 3 #[.int .u64 src, .agg (rowM m)] w fun e w' => e = .returned (.bool true) ∧ Below w.heap.size w w' := by
  have HM := Lib.hid hm
  have HS := Lib.hid hs
  clear hm hs
  go_enter Try.func3, Try.ntmps3
  go_upto_region 1 with (fail)
  refine ((?_ : ∀ x, x = w.alloc (.cells (rowM m) 30) → Code.wp _ _ _ _ x) _ rfl)
  intro w1 hw1
  obtain ⟨n0, hn0⟩ : ∃ x, x = w.heap.size := ⟨_, rfl⟩
  have HX1 := Lib.hid (show w1.heap[n0]? = some (.cells (rowM m) 30 (0, 0)) by rw [hw1, hn0]; exact heap_alloc_new _ _)
  have HB1 := Lib.hid (show Below n0 w w1 by rw [hw1, hn0]; exact more (Below.refl _ _) _)
  rw [← hn0]
  have HN := Lib.hid hn0
  clear hw1 hn0
  go_wp2_with fail
  refine (awake_any w1).mono ?_
  rintro e w2 ⟨rfl, hb2⟩
  have HX2 := Lib.hid ((hb2.block _ (Array.getElem?_eq_some_iff.1 HX1.out).1).trans HX1.out)
  have HB2 := Lib.hid (HB1.out.trans (hb2.mono (by have := HB1.out.size; have := HN.out; omega)))
  clear hb2 HX1 HB1
  have l1 := (Array.getElem?_eq_some_iff.1 HX2.out).1
  go_upto_region 2 with (fail)
  refine wp_region_held_drew (S := fun w' => Below w2.heap.size w2 w') (by kernel_rfl) (Below.refl _ _).drew (fun hH => ?_)
  refine wpAnyH_take (i := 0) (v := .bool true) rfl (by kernel_rfl) (by kernel_rfl) (by kernel_rfl) (fun _ _ _ h => h) (Or.inl ⟨by rfl, fun z _ => rfl⟩) hH ?_
  simp only [List.getElem_toArray, List.getElem_cons_succ, List.getElem_cons_zero, Act.put, List.setIfInBounds_toArray, List.set_cons_zero, List.set_cons_succ]
  refine wpAnyH_take (i := 1) (v := .bool true) rfl (by kernel_rfl) (by kernel_rfl) (by kernel_rfl) (fun _ _ _ h => h) (Or.inl ⟨by rfl, fun z _ => rfl⟩) hH ?_
  simp only [List.getElem_toArray, List.getElem_cons_succ, List.getElem_cons_zero, Act.put, List.setIfInBounds_toArray, List.set_cons_zero, List.set_cons_succ]
  refine wpAnyH_take (i := 2) (v := .int .u64 src) rfl (by kernel_rfl) (by kernel_rfl) (by kernel_rfl) (fun _ _ _ h => h) (Or.inl ⟨by rfl, fun z _ => rfl⟩) hH ?_
  simp only [List.getElem_toArray, List.getElem_cons_succ, List.getElem_cons_zero, Act.put, List.setIfInBounds_toArray, List.set_cons_zero, List.set_cons_succ]
  refine wpAnyH_take (i := 3) rfl (by kernel_rfl) (by kernel_rfl) (by kernel_rfl) (fun _ _ _ h => h) ((yieldsIf_load_mid (by rfl) 30 _ rfl n0 (0) rfl (rowM m).toList _ (row_held HX2.out l1) Try.underlying30 rfl (sizeM _))) hH ?_
  simp only [List.getElem_toArray, List.getElem_cons_succ, List.getElem_cons_zero, Act.put, List.setIfInBounds_toArray, List.set_cons_zero, List.set_cons_succ]
  refine wpAnyH_take (i := 5) (v := .int .u64 src) rfl (by kernel_rfl) (by kernel_rfl) (by kernel_rfl) (fun _ _ _ h => h) (Or.inl ⟨by rfl, fun z _ => rfl⟩) hH ?_
  simp only [List.getElem_toArray, List.getElem_cons_succ, List.getElem_cons_zero, Act.put, List.setIfInBounds_toArray, List.set_cons_zero, List.set_cons_succ]
  refine wpAnyH_take (i := 6) rfl (by kernel_rfl) (by kernel_rfl) (by kernel_rfl) (fun _ _ _ h => h) ((yieldsIf_load_mid (by rfl) 30 _ rfl n0 (0) rfl (rowM m).toList _ (row_held HX2.out l1) Try.underlying30 rfl (sizeM _))) hH ?_
  simp only [List.getElem_toArray, List.getElem_cons_succ, List.getElem_cons_zero, Act.put, List.setIfInBounds_toArray, List.set_cons_zero, List.set_cons_succ]
  refine wpAnyH_ready (rs := [4]) (by kernel_rfl) (by simp) (AllReadyH.cons rfl (fun K hK => ?_) AllReadyH.nil)
  go_simp
  refine (wrap_any src HS.out m HM.out _).mono ?_
  rintro e we ⟨v1, rfl, hO1, _, hbe⟩
  refine hK.out _ _ (hH.trans (hbe.mono hH.size)) (fun hHe => ?_)
  clear hK K hbe
  refine wpAnyH_ready (rs := [7]) (by kernel_rfl) (by simp) (AllReadyH.cons rfl (fun K hK => ?_) AllReadyH.nil)
  go_simp
  refine (rwrap_any src HS.out m HM.out _).mono ?_
  rintro e wr ⟨v2, rfl, hO2, hbr⟩
  have S1 := Lib.hid ((hO1.below hbr).str (wrap_ok src m))
  have S2 := Lib.hid (hO2.str (wrap_ok src m))
  refine hK.out _ _ (hHe.trans (hbr.mono hHe.size)) (fun hHr => ?_)
  clear hK K hbr hO1 hO2
  refine wpAnyH_ready (rs := [8]) (by kernel_rfl) (by simp) (AllReadyH.cons rfl (fun K hK => ?_) AllReadyH.nil)
  go_simp
  refine (same_any _ _ _ _ _ S1.out S2.out).mono ?_
  rintro e ws ⟨rfl, hws⟩
  subst hws
  rw [show ((strOf (wrapB src m)).toList == (strOf (wrapB src m)).toList) = true by simp]
  refine hK.out _ _ hHr (fun _ => ?_)
  clear hK K S1 S2
  refine wpAnyH_take (i := 9) rfl (by kernel_rfl) (by kernel_rfl) (by kernel_rfl) (fun _ _ _ h => h) (Or.inl ⟨by rfl, fun z _ => rfl⟩) hHr ?_
  simp only [List.getElem_toArray, List.getElem_cons_succ, List.getElem_cons_zero, Act.put, List.setIfInBounds_toArray, List.set_cons_zero, List.set_cons_succ]
  refine wpAnyH_take (i := 10) rfl (by kernel_rfl) (by kernel_rfl) (by kernel_rfl) (fun _ _ _ h => h) (Or.inl ⟨by rfl, fun z _ => rfl⟩) hHr ?_
  simp only [List.getElem_toArray, List.getElem_cons_succ, List.getElem_cons_zero, Act.put, List.setIfInBounds_toArray, List.set_cons_zero, List.set_cons_succ]
  refine wpAnyH_done (by kernel_rfl) ?_ _
  go_wp2_with fail
  go_ret
  exact ⟨rfl, by rw [← HN.out]; exact HB2.out.trans (hHr.mono (by have := HB2.out.size; have := HN.out; omega))⟩
end Go.Proofs.Ytehapoilfmgjgaa.Oct
