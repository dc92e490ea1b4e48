/- Chapter 5: the laws' example: it answers true. No condition. -/
import Derived.Test.YtogoegddbjggiaaPn
import Derived.Deep.RegionHeld
set_option linter.unusedSimpArgs false
set_option linter.unusedVariables false
namespace Go.Proofs.Ytogoegddbjggiaa.Oct
open Go.RowKit
theorem row_held {W : World} {g B : Nat} {C : Array Value} {T : TypeId} {fr : Nat × Nat} (h : W.heap[g]? = some (.cells C T fr)) (hB : g < B) : ∀ w, Below B W w → w.rangeAt g 0 C.toList := fun w hw j v hv => by
  rw [Nat.zero_add, cells_of ((hw.block g hB).trans h) j]
  simpa using hv
theorem exec_row {o : Oper} {a : Act} {w : World} (x : Operand) (ho : o.op = .load 30 x) (g : Nat) (hx : a.eval x = .pointer (some ⟨g, 0, none⟩)) (m : Msg) (hg : w.heap[g]? = some (.cells (rowM m) 30 (0, 0))) : (execOp a.eval o).run Try.prog w = .ok (.value (.agg (rowM m))) w := by
  unfold execOp
  simp only [ho, hx, Instr.loadAt, Instr.sureAddr, Sem.run_bind, Sem.run_pure, Result.andThen_ok, run_loadVar_row w g 30 30 (rowM m) (0, 0) _ hg Try.underlying30 rfl (sizeM m)]
def exM : Msg := ⟨2, false, false, true, false, false, false, 4, 3, 4, 5, 6, 0, 1, 20, 2, 15⟩
def tcnM : Msg := { zeroMsg with kind := 1 }
theorem exM_ok : MsgOk exM := ⟨by decide, by decide, by decide, by decide⟩
theorem tcnM_ok : MsgOk tcnM := ⟨by decide, by decide, by decide, by decide⟩
theorem exM_plain : plainM exM = exM := rfl
theorem exM_dec : decM exM = (exM, 0) := by
  rw [decM_in exM_ok (.inr (.inr rfl)), if_neg (by decide), exM_plain]
theorem tcn_enc : encB tcnM = [0, 0, 0, 128] := rfl
theorem tcn_str : strOf [0, 0, 0, 128] = ⟨#[0, 0, 0, 128]⟩ := by decide
theorem bldV (w : World) : Sem.run Try.prog (Instr.build 26 #[(0, .int .u64 3), (1, .int .u32 4), (2, .int .u64 5), (3, .int .u16 6)]) w = .ok (.agg #[.int .u64 3, .int .u32 4, .int .u64 5, .int .u16 6, .int .u16 0]) w := by kernel_rfl
theorem bldT (w : World) : Sem.run Try.prog (Instr.build 28 #[(0, .int .i64 1), (1, .int .i64 20), (2, .int .i64 2), (3, .int .i64 15)]) w = .ok (.agg #[.int .i64 1, .int .i64 20, .int .i64 2, .int .i64 15]) w := by kernel_rfl
theorem bldE (w : World) : Sem.run Try.prog (Instr.build 30 #[(0, .int .i64 2), (3, .bool true), (7, .int .i64 4), (8, .agg #[.int .u64 3, .int .u32 4, .int .u64 5, .int .u16 6, .int .u16 0]), (9, .agg #[.int .i64 1, .int .i64 20, .int .i64 2, .int .i64 15])]) w = .ok (.agg (rowM exM)) w := by kernel_rfl
attribute [local go_sem] bldV bldT bldE
set_option maxRecDepth 100000 in
set_option maxHeartbeats 8000000 in
theorem awake_any (w : World) : Calls Try.prog 8 #[] w fun e w' => e = .returned (.bool true) ∧ Below w.heap.size w w' := by
  go_enter Try.func8, Try.ntmps8
  go_upto_region 2 with (first | (refine wpList_store_new rfl 30 _ _ rfl w (rowM zeroMsg) 30 (rowM exM) rfl rfl rfl (sizeM _) rfl (rowM_one _) ?_; simp only [Act.put, List.setIfInBounds_toArray, List.set_cons_zero, List.set_cons_succ]) | fail)
  refine ((?_ : ∀ x, x = w.alloc (.cells (rowM exM) 30) → Code.wp _ _ _ _ x) _ rfl)
  intro w1 hw1
  obtain ⟨g1, hg1⟩ : ∃ x, x = w.heap.size := ⟨_, rfl⟩
  have HX1 := Lib.hid (show w1.heap[g1]? = some (.cells (rowM exM) 30 (0, 0)) by rw [hw1, hg1]; exact heap_alloc_new _ _)
  have HB1 := Lib.hid (show Below g1 w w1 by rw [hw1, hg1]; exact more (Below.refl _ _) _)
  rw [← hg1]
  have HN := Lib.hid hg1
  clear hw1 hg1
  go_wp2_with (first | (refine wpList_load_row rfl 30 _ rfl g1 rfl 30 (rowM exM) (0, 0) _ HX1.out Try.underlying30 rfl (sizeM _) ?_; simp only [Act.put, List.setIfInBounds_toArray, List.set_cons_zero, List.set_cons_succ]) | fail)
  refine (enc_any exM exM_ok w1).mono ?_
  rintro e w2 ⟨v, rfl, hO, _, hb2⟩
  have HO2 := Lib.hid hO
  have HX2 := Lib.hid ((hb2.block _ (Array.getElem?_eq_some_iff.1 HX1.out).1).trans HX1.out)
  have HB2 := Lib.hid (HB1.out.trans (hb2.mono (by have := HB1.out.size; have := HN.out; omega)))
  clear hO hb2 HX1 HB1
  go_wp2_with fail
  refine (dec_enc_own HO2.out exM_dec).mono ?_
  rintro e w3 ⟨rfl, hb3⟩
  have HX3 := Lib.hid ((hb3.block _ (Array.getElem?_eq_some_iff.1 HX2.out).1).trans HX2.out)
  have HB3 := Lib.hid (HB2.out.trans (hb3.mono (by have := HB2.out.size; have := HN.out; omega)))
  clear hb3 HX2 HB2 HO2
  go_upto_region 3 with (first | (refine wpList_store_new rfl 30 _ _ rfl w3 (rowM zeroMsg) 30 (rowM exM) rfl rfl rfl (sizeM _) rfl (rowM_one _) ?_; simp only [Act.put, List.setIfInBounds_toArray, List.set_cons_zero, List.set_cons_succ]) | fail)
  refine ((?_ : ∀ x, x = w3.alloc (.cells (rowM exM) 30) → Code.wp _ _ _ _ x) _ rfl)
  intro w4 hw4
  obtain ⟨g2, hg2⟩ : ∃ x, x = w3.heap.size := ⟨_, rfl⟩
  have HY4 := Lib.hid (show w4.heap[g2]? = some (.cells (rowM exM) 30 (0, 0)) by rw [hw4, hg2]; exact heap_alloc_new _ _)
  have hb4 : Below w3.heap.size w3 w4 := by rw [hw4]; exact more (Below.refl _ _) _
  have HX4 := Lib.hid ((hb4.block _ (Array.getElem?_eq_some_iff.1 HX3.out).1).trans HX3.out)
  have HB4 := Lib.hid (HB3.out.trans (hb4.mono (by have := HB3.out.size; have := HN.out; omega)))
  rw [← hg2]
  have l1 := (Array.getElem?_eq_some_iff.1 HX4.out).1
  have l2 := (Array.getElem?_eq_some_iff.1 HY4.out).1
  clear hw4 hb4 hg2 HX3 HB3
  refine wp_region_held_drew (S := fun w' => Below w4.heap.size w4 w') (by kernel_rfl) (Below.refl _ _).drew (fun hH => ?_)
  refine wpAnyH_take (i := 0) (v := .agg (rowM tcnM)) rfl (by kernel_rfl) (by kernel_rfl) (by kernel_rfl) (fun _ _ _ h => h) (Or.inl ⟨by rfl, fun z _ => by kernel_rfl⟩) hH ?_
  simp only [List.getElem_toArray, List.getElem_cons_succ, List.getElem_cons_zero, Act.put, List.setIfInBounds_toArray, List.set_cons_zero, List.set_cons_succ]
  refine wpAnyH_ready (rs := [1]) (by kernel_rfl) (by simp) (AllReadyH.cons rfl (fun K hK => ?_) AllReadyH.nil)
  go_simp
  refine (enc_any tcnM tcnM_ok _).mono ?_
  rintro e we ⟨v, rfl, hO, _, hbe⟩
  refine hK.out _ _ (hH.trans (hbe.mono hH.size)) (fun hHe => ?_)
  clear hK K hbe
  rw [tcn_enc] at hO
  have hs := hO.str (by simp)
  rw [tcn_str] at hs
  clear hO
  refine wpAnyH_ready (rs := [2]) (by kernel_rfl) (by simp) (AllReadyH.cons rfl (fun K hK => ?_) AllReadyH.nil)
  go_simp
  refine hK.out _ _ hHe (fun _ => ?_)
  clear hK K hs
  refine wpAnyH_take (i := 3) (v := .bool true) rfl (by kernel_rfl) (by kernel_rfl) (by kernel_rfl) (fun _ _ _ h => h) (Or.inl ⟨by rfl, fun z _ => by simp [go_sem, execOp]⟩) hHe ?_
  simp only [List.getElem_toArray, List.getElem_cons_succ, List.getElem_cons_zero, Act.put, List.setIfInBounds_toArray, List.set_cons_zero, List.set_cons_succ]
  refine wpAnyH_take (i := 4) (v := .bool true) rfl (by kernel_rfl) (by kernel_rfl) (by kernel_rfl) (fun _ _ _ h => h) (Or.inl ⟨by rfl, fun z _ => rfl⟩) hHe ?_
  simp only [List.getElem_toArray, List.getElem_cons_succ, List.getElem_cons_zero, Act.put, List.setIfInBounds_toArray, List.set_cons_zero, List.set_cons_succ]
  refine wpAnyH_take (i := 5) rfl (by kernel_rfl) (by kernel_rfl) (by kernel_rfl) (fun _ _ _ h => h) ((yieldsIf_load_mid (by rfl) 30 _ rfl g2 (0) rfl (rowM exM).toList _ (row_held HY4.out l2) Try.underlying30 rfl (sizeM _))) hHe ?_
  simp only [List.getElem_toArray, List.getElem_cons_succ, List.getElem_cons_zero, Act.put, List.setIfInBounds_toArray, List.set_cons_zero, List.set_cons_succ]
  refine wpAnyH_take (i := 6) rfl (by kernel_rfl) (by kernel_rfl) (by kernel_rfl) (fun _ _ _ h => h) ((yieldsIf_load_mid (by rfl) 30 _ rfl g1 (0) rfl (rowM exM).toList _ (row_held HX4.out l1) Try.underlying30 rfl (sizeM _))) hHe ?_
  simp only [List.getElem_toArray, List.getElem_cons_succ, List.getElem_cons_zero, Act.put, List.setIfInBounds_toArray, List.set_cons_zero, List.set_cons_succ]
  refine wpAnyH_take (i := 7) (v := .bool true) rfl (by kernel_rfl) (by kernel_rfl) (by kernel_rfl) (fun _ _ _ h => h) (Or.inl ⟨by rfl, fun z _ => exec_eqM _ _ rfl exM rfl rfl⟩) hHe ?_
  simp only [List.getElem_toArray, List.getElem_cons_succ, List.getElem_cons_zero, Act.put, List.setIfInBounds_toArray, List.set_cons_zero, List.set_cons_succ]
  refine wpAnyH_take (i := 8) rfl (by kernel_rfl) (by kernel_rfl) (by kernel_rfl) (fun _ _ _ h => h) (Or.inl ⟨by rfl, fun z _ => rfl⟩) hHe ?_
  simp only [List.getElem_toArray, List.getElem_cons_succ, List.getElem_cons_zero, Act.put, List.setIfInBounds_toArray, List.set_cons_zero, List.set_cons_succ]
  refine wpAnyH_take (i := 9) rfl (by kernel_rfl) (by kernel_rfl) (by kernel_rfl) (fun _ _ _ h => h) (Or.inl ⟨by rfl, fun z _ => rfl⟩) hHe ?_
  simp only [List.getElem_toArray, List.getElem_cons_succ, List.getElem_cons_zero, Act.put, List.setIfInBounds_toArray, List.set_cons_zero, List.set_cons_succ]
  refine wpAnyH_take (i := 10) (v := .int .i64 0) rfl (by kernel_rfl) (by kernel_rfl) (by kernel_rfl) (fun _ _ _ h => h) (Or.inl ⟨by rfl, fun z _ => rfl⟩) hHe ?_
  simp only [List.getElem_toArray, List.getElem_cons_succ, List.getElem_cons_zero, Act.put, List.setIfInBounds_toArray, List.set_cons_zero, List.set_cons_succ]
  refine wpAnyH_take (i := 11) (v := .bool true) rfl (by kernel_rfl) (by kernel_rfl) (by kernel_rfl) (fun _ _ _ h => h) (Or.inl ⟨by rfl, fun z _ => by simp [go_sem, execOp]⟩) hHe ?_
  simp only [List.getElem_toArray, List.getElem_cons_succ, List.getElem_cons_zero, Act.put, List.setIfInBounds_toArray, List.set_cons_zero, List.set_cons_succ]
  refine wpAnyH_take (i := 12) rfl (by kernel_rfl) (by kernel_rfl) (by kernel_rfl) (fun _ _ _ h => h) (Or.inl ⟨by rfl, fun z _ => rfl⟩) hHe ?_
  simp only [List.getElem_toArray, List.getElem_cons_succ, List.getElem_cons_zero, Act.put, List.setIfInBounds_toArray, List.set_cons_zero, List.set_cons_succ]
  refine wpAnyH_take (i := 13) rfl (by kernel_rfl) (by kernel_rfl) (by kernel_rfl) (fun _ _ _ h => h) (Or.inl ⟨by rfl, fun z _ => rfl⟩) hHe ?_
  simp only [List.getElem_toArray, List.getElem_cons_succ, List.getElem_cons_zero, Act.put, List.setIfInBounds_toArray, List.set_cons_zero, List.set_cons_succ]
  refine wpAnyH_take (i := 14) rfl (by kernel_rfl) (by kernel_rfl) (by kernel_rfl) (fun _ _ _ h => h) ((yieldsIf_load_mid (by rfl) 30 _ rfl g1 (0) rfl (rowM exM).toList _ (row_held HX4.out l1) Try.underlying30 rfl (sizeM _))) hHe ?_
  simp only [List.getElem_toArray, List.getElem_cons_succ, List.getElem_cons_zero, Act.put, List.setIfInBounds_toArray, List.set_cons_zero, List.set_cons_succ]
  refine wpAnyH_take (i := 16) rfl (by kernel_rfl) (by kernel_rfl) (by kernel_rfl) (fun _ _ _ h => h) ((yieldsIf_load_mid (by rfl) 30 _ rfl g1 (0) rfl (rowM exM).toList _ (row_held HX4.out l1) Try.underlying30 rfl (sizeM _))) hHe ?_
  simp only [List.getElem_toArray, List.getElem_cons_succ, List.getElem_cons_zero, Act.put, List.setIfInBounds_toArray, List.set_cons_zero, List.set_cons_succ]
  refine wpAnyH_ready (rs := [15]) (by kernel_rfl) (by simp) (AllReadyH.cons rfl (fun K hK => ?_) AllReadyH.nil)
  go_simp
  refine (plain_any exM exM_ok _).mono ?_
  rintro e wp ⟨rfl, hbp⟩
  refine hK.out _ _ (hHe.trans (hbp.mono hHe.size)) (fun hHp => ?_)
  clear hK K hbp
  refine wpAnyH_take (i := 17) (v := .bool true) rfl (by kernel_rfl) (by kernel_rfl) (by kernel_rfl) (fun _ _ _ h => h) (Or.inl ⟨by rfl, fun z _ => exec_eqM _ _ rfl exM rfl rfl⟩) hHp ?_
  simp only [List.getElem_toArray, List.getElem_cons_succ, List.getElem_cons_zero, Act.put, List.setIfInBounds_toArray, List.set_cons_zero, List.set_cons_succ]
  refine wpAnyH_take (i := 18) rfl (by kernel_rfl) (by kernel_rfl) (by kernel_rfl) (fun _ _ _ h => h) (Or.inl ⟨by rfl, fun z _ => rfl⟩) hHp ?_
  simp only [List.getElem_toArray, List.getElem_cons_succ, List.getElem_cons_zero, Act.put, List.setIfInBounds_toArray, List.set_cons_zero, List.set_cons_succ]
  refine wpAnyH_take (i := 19) rfl (by kernel_rfl) (by kernel_rfl) (by kernel_rfl) (fun _ _ _ h => h) (Or.inl ⟨by rfl, fun z _ => rfl⟩) hHp ?_
  simp only [List.getElem_toArray, List.getElem_cons_succ, List.getElem_cons_zero, Act.put, List.setIfInBounds_toArray, List.set_cons_zero, List.set_cons_succ]
  refine wpAnyH_done (by kernel_rfl) ?_ _
  go_wp2_with fail
  go_ret
  exact ⟨rfl, by rw [← HN.out]; exact HB4.out.trans (hHp.mono (by have := HB4.out.size; have := HN.out; omega))⟩
end Go.Proofs.Ytogoegddbjggiaa.Oct
