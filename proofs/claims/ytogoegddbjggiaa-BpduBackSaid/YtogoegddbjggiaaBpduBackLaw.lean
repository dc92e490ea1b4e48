/- Law BpduBack of chapter 5: the walk joined with the plain law. Conditions: the message's numbers fit; the bytes behind are bytes that can be read. -/
import Derived.Test.YtogoegddbjggiaaAw
import Derived.Test.YtogoegddbjggiaaAv
import Derived.Deep.CutRange
set_option linter.unusedSimpArgs false
set_option linter.unusedVariables false
namespace Go.Proofs.Ytogoegddbjggiaa.Oct
open Go.RowKit
attribute [local go_sem] bldZ mkE
set_option maxRecDepth 100000 in
set_option maxHeartbeats 16000000 in
theorem back_any (w : World) (m : Msg) (hm : MsgOk m) (la : Option Addr) (ln lc : Nat) (lf : Nat → Int) (hL : View w la 1 ln fun k _ => .int .u8 (lf k)) (hLB : ∀ k, k < ln → 0 ≤ lf k ∧ lf k ≤ 255) (hLN : la = none → ln = 0 ∧ lc = 0) (_hC : ln ≤ lc ∧ lc ≤ maxLen) :
    Calls Try.prog 4 #[.agg (rowM m), .slice la ln lc] w fun e w' => e = .returned (.bool true) ∧ Below w.heap.size w w' := by
  have HM := Lib.hid hm
  have HL := Lib.hid hL
  have HLB := Lib.hid hLB
  have HLN := Lib.hid hLN
  clear hm hL hLB hLN _hC
  go_enter Try.func4, Try.ntmps4
  go_upto_region 1 with (fail)
  refine ((?_ : ∀ x, x = w.alloc (.cells (rowM m) 30) → Code.wp _ _ _ _ x) _ rfl)
  intro w1 hw1
  obtain ⟨n0, hn0⟩ : ∃ x, x = w.heap.size := ⟨_, rfl⟩
  have HX1 := Lib.hid (show w1.heap[n0]? = some (.cells (rowM m) 30 (0, 0)) by rw [hw1, hn0]; exact heap_alloc_new _ _)
  have HB1 := Lib.hid (show Below n0 w w1 by rw [hw1, hn0]; exact more (Below.refl _ _) _)
  rw [← hn0]
  have HN := Lib.hid hn0
  clear hw1 hn0
  go_wp2_with fail
  refine (awake_any w1).mono ?_
  rintro e w2 ⟨rfl, hb2⟩
  have HX2 := Lib.hid ((hb2.block _ (Array.getElem?_eq_some_iff.1 HX1.out).1).trans HX1.out)
  have HB2 := Lib.hid (HB1.out.trans (hb2.mono (by have := HB1.out.size; have := HN.out; omega)))
  clear hb2 HX1 HB1
  by_cases h60 : 60 < ln
  · have d60 : decide ((60 : Int) < (ln : Int)) = true := decide_eq_true (by omega)
    go_wp2_with fail
    go_ret
    exact ⟨rfl, by rw [← HN.out]; exact HB2.out⟩
  have d60 : decide ((60 : Int) < (ln : Int)) = false := decide_eq_false (by omega)
  have hln : ln ≤ 60 := by omega
  clear h60
  go_wp2_with (first | (refine wpList_load_row rfl 30 _ rfl n0 rfl 30 (rowM m) (0, 0) _ HX2.out Try.underlying30 rfl (sizeM _) ?_; simp only [Act.put, List.setIfInBounds_toArray, List.set_cons_zero, List.set_cons_succ]) | fail)
  refine (enc_any m HM.out w2).mono ?_
  rintro e w3 ⟨v, rfl, hO, hnil, hb3⟩
  have hfew : (encB m).length ≤ 36 := by
    rw [encB_len]
    split
    · omega
    split
    · omega
    split <;> omega
  have HO3 := Lib.hid hO
  clear hO d60
  have HX3 := Lib.hid ((hb3.block _ (Array.getElem?_eq_some_iff.1 HX2.out).1).trans HX2.out)
  have HB3 := Lib.hid (HB2.out.trans (hb3.mono (by have := HB2.out.size; have := HN.out; omega)))
  clear hb3 HX2 HB2
  obtain ⟨va, vn, vc, rfl, hvn, hV, hVN⟩ := HO3.out.view
  have HVN := Lib.hid hvn
  have HV := Lib.hid hV
  have HVNil := Lib.hid hVN
  have HNil := Lib.hid hnil
  obtain ⟨x, ex, hd⟩ : ∃ x e, decP (fB (encB m ++ lst lf ln)) (encB m ++ lst lf ln).length = (x, e) := ⟨_, _, rfl⟩
  have HD := Lib.hid hd
  have hwn : vn ≤ 36 := by omega
  have hL3 := HL.out.below (show Below w.heap.size w w3 by rw [← HN.out]; exact HB3.out)
  have HL3 := Lib.hid hL3
  have hn3 : n0 ≤ w3.heap.size := by have := HB3.out.size; have := HN.out; omega
  clear hvn hV hVN hnil hd hL3 HO3
  go_upto_region 6 with (first
    | (at_builtin; refine wpList_appV rfl (.tmp 18) (.tmp 19) rfl w3.heap.size _ [] rfl (ownB_new (l := []) (n := 0) (heap_alloc_new _ _) (Nat.le_refl _) rfl (by omega)) (by simp) va vn vc (fB (encB m)) rfl HVNil.out (HV.out.below (more (Below.refl _ _) _)) (by simp; omega) ?_; intro v5 w5 hown5 hb5 hk5; simp only [Act.put, List.setIfInBounds_toArray, List.set_cons_zero, List.set_cons_succ]; have HO5 := Lib.hid (show OwnB w5 w3.heap.size v5 (encB m) by rw [List.nil_append, HVN.out, lst_fB] at hown5; exact hown5); have HB5 := Lib.hid (show Below w3.heap.size w3 w5 from (more (Below.refl _ _) _).trans hb5); have HX5 := Lib.hid ((HB5.out.block _ (Array.getElem?_eq_some_iff.1 HX3.out).1).trans HX3.out); clear hown5 hb5 hk5)
    | (at_builtin; refine wpList_appV rfl (.tmp 20) (.tmp 21) rfl w3.heap.size _ (encB m) rfl HO5.out HB5.out.size la ln lc lf rfl HLN.out (HL3.out.below HB5.out) (by omega) ?_; intro v6 w6 hown6 hb6 hk6; simp only [Act.put, List.setIfInBounds_toArray, List.set_cons_zero, List.set_cons_succ]; have HO6 := Lib.hid hown6; have HB6 := Lib.hid (show Below w3.heap.size w3 w6 from HB5.out.trans hb6); have HX6 := Lib.hid ((HB6.out.block _ (Array.getElem?_eq_some_iff.1 HX3.out).1).trans HX3.out); clear hown6 hb6 hk6)
    | (go_at_call 14; refine (dec_own HO6.out ?_ ?_ HD.out).mono ?_; (intro y hy; rcases List.mem_append.1 hy with h | h; exact encB_ok m y h; exact lst_ok HLB.out y h); (rw [List.length_append, lst_len]; omega); rintro e w7 ⟨rfl, hb7⟩; have HB7 := Lib.hid (show Below w3.heap.size w3 w7 from HB6.out.trans (hb7.mono HB6.out.size)); clear hb7)
    | (refine wpList_store_new rfl 30 _ _ rfl w7 (rowM zeroMsg) 30 (rowM x) rfl rfl rfl (sizeM _) rfl (rowM_one _) ?_; simp only [Act.put, List.setIfInBounds_toArray, List.set_cons_zero, List.set_cons_succ]) | fail)
  refine ((?_ : ∀ x', x' = w7.alloc (.cells (rowM x) 30) → Code.wp _ _ _ _ x') _ rfl)
  intro w8 hw8
  obtain ⟨n1, hn1⟩ : ∃ x, x = w7.heap.size := ⟨_, rfl⟩
  have HC8 := Lib.hid (show w8.heap[n1]? = some (.cells (rowM x) 30 (0, 0)) by rw [hw8, hn1]; exact heap_alloc_new _ _)
  have hb8 : Below w3.heap.size w3 w8 := by rw [hw8]; exact HB7.out.alloc HB7.out.size _
  rw [← hn1]
  have HX8 := Lib.hid ((hb8.block _ (Array.getElem?_eq_some_iff.1 HX3.out).1).trans HX3.out)
  have HB8 := Lib.hid (show Below n0 w w8 from HB3.out.trans (hb8.mono hn3))
  clear hw8 hn1 hb8 HB7 HB6 HB5 HX5 HX6 HO5 HO6 HX3 HB3 HL3 HV HVNil
  go_wp2_with (first | (refine wpList_load_row rfl 30 _ rfl n0 rfl 30 (rowM m) (0, 0) _ HX8.out Try.underlying30 rfl (sizeM _) ?_; simp only [Act.put, List.setIfInBounds_toArray, List.set_cons_zero, List.set_cons_succ]) | fail)
  refine (plain_any m HM.out w8).mono ?_
  rintro e w9 ⟨rfl, hb9⟩
  have HX9 := Lib.hid ((hb9.block _ (Array.getElem?_eq_some_iff.1 HX8.out).1).trans HX8.out)
  have HC9 := Lib.hid ((hb9.block _ (Array.getElem?_eq_some_iff.1 HC8.out).1).trans HC8.out)
  have HB9 := Lib.hid (HB8.out.trans (hb9.mono (by have := HB8.out.size; have := HN.out; omega)))
  clear hb9 HX8 HC8 HB8
  obtain ⟨pm, hpm⟩ : ∃ x, x = plainM m := ⟨_, rfl⟩
  have HPM := Lib.hid hpm
  rw [← hpm]
  clear hpm
  go_upto_region 7 with (first | (refine wpList_store_new rfl 30 _ _ rfl w9 (rowM zeroMsg) 30 (rowM pm) rfl rfl rfl (sizeM _) rfl (rowM_one _) ?_; simp only [Act.put, List.setIfInBounds_toArray, List.set_cons_zero, List.set_cons_succ]) | fail)
  refine ((?_ : ∀ x', x' = w9.alloc (.cells (rowM pm) 30) → Code.wp _ _ _ _ x') _ rfl)
  intro wa hwa
  obtain ⟨n2, hn2⟩ : ∃ x, x = w9.heap.size := ⟨_, rfl⟩
  have HPa := Lib.hid (show wa.heap[n2]? = some (.cells (rowM pm) 30 (0, 0)) by rw [hwa, hn2]; exact heap_alloc_new _ _)
  have hba : Below w9.heap.size w9 wa := by rw [hwa]; exact more (Below.refl _ _) _
  rw [← hn2]
  have HXa := Lib.hid ((hba.block _ (Array.getElem?_eq_some_iff.1 HX9.out).1).trans HX9.out)
  have HCa := Lib.hid ((hba.block _ (Array.getElem?_eq_some_iff.1 HC9.out).1).trans HC9.out)
  have HBa := Lib.hid (HB9.out.trans (hba.mono (by have := HB9.out.size; have := HN.out; omega)))
  clear hwa hn2 hba HX9 HC9 HB9
  have k0 : wa.cell? ⟨n0, 0, none⟩ = some (.int .i64 m.kind) := cells_of HXa.out 0
  by_cases hk : m.kind < 0 ∨ 2 < m.kind
  · have hz : pm = zeroMsg := by rw [HPM.out]; exact plain_no hk
    subst hz
    have hvz : vn = 0 := by rw [HVN.out, encB_no hk]; rfl
    subst hvz
    rcases hk with h | h
    · have d0 : decide (m.kind < 0) = true := decide_eq_true h
      go_wp2_with (first | (refine wpList_val (by rfl) _ (exec_row _ rfl n2 rfl zeroMsg HPa.out) ?_; simp only [Act.put, List.setIfInBounds_toArray, List.set_cons_zero, List.set_cons_succ]) | (refine wpList_val (by rfl) _ (exec_eqM _ _ rfl zeroMsg rfl rfl) ?_; simp only [Act.put, List.setIfInBounds_toArray, List.set_cons_zero, List.set_cons_succ]) | fail)
      go_ret
      exact ⟨rfl, by rw [← HN.out]; exact HBa.out⟩
    · have d0 : decide (m.kind < 0) = false := decide_eq_false (by omega)
      have d1 : decide (2 < m.kind) = true := decide_eq_true h
      go_wp2_with (first | (refine wpList_val (by rfl) _ (exec_row _ rfl n2 rfl zeroMsg HPa.out) ?_; simp only [Act.put, List.setIfInBounds_toArray, List.set_cons_zero, List.set_cons_succ]) | (refine wpList_val (by rfl) _ (exec_eqM _ _ rfl zeroMsg rfl rfl) ?_; simp only [Act.put, List.setIfInBounds_toArray, List.set_cons_zero, List.set_cons_succ]) | fail)
      go_ret
      exact ⟨rfl, by rw [← HN.out]; exact HBa.out⟩
  have d0 : decide (m.kind < 0) = false := decide_eq_false (by omega)
  have d1 : decide (2 < m.kind) = false := decide_eq_false (by omega)
  have hk3 : m.kind = 0 ∨ m.kind = 1 ∨ m.kind = 2 := by omega
  have hdd := dec_enc HM.out hk3 (lst lf ln)
  rw [← List.length_append, HD.out] at hdd
  by_cases hT : m.kind = 0 ∧ toN m.mx ≤ toN m.age
  · rw [if_pos hT] at hdd
    obtain ⟨rfl, rfl⟩ := Prod.mk.inj hdd
    rw [hT.1] at k0
    have hpA : pm.age = fromN (toN m.age) := by rw [HPM.out]; unfold plainM; rw [if_neg (by omega), if_pos hT.1]
    have hpX : pm.mx = fromN (toN m.mx) := by rw [HPM.out]; unfold plainM; rw [if_neg (by omega), if_pos hT.1]
    have p13 : wa.cell? ⟨n2, 13, none⟩ = some (.int .i64 pm.age) := cells_of HPa.out 13
    have p14 : wa.cell? ⟨n2, 14, none⟩ = some (.int .i64 pm.mx) := cells_of HPa.out 14
    have dg : decide (pm.mx ≤ pm.age) = true := decide_eq_true (by rw [hpA, hpX]; have := hT.2; unfold fromN; omega)
    clear hdd hT hk hk3 hpA hpX d0 d1
    go_wp2_with (first | (refine wpList_val (by rfl) _ (exec_row _ rfl n1 rfl zeroMsg HCa.out) ?_; simp only [Act.put, List.setIfInBounds_toArray, List.set_cons_zero, List.set_cons_succ]) | (refine wpList_val (by rfl) _ (exec_eqM _ _ rfl zeroMsg rfl rfl) ?_; simp only [Act.put, List.setIfInBounds_toArray, List.set_cons_zero, List.set_cons_succ]) | fail)
    go_ret
    exact ⟨by simp [dg], by rw [← HN.out]; exact HBa.out⟩
  · rw [if_neg hT] at hdd
    obtain ⟨rfl, rfl⟩ := Prod.mk.inj hdd
    have HPP := Lib.hid (show plainM (plainM m) = plainM m from plain_plain hk3)
    have hpe := HPM.out
    subst hpe
    have l1 := (Array.getElem?_eq_some_iff.1 HCa.out).1
    have l2 := (Array.getElem?_eq_some_iff.1 HPa.out).1
    clear hdd hT hk hk3
    go_upto_region 11 with (fail)
    refine wp_region_held_drew (S := fun w' => Below wa.heap.size wa w') (by kernel_rfl) (Below.refl _ _).drew (fun hH => ?_)
    refine wpAnyH_take (i := 0) (v := .bool true) rfl (by kernel_rfl) (by kernel_rfl) (by kernel_rfl) (fun _ _ _ h => h) (Or.inl ⟨by rfl, fun z _ => rfl⟩) hH ?_
    simp only [List.getElem_toArray, List.getElem_cons_succ, List.getElem_cons_zero, Act.put, List.setIfInBounds_toArray, List.set_cons_zero, List.set_cons_succ]
    refine wpAnyH_take (i := 1) (v := .bool true) rfl (by kernel_rfl) (by kernel_rfl) (by kernel_rfl) (fun _ _ _ h => h) (Or.inl ⟨by rfl, fun z _ => rfl⟩) hH ?_
    simp only [List.getElem_toArray, List.getElem_cons_succ, List.getElem_cons_zero, Act.put, List.setIfInBounds_toArray, List.set_cons_zero, List.set_cons_succ]
    refine wpAnyH_take (i := 2) (v := .int .i64 0) rfl (by kernel_rfl) (by kernel_rfl) (by kernel_rfl) (fun _ _ _ h => h) (Or.inl ⟨by rfl, fun z _ => rfl⟩) hH ?_
    simp only [List.getElem_toArray, List.getElem_cons_succ, List.getElem_cons_zero, Act.put, List.setIfInBounds_toArray, List.set_cons_zero, List.set_cons_succ]
    refine wpAnyH_take (i := 3) (v := .bool true) rfl (by kernel_rfl) (by kernel_rfl) (by kernel_rfl) (fun _ _ _ h => h) (Or.inl ⟨by rfl, fun z _ => by simp [go_sem, execOp]⟩) hH ?_
    simp only [List.getElem_toArray, List.getElem_cons_succ, List.getElem_cons_zero, Act.put, List.setIfInBounds_toArray, List.set_cons_zero, List.set_cons_succ]
    refine wpAnyH_take (i := 4) rfl (by kernel_rfl) (by kernel_rfl) (by kernel_rfl) (fun _ _ _ h => h) (Or.inl ⟨by rfl, fun z _ => rfl⟩) hH ?_
    simp only [List.getElem_toArray, List.getElem_cons_succ, List.getElem_cons_zero, Act.put, List.setIfInBounds_toArray, List.set_cons_zero, List.set_cons_succ]
    refine wpAnyH_take (i := 5) rfl (by kernel_rfl) (by kernel_rfl) (by kernel_rfl) (fun _ _ _ h => h) (Or.inl ⟨by rfl, fun z _ => rfl⟩) hH ?_
    simp only [List.getElem_toArray, List.getElem_cons_succ, List.getElem_cons_zero, Act.put, List.setIfInBounds_toArray, List.set_cons_zero, List.set_cons_succ]
    refine wpAnyH_take (i := 6) rfl (by kernel_rfl) (by kernel_rfl) (by kernel_rfl) (fun _ _ _ h => h) ((yieldsIf_load_mid (by rfl) 30 _ rfl n1 (0) rfl (rowM (plainM m)).toList _ (row_held HCa.out l1) Try.underlying30 rfl (sizeM _))) hH ?_
    simp only [List.getElem_toArray, List.getElem_cons_succ, List.getElem_cons_zero, Act.put, List.setIfInBounds_toArray, List.set_cons_zero, List.set_cons_succ]
    refine wpAnyH_take (i := 7) rfl (by kernel_rfl) (by kernel_rfl) (by kernel_rfl) (fun _ _ _ h => h) ((yieldsIf_load_mid (by rfl) 30 _ rfl n2 (0) rfl (rowM (plainM m)).toList _ (row_held HPa.out l2) Try.underlying30 rfl (sizeM _))) hH ?_
    simp only [List.getElem_toArray, List.getElem_cons_succ, List.getElem_cons_zero, Act.put, List.setIfInBounds_toArray, List.set_cons_zero, List.set_cons_succ]
    refine wpAnyH_take (i := 8) (v := .bool true) rfl (by kernel_rfl) (by kernel_rfl) (by kernel_rfl) (fun _ _ _ h => h) (Or.inl ⟨by rfl, fun z _ => exec_eqM _ _ rfl (plainM m) rfl rfl⟩) hH ?_
    simp only [List.getElem_toArray, List.getElem_cons_succ, List.getElem_cons_zero, Act.put, List.setIfInBounds_toArray, List.set_cons_zero, List.set_cons_succ]
    refine wpAnyH_take (i := 9) rfl (by kernel_rfl) (by kernel_rfl) (by kernel_rfl) (fun _ _ _ h => h) (Or.inl ⟨by rfl, fun z _ => rfl⟩) hH ?_
    simp only [List.getElem_toArray, List.getElem_cons_succ, List.getElem_cons_zero, Act.put, List.setIfInBounds_toArray, List.set_cons_zero, List.set_cons_succ]
    refine wpAnyH_take (i := 10) rfl (by kernel_rfl) (by kernel_rfl) (by kernel_rfl) (fun _ _ _ h => h) (Or.inl ⟨by rfl, fun z _ => rfl⟩) hH ?_
    simp only [List.getElem_toArray, List.getElem_cons_succ, List.getElem_cons_zero, Act.put, List.setIfInBounds_toArray, List.set_cons_zero, List.set_cons_succ]
    refine wpAnyH_take (i := 11) rfl (by kernel_rfl) (by kernel_rfl) (by kernel_rfl) (fun _ _ _ h => h) ((yieldsIf_load_mid (by rfl) 30 _ rfl n2 (0) rfl (rowM (plainM m)).toList _ (row_held HPa.out l2) Try.underlying30 rfl (sizeM _))) hH ?_
    simp only [List.getElem_toArray, List.getElem_cons_succ, List.getElem_cons_zero, Act.put, List.setIfInBounds_toArray, List.set_cons_zero, List.set_cons_succ]
    refine wpAnyH_take (i := 13) rfl (by kernel_rfl) (by kernel_rfl) (by kernel_rfl) (fun _ _ _ h => h) ((yieldsIf_load_mid (by rfl) 30 _ rfl n2 (0) rfl (rowM (plainM m)).toList _ (row_held HPa.out l2) Try.underlying30 rfl (sizeM _))) hH ?_
    simp only [List.getElem_toArray, List.getElem_cons_succ, List.getElem_cons_zero, Act.put, List.setIfInBounds_toArray, List.set_cons_zero, List.set_cons_succ]
    refine wpAnyH_ready (rs := [12]) (by kernel_rfl) (by simp) (AllReadyH.cons rfl (fun K hK => ?_) AllReadyH.nil)
    go_simp
    refine (plain_any (plainM m) HM.out.plain _).mono ?_
    rw [HPP.out]
    rintro e wp ⟨rfl, hbp⟩
    refine hK.out _ _ (hH.trans (hbp.mono hH.size)) (fun hHp => ?_)
    clear hK K hbp
    refine wpAnyH_take (i := 14) (v := .bool true) rfl (by kernel_rfl) (by kernel_rfl) (by kernel_rfl) (fun _ _ _ h => h) (Or.inl ⟨by rfl, fun z _ => exec_eqM _ _ rfl (plainM m) rfl rfl⟩) hHp ?_
    simp only [List.getElem_toArray, List.getElem_cons_succ, List.getElem_cons_zero, Act.put, List.setIfInBounds_toArray, List.set_cons_zero, List.set_cons_succ]
    refine wpAnyH_take (i := 15) rfl (by kernel_rfl) (by kernel_rfl) (by kernel_rfl) (fun _ _ _ h => h) (Or.inl ⟨by rfl, fun z _ => rfl⟩) hHp ?_
    simp only [List.getElem_toArray, List.getElem_cons_succ, List.getElem_cons_zero, Act.put, List.setIfInBounds_toArray, List.set_cons_zero, List.set_cons_succ]
    refine wpAnyH_take (i := 16) rfl (by kernel_rfl) (by kernel_rfl) (by kernel_rfl) (fun _ _ _ h => h) (Or.inl ⟨by rfl, fun z _ => rfl⟩) hHp ?_
    simp only [List.getElem_toArray, List.getElem_cons_succ, List.getElem_cons_zero, Act.put, List.setIfInBounds_toArray, List.set_cons_zero, List.set_cons_succ]
    refine wpAnyH_done (by kernel_rfl) ?_ _
    go_wp2_with fail
    go_ret
    exact ⟨rfl, by rw [← HN.out]; exact HBa.out.trans (hHp.mono (by have := HBa.out.size; have := HN.out; omega))⟩
end Go.Proofs.Ytogoegddbjggiaa.Oct
