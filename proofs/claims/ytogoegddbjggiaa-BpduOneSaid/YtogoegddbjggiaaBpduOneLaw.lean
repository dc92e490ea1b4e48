/- Law BpduOne of chapter 5: the walk joined with the plain law. Conditions: the bytes are bytes that can be read. -/
import Derived.Test.YtogoegddbjggiaaAw
import Derived.Deep.CutRange
set_option linter.unusedSimpArgs false
set_option linter.unusedVariables false
namespace Go.Proofs.Ytogoegddbjggiaa.Oct
open Go.RowKit
attribute [local go_sem] bldZ
theorem gt_max4 (a b c d : Int) (h : ¬ (255 < a ∨ 255 < b ∨ 255 < c ∨ 255 < d)) : decide (255 < a) = false ∧ decide (255 < b) = false ∧ decide (255 < c) = false ∧ decide (255 < d) = false := by
  refine ⟨decide_eq_false (by omega), decide_eq_false (by omega), decide_eq_false (by omega), decide_eq_false (by omega)⟩
set_option maxRecDepth 100000 in
set_option maxHeartbeats 16000000 in
theorem one_any (w : World) (la : Option Addr) (ln lc : Nat) (lf : Nat → Int) (hL : View w la 1 ln fun k _ => .int .u8 (lf k)) (hLB : ∀ k, k < ln → 0 ≤ lf k ∧ lf k ≤ 255) (hLN : la = none → ln = 0 ∧ lc = 0) (_hC : ln ≤ lc ∧ lc ≤ maxLen) :
    Calls Try.prog 6 #[.slice la ln lc] w fun e w' => e = .returned (.bool true) ∧ Below w.heap.size w w' := by
  have HL := Lib.hid hL
  have HLB := Lib.hid hLB
  have HLN := Lib.hid hLN
  obtain ⟨n0, hn0⟩ : ∃ x, x = w.heap.size := ⟨_, rfl⟩
  rw [← hn0]
  have HN := Lib.hid hn0
  clear hL hLB hLN _hC hn0
  go_enter Try.func6, Try.ntmps6
  go_wp2_with fail
  refine (awake_any w).mono ?_
  rintro e w2 ⟨rfl, hb2⟩
  have HB2 := Lib.hid (show Below n0 w w2 by rw [HN.out]; exact hb2)
  clear hb2
  by_cases h100 : 100 < ln
  · have d100 : decide ((100 : Int) < (ln : Int)) = true := decide_eq_true (by omega)
    go_wp2_with fail
    go_ret
    exact ⟨rfl, HB2.out⟩
  have d100 : decide ((100 : Int) < (ln : Int)) = false := decide_eq_false (by omega)
  obtain ⟨x, ex, hd⟩ : ∃ x e, decP lf ln = (x, e) := ⟨_, _, rfl⟩
  have HS := Lib.hid (dec_some lf ln HLB.out x ex hd)
  have HD := Lib.hid hd
  clear hd
  go_wp2_with fail
  refine (dec_any w2 la ln lc lf (HL.out.below (by rw [← HN.out]; exact HB2.out)) HLB.out HLN.out (by omega)).mono ?_
  rintro e w3 ⟨rfl, hb3⟩
  rw [HD.out]
  have HB3 := Lib.hid (HB2.out.trans (hb3.mono (by have := HB2.out.size; have := HN.out; omega)))
  clear hb3 HB2 h100 d100
  go_upto_region 5 with (first | (refine wpList_store_new rfl 30 _ _ rfl w3 (rowM zeroMsg) 30 (rowM x) rfl rfl rfl (sizeM _) rfl (rowM_one _) ?_; simp only [Act.put, List.setIfInBounds_toArray, List.set_cons_zero, List.set_cons_succ]) | fail)
  refine ((?_ : ∀ x', x' = w3.alloc (.cells (rowM x) 30) → Code.wp _ _ _ _ x') _ rfl)
  intro w4 hw4
  obtain ⟨n1, hn1⟩ : ∃ x, x = w3.heap.size := ⟨_, rfl⟩
  have HX4 := Lib.hid (show w4.heap[n1]? = some (.cells (rowM x) 30 (0, 0)) by rw [hw4, hn1]; exact heap_alloc_new _ _)
  have HB4 := Lib.hid (show Below n0 w w4 by rw [hw4]; exact HB3.out.alloc (by have := HB3.out.size; have := HN.out; omega) _)
  rw [← hn1]
  clear hw4 hn1 HB3
  rcases HS.out with ⟨he, hz⟩ | ⟨he, hok, hc0⟩
  · subst hz
    have de : (ex != 0) = true := by simpa using he
    clear he
    go_wp2_with (first | (refine wpList_val (by rfl) _ (exec_row _ rfl n1 rfl zeroMsg HX4.out) ?_; simp only [Act.put, List.setIfInBounds_toArray, List.set_cons_zero, List.set_cons_succ]) | (refine wpList_val (by rfl) _ (exec_eqM _ _ rfl zeroMsg rfl rfl) ?_; simp only [Act.put, List.setIfInBounds_toArray, List.set_cons_zero, List.set_cons_succ]) | fail)
    go_ret
    exact ⟨by simp, HB4.out⟩
  subst he
  have hcase := hc0.imp_right (fun h => h.1)
  obtain ⟨ha0, hx0, hh0, hd0⟩ : 0 ≤ x.age ∧ 0 ≤ x.mx ∧ 0 ≤ x.hel ∧ 0 ≤ x.del := by
    rcases hc0 with rfl | ⟨_, h⟩
    · exact ⟨by decide, by decide, by decide, by decide⟩
    · exact h
  clear hc0
  have a13 : w4.cell? ⟨n1, 13, none⟩ = some (.int .i64 x.age) := cells_of HX4.out 13
  have a14 : w4.cell? ⟨n1, 14, none⟩ = some (.int .i64 x.mx) := cells_of HX4.out 14
  have a15 : w4.cell? ⟨n1, 15, none⟩ = some (.int .i64 x.hel) := cells_of HX4.out 15
  have a16 : w4.cell? ⟨n1, 16, none⟩ = some (.int .i64 x.del) := cells_of HX4.out 16
  have a0 : w4.cell? ⟨n1, 0, none⟩ = some (.int .i64 x.kind) := cells_of HX4.out 0
  by_cases hbig : 255 < x.age ∨ 255 < x.mx ∨ 255 < x.hel ∨ 255 < x.del
  · have hk1 : (x.kind != 1) = true := by
      have : ¬ x.kind = 1 := by
        rcases hcase with rfl | ⟨h, _⟩
        · exact absurd hbig (by decide)
        · omega
      simpa using this
    clear hcase
    by_cases h1 : 255 < x.age
    · have d1 : decide (255 < x.age) = true := decide_eq_true h1
      clear hbig h1
      go_wp2_with fail
      go_ret
      exact ⟨by simp [hk1], HB4.out⟩
    have d1 : decide (255 < x.age) = false := decide_eq_false h1
    by_cases h2 : 255 < x.mx
    · have d2 : decide (255 < x.mx) = true := decide_eq_true h2
      clear hbig h1 h2
      go_wp2_with fail
      go_ret
      exact ⟨by simp [hk1], HB4.out⟩
    have d2 : decide (255 < x.mx) = false := decide_eq_false h2
    by_cases h3 : 255 < x.hel
    · have d3 : decide (255 < x.hel) = true := decide_eq_true h3
      clear hbig h1 h2 h3
      go_wp2_with fail
      go_ret
      exact ⟨by simp [hk1], HB4.out⟩
    have d3 : decide (255 < x.hel) = false := decide_eq_false h3
    have d4 : decide (255 < x.del) = true := decide_eq_true (by omega)
    clear hbig h1 h2 h3
    go_wp2_with fail
    go_ret
    exact ⟨by simp [hk1], HB4.out⟩
  obtain ⟨d1, d2, d3, d4⟩ := gt_max4 _ _ _ _ hbig
  have HPL := Lib.hid (show plainM x = x by
    rcases hcase with rfl | ⟨_, h⟩
    · rfl
    · exact h ⟨⟨ha0, by omega⟩, ⟨hx0, by omega⟩, ⟨hh0, by omega⟩, ⟨hd0, by omega⟩⟩)
  have hk3 : x.kind = 0 ∨ x.kind = 1 ∨ x.kind = 2 := by
    rcases hcase with rfl | ⟨h, _⟩
    · exact .inr (.inl rfl)
    · omega
  have HOK := Lib.hid hok
  obtain ⟨y, ey, hdy⟩ : ∃ y e, decM x = (y, e) := ⟨_, _, rfl⟩
  have HDY := Lib.hid hdy
  have hT := decM_in hok hk3
  rw [hdy] at hT
  have HT := Lib.hid hT
  have HG := Lib.hid (show toN x.mx ≤ toN x.age → x.mx ≤ x.age from fun h => by unfold toN at h; omega)
  clear hT hdy hcase hok hbig ha0 hx0 hh0 hd0
  go_wp2_with (first | (refine wpList_load_row rfl 30 _ rfl n1 rfl 30 (rowM x) (0, 0) _ HX4.out Try.underlying30 rfl (sizeM _) ?_; simp only [Act.put, List.setIfInBounds_toArray, List.set_cons_zero, List.set_cons_succ]) | fail)
  refine (enc_any x HOK.out w4).mono ?_
  rintro e w5 ⟨v, rfl, hO, _, hb5⟩
  have HO5 := Lib.hid hO
  clear hO d1 d2 d3 d4 a13 a14 a15 a16 a0
  have HX5 := Lib.hid ((hb5.block _ (Array.getElem?_eq_some_iff.1 HX4.out).1).trans HX4.out)
  have HB5 := Lib.hid (HB4.out.trans (hb5.mono (by have := HB4.out.size; have := HN.out; omega)))
  clear hb5 HX4 HB4
  go_wp2_with fail
  refine (dec_enc_own HO5.out HDY.out).mono ?_
  rintro e w6 ⟨rfl, hb6⟩
  have HX6 := Lib.hid ((hb6.block _ (Array.getElem?_eq_some_iff.1 HX5.out).1).trans HX5.out)
  have HB6 := Lib.hid (HB5.out.trans (hb6.mono (by have := HB5.out.size; have := HN.out; omega)))
  clear hb6 HX5 HB5
  clear HO5
  go_upto_region 10 with (first | (refine wpList_store_new rfl 30 _ _ rfl w6 (rowM zeroMsg) 30 (rowM y) rfl rfl rfl (sizeM _) rfl (rowM_one _) ?_; simp only [Act.put, List.setIfInBounds_toArray, List.set_cons_zero, List.set_cons_succ]) | fail)
  refine ((?_ : ∀ x', x' = w6.alloc (.cells (rowM y) 30) → Code.wp _ _ _ _ x') _ rfl)
  intro w7 hw7
  obtain ⟨n2, hn2⟩ : ∃ x, x = w6.heap.size := ⟨_, rfl⟩
  have HY7 := Lib.hid (show w7.heap[n2]? = some (.cells (rowM y) 30 (0, 0)) by rw [hw7, hn2]; exact heap_alloc_new _ _)
  have hb7 : Below w6.heap.size w6 w7 := by rw [hw7]; exact more (Below.refl _ _) _
  rw [← hn2]
  have HX7 := Lib.hid ((hb7.block _ (Array.getElem?_eq_some_iff.1 HX6.out).1).trans HX6.out)
  have HB7 := Lib.hid (HB6.out.trans (hb7.mono (by have := HB6.out.size; have := HN.out; omega)))
  clear hb7 HX6 HB6
  clear hw7 hn2
  have hTT := HT.out
  by_cases hC : x.kind = 0 ∧ toN x.mx ≤ toN x.age
  · rw [if_pos hC] at hTT
    obtain ⟨rfl, rfl⟩ := Prod.mk.inj hTT
    have a0 : w7.cell? ⟨n1, 0, none⟩ = some (.int .i64 x.kind) := cells_of HX7.out 0
    have a13 : w7.cell? ⟨n1, 13, none⟩ = some (.int .i64 x.age) := cells_of HX7.out 13
    have a14 : w7.cell? ⟨n1, 14, none⟩ = some (.int .i64 x.mx) := cells_of HX7.out 14
    rw [hC.1] at a0
    have dg : decide (x.mx ≤ x.age) = true := decide_eq_true (HG.out hC.2)
    clear hTT hC hk3
    go_wp2_with fail
    go_ret
    exact ⟨by simp [dg], HB7.out⟩
  · rw [if_neg hC, HPL.out] at hTT
    obtain ⟨rfl, rfl⟩ := Prod.mk.inj hTT
    have l1 := (Array.getElem?_eq_some_iff.1 HX7.out).1
    have l2 := (Array.getElem?_eq_some_iff.1 HY7.out).1
    clear hTT hC hk3
    go_upto_region 12 with (fail)
    refine wp_region_held_drew (S := fun w' => Below w7.heap.size w7 w') (by kernel_rfl) (Below.refl _ _).drew (fun hH => ?_)
    refine wpAnyH_take (i := 0) (v := .bool true) rfl (by kernel_rfl) (by kernel_rfl) (by kernel_rfl) (fun _ _ _ h => h) (Or.inl ⟨by rfl, fun z _ => rfl⟩) hH ?_
    simp only [List.getElem_toArray, List.getElem_cons_succ, List.getElem_cons_zero, Act.put, List.setIfInBounds_toArray, List.set_cons_zero, List.set_cons_succ]
    refine wpAnyH_take (i := 1) (v := .bool true) rfl (by kernel_rfl) (by kernel_rfl) (by kernel_rfl) (fun _ _ _ h => h) (Or.inl ⟨by rfl, fun z _ => rfl⟩) hH ?_
    simp only [List.getElem_toArray, List.getElem_cons_succ, List.getElem_cons_zero, Act.put, List.setIfInBounds_toArray, List.set_cons_zero, List.set_cons_succ]
    refine wpAnyH_take (i := 2) rfl (by kernel_rfl) (by kernel_rfl) (by kernel_rfl) (fun _ _ _ h => h) ((yieldsIf_load_mid (by rfl) 30 _ rfl n1 (0) rfl (rowM y).toList _ (row_held HX7.out l1) Try.underlying30 rfl (sizeM _))) hH ?_
    simp only [List.getElem_toArray, List.getElem_cons_succ, List.getElem_cons_zero, Act.put, List.setIfInBounds_toArray, List.set_cons_zero, List.set_cons_succ]
    refine wpAnyH_take (i := 4) rfl (by kernel_rfl) (by kernel_rfl) (by kernel_rfl) (fun _ _ _ h => h) ((yieldsIf_load_mid (by rfl) 30 _ rfl n1 (0) rfl (rowM y).toList _ (row_held HX7.out l1) Try.underlying30 rfl (sizeM _))) hH ?_
    simp only [List.getElem_toArray, List.getElem_cons_succ, List.getElem_cons_zero, Act.put, List.setIfInBounds_toArray, List.set_cons_zero, List.set_cons_succ]
    refine wpAnyH_ready (rs := [3]) (by kernel_rfl) (by simp) (AllReadyH.cons rfl (fun K hK => ?_) AllReadyH.nil)
    go_simp
    refine (plain_any y HOK.out _).mono ?_
    rw [HPL.out]
    rintro e wp ⟨rfl, hbp⟩
    refine hK.out _ _ (hH.trans (hbp.mono hH.size)) (fun hHp => ?_)
    clear hK K hbp
    refine wpAnyH_take (i := 5) (v := .bool true) rfl (by kernel_rfl) (by kernel_rfl) (by kernel_rfl) (fun _ _ _ h => h) (Or.inl ⟨by rfl, fun z _ => exec_eqM _ _ rfl y rfl rfl⟩) hHp ?_
    simp only [List.getElem_toArray, List.getElem_cons_succ, List.getElem_cons_zero, Act.put, List.setIfInBounds_toArray, List.set_cons_zero, List.set_cons_succ]
    refine wpAnyH_take (i := 6) rfl (by kernel_rfl) (by kernel_rfl) (by kernel_rfl) (fun _ _ _ h => h) (Or.inl ⟨by rfl, fun z _ => rfl⟩) hHp ?_
    simp only [List.getElem_toArray, List.getElem_cons_succ, List.getElem_cons_zero, Act.put, List.setIfInBounds_toArray, List.set_cons_zero, List.set_cons_succ]
    refine wpAnyH_take (i := 7) rfl (by kernel_rfl) (by kernel_rfl) (by kernel_rfl) (fun _ _ _ h => h) (Or.inl ⟨by rfl, fun z _ => rfl⟩) hHp ?_
    simp only [List.getElem_toArray, List.getElem_cons_succ, List.getElem_cons_zero, Act.put, List.setIfInBounds_toArray, List.set_cons_zero, List.set_cons_succ]
    refine wpAnyH_take (i := 8) (v := .int .i64 0) rfl (by kernel_rfl) (by kernel_rfl) (by kernel_rfl) (fun _ _ _ h => h) (Or.inl ⟨by rfl, fun z _ => rfl⟩) hHp ?_
    simp only [List.getElem_toArray, List.getElem_cons_succ, List.getElem_cons_zero, Act.put, List.setIfInBounds_toArray, List.set_cons_zero, List.set_cons_succ]
    refine wpAnyH_take (i := 9) (v := .bool true) rfl (by kernel_rfl) (by kernel_rfl) (by kernel_rfl) (fun _ _ _ h => h) (Or.inl ⟨by rfl, fun z _ => by simp [go_sem, execOp]⟩) hHp ?_
    simp only [List.getElem_toArray, List.getElem_cons_succ, List.getElem_cons_zero, Act.put, List.setIfInBounds_toArray, List.set_cons_zero, List.set_cons_succ]
    refine wpAnyH_take (i := 10) rfl (by kernel_rfl) (by kernel_rfl) (by kernel_rfl) (fun _ _ _ h => h) (Or.inl ⟨by rfl, fun z _ => rfl⟩) hHp ?_
    simp only [List.getElem_toArray, List.getElem_cons_succ, List.getElem_cons_zero, Act.put, List.setIfInBounds_toArray, List.set_cons_zero, List.set_cons_succ]
    refine wpAnyH_take (i := 11) rfl (by kernel_rfl) (by kernel_rfl) (by kernel_rfl) (fun _ _ _ h => h) (Or.inl ⟨by rfl, fun z _ => rfl⟩) hHp ?_
    simp only [List.getElem_toArray, List.getElem_cons_succ, List.getElem_cons_zero, Act.put, List.setIfInBounds_toArray, List.set_cons_zero, List.set_cons_succ]
    refine wpAnyH_take (i := 12) rfl (by kernel_rfl) (by kernel_rfl) (by kernel_rfl) (fun _ _ _ h => h) ((yieldsIf_load_mid (by rfl) 30 _ rfl n2 (0) rfl (rowM y).toList _ (row_held HY7.out l2) Try.underlying30 rfl (sizeM _))) hHp ?_
    simp only [List.getElem_toArray, List.getElem_cons_succ, List.getElem_cons_zero, Act.put, List.setIfInBounds_toArray, List.set_cons_zero, List.set_cons_succ]
    refine wpAnyH_take (i := 13) rfl (by kernel_rfl) (by kernel_rfl) (by kernel_rfl) (fun _ _ _ h => h) ((yieldsIf_load_mid (by rfl) 30 _ rfl n1 (0) rfl (rowM y).toList _ (row_held HX7.out l1) Try.underlying30 rfl (sizeM _))) hHp ?_
    simp only [List.getElem_toArray, List.getElem_cons_succ, List.getElem_cons_zero, Act.put, List.setIfInBounds_toArray, List.set_cons_zero, List.set_cons_succ]
    refine wpAnyH_take (i := 14) (v := .bool true) rfl (by kernel_rfl) (by kernel_rfl) (by kernel_rfl) (fun _ _ _ h => h) (Or.inl ⟨by rfl, fun z _ => exec_eqM _ _ rfl y rfl rfl⟩) hHp ?_
    simp only [List.getElem_toArray, List.getElem_cons_succ, List.getElem_cons_zero, Act.put, List.setIfInBounds_toArray, List.set_cons_zero, List.set_cons_succ]
    refine wpAnyH_take (i := 15) rfl (by kernel_rfl) (by kernel_rfl) (by kernel_rfl) (fun _ _ _ h => h) (Or.inl ⟨by rfl, fun z _ => rfl⟩) hHp ?_
    simp only [List.getElem_toArray, List.getElem_cons_succ, List.getElem_cons_zero, Act.put, List.setIfInBounds_toArray, List.set_cons_zero, List.set_cons_succ]
    refine wpAnyH_take (i := 16) rfl (by kernel_rfl) (by kernel_rfl) (by kernel_rfl) (fun _ _ _ h => h) (Or.inl ⟨by rfl, fun z _ => rfl⟩) hHp ?_
    simp only [List.getElem_toArray, List.getElem_cons_succ, List.getElem_cons_zero, Act.put, List.setIfInBounds_toArray, List.set_cons_zero, List.set_cons_succ]
    refine wpAnyH_done (by kernel_rfl) ?_ _
    go_wp2_with fail
    go_ret
    exact ⟨rfl, HB7.out.trans (hHp.mono (by have := HB7.out.size; have := HN.out; omega))⟩
end Go.Proofs.Ytogoegddbjggiaa.Oct
