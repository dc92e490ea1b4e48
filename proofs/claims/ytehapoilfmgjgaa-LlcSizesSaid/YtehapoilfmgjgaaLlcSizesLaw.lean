/- Law LlcSizes of chapter 6: the walk joined with the plain law. Conditions: the numbers fit. -/
import Derived.Test.YtehapoilfmgjgaaAw6
import Derived.Test.YtehapoilfmgjgaaAv
import Derived.Test.YtehapoilfmgjgaaLs
import Derived.Deep.CutRange
set_option linter.unusedSimpArgs false
set_option linter.unusedVariables false
namespace Go.Proofs.Ytehapoilfmgjgaa.Oct
open Go.RowKit
attribute [local go_sem] mkE bldZ
set_option maxRecDepth 100000 in
set_option maxHeartbeats 16000000 in
theorem sizes_any (w : World) (src : Int) (hs : 0 ≤ src ∧ src < 18446744073709551616) (m : Msg) (hm : MsgOk m) (i : Nat) (hi : i ≤ 255) :
    Calls Try.prog 5 #[.int .u64 src, .agg (rowM m), .int .u8 i] w fun e w' => e = .returned (.bool true) ∧ Below w.heap.size w w' := by
  have HM := Lib.hid (show MsgOk { m with kind := 2 } from ⟨hm.root, hm.cost, hm.bridge, hm.port⟩)
  have HS := Lib.hid hs
  clear hm hs
  go_enter Try.func5, Try.ntmps5
  go_upto_region 1 with (fail)
  refine ((?_ : ∀ x, x = w.alloc (.cells (rowM m) 30) → Code.wp _ _ _ _ x) _ rfl)
  intro w1 hw1
  obtain ⟨n0, hn0⟩ : ∃ x, x = w.heap.size := ⟨_, rfl⟩
  have HX1 := Lib.hid (show w1.heap[n0]? = some (.cells (rowM m) 30 (0, 0)) by rw [hw1, hn0]; exact heap_alloc_new _ _)
  have HB1 := Lib.hid (show Below n0 w w1 by rw [hw1, hn0]; exact more (Below.refl _ _) _)
  rw [← hn0]
  have HN := Lib.hid hn0
  clear hw1 hn0
  go_wp2_with fail
  refine (awake_any w1).mono ?_
  rintro e w2 ⟨rfl, hb2⟩
  have HX2 := Lib.hid ((hb2.block _ (Array.getElem?_eq_some_iff.1 HX1.out).1).trans HX1.out)
  have HB2 := Lib.hid (HB1.out.trans (hb2.mono (by have := HB1.out.size; have := HN.out; omega)))
  clear hb2 HX1 HB1
  have k0 : w2.cell? ⟨n0, 0, none⟩ = some (.int .i64 m.kind) := cells_of HX2.out 0
  have f0 : w2.frozen? ⟨n0, 0, none⟩ = false := free_block HX2.out _
  go_upto_region 3 with (fail)
  obtain ⟨M, hM⟩ : ∃ M : Msg, M = { m with kind := 2 } := ⟨_, rfl⟩
  rw [← hM] at HM
  have hk2 : M.kind = 2 := by rw [hM]
  refine ((?_ : ∀ x, x = w2.setCell ⟨n0, 0, none⟩ (.int .i64 2) → Code.wp _ _ _ _ x) _ rfl)
  intro w3 hw3
  have HX3 := Lib.hid (show w3.heap[n0]? = some (.cells (rowM M) 30 (0, 0)) by rw [hw3, hM]; exact at_set HX2.out (rowM_put_0 _ _))
  have HB3 := Lib.hid (show Below n0 w w3 by rw [hw3]; exact Below.setCell HB2.out (Nat.le_refl _) _)
  have HK := Lib.hid (show Kinds M from .inr (.inr hk2))
  have HK2 := Lib.hid hk2
  clear hw3 k0 f0 HX2 HB2 hM hk2
  go_wp2_with (first | (refine wpList_load_row rfl 30 _ rfl n0 rfl 30 (rowM M) (0, 0) _ HX3.out Try.underlying30 rfl (sizeM _) ?_; simp only [Act.put, List.setIfInBounds_toArray, List.set_cons_zero, List.set_cons_succ]) | fail)
  refine (wrap_any src HS.out M HM.out w3).mono ?_
  rintro e w4 ⟨v, rfl, hO, _, hb4⟩
  have HX4 := Lib.hid ((hb4.block _ (Array.getElem?_eq_some_iff.1 HX3.out).1).trans HX3.out)
  have HB4 := Lib.hid (HB3.out.trans (hb4.mono (by have := HB3.out.size; have := HN.out; omega)))
  clear hb4 HX3 HB3
  have hlen := wrap_len HK.out src
  have hok := wrap_ok src M
  have hW := wrap_is HK.out src []
  rw [List.append_nil] at hW
  obtain ⟨l, hl⟩ : ∃ l, l = wrapB src M := ⟨_, rfl⟩
  rw [← hl] at hO hlen hok hW
  have HOF := Lib.hid (show openP (fB l) l.length = (src % 281474976710656, plainM M, 0) by
    rw [hlen, open_is HM.out HK.out hW (by have := (enc_pos HK.out).2; omega), show ansM M = (plainM M, 0) from if_neg (by rw [HK2.out]; omega)]
    rfl)
  have HOG := Lib.hid (show openP (fB (l.set 13 i)) (l.set 13 (i : Int)).length = if (i : Int) < 3 ∨ 46 < (i : Int) then (0, zeroMsg, 3) else if (i : Int) < 39 then (0, zeroMsg, 2) else (src % 281474976710656, plainM M, 0) by
    rw [List.length_set, hlen]
    exact open_size HM.out HK2.out hW i (by omega) (fB_set_same (by omega)) (fun j hj => fB_set_other hj))
  obtain ⟨g, c, rfl, hgc, _⟩ := hO.at (by intro h; rw [h] at hlen; cases hlen)
  rw [hlen] at hO hgc ⊢
  have HV := Lib.hid (hO.cut 60 (by omega))
  have HO4 := Lib.hid hO
  have HLE := Lib.hid hlen
  have HOK := Lib.hid hok
  have HGOK := Lib.hid (set_ok (j := 13) (x := (i : Int)) hok (by omega))
  have HLST := Lib.hid (show lst (fB l) 60 = l by rw [← hlen]; exact lst_fB l)
  obtain ⟨pm, hpm⟩ : ∃ x, x = plainM M := ⟨_, rfl⟩
  rw [← hpm] at HOF HOG
  obtain ⟨lg, hlg⟩ : ∃ x, x = l.set 13 (i : Int) := ⟨_, rfl⟩
  rw [← hlg] at HOG HGOK
  have HLG := Lib.hid hlg
  obtain ⟨s2, x2, e2, hd⟩ : ∃ s x e, openP (fB lg) lg.length = (s, x, e) := ⟨_, _, _, rfl⟩
  have HD := Lib.hid hd
  have HE := Lib.hid (hd.symm.trans HOG.out)
  clear hl hO hlen hok hW hpm hlg hd HOG
  go_upto_region 7 with (first
    | (at_builtin; refine wpList_appV rfl (.tmp 24) (.tmp 25) rfl w4.heap.size _ [] rfl (ownB_new (l := []) (n := 0) (heap_alloc_new _ _) (Nat.le_refl _) rfl (by omega)) (by simp) (some ⟨g, 0, none⟩) 60 c (fB l) rfl (fun h => by cases h) (HV.out.below (more (Below.refl _ _) _)) (by simp) ?_; intro v5 w5 hown5 hb5 hk5; simp only [Act.put, List.setIfInBounds_toArray, List.set_cons_zero, List.set_cons_succ]; have HO5 := Lib.hid (show OwnB w5 w4.heap.size v5 l by rw [List.nil_append, HLST.out] at hown5; exact hown5); have HB5 := Lib.hid (show Below w4.heap.size w4 w5 from (more (Below.refl _ _) _).trans hb5); clear hown5 hb5 hk5)
    | fail)
  obtain ⟨g5, c5, rfl, hgc5, _⟩ := HO5.out.at (by intro h; have := HLE.out; rw [h] at this; cases this)
  have ho5 := HO5.out
  rw [HLE.out] at hgc5 ho5 ⊢
  have HP5 := Lib.hid ho5
  have c13 : w5.cell? ⟨g5, 13, none⟩ = some (.int .u8 (fB l 13)) := ho5.cell (by rw [HLE.out]; omega)
  have f13 : w5.frozen? ⟨g5, 13, none⟩ = false := ho5.free 13
  clear ho5 HO5 HV
  go_upto_region 8 with (fail)
  refine ((?_ : ∀ x, x = w5.setCell ⟨g5, 13, none⟩ (.int .u8 i) → Code.wp _ _ _ _ x) _ rfl)
  intro w6 hw6
  have HG6 := Lib.hid (show OwnB w6 w4.heap.size (.slice (some ⟨g5, 0, none⟩) 60 c5) lg by rw [hw6, HLG.out]; exact HP5.out.set 13 i)
  have hb6 : Below w4.heap.size w4 w6 := by rw [hw6]; exact HB5.out.setCell HP5.out.base_le.1 _
  have HF6 := Lib.hid (HO4.out.below hb6)
  have hn4 : n0 ≤ w4.heap.size := by have := HB4.out.size; have := HN.out; omega
  have HB6 := Lib.hid (HB4.out.trans (hb6.mono hn4))
  clear hw6 hb6 c13 f13 HP5 HB5 HO4 HB4 HX4 hn4
  go_upto_region 9 with (first
    | (go_at_call 11; refine (open_own HF6.out HOK.out (by rw [HLE.out]; omega) HOF.out).mono ?_; rintro e w7 ⟨rfl, hb7⟩; have HG7 := Lib.hid (HG6.out.below hb7); have HB7 := Lib.hid (HB6.out.trans (hb7.mono (by have := HB6.out.size; have := HN.out; omega))); clear hb7)
    | (refine wpList_store_new rfl 30 _ _ rfl w7 (rowM zeroMsg) 30 (rowM pm) rfl rfl rfl (sizeM _) rfl (rowM_one _) ?_; simp only [Act.put, List.setIfInBounds_toArray, List.set_cons_zero, List.set_cons_succ]) | fail)
  refine ((?_ : ∀ x', x' = w7.alloc (.cells (rowM pm) 30) → Code.wp _ _ _ _ x') _ rfl)
  intro w8 hw8
  obtain ⟨n1, hn1⟩ : ∃ x, x = w7.heap.size := ⟨_, rfl⟩
  have HC8 := Lib.hid (show w8.heap[n1]? = some (.cells (rowM pm) 30 (0, 0)) by rw [hw8, hn1]; exact heap_alloc_new _ _)
  have hb8 : Below w7.heap.size w7 w8 := by rw [hw8]; exact more (Below.refl _ _) _
  rw [← hn1]
  have HG8 := Lib.hid (HG7.out.below hb8)
  have HB8 := Lib.hid (HB7.out.trans (hb8.mono (by have := HB7.out.size; have := HN.out; omega)))
  clear hw8 hn1 hb8 HB7 HG7 HB6 HG6 HF6
  go_upto_region 10 with (first
    | (go_at_call 11; refine (open_own HG8.out HGOK.out (by rw [HLG.out, List.length_set, HLE.out]; omega) HD.out).mono ?_; rintro e w9 ⟨rfl, hb9⟩; have HC9 := Lib.hid ((hb9.block _ (Array.getElem?_eq_some_iff.1 HC8.out).1).trans HC8.out); have HB9 := Lib.hid (HB8.out.trans (hb9.mono (by have := HB8.out.size; have := HN.out; omega))); clear hb9)
    | (refine wpList_store_new rfl 30 _ _ rfl w9 (rowM zeroMsg) 30 (rowM x2) rfl rfl rfl (sizeM _) rfl (rowM_one _) ?_; simp only [Act.put, List.setIfInBounds_toArray, List.set_cons_zero, List.set_cons_succ]) | fail)
  refine ((?_ : ∀ x', x' = w9.alloc (.cells (rowM x2) 30) → Code.wp _ _ _ _ x') _ rfl)
  intro wa hwa
  obtain ⟨n2, hn2⟩ : ∃ x, x = w9.heap.size := ⟨_, rfl⟩
  have HPa := Lib.hid (show wa.heap[n2]? = some (.cells (rowM x2) 30 (0, 0)) by rw [hwa, hn2]; exact heap_alloc_new _ _)
  have hba : Below w9.heap.size w9 wa := by rw [hwa]; exact more (Below.refl _ _) _
  rw [← hn2]
  have HCa := Lib.hid ((hba.block _ (Array.getElem?_eq_some_iff.1 HC9.out).1).trans HC9.out)
  have HBa := Lib.hid (HB9.out.trans (hba.mono (by have := HB9.out.size; have := HN.out; omega)))
  clear hwa hn2 hba HC9 HB9 HC8 HB8 HG8
  by_cases h3 : (i : Int) < 3
  · have d3 : decide ((i : Int) < 3) = true := decide_eq_true h3
    obtain ⟨rfl, rfl, rfl⟩ : s2 = 0 ∧ x2 = zeroMsg ∧ e2 = 3 := by have := HE.out; rw [if_pos (.inl h3)] at this; simpa using this
    clear h3
    go_wp2_with (first | (refine wpList_val (by rfl) _ (exec_row _ rfl n2 rfl zeroMsg HPa.out) ?_; simp only [Act.put, List.setIfInBounds_toArray, List.set_cons_zero, List.set_cons_succ]) | (refine wpList_val (by rfl) _ (exec_eqM _ _ rfl zeroMsg rfl rfl) ?_; simp only [Act.put, List.setIfInBounds_toArray, List.set_cons_zero, List.set_cons_succ]) | fail)
    go_ret
    exact ⟨rfl, by rw [← HN.out]; exact HBa.out⟩
  have d3 : decide ((i : Int) < 3) = false := decide_eq_false h3
  by_cases h46 : 46 < (i : Int)
  · have d46 : decide (46 < (i : Int)) = true := decide_eq_true h46
    obtain ⟨rfl, rfl, rfl⟩ : s2 = 0 ∧ x2 = zeroMsg ∧ e2 = 3 := by have := HE.out; rw [if_pos (.inr h46)] at this; simpa using this
    clear h3 h46
    go_wp2_with (first | (refine wpList_val (by rfl) _ (exec_row _ rfl n2 rfl zeroMsg HPa.out) ?_; simp only [Act.put, List.setIfInBounds_toArray, List.set_cons_zero, List.set_cons_succ]) | (refine wpList_val (by rfl) _ (exec_eqM _ _ rfl zeroMsg rfl rfl) ?_; simp only [Act.put, List.setIfInBounds_toArray, List.set_cons_zero, List.set_cons_succ]) | fail)
    go_ret
    exact ⟨rfl, by rw [← HN.out]; exact HBa.out⟩
  have d46 : decide (46 < (i : Int)) = false := decide_eq_false h46
  by_cases h39 : (i : Int) < 39
  · have d39 : decide ((i : Int) < 39) = true := decide_eq_true h39
    obtain ⟨rfl, rfl, rfl⟩ : s2 = 0 ∧ x2 = zeroMsg ∧ e2 = 2 := by have := HE.out; rw [if_neg (by omega), if_pos h39] at this; simpa using this
    clear h3 h46 h39
    go_wp2_with (first | (refine wpList_val (by rfl) _ (exec_row _ rfl n2 rfl zeroMsg HPa.out) ?_; simp only [Act.put, List.setIfInBounds_toArray, List.set_cons_zero, List.set_cons_succ]) | (refine wpList_val (by rfl) _ (exec_eqM _ _ rfl zeroMsg rfl rfl) ?_; simp only [Act.put, List.setIfInBounds_toArray, List.set_cons_zero, List.set_cons_succ]) | fail)
    go_ret
    exact ⟨rfl, by rw [← HN.out]; exact HBa.out⟩
  have d39 : decide ((i : Int) < 39) = false := decide_eq_false h39
  obtain ⟨rfl, rfl, rfl⟩ : s2 = src % 281474976710656 ∧ x2 = pm ∧ e2 = 0 := by have := HE.out; rw [if_neg (by omega), if_neg h39] at this; simpa using this
  clear h3 h46 h39
  go_wp2_with (first | (refine wpList_val (by rfl) _ (exec_row _ rfl n1 rfl x2 HCa.out) ?_; simp only [Act.put, List.setIfInBounds_toArray, List.set_cons_zero, List.set_cons_succ]) | (refine wpList_val (by rfl) _ (exec_row _ rfl n2 rfl x2 HPa.out) ?_; simp only [Act.put, List.setIfInBounds_toArray, List.set_cons_zero, List.set_cons_succ]) | (refine wpList_val (by rfl) _ (exec_eqM _ _ rfl x2 rfl rfl) ?_; simp only [Act.put, List.setIfInBounds_toArray, List.set_cons_zero, List.set_cons_succ]) | fail)
  go_ret
  exact ⟨rfl, by rw [← HN.out]; exact HBa.out⟩
end Go.Proofs.Ytehapoilfmgjgaa.Oct
