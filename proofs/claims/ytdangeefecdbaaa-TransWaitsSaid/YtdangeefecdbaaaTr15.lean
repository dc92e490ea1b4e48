/- Chapter 15: the document's root: the first row of a root port. Conditions: the bridge lies in memory; there aren't very many ports; its times aren't very much. -/
import Derived.Test.YtdangeefecdbaaaTr12
import Derived.Test.YtdangeefecdbaaaTr13
set_option linter.unusedSimpArgs false
set_option linter.unusedVariables false
namespace Go.Proofs.Ytdangeefecdbaaa.Br
open Go.RowKit
theorem agree_order (p : Rec) : (((p.setB 33 false).setB 46 false).setB 22 true).setB 31 true = (agreeF p).setB 46 false := by
  unfold agreeF Rec.setB
  congr 1
  funext j
  by_cases h1 : j = 46 <;> by_cases h2 : j = 31 <;> by_cases h3 : j = 22 <;> by_cases h4 : j = 33 <;> simp_all
set_option maxRecDepth 100000 in
set_option maxHeartbeats 8000000 in
theorem refroot_any (w : World) (bx g k : Nat) (b : Bri) (ps ss : Nat → Rec) (fs : Nat → Int) (p : Rec) (h : Bst w bx g b (upd ps k p) ss fs) (hk : k < b.n) (hn : b.n ≤ 1000) (hR : ∀ j, j < b.n → 0 ≤ (upd ps k p j).i 12 ∧ (upd ps k p j).i 12 ≤ 1000) : Calls Try.prog 23 #[.pointer (some ⟨bx, 0, none⟩), .int .i64 k, .pointer (some ⟨g, k * 89, none⟩), .int .i64 (fwdN b p)] w fun e w' => e = .returned (.bool (firstOn (rootL b k p ps)).isSome) ∧ Bst w' bx g b ((firstOn (rootL b k p ps)).getD (upd ps k p)) ss fs ∧ Only (· = g) w w' := by
  obtain ⟨T, hT0⟩ : ∃ T, T = firstOn (rootL b k p ps) := ⟨_, rfl⟩
  rw [← hT0]
  have HT0 := Lib.hid (show T = (bif p.b 33 && !p.b 22 then some (upd (allB 46 ps) k ((p.setB 46 true).setB 33 false)) else (bif (syncedAll b (upd ps k p) && !p.b 22) || (p.b 33 && p.b 22) then some (upd ps k ((agreeF p).setB 46 false)) else (bif !p.b 26 && !p.b 42 then some (upd (allB 42 ps) k (p.setB 42 true)) else (bif onR b k p ps && !p.b 28 then some (upd ps k ((p.setB 28 true).setI 7 (fwdN b p))) else (bif onR b k p ps && p.b 28 && !p.b 26 then some (upd ps k ((p.setI 7 0).setB 26 true)) else (bif p.b 42 && p.b 26 then some (upd ps k (p.setB 42 false)) else (bif p.i 12 != b.r.i 5 then some (upd ps k (p.setI 12 (b.r.i 5))) else none))))))) from hT0)
  clear hT0
  have H1 := Lib.hid h
  have HRR := Lib.hid hR
  clear h hR
  obtain ⟨qa, hqa⟩ : ∃ x : Bool, x = syncedAll b (upd ps k p) := ⟨_, rfl⟩
  have Hqa := Lib.hid hqa
  clear hqa
  obtain ⟨ql, hql⟩ : ∃ x : Bool, x = aloneB b k (upd ps k p) := ⟨_, rfl⟩
  have Hql := Lib.hid hql
  clear hql
  go_enter Try.func23, Try.ntmps23
  go_wp2_with (first | (refine wpList_load_row rfl 33 _ rfl bx rfl 33 (rowB b) (0, 0) _ H1.out.h Try.underlying33 rfl (sizeBr _) ?_; simp only [Act.put, List.setIfInBounds_toArray, List.set_cons_zero, List.set_cons_succ]) | fail)
  refine (refsynced_any b (upd ps k p) _ H1.out.portsV hn).mono ?_
  rintro e w2 ⟨rfl, hb2⟩
  rw [show (!anyR (fun j => unsynced (upd ps k p j)) b.n) = qa from Hqa.out.symm]
  have H2 := Lib.hid (H1.out.below hb2)
  have HB2 := Lib.hid hb2
  clear hb2
  go_wp2_with (first | (refine wpList_load_row rfl 33 _ rfl bx rfl 33 (rowB b) (0, 0) _ H2.out.h Try.underlying33 rfl (sizeBr _) ?_; simp only [Act.put, List.setIfInBounds_toArray, List.set_cons_zero, List.set_cons_succ]) | fail)
  refine (refrerooted_any b (upd ps k p) k _ H2.out.portsV hn HRR.out).mono ?_
  rintro e w3 ⟨rfl, hb3⟩
  rw [show (!anyR (lately (upd ps k p) k) b.n) = ql from Hql.out.symm]
  have H3 := Lib.hid (H2.out.below hb3)
  have HO3 := Lib.hid (show Only (· = g) w w3 from Only.of_below (HB2.out.trans (hb3.mono HB2.out.size)))
  clear hb3
  have lg := H3.out.p.lt
  have lbx := H3.out.lt
  have nbg : ¬ bx = g := H3.out.ne
  have b5 : w3.cell? ⟨bx, 2 + 3, none⟩ = some (.int .i64 (b.r.i 5)) := cells_of H3.out.h 5
  obtain ⟨fr, hfr⟩ : ∃ x : Bool, x = b.r.b 1 := ⟨_, rfl⟩
  have b1 : w3.cell? ⟨bx, 1, none⟩ = some (.bool fr) := by rw [hfr]; exact cells_of H3.out.h 1
  have Hfr := Lib.hid hfr
  clear hfr
  have c33 : w3.cell? ⟨g, k * 89 + 22 + 11, none⟩ = some (.bool (p.b 33)) := (H3.out.p.cell hk (j := 33) (by omega)).trans (by rw [upd_same]; rfl)
  have c22 : w3.cell? ⟨g, k * 89 + 22, none⟩ = some (.bool (p.b 22)) := (H3.out.p.cell hk (j := 22) (by omega)).trans (by rw [upd_same]; rfl)
  have c7 : w3.cell? ⟨g, k * 89 + 6 + 1, none⟩ = some (.int .i64 (p.i 7)) := (H3.out.p.cell hk (j := 7) (by omega)).trans (by rw [upd_same]; rfl)
  have c10 : w3.cell? ⟨g, k * 89 + 6 + 4, none⟩ = some (.int .i64 (p.i 10)) := (H3.out.p.cell hk (j := 10) (by omega)).trans (by rw [upd_same]; rfl)
  have c26 : w3.cell? ⟨g, k * 89 + 22 + 4, none⟩ = some (.bool (p.b 26)) := (H3.out.p.cell hk (j := 26) (by omega)).trans (by rw [upd_same]; rfl)
  have c42 : w3.cell? ⟨g, k * 89 + 22 + 20, none⟩ = some (.bool (p.b 42)) := (H3.out.p.cell hk (j := 42) (by omega)).trans (by rw [upd_same]; rfl)
  have c28 : w3.cell? ⟨g, k * 89 + 22 + 6, none⟩ = some (.bool (p.b 28)) := (H3.out.p.cell hk (j := 28) (by omega)).trans (by rw [upd_same]; rfl)
  have c12 : w3.cell? ⟨g, k * 89 + 6 + 6, none⟩ = some (.int .i64 (p.i 12)) := (H3.out.p.cell hk (j := 12) (by omega)).trans (by rw [upd_same]; rfl)
  go_upto_region 3 with (fail)
  obtain ⟨qo27, hqo27⟩ : ∃ x : Bool, x = ((p.i 7) == 0) := ⟨_, rfl⟩
  have Hqo27 := Lib.hid hqo27
  clear hqo27
  obtain ⟨qo35, hqo35⟩ : ∃ x : Bool, x = (fr && ql) := ⟨_, rfl⟩
  have Hqo35 := Lib.hid hqo35
  clear hqo35
  obtain ⟨qo42, hqo42⟩ : ∃ x : Bool, x = ((p.i 10) == 0) := ⟨_, rfl⟩
  have Hqo42 := Lib.hid hqo42
  clear hqo42
  obtain ⟨qo43, hqo43⟩ : ∃ x : Bool, x = (qo35 && qo42) := ⟨_, rfl⟩
  have Hqo43 := Lib.hid hqo43
  clear hqo43
  obtain ⟨qo44, hqo44⟩ : ∃ x : Bool, x = (qo27 || qo43) := ⟨_, rfl⟩
  have Hqo44 := Lib.hid hqo44
  clear hqo44
  refine wp_region_lit ?_
  refine wpList_val (by kernel_rfl) (.pointer (some ⟨g, k * 89, none⟩)) (by kernel_rfl) ?_
  simp only [List.getElem_toArray, List.getElem_cons_succ, List.getElem_cons_zero, Act.put, List.setIfInBounds_toArray, List.set_cons_zero, List.set_cons_succ]
  refine wpList_val (by kernel_rfl) (.pointer (some ⟨g, k * 89, none⟩)) (by simp [go_sem, execOp]) ?_
  simp only [List.getElem_toArray, List.getElem_cons_succ, List.getElem_cons_zero, Act.put, List.setIfInBounds_toArray, List.set_cons_zero, List.set_cons_succ]
  refine wpList_val (by kernel_rfl) (.pointer (some ⟨g, k * 89 + 6, none⟩)) (by simp [go_sem, execOp]) ?_
  simp only [List.getElem_toArray, List.getElem_cons_succ, List.getElem_cons_zero, Act.put, List.setIfInBounds_toArray, List.set_cons_zero, List.set_cons_succ]
  refine wpList_val (by kernel_rfl) (.pointer (some ⟨g, k * 89 + 6 + 1, none⟩)) (by simp [go_sem, execOp]) ?_
  simp only [List.getElem_toArray, List.getElem_cons_succ, List.getElem_cons_zero, Act.put, List.setIfInBounds_toArray, List.set_cons_zero, List.set_cons_succ]
  refine wpList_val (by kernel_rfl) (.int .i64 (p.i 7)) (by simp [go_sem, execOp, (show w3.cell? ⟨g, k * 89 + 6 + 1, none⟩ = some (.int .i64 (p.i 7)) from c7)]) ?_
  simp only [List.getElem_toArray, List.getElem_cons_succ, List.getElem_cons_zero, Act.put, List.setIfInBounds_toArray, List.set_cons_zero, List.set_cons_succ]
  refine wpList_val (by kernel_rfl) (.bool qo27) (by rw [Hqo27.out]; simp [go_sem, execOp]) ?_
  simp only [List.getElem_toArray, List.getElem_cons_succ, List.getElem_cons_zero, Act.put, List.setIfInBounds_toArray, List.set_cons_zero, List.set_cons_succ]
  refine wpList_val (by kernel_rfl) (.bool qo27) (by kernel_rfl) ?_
  simp only [List.getElem_toArray, List.getElem_cons_succ, List.getElem_cons_zero, Act.put, List.setIfInBounds_toArray, List.set_cons_zero, List.set_cons_succ]
  refine wpList_bif (c := (!qo27)) (v := .pointer (some ⟨bx, 0, none⟩)) (wanted_f rfl (by kernel_rfl)) (fun hc => by have h0 := notT (hc); simp [go_sem, execOp, h0]) ?_
  simp only [List.getElem_toArray, List.getElem_cons_succ, List.getElem_cons_zero, Act.put, List.setIfInBounds_toArray, List.set_cons_zero, List.set_cons_succ]
  refine wpList_bif (c := (!qo27)) (v := .pointer (some ⟨bx, 0, none⟩)) (wanted_f rfl (by kernel_rfl)) (fun hc => by have h0 := notT (hc); simp [go_sem, execOp, h0]) ?_
  simp only [List.getElem_toArray, List.getElem_cons_succ, List.getElem_cons_zero, Act.put, List.setIfInBounds_toArray, List.set_cons_zero, List.set_cons_succ]
  refine wpList_bif (c := (!qo27)) (v := .pointer (some ⟨bx, 1, none⟩)) (wanted_f rfl (by kernel_rfl)) (fun hc => by have h0 := notT (hc); simp [go_sem, execOp, h0]) ?_
  simp only [List.getElem_toArray, List.getElem_cons_succ, List.getElem_cons_zero, Act.put, List.setIfInBounds_toArray, List.set_cons_zero, List.set_cons_succ]
  refine wpList_bif (c := (!qo27)) (v := .bool fr) (wanted_f rfl (by kernel_rfl)) (fun hc => by have h0 := notT (hc); simp [go_sem, execOp, h0, (show w3.cell? ⟨bx, 1, none⟩ = some (.bool fr) from b1)]) ?_
  simp only [List.getElem_toArray, List.getElem_cons_succ, List.getElem_cons_zero, Act.put, List.setIfInBounds_toArray, List.set_cons_zero, List.set_cons_succ]
  refine wpList_bif (c := (!qo27)) (v := .bool fr) (wanted_f rfl (by kernel_rfl)) (fun hc => by have h0 := notT (hc); simp [go_sem, execOp, h0]) ?_
  simp only [List.getElem_toArray, List.getElem_cons_succ, List.getElem_cons_zero, Act.put, List.setIfInBounds_toArray, List.set_cons_zero, List.set_cons_succ]
  refine wpList_bif (c := ((!qo27) && fr)) (v := .bool ql) (wanted_ct rfl (yielded_bif (by kernel_rfl))) (fun hc => by have h1 := andR hc; have hc1 := andL hc; have h0 := notT (hc1); simp [go_sem, execOp, h1, h0]) ?_
  simp only [List.getElem_toArray, List.getElem_cons_succ, List.getElem_cons_zero, Act.put, List.setIfInBounds_toArray, List.set_cons_zero, List.set_cons_succ]
  refine wpList_bif (c := (!qo27)) (v := .bool qo35) (wanted_f rfl (by kernel_rfl)) (fun hc => by have h0 := notT (hc); rw [Hqo35.out]; cases hA : fr <;> simp [go_sem, execOp, hA, h0]) ?_
  simp only [List.getElem_toArray, List.getElem_cons_succ, List.getElem_cons_zero, Act.put, List.setIfInBounds_toArray, List.set_cons_zero, List.set_cons_succ]
  refine wpList_bif (c := (!qo27)) (v := .bool qo35) (wanted_f rfl (by kernel_rfl)) (fun hc => by have h0 := notT (hc); simp [go_sem, execOp, h0]) ?_
  simp only [List.getElem_toArray, List.getElem_cons_succ, List.getElem_cons_zero, Act.put, List.setIfInBounds_toArray, List.set_cons_zero, List.set_cons_succ]
  refine wpList_bif (c := ((!qo27) && qo35)) (v := .pointer (some ⟨g, k * 89, none⟩)) (wanted_ct rfl (yielded_bif (by kernel_rfl))) (fun hc => by have h1 := andR hc; have hc1 := andL hc; have h0 := notT (hc1); simp [go_sem, execOp, h1, h0]) ?_
  simp only [List.getElem_toArray, List.getElem_cons_succ, List.getElem_cons_zero, Act.put, List.setIfInBounds_toArray, List.set_cons_zero, List.set_cons_succ]
  refine wpList_bif (c := ((!qo27) && qo35)) (v := .pointer (some ⟨g, k * 89, none⟩)) (wanted_ct rfl (yielded_bif (by kernel_rfl))) (fun hc => by have h1 := andR hc; have hc1 := andL hc; have h0 := notT (hc1); simp [go_sem, execOp, h1, h0]) ?_
  simp only [List.getElem_toArray, List.getElem_cons_succ, List.getElem_cons_zero, Act.put, List.setIfInBounds_toArray, List.set_cons_zero, List.set_cons_succ]
  refine wpList_bif (c := ((!qo27) && qo35)) (v := .pointer (some ⟨g, k * 89 + 6, none⟩)) (wanted_ct rfl (yielded_bif (by kernel_rfl))) (fun hc => by have h1 := andR hc; have hc1 := andL hc; have h0 := notT (hc1); simp [go_sem, execOp, h1, h0]) ?_
  simp only [List.getElem_toArray, List.getElem_cons_succ, List.getElem_cons_zero, Act.put, List.setIfInBounds_toArray, List.set_cons_zero, List.set_cons_succ]
  refine wpList_bif (c := ((!qo27) && qo35)) (v := .pointer (some ⟨g, k * 89 + 6 + 4, none⟩)) (wanted_ct rfl (yielded_bif (by kernel_rfl))) (fun hc => by have h1 := andR hc; have hc1 := andL hc; have h0 := notT (hc1); simp [go_sem, execOp, h1, h0]) ?_
  simp only [List.getElem_toArray, List.getElem_cons_succ, List.getElem_cons_zero, Act.put, List.setIfInBounds_toArray, List.set_cons_zero, List.set_cons_succ]
  refine wpList_bif (c := ((!qo27) && qo35)) (v := .int .i64 (p.i 10)) (wanted_ct rfl (yielded_bif (by kernel_rfl))) (fun hc => by have h1 := andR hc; have hc1 := andL hc; have h0 := notT (hc1); simp [go_sem, execOp, h1, h0, (show w3.cell? ⟨g, k * 89 + 6 + 4, none⟩ = some (.int .i64 (p.i 10)) from c10)]) ?_
  simp only [List.getElem_toArray, List.getElem_cons_succ, List.getElem_cons_zero, Act.put, List.setIfInBounds_toArray, List.set_cons_zero, List.set_cons_succ]
  refine wpList_bif (c := ((!qo27) && qo35)) (v := .bool qo42) (wanted_ct rfl (yielded_bif (by kernel_rfl))) (fun hc => by have h1 := andR hc; have hc1 := andL hc; have h0 := notT (hc1); rw [Hqo42.out]; simp [go_sem, execOp, h1, h0]) ?_
  simp only [List.getElem_toArray, List.getElem_cons_succ, List.getElem_cons_zero, Act.put, List.setIfInBounds_toArray, List.set_cons_zero, List.set_cons_succ]
  refine wpList_bif (c := (!qo27)) (v := .bool qo43) (wanted_f rfl (by kernel_rfl)) (fun hc => by have h0 := notT (hc); rw [Hqo43.out]; cases hA : qo35 <;> simp [go_sem, execOp, hA, h0]) ?_
  simp only [List.getElem_toArray, List.getElem_cons_succ, List.getElem_cons_zero, Act.put, List.setIfInBounds_toArray, List.set_cons_zero, List.set_cons_succ]
  refine wpList_val (by kernel_rfl) (.bool qo44) (by rw [Hqo44.out]; cases hA : qo27 <;> simp [go_sem, execOp, hA]) ?_
  simp only [List.getElem_toArray, List.getElem_cons_succ, List.getElem_cons_zero, Act.put, List.setIfInBounds_toArray, List.set_cons_zero, List.set_cons_succ]
  refine wpList_val (by kernel_rfl) (.bool qo44) (by kernel_rfl) ?_
  simp only [List.getElem_toArray, List.getElem_cons_succ, List.getElem_cons_zero, Act.put, List.setIfInBounds_toArray, List.set_cons_zero, List.set_cons_succ]
  refine wpList_nil ?_
  have Hon := Lib.hid (show qo44 = onR b k p ps by rw [Hqo44.out, Hqo43.out, Hqo42.out, Hqo35.out, Hqo27.out, Hql.out, Hfr.out]; rfl)
  go_upto_region 5 with (fail)
  obtain ⟨qa57, hqa57⟩ : ∃ x : Bool, x = (!(p.b 22)) := ⟨_, rfl⟩
  have Hqa57 := Lib.hid hqa57
  clear hqa57
  obtain ⟨qa58, hqa58⟩ : ∃ x : Bool, x = ((p.b 33) && qa57) := ⟨_, rfl⟩
  have Hqa58 := Lib.hid hqa58
  clear hqa58
  refine wp_region_lit ?_
  refine wpList_val (by kernel_rfl) (.pointer (some ⟨g, k * 89, none⟩)) (by kernel_rfl) ?_
  simp only [List.getElem_toArray, List.getElem_cons_succ, List.getElem_cons_zero, Act.put, List.setIfInBounds_toArray, List.set_cons_zero, List.set_cons_succ]
  refine wpList_val (by kernel_rfl) (.pointer (some ⟨g, k * 89, none⟩)) (by simp [go_sem, execOp]) ?_
  simp only [List.getElem_toArray, List.getElem_cons_succ, List.getElem_cons_zero, Act.put, List.setIfInBounds_toArray, List.set_cons_zero, List.set_cons_succ]
  refine wpList_val (by kernel_rfl) (.pointer (some ⟨g, k * 89 + 22, none⟩)) (by simp [go_sem, execOp]) ?_
  simp only [List.getElem_toArray, List.getElem_cons_succ, List.getElem_cons_zero, Act.put, List.setIfInBounds_toArray, List.set_cons_zero, List.set_cons_succ]
  refine wpList_val (by kernel_rfl) (.pointer (some ⟨g, k * 89 + 22 + 11, none⟩)) (by simp [go_sem, execOp]) ?_
  simp only [List.getElem_toArray, List.getElem_cons_succ, List.getElem_cons_zero, Act.put, List.setIfInBounds_toArray, List.set_cons_zero, List.set_cons_succ]
  refine wpList_val (by kernel_rfl) (.bool (p.b 33)) (by simp [go_sem, execOp, (show w3.cell? ⟨g, k * 89 + 22 + 11, none⟩ = some (.bool (p.b 33)) from c33)]) ?_
  simp only [List.getElem_toArray, List.getElem_cons_succ, List.getElem_cons_zero, Act.put, List.setIfInBounds_toArray, List.set_cons_zero, List.set_cons_succ]
  refine wpList_val (by kernel_rfl) (.bool (p.b 33)) (by kernel_rfl) ?_
  simp only [List.getElem_toArray, List.getElem_cons_succ, List.getElem_cons_zero, Act.put, List.setIfInBounds_toArray, List.set_cons_zero, List.set_cons_succ]
  refine wpList_bif (c := (p.b 33)) (v := .pointer (some ⟨g, k * 89, none⟩)) (wanted_t rfl (by kernel_rfl)) (fun hc => by have h0 := hc; simp [go_sem, execOp, h0]) ?_
  simp only [List.getElem_toArray, List.getElem_cons_succ, List.getElem_cons_zero, Act.put, List.setIfInBounds_toArray, List.set_cons_zero, List.set_cons_succ]
  refine wpList_bif (c := (p.b 33)) (v := .pointer (some ⟨g, k * 89, none⟩)) (wanted_t rfl (by kernel_rfl)) (fun hc => by have h0 := hc; simp [go_sem, execOp, h0]) ?_
  simp only [List.getElem_toArray, List.getElem_cons_succ, List.getElem_cons_zero, Act.put, List.setIfInBounds_toArray, List.set_cons_zero, List.set_cons_succ]
  refine wpList_bif (c := (p.b 33)) (v := .pointer (some ⟨g, k * 89 + 22, none⟩)) (wanted_t rfl (by kernel_rfl)) (fun hc => by have h0 := hc; simp [go_sem, execOp, h0]) ?_
  simp only [List.getElem_toArray, List.getElem_cons_succ, List.getElem_cons_zero, Act.put, List.setIfInBounds_toArray, List.set_cons_zero, List.set_cons_succ]
  refine wpList_bif (c := (p.b 33)) (v := .pointer (some ⟨g, k * 89 + 22, none⟩)) (wanted_t rfl (by kernel_rfl)) (fun hc => by have h0 := hc; simp [go_sem, execOp, h0]) ?_
  simp only [List.getElem_toArray, List.getElem_cons_succ, List.getElem_cons_zero, Act.put, List.setIfInBounds_toArray, List.set_cons_zero, List.set_cons_succ]
  refine wpList_bif (c := (p.b 33)) (v := .bool (p.b 22)) (wanted_t rfl (by kernel_rfl)) (fun hc => by have h0 := hc; simp [go_sem, execOp, h0, (show w3.cell? ⟨g, k * 89 + 22, none⟩ = some (.bool (p.b 22)) from c22)]) ?_
  simp only [List.getElem_toArray, List.getElem_cons_succ, List.getElem_cons_zero, Act.put, List.setIfInBounds_toArray, List.set_cons_zero, List.set_cons_succ]
  refine wpList_bif (c := (p.b 33)) (v := .bool qa57) (wanted_t rfl (by kernel_rfl)) (fun hc => by have h0 := hc; rw [Hqa57.out]; simp [go_sem, execOp, h0]) ?_
  simp only [List.getElem_toArray, List.getElem_cons_succ, List.getElem_cons_zero, Act.put, List.setIfInBounds_toArray, List.set_cons_zero, List.set_cons_succ]
  refine wpList_val (by kernel_rfl) (.bool qa58) (by rw [Hqa58.out]; cases hA : (p.b 33) <;> simp [go_sem, execOp, hA]) ?_
  simp only [List.getElem_toArray, List.getElem_cons_succ, List.getElem_cons_zero, Act.put, List.setIfInBounds_toArray, List.set_cons_zero, List.set_cons_succ]
  refine wpList_val (by kernel_rfl) (.bool qa58) (by kernel_rfl) ?_
  simp only [List.getElem_toArray, List.getElem_cons_succ, List.getElem_cons_zero, Act.put, List.setIfInBounds_toArray, List.set_cons_zero, List.set_cons_succ]
  refine wpList_nil ?_
  have hc0 : qa58 = (p.b 33 && !p.b 22) := by rw [Hqa58.out, Hqa57.out]
  have Hc0 := Lib.hid hc0
  clear hc0
  cases hv0 : qa58
  case true =>
    have HR := Lib.hid (show T = some (upd (allB 46 ps) k ((p.setB 46 true).setB 33 false)) by rw [HT0.out, ← Hc0.out, hv0]; rfl)
    go_upto_region 6 with (fail)
    go_wp2_with fail
    refine (refsync_any w3 bx g k b ps ss fs p H3.out hk hn).mono ?_
    rintro e w4 ⟨rfl, hb4, ho4⟩
    have H4 := Lib.hid hb4
    have HO4 := Lib.hid (HO3.out.trans ho4)
    clear hb4 ho4
    have c33 : w4.cell? ⟨g, k * 89 + 22 + 11, none⟩ = some (.bool ((p.setB 46 true).b 33)) := (H4.out.p.cell hk (j := 33) (by omega)).trans (by rw [upd_same]; rfl)
    have f33 : w4.frozen? ⟨g, k * 89 + 22 + 11, none⟩ = false := H4.out.p.free _
    go_wp2_with fail
    go_ret
    have HB := Lib.hid (show Bst (w4.setCell ⟨g, k * 89 + 22 + 11, none⟩ (.bool false)) bx g b (upd (allB 46 ps) k ((p.setB 46 true).setB 33 false)) ss fs from (H4.out).put (j := 33) (by omega) (rowP_put_33 _ _))
    rw [HR.out]
    exact ⟨rfl, HB.out, (HO4.out).setCell (Or.inl rfl) _⟩
  case false =>
    have HT1 := Lib.hid (show T = (bif (syncedAll b (upd ps k p) && !p.b 22) || (p.b 33 && p.b 22) then some (upd ps k ((agreeF p).setB 46 false)) else (bif !p.b 26 && !p.b 42 then some (upd (allB 42 ps) k (p.setB 42 true)) else (bif onR b k p ps && !p.b 28 then some (upd ps k ((p.setB 28 true).setI 7 (fwdN b p))) else (bif onR b k p ps && p.b 28 && !p.b 26 then some (upd ps k ((p.setI 7 0).setB 26 true)) else (bif p.b 42 && p.b 26 then some (upd ps k (p.setB 42 false)) else (bif p.i 12 != b.r.i 5 then some (upd ps k (p.setI 12 (b.r.i 5))) else none)))))) by rw [HT0.out, ← Hc0.out, hv0]; rfl)
    go_upto_region 8 with (fail)
    obtain ⟨qb73, hqb73⟩ : ∃ x : Bool, x = (!(p.b 22)) := ⟨_, rfl⟩
    have Hqb73 := Lib.hid hqb73
    clear hqb73
    obtain ⟨qb74, hqb74⟩ : ∃ x : Bool, x = (qa && qb73) := ⟨_, rfl⟩
    have Hqb74 := Lib.hid hqb74
    clear hqb74
    obtain ⟨qb87, hqb87⟩ : ∃ x : Bool, x = ((p.b 33) && (p.b 22)) := ⟨_, rfl⟩
    have Hqb87 := Lib.hid hqb87
    clear hqb87
    obtain ⟨qb88, hqb88⟩ : ∃ x : Bool, x = (qb74 || qb87) := ⟨_, rfl⟩
    have Hqb88 := Lib.hid hqb88
    clear hqb88
    refine wp_region_lit ?_
    refine wpList_val (by kernel_rfl) (.bool qa) (by kernel_rfl) ?_
    simp only [List.getElem_toArray, List.getElem_cons_succ, List.getElem_cons_zero, Act.put, List.setIfInBounds_toArray, List.set_cons_zero, List.set_cons_succ]
    refine wpList_val (by kernel_rfl) (.bool qa) (by kernel_rfl) ?_
    simp only [List.getElem_toArray, List.getElem_cons_succ, List.getElem_cons_zero, Act.put, List.setIfInBounds_toArray, List.set_cons_zero, List.set_cons_succ]
    refine wpList_bif (c := qa) (v := .pointer (some ⟨g, k * 89, none⟩)) (wanted_t rfl (by kernel_rfl)) (fun hc => by have h0 := hc; simp [go_sem, execOp, h0]) ?_
    simp only [List.getElem_toArray, List.getElem_cons_succ, List.getElem_cons_zero, Act.put, List.setIfInBounds_toArray, List.set_cons_zero, List.set_cons_succ]
    refine wpList_bif (c := qa) (v := .pointer (some ⟨g, k * 89, none⟩)) (wanted_t rfl (by kernel_rfl)) (fun hc => by have h0 := hc; simp [go_sem, execOp, h0]) ?_
    simp only [List.getElem_toArray, List.getElem_cons_succ, List.getElem_cons_zero, Act.put, List.setIfInBounds_toArray, List.set_cons_zero, List.set_cons_succ]
    refine wpList_bif (c := qa) (v := .pointer (some ⟨g, k * 89 + 22, none⟩)) (wanted_t rfl (by kernel_rfl)) (fun hc => by have h0 := hc; simp [go_sem, execOp, h0]) ?_
    simp only [List.getElem_toArray, List.getElem_cons_succ, List.getElem_cons_zero, Act.put, List.setIfInBounds_toArray, List.set_cons_zero, List.set_cons_succ]
    refine wpList_bif (c := qa) (v := .pointer (some ⟨g, k * 89 + 22, none⟩)) (wanted_t rfl (by kernel_rfl)) (fun hc => by have h0 := hc; simp [go_sem, execOp, h0]) ?_
    simp only [List.getElem_toArray, List.getElem_cons_succ, List.getElem_cons_zero, Act.put, List.setIfInBounds_toArray, List.set_cons_zero, List.set_cons_succ]
    refine wpList_bif (c := qa) (v := .bool (p.b 22)) (wanted_t rfl (by kernel_rfl)) (fun hc => by have h0 := hc; simp [go_sem, execOp, h0, (show w3.cell? ⟨g, k * 89 + 22, none⟩ = some (.bool (p.b 22)) from c22)]) ?_
    simp only [List.getElem_toArray, List.getElem_cons_succ, List.getElem_cons_zero, Act.put, List.setIfInBounds_toArray, List.set_cons_zero, List.set_cons_succ]
    refine wpList_bif (c := qa) (v := .bool qb73) (wanted_t rfl (by kernel_rfl)) (fun hc => by have h0 := hc; rw [Hqb73.out]; simp [go_sem, execOp, h0]) ?_
    simp only [List.getElem_toArray, List.getElem_cons_succ, List.getElem_cons_zero, Act.put, List.setIfInBounds_toArray, List.set_cons_zero, List.set_cons_succ]
    refine wpList_val (by kernel_rfl) (.bool qb74) (by rw [Hqb74.out]; cases hA : qa <;> simp [go_sem, execOp, hA]) ?_
    simp only [List.getElem_toArray, List.getElem_cons_succ, List.getElem_cons_zero, Act.put, List.setIfInBounds_toArray, List.set_cons_zero, List.set_cons_succ]
    refine wpList_val (by kernel_rfl) (.bool qb74) (by kernel_rfl) ?_
    simp only [List.getElem_toArray, List.getElem_cons_succ, List.getElem_cons_zero, Act.put, List.setIfInBounds_toArray, List.set_cons_zero, List.set_cons_succ]
    refine wpList_bif (c := (!qb74)) (v := .pointer (some ⟨g, k * 89, none⟩)) (wanted_f rfl (by kernel_rfl)) (fun hc => by have h0 := notT (hc); simp [go_sem, execOp, h0]) ?_
    simp only [List.getElem_toArray, List.getElem_cons_succ, List.getElem_cons_zero, Act.put, List.setIfInBounds_toArray, List.set_cons_zero, List.set_cons_succ]
    refine wpList_bif (c := (!qb74)) (v := .pointer (some ⟨g, k * 89, none⟩)) (wanted_f rfl (by kernel_rfl)) (fun hc => by have h0 := notT (hc); simp [go_sem, execOp, h0]) ?_
    simp only [List.getElem_toArray, List.getElem_cons_succ, List.getElem_cons_zero, Act.put, List.setIfInBounds_toArray, List.set_cons_zero, List.set_cons_succ]
    refine wpList_bif (c := (!qb74)) (v := .pointer (some ⟨g, k * 89 + 22, none⟩)) (wanted_f rfl (by kernel_rfl)) (fun hc => by have h0 := notT (hc); simp [go_sem, execOp, h0]) ?_
    simp only [List.getElem_toArray, List.getElem_cons_succ, List.getElem_cons_zero, Act.put, List.setIfInBounds_toArray, List.set_cons_zero, List.set_cons_succ]
    refine wpList_bif (c := (!qb74)) (v := .pointer (some ⟨g, k * 89 + 22 + 11, none⟩)) (wanted_f rfl (by kernel_rfl)) (fun hc => by have h0 := notT (hc); simp [go_sem, execOp, h0]) ?_
    simp only [List.getElem_toArray, List.getElem_cons_succ, List.getElem_cons_zero, Act.put, List.setIfInBounds_toArray, List.set_cons_zero, List.set_cons_succ]
    refine wpList_bif (c := (!qb74)) (v := .bool (p.b 33)) (wanted_f rfl (by kernel_rfl)) (fun hc => by have h0 := notT (hc); simp [go_sem, execOp, h0, (show w3.cell? ⟨g, k * 89 + 22 + 11, none⟩ = some (.bool (p.b 33)) from c33)]) ?_
    simp only [List.getElem_toArray, List.getElem_cons_succ, List.getElem_cons_zero, Act.put, List.setIfInBounds_toArray, List.set_cons_zero, List.set_cons_succ]
    refine wpList_bif (c := (!qb74)) (v := .bool (p.b 33)) (wanted_f rfl (by kernel_rfl)) (fun hc => by have h0 := notT (hc); simp [go_sem, execOp, h0]) ?_
    simp only [List.getElem_toArray, List.getElem_cons_succ, List.getElem_cons_zero, Act.put, List.setIfInBounds_toArray, List.set_cons_zero, List.set_cons_succ]
    refine wpList_bif (c := ((!qb74) && (p.b 33))) (v := .pointer (some ⟨g, k * 89, none⟩)) (wanted_ct rfl (yielded_bif (by kernel_rfl))) (fun hc => by have h1 := andR hc; have hc1 := andL hc; have h0 := notT (hc1); simp [go_sem, execOp, h1, h0]) ?_
    simp only [List.getElem_toArray, List.getElem_cons_succ, List.getElem_cons_zero, Act.put, List.setIfInBounds_toArray, List.set_cons_zero, List.set_cons_succ]
    refine wpList_bif (c := ((!qb74) && (p.b 33))) (v := .pointer (some ⟨g, k * 89, none⟩)) (wanted_ct rfl (yielded_bif (by kernel_rfl))) (fun hc => by have h1 := andR hc; have hc1 := andL hc; have h0 := notT (hc1); simp [go_sem, execOp, h1, h0]) ?_
    simp only [List.getElem_toArray, List.getElem_cons_succ, List.getElem_cons_zero, Act.put, List.setIfInBounds_toArray, List.set_cons_zero, List.set_cons_succ]
    refine wpList_bif (c := ((!qb74) && (p.b 33))) (v := .pointer (some ⟨g, k * 89 + 22, none⟩)) (wanted_ct rfl (yielded_bif (by kernel_rfl))) (fun hc => by have h1 := andR hc; have hc1 := andL hc; have h0 := notT (hc1); simp [go_sem, execOp, h1, h0]) ?_
    simp only [List.getElem_toArray, List.getElem_cons_succ, List.getElem_cons_zero, Act.put, List.setIfInBounds_toArray, List.set_cons_zero, List.set_cons_succ]
    refine wpList_bif (c := ((!qb74) && (p.b 33))) (v := .pointer (some ⟨g, k * 89 + 22, none⟩)) (wanted_ct rfl (yielded_bif (by kernel_rfl))) (fun hc => by have h1 := andR hc; have hc1 := andL hc; have h0 := notT (hc1); simp [go_sem, execOp, h1, h0]) ?_
    simp only [List.getElem_toArray, List.getElem_cons_succ, List.getElem_cons_zero, Act.put, List.setIfInBounds_toArray, List.set_cons_zero, List.set_cons_succ]
    refine wpList_bif (c := ((!qb74) && (p.b 33))) (v := .bool (p.b 22)) (wanted_ct rfl (yielded_bif (by kernel_rfl))) (fun hc => by have h1 := andR hc; have hc1 := andL hc; have h0 := notT (hc1); simp [go_sem, execOp, h1, h0, (show w3.cell? ⟨g, k * 89 + 22, none⟩ = some (.bool (p.b 22)) from c22)]) ?_
    simp only [List.getElem_toArray, List.getElem_cons_succ, List.getElem_cons_zero, Act.put, List.setIfInBounds_toArray, List.set_cons_zero, List.set_cons_succ]
    refine wpList_bif (c := (!qb74)) (v := .bool qb87) (wanted_f rfl (by kernel_rfl)) (fun hc => by have h0 := notT (hc); rw [Hqb87.out]; cases hA : (p.b 33) <;> simp [go_sem, execOp, hA, h0]) ?_
    simp only [List.getElem_toArray, List.getElem_cons_succ, List.getElem_cons_zero, Act.put, List.setIfInBounds_toArray, List.set_cons_zero, List.set_cons_succ]
    refine wpList_val (by kernel_rfl) (.bool qb88) (by rw [Hqb88.out]; cases hA : qb74 <;> simp [go_sem, execOp, hA]) ?_
    simp only [List.getElem_toArray, List.getElem_cons_succ, List.getElem_cons_zero, Act.put, List.setIfInBounds_toArray, List.set_cons_zero, List.set_cons_succ]
    refine wpList_val (by kernel_rfl) (.bool qb88) (by kernel_rfl) ?_
    simp only [List.getElem_toArray, List.getElem_cons_succ, List.getElem_cons_zero, Act.put, List.setIfInBounds_toArray, List.set_cons_zero, List.set_cons_succ]
    refine wpList_nil ?_
    have hc1 : qb88 = ((syncedAll b (upd ps k p) && !p.b 22) || (p.b 33 && p.b 22)) := by rw [Hqb88.out, Hqb87.out, Hqb74.out, Hqb73.out, Hqa.out]
    have Hc1 := Lib.hid hc1
    clear hc1
    cases hv1 : qb88
    case true =>
      have HR := Lib.hid (show T = some (upd ps k ((agreeF p).setB 46 false)) by rw [HT1.out, ← Hc1.out, hv1]; rfl)
      have c46 : w3.cell? ⟨g, k * 89 + 22 + 24, none⟩ = some (.bool (p.b 46)) := (H3.out.p.cell hk (j := 46) (by omega)).trans (by rw [upd_same]; rfl)
      have c31 : w3.cell? ⟨g, k * 89 + 22 + 9, none⟩ = some (.bool (p.b 31)) := (H3.out.p.cell hk (j := 31) (by omega)).trans (by rw [upd_same]; rfl)
      have f33 : w3.frozen? ⟨g, k * 89 + 22 + 11, none⟩ = false := H3.out.p.free _
      have f46 : w3.frozen? ⟨g, k * 89 + 22 + 24, none⟩ = false := H3.out.p.free _
      have f22 : w3.frozen? ⟨g, k * 89 + 22, none⟩ = false := H3.out.p.free _
      have f31 : w3.frozen? ⟨g, k * 89 + 22 + 9, none⟩ = false := H3.out.p.free _
      go_wp2_with fail
      go_ret
      have HB := Lib.hid (show Bst ((((w3.setCell ⟨g, k * 89 + 22 + 11, none⟩ (.bool false)).setCell ⟨g, k * 89 + 22 + 24, none⟩ (.bool false)).setCell ⟨g, k * 89 + 22, none⟩ (.bool true)).setCell ⟨g, k * 89 + 22 + 9, none⟩ (.bool true)) bx g b (upd ps k ((((p.setB 33 false).setB 46 false).setB 22 true).setB 31 true)) ss fs from ((((H3.out).put (j := 33) (by omega) (rowP_put_33 _ _)).put (j := 46) (by omega) (rowP_put_46 _ _)).put (j := 22) (by omega) (rowP_put_22 _ _)).put (j := 31) (by omega) (rowP_put_31 _ _))
      rw [HR.out, ← agree_order]
      exact ⟨rfl, HB.out, ((((HO3.out).setCell (Or.inl rfl) _).setCell (Or.inl rfl) _).setCell (Or.inl rfl) _).setCell (Or.inl rfl) _⟩
    case false =>
      have HT2 := Lib.hid (show T = (bif !p.b 26 && !p.b 42 then some (upd (allB 42 ps) k (p.setB 42 true)) else (bif onR b k p ps && !p.b 28 then some (upd ps k ((p.setB 28 true).setI 7 (fwdN b p))) else (bif onR b k p ps && p.b 28 && !p.b 26 then some (upd ps k ((p.setI 7 0).setB 26 true)) else (bif p.b 42 && p.b 26 then some (upd ps k (p.setB 42 false)) else (bif p.i 12 != b.r.i 5 then some (upd ps k (p.setI 12 (b.r.i 5))) else none))))) by rw [HT1.out, ← Hc1.out, hv1]; rfl)
      go_upto_region 13 with (fail)
      obtain ⟨qc111, hqc111⟩ : ∃ x : Bool, x = (!(p.b 26)) := ⟨_, rfl⟩
      have Hqc111 := Lib.hid hqc111
      clear hqc111
      obtain ⟨qc118, hqc118⟩ : ∃ x : Bool, x = (!(p.b 42)) := ⟨_, rfl⟩
      have Hqc118 := Lib.hid hqc118
      clear hqc118
      obtain ⟨qc119, hqc119⟩ : ∃ x : Bool, x = (qc111 && qc118) := ⟨_, rfl⟩
      have Hqc119 := Lib.hid hqc119
      clear hqc119
      refine wp_region_lit ?_
      refine wpList_val (by kernel_rfl) (.pointer (some ⟨g, k * 89, none⟩)) (by kernel_rfl) ?_
      simp only [List.getElem_toArray, List.getElem_cons_succ, List.getElem_cons_zero, Act.put, List.setIfInBounds_toArray, List.set_cons_zero, List.set_cons_succ]
      refine wpList_val (by kernel_rfl) (.pointer (some ⟨g, k * 89, none⟩)) (by simp [go_sem, execOp]) ?_
      simp only [List.getElem_toArray, List.getElem_cons_succ, List.getElem_cons_zero, Act.put, List.setIfInBounds_toArray, List.set_cons_zero, List.set_cons_succ]
      refine wpList_val (by kernel_rfl) (.pointer (some ⟨g, k * 89 + 22, none⟩)) (by simp [go_sem, execOp]) ?_
      simp only [List.getElem_toArray, List.getElem_cons_succ, List.getElem_cons_zero, Act.put, List.setIfInBounds_toArray, List.set_cons_zero, List.set_cons_succ]
      refine wpList_val (by kernel_rfl) (.pointer (some ⟨g, k * 89 + 22 + 4, none⟩)) (by simp [go_sem, execOp]) ?_
      simp only [List.getElem_toArray, List.getElem_cons_succ, List.getElem_cons_zero, Act.put, List.setIfInBounds_toArray, List.set_cons_zero, List.set_cons_succ]
      refine wpList_val (by kernel_rfl) (.bool (p.b 26)) (by simp [go_sem, execOp, (show w3.cell? ⟨g, k * 89 + 22 + 4, none⟩ = some (.bool (p.b 26)) from c26)]) ?_
      simp only [List.getElem_toArray, List.getElem_cons_succ, List.getElem_cons_zero, Act.put, List.setIfInBounds_toArray, List.set_cons_zero, List.set_cons_succ]
      refine wpList_val (by kernel_rfl) (.bool qc111) (by rw [Hqc111.out]; simp [go_sem, execOp]) ?_
      simp only [List.getElem_toArray, List.getElem_cons_succ, List.getElem_cons_zero, Act.put, List.setIfInBounds_toArray, List.set_cons_zero, List.set_cons_succ]
      refine wpList_val (by kernel_rfl) (.bool qc111) (by kernel_rfl) ?_
      simp only [List.getElem_toArray, List.getElem_cons_succ, List.getElem_cons_zero, Act.put, List.setIfInBounds_toArray, List.set_cons_zero, List.set_cons_succ]
      refine wpList_bif (c := qc111) (v := .pointer (some ⟨g, k * 89, none⟩)) (wanted_t rfl (by kernel_rfl)) (fun hc => by have h0 := hc; simp [go_sem, execOp, h0]) ?_
      simp only [List.getElem_toArray, List.getElem_cons_succ, List.getElem_cons_zero, Act.put, List.setIfInBounds_toArray, List.set_cons_zero, List.set_cons_succ]
      refine wpList_bif (c := qc111) (v := .pointer (some ⟨g, k * 89, none⟩)) (wanted_t rfl (by kernel_rfl)) (fun hc => by have h0 := hc; simp [go_sem, execOp, h0]) ?_
      simp only [List.getElem_toArray, List.getElem_cons_succ, List.getElem_cons_zero, Act.put, List.setIfInBounds_toArray, List.set_cons_zero, List.set_cons_succ]
      refine wpList_bif (c := qc111) (v := .pointer (some ⟨g, k * 89 + 22, none⟩)) (wanted_t rfl (by kernel_rfl)) (fun hc => by have h0 := hc; simp [go_sem, execOp, h0]) ?_
      simp only [List.getElem_toArray, List.getElem_cons_succ, List.getElem_cons_zero, Act.put, List.setIfInBounds_toArray, List.set_cons_zero, List.set_cons_succ]
      refine wpList_bif (c := qc111) (v := .pointer (some ⟨g, k * 89 + 22 + 20, none⟩)) (wanted_t rfl (by kernel_rfl)) (fun hc => by have h0 := hc; simp [go_sem, execOp, h0]) ?_
      simp only [List.getElem_toArray, List.getElem_cons_succ, List.getElem_cons_zero, Act.put, List.setIfInBounds_toArray, List.set_cons_zero, List.set_cons_succ]
      refine wpList_bif (c := qc111) (v := .bool (p.b 42)) (wanted_t rfl (by kernel_rfl)) (fun hc => by have h0 := hc; simp [go_sem, execOp, h0, (show w3.cell? ⟨g, k * 89 + 22 + 20, none⟩ = some (.bool (p.b 42)) from c42)]) ?_
      simp only [List.getElem_toArray, List.getElem_cons_succ, List.getElem_cons_zero, Act.put, List.setIfInBounds_toArray, List.set_cons_zero, List.set_cons_succ]
      refine wpList_bif (c := qc111) (v := .bool qc118) (wanted_t rfl (by kernel_rfl)) (fun hc => by have h0 := hc; rw [Hqc118.out]; simp [go_sem, execOp, h0]) ?_
      simp only [List.getElem_toArray, List.getElem_cons_succ, List.getElem_cons_zero, Act.put, List.setIfInBounds_toArray, List.set_cons_zero, List.set_cons_succ]
      refine wpList_val (by kernel_rfl) (.bool qc119) (by rw [Hqc119.out]; cases hA : qc111 <;> simp [go_sem, execOp, hA]) ?_
      simp only [List.getElem_toArray, List.getElem_cons_succ, List.getElem_cons_zero, Act.put, List.setIfInBounds_toArray, List.set_cons_zero, List.set_cons_succ]
      refine wpList_val (by kernel_rfl) (.bool qc119) (by kernel_rfl) ?_
      simp only [List.getElem_toArray, List.getElem_cons_succ, List.getElem_cons_zero, Act.put, List.setIfInBounds_toArray, List.set_cons_zero, List.set_cons_succ]
      refine wpList_nil ?_
      have hc2 : qc119 = (!p.b 26 && !p.b 42) := by rw [Hqc119.out, Hqc118.out, Hqc111.out]
      have Hc2 := Lib.hid hc2
      clear hc2
      cases hv2 : qc119
      case true =>
        have HR := Lib.hid (show T = some (upd (allB 42 ps) k (p.setB 42 true)) by rw [HT2.out, ← Hc2.out, hv2]; rfl)
        have hB0 := Lib.hid (Bst.cong (qs := allM 42 0 (upd ps k p)) (fun j _ => allM_0 42 (upd ps k p) j) H3.out)
        have b17 : w3.cell? ⟨bx, 17, none⟩ = some (.slice (some ⟨g, 0, none⟩) b.n b.cp) := H3.out.c17
        go_wp2_with fail
        clear b17
        go_loopw [12] (fun i wr => ∃ m : Nat, m ≤ b.n ∧ i = .int .i64 m ∧ Hid (Bst wr bx g b (allM 42 m (upd ps k p)) ss fs) ∧ Hid (Only (· = g) w3 wr)) (fun i _ => b.n - (intOf i).toNat)
        case atStart => exact ⟨0, by omega, rfl, hB0, Lib.hid (Only.refl _ _)⟩
        case round =>
          clear hB0
          obtain ⟨m, hm, rfl, hB, hO⟩ := hrel
          have hm0 : (0 : Int) ≤ m := by omega
          have b17 : wr.cell? ⟨bx, 17, none⟩ = some (.slice (some ⟨g, 0, none⟩) b.n b.cp) := hB.out.c17
          by_cases hlt : m < b.n
          · have dl : decide ((m : Int) < b.n) = true := decide_eq_true (by omega)
            have hm1 : (m : Int) < b.n := by omega
            have hwm : IntKind.i64.wrap ((m : Int) + 1) = (m + 1 : Nat) := by unfold IntKind.wrap; simp [IntKind.signed, IntKind.bits]; omega
            have cm : wr.cell? ⟨g, m * 89 + 22 + 20, none⟩ = some (.bool ((upd ps k p m).b 42)) := (hB.out.p.cell hlt (j := 42) (by omega)).trans (by rw [allM_at]; rfl)
            have fm : wr.frozen? ⟨g, m * 89 + 22 + 20, none⟩ = false := hB.out.p.free _
            have HB2 := Lib.hid (Bst.cong (fun j _ => allM_put 42 m (upd ps k p) j) (Bst.put (w := wr) (k := m) (j := 42) (p := upd ps k p m) (p' := (upd ps k p m).setB 42 true) (by have h := hB.out.start m; rw [allM_at] at h; exact h) (by omega) (rowP_put_42 _ _)))
            go_wp2_with fail
            exact ⟨⟨m + 1, by omega, rfl, HB2, Lib.hid (hO.out.setCell (Or.inl rfl) _)⟩, by simp [intOf]; omega⟩
          · have dl : decide ((m : Int) < b.n) = false := decide_eq_false (by omega)
            obtain rfl : m = b.n := by omega
            have hBE := Bst.cong (fun j hj => allM_all 42 b.n (upd ps k p) j hj) hB.out
            rw [allB_upd] at hBE
            have HBE := Lib.hid hBE
            clear hBE

            go_wp2_with fail
            go_ret
            rw [HR.out]
            exact ⟨rfl, HBE.out, HO3.out.trans hO.out⟩
      case false =>
        have HT3 := Lib.hid (show T = (bif onR b k p ps && !p.b 28 then some (upd ps k ((p.setB 28 true).setI 7 (fwdN b p))) else (bif onR b k p ps && p.b 28 && !p.b 26 then some (upd ps k ((p.setI 7 0).setB 26 true)) else (bif p.b 42 && p.b 26 then some (upd ps k (p.setB 42 false)) else (bif p.i 12 != b.r.i 5 then some (upd ps k (p.setI 12 (b.r.i 5))) else none)))) by rw [HT2.out, ← Hc2.out, hv2]; rfl)
        go_upto_region 18 with (fail)
        obtain ⟨qd145, hqd145⟩ : ∃ x : Bool, x = (!(p.b 28)) := ⟨_, rfl⟩
        have Hqd145 := Lib.hid hqd145
        clear hqd145
        obtain ⟨qd146, hqd146⟩ : ∃ x : Bool, x = (qo44 && qd145) := ⟨_, rfl⟩
        have Hqd146 := Lib.hid hqd146
        clear hqd146
        refine wp_region_lit ?_
        refine wpList_val (by kernel_rfl) (.bool qo44) (by kernel_rfl) ?_
        simp only [List.getElem_toArray, List.getElem_cons_succ, List.getElem_cons_zero, Act.put, List.setIfInBounds_toArray, List.set_cons_zero, List.set_cons_succ]
        refine wpList_val (by kernel_rfl) (.bool qo44) (by kernel_rfl) ?_
        simp only [List.getElem_toArray, List.getElem_cons_succ, List.getElem_cons_zero, Act.put, List.setIfInBounds_toArray, List.set_cons_zero, List.set_cons_succ]
        refine wpList_bif (c := qo44) (v := .pointer (some ⟨g, k * 89, none⟩)) (wanted_t rfl (by kernel_rfl)) (fun hc => by have h0 := hc; simp [go_sem, execOp, h0]) ?_
        simp only [List.getElem_toArray, List.getElem_cons_succ, List.getElem_cons_zero, Act.put, List.setIfInBounds_toArray, List.set_cons_zero, List.set_cons_succ]
        refine wpList_bif (c := qo44) (v := .pointer (some ⟨g, k * 89, none⟩)) (wanted_t rfl (by kernel_rfl)) (fun hc => by have h0 := hc; simp [go_sem, execOp, h0]) ?_
        simp only [List.getElem_toArray, List.getElem_cons_succ, List.getElem_cons_zero, Act.put, List.setIfInBounds_toArray, List.set_cons_zero, List.set_cons_succ]
        refine wpList_bif (c := qo44) (v := .pointer (some ⟨g, k * 89 + 22, none⟩)) (wanted_t rfl (by kernel_rfl)) (fun hc => by have h0 := hc; simp [go_sem, execOp, h0]) ?_
        simp only [List.getElem_toArray, List.getElem_cons_succ, List.getElem_cons_zero, Act.put, List.setIfInBounds_toArray, List.set_cons_zero, List.set_cons_succ]
        refine wpList_bif (c := qo44) (v := .pointer (some ⟨g, k * 89 + 22 + 6, none⟩)) (wanted_t rfl (by kernel_rfl)) (fun hc => by have h0 := hc; simp [go_sem, execOp, h0]) ?_
        simp only [List.getElem_toArray, List.getElem_cons_succ, List.getElem_cons_zero, Act.put, List.setIfInBounds_toArray, List.set_cons_zero, List.set_cons_succ]
        refine wpList_bif (c := qo44) (v := .bool (p.b 28)) (wanted_t rfl (by kernel_rfl)) (fun hc => by have h0 := hc; simp [go_sem, execOp, h0, (show w3.cell? ⟨g, k * 89 + 22 + 6, none⟩ = some (.bool (p.b 28)) from c28)]) ?_
        simp only [List.getElem_toArray, List.getElem_cons_succ, List.getElem_cons_zero, Act.put, List.setIfInBounds_toArray, List.set_cons_zero, List.set_cons_succ]
        refine wpList_bif (c := qo44) (v := .bool qd145) (wanted_t rfl (by kernel_rfl)) (fun hc => by have h0 := hc; rw [Hqd145.out]; simp [go_sem, execOp, h0]) ?_
        simp only [List.getElem_toArray, List.getElem_cons_succ, List.getElem_cons_zero, Act.put, List.setIfInBounds_toArray, List.set_cons_zero, List.set_cons_succ]
        refine wpList_val (by kernel_rfl) (.bool qd146) (by rw [Hqd146.out]; cases hA : qo44 <;> simp [go_sem, execOp, hA]) ?_
        simp only [List.getElem_toArray, List.getElem_cons_succ, List.getElem_cons_zero, Act.put, List.setIfInBounds_toArray, List.set_cons_zero, List.set_cons_succ]
        refine wpList_val (by kernel_rfl) (.bool qd146) (by kernel_rfl) ?_
        simp only [List.getElem_toArray, List.getElem_cons_succ, List.getElem_cons_zero, Act.put, List.setIfInBounds_toArray, List.set_cons_zero, List.set_cons_succ]
        refine wpList_nil ?_
        have hc3 : qd146 = (onR b k p ps && !p.b 28) := by rw [Hqd146.out, Hqd145.out, Hon.out]
        have Hc3 := Lib.hid hc3
        clear hc3
        cases hv3 : qd146
        case true =>
          have HR := Lib.hid (show T = some (upd ps k ((p.setB 28 true).setI 7 (fwdN b p))) by rw [HT3.out, ← Hc3.out, hv3]; rfl)
          have f7 : w3.frozen? ⟨g, k * 89 + 6 + 1, none⟩ = false := H3.out.p.free _
          have f28 : w3.frozen? ⟨g, k * 89 + 22 + 6, none⟩ = false := H3.out.p.free _
          go_wp2_with fail
          go_ret
          have HB := Lib.hid (show Bst ((w3.setCell ⟨g, k * 89 + 6 + 1, none⟩ (.int .i64 (fwdN b p))).setCell ⟨g, k * 89 + 22 + 6, none⟩ (.bool true)) bx g b (upd ps k ((p.setI 7 (fwdN b p)).setB 28 true)) ss fs from ((H3.out).put (j := 7) (by omega) (rowP_put_7 _ _)).put (j := 28) (by omega) (rowP_put_28 _ _))
          rw [HR.out]
          exact ⟨rfl, HB.out, ((HO3.out).setCell (Or.inl rfl) _).setCell (Or.inl rfl) _⟩
        case false =>
          have HT4 := Lib.hid (show T = (bif onR b k p ps && p.b 28 && !p.b 26 then some (upd ps k ((p.setI 7 0).setB 26 true)) else (bif p.b 42 && p.b 26 then some (upd ps k (p.setB 42 false)) else (bif p.i 12 != b.r.i 5 then some (upd ps k (p.setI 12 (b.r.i 5))) else none))) by rw [HT3.out, ← Hc3.out, hv3]; rfl)
          go_upto_region 21 with (fail)
          obtain ⟨qe164, hqe164⟩ : ∃ x : Bool, x = (!(p.b 26)) := ⟨_, rfl⟩
          have Hqe164 := Lib.hid hqe164
          clear hqe164
          obtain ⟨qe165, hqe165⟩ : ∃ x : Bool, x = (qo44 && qe164) := ⟨_, rfl⟩
          have Hqe165 := Lib.hid hqe165
          clear hqe165
          refine wp_region_lit ?_
          refine wpList_val (by kernel_rfl) (.bool qo44) (by kernel_rfl) ?_
          simp only [List.getElem_toArray, List.getElem_cons_succ, List.getElem_cons_zero, Act.put, List.setIfInBounds_toArray, List.set_cons_zero, List.set_cons_succ]
          refine wpList_val (by kernel_rfl) (.bool qo44) (by kernel_rfl) ?_
          simp only [List.getElem_toArray, List.getElem_cons_succ, List.getElem_cons_zero, Act.put, List.setIfInBounds_toArray, List.set_cons_zero, List.set_cons_succ]
          refine wpList_bif (c := qo44) (v := .pointer (some ⟨g, k * 89, none⟩)) (wanted_t rfl (by kernel_rfl)) (fun hc => by have h0 := hc; simp [go_sem, execOp, h0]) ?_
          simp only [List.getElem_toArray, List.getElem_cons_succ, List.getElem_cons_zero, Act.put, List.setIfInBounds_toArray, List.set_cons_zero, List.set_cons_succ]
          refine wpList_bif (c := qo44) (v := .pointer (some ⟨g, k * 89, none⟩)) (wanted_t rfl (by kernel_rfl)) (fun hc => by have h0 := hc; simp [go_sem, execOp, h0]) ?_
          simp only [List.getElem_toArray, List.getElem_cons_succ, List.getElem_cons_zero, Act.put, List.setIfInBounds_toArray, List.set_cons_zero, List.set_cons_succ]
          refine wpList_bif (c := qo44) (v := .pointer (some ⟨g, k * 89 + 22, none⟩)) (wanted_t rfl (by kernel_rfl)) (fun hc => by have h0 := hc; simp [go_sem, execOp, h0]) ?_
          simp only [List.getElem_toArray, List.getElem_cons_succ, List.getElem_cons_zero, Act.put, List.setIfInBounds_toArray, List.set_cons_zero, List.set_cons_succ]
          refine wpList_bif (c := qo44) (v := .pointer (some ⟨g, k * 89 + 22 + 4, none⟩)) (wanted_t rfl (by kernel_rfl)) (fun hc => by have h0 := hc; simp [go_sem, execOp, h0]) ?_
          simp only [List.getElem_toArray, List.getElem_cons_succ, List.getElem_cons_zero, Act.put, List.setIfInBounds_toArray, List.set_cons_zero, List.set_cons_succ]
          refine wpList_bif (c := qo44) (v := .bool (p.b 26)) (wanted_t rfl (by kernel_rfl)) (fun hc => by have h0 := hc; simp [go_sem, execOp, h0, (show w3.cell? ⟨g, k * 89 + 22 + 4, none⟩ = some (.bool (p.b 26)) from c26)]) ?_
          simp only [List.getElem_toArray, List.getElem_cons_succ, List.getElem_cons_zero, Act.put, List.setIfInBounds_toArray, List.set_cons_zero, List.set_cons_succ]
          refine wpList_bif (c := qo44) (v := .bool qe164) (wanted_t rfl (by kernel_rfl)) (fun hc => by have h0 := hc; rw [Hqe164.out]; simp [go_sem, execOp, h0]) ?_
          simp only [List.getElem_toArray, List.getElem_cons_succ, List.getElem_cons_zero, Act.put, List.setIfInBounds_toArray, List.set_cons_zero, List.set_cons_succ]
          refine wpList_val (by kernel_rfl) (.bool qe165) (by rw [Hqe165.out]; cases hA : qo44 <;> simp [go_sem, execOp, hA]) ?_
          simp only [List.getElem_toArray, List.getElem_cons_succ, List.getElem_cons_zero, Act.put, List.setIfInBounds_toArray, List.set_cons_zero, List.set_cons_succ]
          refine wpList_val (by kernel_rfl) (.bool qe165) (by kernel_rfl) ?_
          simp only [List.getElem_toArray, List.getElem_cons_succ, List.getElem_cons_zero, Act.put, List.setIfInBounds_toArray, List.set_cons_zero, List.set_cons_succ]
          refine wpList_nil ?_
          have hc4 : qe165 = (onR b k p ps && p.b 28 && !p.b 26) := by rw [Hqe165.out, Hqe164.out, Hon.out]; have h3 := Hc3.out; rw [hv3] at h3; revert h3; cases onR b k p ps <;> cases p.b 28 <;> simp
          have Hc4 := Lib.hid hc4
          clear hc4
          cases hv4 : qe165
          case true =>
            have HR := Lib.hid (show T = some (upd ps k ((p.setI 7 0).setB 26 true)) by rw [HT4.out, ← Hc4.out, hv4]; rfl)
            have f7 : w3.frozen? ⟨g, k * 89 + 6 + 1, none⟩ = false := H3.out.p.free _
            have f26 : w3.frozen? ⟨g, k * 89 + 22 + 4, none⟩ = false := H3.out.p.free _
            go_wp2_with fail
            go_ret
            have HB := Lib.hid (show Bst ((w3.setCell ⟨g, k * 89 + 6 + 1, none⟩ (.int .i64 0)).setCell ⟨g, k * 89 + 22 + 4, none⟩ (.bool true)) bx g b (upd ps k ((p.setI 7 0).setB 26 true)) ss fs from ((H3.out).put (j := 7) (by omega) (rowP_put_7 _ _)).put (j := 26) (by omega) (rowP_put_26 _ _))
            rw [HR.out]
            exact ⟨rfl, HB.out, ((HO3.out).setCell (Or.inl rfl) _).setCell (Or.inl rfl) _⟩
          case false =>
            have HT5 := Lib.hid (show T = (bif p.b 42 && p.b 26 then some (upd ps k (p.setB 42 false)) else (bif p.i 12 != b.r.i 5 then some (upd ps k (p.setI 12 (b.r.i 5))) else none)) by rw [HT4.out, ← Hc4.out, hv4]; rfl)
            go_upto_region 24 with (fail)
            obtain ⟨qf186, hqf186⟩ : ∃ x : Bool, x = ((p.b 42) && (p.b 26)) := ⟨_, rfl⟩
            have Hqf186 := Lib.hid hqf186
            clear hqf186
            refine wp_region_lit ?_
            refine wpList_val (by kernel_rfl) (.pointer (some ⟨g, k * 89, none⟩)) (by kernel_rfl) ?_
            simp only [List.getElem_toArray, List.getElem_cons_succ, List.getElem_cons_zero, Act.put, List.setIfInBounds_toArray, List.set_cons_zero, List.set_cons_succ]
            refine wpList_val (by kernel_rfl) (.pointer (some ⟨g, k * 89, none⟩)) (by simp [go_sem, execOp]) ?_
            simp only [List.getElem_toArray, List.getElem_cons_succ, List.getElem_cons_zero, Act.put, List.setIfInBounds_toArray, List.set_cons_zero, List.set_cons_succ]
            refine wpList_val (by kernel_rfl) (.pointer (some ⟨g, k * 89 + 22, none⟩)) (by simp [go_sem, execOp]) ?_
            simp only [List.getElem_toArray, List.getElem_cons_succ, List.getElem_cons_zero, Act.put, List.setIfInBounds_toArray, List.set_cons_zero, List.set_cons_succ]
            refine wpList_val (by kernel_rfl) (.pointer (some ⟨g, k * 89 + 22 + 20, none⟩)) (by simp [go_sem, execOp]) ?_
            simp only [List.getElem_toArray, List.getElem_cons_succ, List.getElem_cons_zero, Act.put, List.setIfInBounds_toArray, List.set_cons_zero, List.set_cons_succ]
            refine wpList_val (by kernel_rfl) (.bool (p.b 42)) (by simp [go_sem, execOp, (show w3.cell? ⟨g, k * 89 + 22 + 20, none⟩ = some (.bool (p.b 42)) from c42)]) ?_
            simp only [List.getElem_toArray, List.getElem_cons_succ, List.getElem_cons_zero, Act.put, List.setIfInBounds_toArray, List.set_cons_zero, List.set_cons_succ]
            refine wpList_val (by kernel_rfl) (.bool (p.b 42)) (by kernel_rfl) ?_
            simp only [List.getElem_toArray, List.getElem_cons_succ, List.getElem_cons_zero, Act.put, List.setIfInBounds_toArray, List.set_cons_zero, List.set_cons_succ]
            refine wpList_bif (c := (p.b 42)) (v := .pointer (some ⟨g, k * 89, none⟩)) (wanted_t rfl (by kernel_rfl)) (fun hc => by have h0 := hc; simp [go_sem, execOp, h0]) ?_
            simp only [List.getElem_toArray, List.getElem_cons_succ, List.getElem_cons_zero, Act.put, List.setIfInBounds_toArray, List.set_cons_zero, List.set_cons_succ]
            refine wpList_bif (c := (p.b 42)) (v := .pointer (some ⟨g, k * 89, none⟩)) (wanted_t rfl (by kernel_rfl)) (fun hc => by have h0 := hc; simp [go_sem, execOp, h0]) ?_
            simp only [List.getElem_toArray, List.getElem_cons_succ, List.getElem_cons_zero, Act.put, List.setIfInBounds_toArray, List.set_cons_zero, List.set_cons_succ]
            refine wpList_bif (c := (p.b 42)) (v := .pointer (some ⟨g, k * 89 + 22, none⟩)) (wanted_t rfl (by kernel_rfl)) (fun hc => by have h0 := hc; simp [go_sem, execOp, h0]) ?_
            simp only [List.getElem_toArray, List.getElem_cons_succ, List.getElem_cons_zero, Act.put, List.setIfInBounds_toArray, List.set_cons_zero, List.set_cons_succ]
            refine wpList_bif (c := (p.b 42)) (v := .pointer (some ⟨g, k * 89 + 22 + 4, none⟩)) (wanted_t rfl (by kernel_rfl)) (fun hc => by have h0 := hc; simp [go_sem, execOp, h0]) ?_
            simp only [List.getElem_toArray, List.getElem_cons_succ, List.getElem_cons_zero, Act.put, List.setIfInBounds_toArray, List.set_cons_zero, List.set_cons_succ]
            refine wpList_bif (c := (p.b 42)) (v := .bool (p.b 26)) (wanted_t rfl (by kernel_rfl)) (fun hc => by have h0 := hc; simp [go_sem, execOp, h0, (show w3.cell? ⟨g, k * 89 + 22 + 4, none⟩ = some (.bool (p.b 26)) from c26)]) ?_
            simp only [List.getElem_toArray, List.getElem_cons_succ, List.getElem_cons_zero, Act.put, List.setIfInBounds_toArray, List.set_cons_zero, List.set_cons_succ]
            refine wpList_val (by kernel_rfl) (.bool qf186) (by rw [Hqf186.out]; cases hA : (p.b 42) <;> simp [go_sem, execOp, hA]) ?_
            simp only [List.getElem_toArray, List.getElem_cons_succ, List.getElem_cons_zero, Act.put, List.setIfInBounds_toArray, List.set_cons_zero, List.set_cons_succ]
            refine wpList_val (by kernel_rfl) (.bool qf186) (by kernel_rfl) ?_
            simp only [List.getElem_toArray, List.getElem_cons_succ, List.getElem_cons_zero, Act.put, List.setIfInBounds_toArray, List.set_cons_zero, List.set_cons_succ]
            refine wpList_nil ?_
            have hc5 : qf186 = (p.b 42 && p.b 26) := by rw [Hqf186.out]
            have Hc5 := Lib.hid hc5
            clear hc5
            cases hv5 : qf186
            case true =>
              have HR := Lib.hid (show T = some (upd ps k (p.setB 42 false)) by rw [HT5.out, ← Hc5.out, hv5]; rfl)
              have f42 : w3.frozen? ⟨g, k * 89 + 22 + 20, none⟩ = false := H3.out.p.free _
              go_wp2_with fail
              go_ret
              have HB := Lib.hid (show Bst (w3.setCell ⟨g, k * 89 + 22 + 20, none⟩ (.bool false)) bx g b (upd ps k (p.setB 42 false)) ss fs from (H3.out).put (j := 42) (by omega) (rowP_put_42 _ _))
              rw [HR.out]
              exact ⟨rfl, HB.out, (HO3.out).setCell (Or.inl rfl) _⟩
            case false =>
              have HT6 := Lib.hid (show T = (bif p.i 12 != b.r.i 5 then some (upd ps k (p.setI 12 (b.r.i 5))) else none) by rw [HT5.out, ← Hc5.out, hv5]; rfl)
              go_upto_region 26 with (fail)
              obtain ⟨qg202, hqg202⟩ : ∃ x : Bool, x = ((p.i 12) != (b.r.i 5)) := ⟨_, rfl⟩
              have Hqg202 := Lib.hid hqg202
              clear hqg202
              refine wp_region_still_lit (by kernel_rfl) (by kernel_rfl) ?_
              refine wpStill_val (by kernel_rfl) (.pointer (some ⟨g, k * 89, none⟩)) (by kernel_rfl) ?_
              simp only [List.getElem_toArray, List.getElem_cons_succ, List.getElem_cons_zero, Act.put, List.setIfInBounds_toArray, List.set_cons_zero, List.set_cons_succ]
              refine wpStill_val (by kernel_rfl) (.pointer (some ⟨g, k * 89, none⟩)) (by simp [go_sem, execOp]) ?_
              simp only [List.getElem_toArray, List.getElem_cons_succ, List.getElem_cons_zero, Act.put, List.setIfInBounds_toArray, List.set_cons_zero, List.set_cons_succ]
              refine wpStill_val (by kernel_rfl) (.pointer (some ⟨g, k * 89 + 6, none⟩)) (by simp [go_sem, execOp]) ?_
              simp only [List.getElem_toArray, List.getElem_cons_succ, List.getElem_cons_zero, Act.put, List.setIfInBounds_toArray, List.set_cons_zero, List.set_cons_succ]
              refine wpStill_val (by kernel_rfl) (.pointer (some ⟨g, k * 89 + 6 + 6, none⟩)) (by simp [go_sem, execOp]) ?_
              simp only [List.getElem_toArray, List.getElem_cons_succ, List.getElem_cons_zero, Act.put, List.setIfInBounds_toArray, List.set_cons_zero, List.set_cons_succ]
              refine wpStill_val (by kernel_rfl) (.int .i64 (p.i 12)) (by simp [go_sem, execOp, (show w3.drew.cell? ⟨g, k * 89 + 6 + 6, none⟩ = some (.int .i64 (p.i 12)) from c12)]) ?_
              simp only [List.getElem_toArray, List.getElem_cons_succ, List.getElem_cons_zero, Act.put, List.setIfInBounds_toArray, List.set_cons_zero, List.set_cons_succ]
              refine wpStill_val (by kernel_rfl) (.pointer (some ⟨bx, 0, none⟩)) (by kernel_rfl) ?_
              simp only [List.getElem_toArray, List.getElem_cons_succ, List.getElem_cons_zero, Act.put, List.setIfInBounds_toArray, List.set_cons_zero, List.set_cons_succ]
              refine wpStill_val (by kernel_rfl) (.pointer (some ⟨bx, 0, none⟩)) (by simp [go_sem, execOp]) ?_
              simp only [List.getElem_toArray, List.getElem_cons_succ, List.getElem_cons_zero, Act.put, List.setIfInBounds_toArray, List.set_cons_zero, List.set_cons_succ]
              refine wpStill_val (by kernel_rfl) (.pointer (some ⟨bx, 2, none⟩)) (by simp [go_sem, execOp]) ?_
              simp only [List.getElem_toArray, List.getElem_cons_succ, List.getElem_cons_zero, Act.put, List.setIfInBounds_toArray, List.set_cons_zero, List.set_cons_succ]
              refine wpStill_val (by kernel_rfl) (.pointer (some ⟨bx, 2 + 3, none⟩)) (by simp [go_sem, execOp]) ?_
              simp only [List.getElem_toArray, List.getElem_cons_succ, List.getElem_cons_zero, Act.put, List.setIfInBounds_toArray, List.set_cons_zero, List.set_cons_succ]
              refine wpStill_val (by kernel_rfl) (.int .i64 (b.r.i 5)) (by simp [go_sem, execOp, (show w3.drew.cell? ⟨bx, 2 + 3, none⟩ = some (.int .i64 (b.r.i 5)) from b5)]) ?_
              simp only [List.getElem_toArray, List.getElem_cons_succ, List.getElem_cons_zero, Act.put, List.setIfInBounds_toArray, List.set_cons_zero, List.set_cons_succ]
              refine wpStill_val (by kernel_rfl) (.bool qg202) (by rw [Hqg202.out]; simp [go_sem, execOp]) ?_
              simp only [List.getElem_toArray, List.getElem_cons_succ, List.getElem_cons_zero, Act.put, List.setIfInBounds_toArray, List.set_cons_zero, List.set_cons_succ]
              refine wpStill_val (by kernel_rfl) (.bool qg202) (by kernel_rfl) ?_
              simp only [List.getElem_toArray, List.getElem_cons_succ, List.getElem_cons_zero, Act.put, List.setIfInBounds_toArray, List.set_cons_zero, List.set_cons_succ]
              refine wpStill_nil ?_
              have hc6 : qg202 = (p.i 12 != b.r.i 5) := by rw [Hqg202.out]
              have Hc6 := Lib.hid hc6
              clear hc6
              cases hv6 : qg202
              case true =>
                have HR := Lib.hid (show T = some (upd ps k (p.setI 12 (b.r.i 5))) by rw [HT6.out, ← Hc6.out, hv6]; rfl)
                have f12 : w3.frozen? ⟨g, k * 89 + 6 + 6, none⟩ = false := H3.out.p.free _
                go_wp2_with fail
                go_ret
                have HB := Lib.hid (show Bst (w3.setCell ⟨g, k * 89 + 6 + 6, none⟩ (.int .i64 (b.r.i 5))) bx g b (upd ps k (p.setI 12 (b.r.i 5))) ss fs from (H3.out).put (j := 12) (by omega) (rowP_put_12 _ _))
                rw [HR.out]
                exact ⟨rfl, HB.out.below (Below.refl _ _).drew, ((HO3.out).setCell (Or.inl rfl) _).drew⟩
              case false =>
                have HT7 := Lib.hid (show T = (none) by rw [HT6.out, ← Hc6.out, hv6]; rfl)
                go_wp2_with fail
                go_ret
                rw [HT7.out]
                exact ⟨rfl, H3.out.below (Below.refl _ _).drew, HO3.out.drew⟩
end Go.Proofs.Ytdangeefecdbaaa.Br
