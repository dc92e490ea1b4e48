/- Chapter 15: the document's alternate: the first row of an alternate port. Conditions: the bridge lies in memory; there aren't very many ports; its times aren't very much. -/
import Derived.Test.YtdangeefecdbaaaTr12
import Derived.Test.YtdangeefecdbaaaTr13
set_option linter.unusedSimpArgs false
set_option linter.unusedVariables false
namespace Go.Proofs.Ytdangeefecdbaaa.Br
open Go.RowKit
set_option maxRecDepth 100000 in
set_option maxHeartbeats 8000000 in
theorem refalt_any (w : World) (bx g k : Nat) (b : Bri) (ps ss : Nat → Rec) (fs : Nat → Int) (p : Rec) (h : Bst w bx g b (upd ps k p) ss fs) (hk : k < b.n) (hT : ∀ x, x < 3 → 0 ≤ b.r.i (3 + x) ∧ b.r.i (3 + x) ≤ 1000) (hn : b.n ≤ 1000) : Calls Try.prog 22 #[.pointer (some ⟨bx, 0, none⟩), .pointer (some ⟨g, k * 89, none⟩), .int .i64 (fwdN b p)] w fun e w' => e = .returned (.bool (firstOn (altL b k p ps)).isSome) ∧ Bst w' bx g b ((firstOn (altL b k p ps)).getD (upd ps k p)) ss fs ∧ Only (· = g) w w' := by
  obtain ⟨T, hT0⟩ : ∃ T, T = firstOn (altL b k p ps) := ⟨_, rfl⟩
  rw [← hT0]
  have HT0 := Lib.hid (show T = (bif p.b 33 && !p.b 22 then some (upd (allB 46 ps) k ((p.setB 46 true).setB 33 false)) else (bif (syncedAll b (upd ps k p) && !p.b 22) || (p.b 33 && p.b 22) then some (upd ps k (agreeF p)) else (bif (p.i 87 == 2) && (p.i 10 != 2 * b.r.i 4) then some (upd ps k (p.setI 10 (2 * b.r.i 4))) else (bif restlessF (fwdN b p) p then some (upd ps k (restF 5 (fwdN b p) p)) else none)))) from hT0)
  clear hT0
  have H1 := Lib.hid h
  clear h
  have t4 := hT 1 (by omega)
  simp only [Nat.reduceAdd] at t4
  have wr := (show IntKind.i64.wrap (b.r.i 4 + b.r.i 4) = 2 * b.r.i 4 by unfold IntKind.wrap; simp [IntKind.signed, IntKind.bits]; omega)
  clear t4 hT
  obtain ⟨qa, hqa⟩ : ∃ x : Bool, x = syncedAll b (upd ps k p) := ⟨_, rfl⟩
  have Hqa := Lib.hid hqa
  clear hqa
  go_enter Try.func22, Try.ntmps22
  go_wp2_with (first | (refine wpList_load_row rfl 33 _ rfl bx rfl 33 (rowB b) (0, 0) _ H1.out.h Try.underlying33 rfl (sizeBr _) ?_; simp only [Act.put, List.setIfInBounds_toArray, List.set_cons_zero, List.set_cons_succ]) | fail)
  refine (refsynced_any b (upd ps k p) _ H1.out.portsV hn).mono ?_
  rintro e w2 ⟨rfl, hb2⟩
  rw [show (!anyR (fun j => unsynced (upd ps k p j)) b.n) = qa from Hqa.out.symm]
  have H2 := Lib.hid (H1.out.below hb2)
  have HO2 := Lib.hid (show Only (· = g) w w2 from Only.of_below hb2)
  clear hb2
  have lg := H2.out.p.lt
  have lbx := H2.out.lt
  have nbg : ¬ bx = g := H2.out.ne
  have b4 : w2.cell? ⟨bx, 2 + 2, none⟩ = some (.int .i64 (b.r.i 4)) := cells_of H2.out.h 4
  have c33 : w2.cell? ⟨g, k * 89 + 22 + 11, none⟩ = some (.bool (p.b 33)) := (H2.out.p.cell hk (j := 33) (by omega)).trans (by rw [upd_same]; rfl)
  have c22 : w2.cell? ⟨g, k * 89 + 22, none⟩ = some (.bool (p.b 22)) := (H2.out.p.cell hk (j := 22) (by omega)).trans (by rw [upd_same]; rfl)
  have c87 : w2.cell? ⟨g, k * 89 + 87, none⟩ = some (.int .i64 (p.i 87)) := (H2.out.p.cell hk (j := 87) (by omega)).trans (by rw [upd_same]; rfl)
  have c10 : w2.cell? ⟨g, k * 89 + 6 + 4, none⟩ = some (.int .i64 (p.i 10)) := (H2.out.p.cell hk (j := 10) (by omega)).trans (by rw [upd_same]; rfl)
  have c7 : w2.cell? ⟨g, k * 89 + 6 + 1, none⟩ = some (.int .i64 (p.i 7)) := (H2.out.p.cell hk (j := 7) (by omega)).trans (by rw [upd_same]; rfl)
  have c46 : w2.cell? ⟨g, k * 89 + 22 + 24, none⟩ = some (.bool (p.b 46)) := (H2.out.p.cell hk (j := 46) (by omega)).trans (by rw [upd_same]; rfl)
  have c42 : w2.cell? ⟨g, k * 89 + 22 + 20, none⟩ = some (.bool (p.b 42)) := (H2.out.p.cell hk (j := 42) (by omega)).trans (by rw [upd_same]; rfl)
  have c47 : w2.cell? ⟨g, k * 89 + 22 + 25, none⟩ = some (.bool (p.b 47)) := (H2.out.p.cell hk (j := 47) (by omega)).trans (by rw [upd_same]; rfl)
  go_upto_region 3 with (fail)
  obtain ⟨qa24, hqa24⟩ : ∃ x : Bool, x = (!(p.b 22)) := ⟨_, rfl⟩
  have Hqa24 := Lib.hid hqa24
  clear hqa24
  obtain ⟨qa25, hqa25⟩ : ∃ x : Bool, x = ((p.b 33) && qa24) := ⟨_, rfl⟩
  have Hqa25 := Lib.hid hqa25
  clear hqa25
  refine wp_region_lit ?_
  refine wpList_val (by kernel_rfl) (.pointer (some ⟨g, k * 89, none⟩)) (by kernel_rfl) ?_
  simp only [List.getElem_toArray, List.getElem_cons_succ, List.getElem_cons_zero, Act.put, List.setIfInBounds_toArray, List.set_cons_zero, List.set_cons_succ]
  refine wpList_val (by kernel_rfl) (.pointer (some ⟨g, k * 89, none⟩)) (by simp [go_sem, execOp]) ?_
  simp only [List.getElem_toArray, List.getElem_cons_succ, List.getElem_cons_zero, Act.put, List.setIfInBounds_toArray, List.set_cons_zero, List.set_cons_succ]
  refine wpList_val (by kernel_rfl) (.pointer (some ⟨g, k * 89 + 22, none⟩)) (by simp [go_sem, execOp]) ?_
  simp only [List.getElem_toArray, List.getElem_cons_succ, List.getElem_cons_zero, Act.put, List.setIfInBounds_toArray, List.set_cons_zero, List.set_cons_succ]
  refine wpList_val (by kernel_rfl) (.pointer (some ⟨g, k * 89 + 22 + 11, none⟩)) (by simp [go_sem, execOp]) ?_
  simp only [List.getElem_toArray, List.getElem_cons_succ, List.getElem_cons_zero, Act.put, List.setIfInBounds_toArray, List.set_cons_zero, List.set_cons_succ]
  refine wpList_val (by kernel_rfl) (.bool (p.b 33)) (by simp [go_sem, execOp, (show w2.cell? ⟨g, k * 89 + 22 + 11, none⟩ = some (.bool (p.b 33)) from c33)]) ?_
  simp only [List.getElem_toArray, List.getElem_cons_succ, List.getElem_cons_zero, Act.put, List.setIfInBounds_toArray, List.set_cons_zero, List.set_cons_succ]
  refine wpList_val (by kernel_rfl) (.bool (p.b 33)) (by kernel_rfl) ?_
  simp only [List.getElem_toArray, List.getElem_cons_succ, List.getElem_cons_zero, Act.put, List.setIfInBounds_toArray, List.set_cons_zero, List.set_cons_succ]
  refine wpList_bif (c := (p.b 33)) (v := .pointer (some ⟨g, k * 89, none⟩)) (wanted_t rfl (by kernel_rfl)) (fun hc => by have h0 := hc; simp [go_sem, execOp, h0]) ?_
  simp only [List.getElem_toArray, List.getElem_cons_succ, List.getElem_cons_zero, Act.put, List.setIfInBounds_toArray, List.set_cons_zero, List.set_cons_succ]
  refine wpList_bif (c := (p.b 33)) (v := .pointer (some ⟨g, k * 89, none⟩)) (wanted_t rfl (by kernel_rfl)) (fun hc => by have h0 := hc; simp [go_sem, execOp, h0]) ?_
  simp only [List.getElem_toArray, List.getElem_cons_succ, List.getElem_cons_zero, Act.put, List.setIfInBounds_toArray, List.set_cons_zero, List.set_cons_succ]
  refine wpList_bif (c := (p.b 33)) (v := .pointer (some ⟨g, k * 89 + 22, none⟩)) (wanted_t rfl (by kernel_rfl)) (fun hc => by have h0 := hc; simp [go_sem, execOp, h0]) ?_
  simp only [List.getElem_toArray, List.getElem_cons_succ, List.getElem_cons_zero, Act.put, List.setIfInBounds_toArray, List.set_cons_zero, List.set_cons_succ]
  refine wpList_bif (c := (p.b 33)) (v := .pointer (some ⟨g, k * 89 + 22, none⟩)) (wanted_t rfl (by kernel_rfl)) (fun hc => by have h0 := hc; simp [go_sem, execOp, h0]) ?_
  simp only [List.getElem_toArray, List.getElem_cons_succ, List.getElem_cons_zero, Act.put, List.setIfInBounds_toArray, List.set_cons_zero, List.set_cons_succ]
  refine wpList_bif (c := (p.b 33)) (v := .bool (p.b 22)) (wanted_t rfl (by kernel_rfl)) (fun hc => by have h0 := hc; simp [go_sem, execOp, h0, (show w2.cell? ⟨g, k * 89 + 22, none⟩ = some (.bool (p.b 22)) from c22)]) ?_
  simp only [List.getElem_toArray, List.getElem_cons_succ, List.getElem_cons_zero, Act.put, List.setIfInBounds_toArray, List.set_cons_zero, List.set_cons_succ]
  refine wpList_bif (c := (p.b 33)) (v := .bool qa24) (wanted_t rfl (by kernel_rfl)) (fun hc => by have h0 := hc; rw [Hqa24.out]; simp [go_sem, execOp, h0]) ?_
  simp only [List.getElem_toArray, List.getElem_cons_succ, List.getElem_cons_zero, Act.put, List.setIfInBounds_toArray, List.set_cons_zero, List.set_cons_succ]
  refine wpList_val (by kernel_rfl) (.bool qa25) (by rw [Hqa25.out]; cases hA : (p.b 33) <;> simp [go_sem, execOp, hA]) ?_
  simp only [List.getElem_toArray, List.getElem_cons_succ, List.getElem_cons_zero, Act.put, List.setIfInBounds_toArray, List.set_cons_zero, List.set_cons_succ]
  refine wpList_val (by kernel_rfl) (.bool qa25) (by kernel_rfl) ?_
  simp only [List.getElem_toArray, List.getElem_cons_succ, List.getElem_cons_zero, Act.put, List.setIfInBounds_toArray, List.set_cons_zero, List.set_cons_succ]
  refine wpList_nil ?_
  have hc0 : qa25 = (p.b 33 && !p.b 22) := by rw [Hqa25.out, Hqa24.out]
  have Hc0 := Lib.hid hc0
  clear hc0
  cases hv0 : qa25
  case true =>
    have HR := Lib.hid (show T = some (upd (allB 46 ps) k ((p.setB 46 true).setB 33 false)) by rw [HT0.out, ← Hc0.out, hv0]; rfl)
    go_upto_region 4 with (fail)
    go_wp2_with fail
    refine (refsync_any w2 bx g k b ps ss fs p H2.out hk hn).mono ?_
    rintro e w3 ⟨rfl, hb3, ho3⟩
    have H3 := Lib.hid hb3
    have HO3 := Lib.hid (HO2.out.trans ho3)
    clear hb3 ho3
    have c33 : w3.cell? ⟨g, k * 89 + 22 + 11, none⟩ = some (.bool ((p.setB 46 true).b 33)) := (H3.out.p.cell hk (j := 33) (by omega)).trans (by rw [upd_same]; rfl)
    have f33 : w3.frozen? ⟨g, k * 89 + 22 + 11, none⟩ = false := H3.out.p.free _
    go_wp2_with fail
    go_ret
    have HB := Lib.hid (show Bst (w3.setCell ⟨g, k * 89 + 22 + 11, none⟩ (.bool false)) bx g b (upd (allB 46 ps) k ((p.setB 46 true).setB 33 false)) ss fs from (H3.out).put (j := 33) (by omega) (rowP_put_33 _ _))
    rw [HR.out]
    exact ⟨rfl, HB.out, (HO3.out).setCell (Or.inl rfl) _⟩
  case false =>
    have HT1 := Lib.hid (show T = (bif (syncedAll b (upd ps k p) && !p.b 22) || (p.b 33 && p.b 22) then some (upd ps k (agreeF p)) else (bif (p.i 87 == 2) && (p.i 10 != 2 * b.r.i 4) then some (upd ps k (p.setI 10 (2 * b.r.i 4))) else (bif restlessF (fwdN b p) p then some (upd ps k (restF 5 (fwdN b p) p)) else none))) by rw [HT0.out, ← Hc0.out, hv0]; rfl)
    go_upto_region 6 with (fail)
    obtain ⟨qb40, hqb40⟩ : ∃ x : Bool, x = (!(p.b 22)) := ⟨_, rfl⟩
    have Hqb40 := Lib.hid hqb40
    clear hqb40
    obtain ⟨qb41, hqb41⟩ : ∃ x : Bool, x = (qa && qb40) := ⟨_, rfl⟩
    have Hqb41 := Lib.hid hqb41
    clear hqb41
    obtain ⟨qb54, hqb54⟩ : ∃ x : Bool, x = ((p.b 33) && (p.b 22)) := ⟨_, rfl⟩
    have Hqb54 := Lib.hid hqb54
    clear hqb54
    obtain ⟨qb55, hqb55⟩ : ∃ x : Bool, x = (qb41 || qb54) := ⟨_, rfl⟩
    have Hqb55 := Lib.hid hqb55
    clear hqb55
    refine wp_region_lit ?_
    refine wpList_val (by kernel_rfl) (.bool qa) (by kernel_rfl) ?_
    simp only [List.getElem_toArray, List.getElem_cons_succ, List.getElem_cons_zero, Act.put, List.setIfInBounds_toArray, List.set_cons_zero, List.set_cons_succ]
    refine wpList_val (by kernel_rfl) (.bool qa) (by kernel_rfl) ?_
    simp only [List.getElem_toArray, List.getElem_cons_succ, List.getElem_cons_zero, Act.put, List.setIfInBounds_toArray, List.set_cons_zero, List.set_cons_succ]
    refine wpList_bif (c := qa) (v := .pointer (some ⟨g, k * 89, none⟩)) (wanted_t rfl (by kernel_rfl)) (fun hc => by have h0 := hc; simp [go_sem, execOp, h0]) ?_
    simp only [List.getElem_toArray, List.getElem_cons_succ, List.getElem_cons_zero, Act.put, List.setIfInBounds_toArray, List.set_cons_zero, List.set_cons_succ]
    refine wpList_bif (c := qa) (v := .pointer (some ⟨g, k * 89, none⟩)) (wanted_t rfl (by kernel_rfl)) (fun hc => by have h0 := hc; simp [go_sem, execOp, h0]) ?_
    simp only [List.getElem_toArray, List.getElem_cons_succ, List.getElem_cons_zero, Act.put, List.setIfInBounds_toArray, List.set_cons_zero, List.set_cons_succ]
    refine wpList_bif (c := qa) (v := .pointer (some ⟨g, k * 89 + 22, none⟩)) (wanted_t rfl (by kernel_rfl)) (fun hc => by have h0 := hc; simp [go_sem, execOp, h0]) ?_
    simp only [List.getElem_toArray, List.getElem_cons_succ, List.getElem_cons_zero, Act.put, List.setIfInBounds_toArray, List.set_cons_zero, List.set_cons_succ]
    refine wpList_bif (c := qa) (v := .pointer (some ⟨g, k * 89 + 22, none⟩)) (wanted_t rfl (by kernel_rfl)) (fun hc => by have h0 := hc; simp [go_sem, execOp, h0]) ?_
    simp only [List.getElem_toArray, List.getElem_cons_succ, List.getElem_cons_zero, Act.put, List.setIfInBounds_toArray, List.set_cons_zero, List.set_cons_succ]
    refine wpList_bif (c := qa) (v := .bool (p.b 22)) (wanted_t rfl (by kernel_rfl)) (fun hc => by have h0 := hc; simp [go_sem, execOp, h0, (show w2.cell? ⟨g, k * 89 + 22, none⟩ = some (.bool (p.b 22)) from c22)]) ?_
    simp only [List.getElem_toArray, List.getElem_cons_succ, List.getElem_cons_zero, Act.put, List.setIfInBounds_toArray, List.set_cons_zero, List.set_cons_succ]
    refine wpList_bif (c := qa) (v := .bool qb40) (wanted_t rfl (by kernel_rfl)) (fun hc => by have h0 := hc; rw [Hqb40.out]; simp [go_sem, execOp, h0]) ?_
    simp only [List.getElem_toArray, List.getElem_cons_succ, List.getElem_cons_zero, Act.put, List.setIfInBounds_toArray, List.set_cons_zero, List.set_cons_succ]
    refine wpList_val (by kernel_rfl) (.bool qb41) (by rw [Hqb41.out]; cases hA : qa <;> simp [go_sem, execOp, hA]) ?_
    simp only [List.getElem_toArray, List.getElem_cons_succ, List.getElem_cons_zero, Act.put, List.setIfInBounds_toArray, List.set_cons_zero, List.set_cons_succ]
    refine wpList_val (by kernel_rfl) (.bool qb41) (by kernel_rfl) ?_
    simp only [List.getElem_toArray, List.getElem_cons_succ, List.getElem_cons_zero, Act.put, List.setIfInBounds_toArray, List.set_cons_zero, List.set_cons_succ]
    refine wpList_bif (c := (!qb41)) (v := .pointer (some ⟨g, k * 89, none⟩)) (wanted_f rfl (by kernel_rfl)) (fun hc => by have h0 := notT (hc); simp [go_sem, execOp, h0]) ?_
    simp only [List.getElem_toArray, List.getElem_cons_succ, List.getElem_cons_zero, Act.put, List.setIfInBounds_toArray, List.set_cons_zero, List.set_cons_succ]
    refine wpList_bif (c := (!qb41)) (v := .pointer (some ⟨g, k * 89, none⟩)) (wanted_f rfl (by kernel_rfl)) (fun hc => by have h0 := notT (hc); simp [go_sem, execOp, h0]) ?_
    simp only [List.getElem_toArray, List.getElem_cons_succ, List.getElem_cons_zero, Act.put, List.setIfInBounds_toArray, List.set_cons_zero, List.set_cons_succ]
    refine wpList_bif (c := (!qb41)) (v := .pointer (some ⟨g, k * 89 + 22, none⟩)) (wanted_f rfl (by kernel_rfl)) (fun hc => by have h0 := notT (hc); simp [go_sem, execOp, h0]) ?_
    simp only [List.getElem_toArray, List.getElem_cons_succ, List.getElem_cons_zero, Act.put, List.setIfInBounds_toArray, List.set_cons_zero, List.set_cons_succ]
    refine wpList_bif (c := (!qb41)) (v := .pointer (some ⟨g, k * 89 + 22 + 11, none⟩)) (wanted_f rfl (by kernel_rfl)) (fun hc => by have h0 := notT (hc); simp [go_sem, execOp, h0]) ?_
    simp only [List.getElem_toArray, List.getElem_cons_succ, List.getElem_cons_zero, Act.put, List.setIfInBounds_toArray, List.set_cons_zero, List.set_cons_succ]
    refine wpList_bif (c := (!qb41)) (v := .bool (p.b 33)) (wanted_f rfl (by kernel_rfl)) (fun hc => by have h0 := notT (hc); simp [go_sem, execOp, h0, (show w2.cell? ⟨g, k * 89 + 22 + 11, none⟩ = some (.bool (p.b 33)) from c33)]) ?_
    simp only [List.getElem_toArray, List.getElem_cons_succ, List.getElem_cons_zero, Act.put, List.setIfInBounds_toArray, List.set_cons_zero, List.set_cons_succ]
    refine wpList_bif (c := (!qb41)) (v := .bool (p.b 33)) (wanted_f rfl (by kernel_rfl)) (fun hc => by have h0 := notT (hc); simp [go_sem, execOp, h0]) ?_
    simp only [List.getElem_toArray, List.getElem_cons_succ, List.getElem_cons_zero, Act.put, List.setIfInBounds_toArray, List.set_cons_zero, List.set_cons_succ]
    refine wpList_bif (c := ((!qb41) && (p.b 33))) (v := .pointer (some ⟨g, k * 89, none⟩)) (wanted_ct rfl (yielded_bif (by kernel_rfl))) (fun hc => by have h1 := andR hc; have hc1 := andL hc; have h0 := notT (hc1); simp [go_sem, execOp, h1, h0]) ?_
    simp only [List.getElem_toArray, List.getElem_cons_succ, List.getElem_cons_zero, Act.put, List.setIfInBounds_toArray, List.set_cons_zero, List.set_cons_succ]
    refine wpList_bif (c := ((!qb41) && (p.b 33))) (v := .pointer (some ⟨g, k * 89, none⟩)) (wanted_ct rfl (yielded_bif (by kernel_rfl))) (fun hc => by have h1 := andR hc; have hc1 := andL hc; have h0 := notT (hc1); simp [go_sem, execOp, h1, h0]) ?_
    simp only [List.getElem_toArray, List.getElem_cons_succ, List.getElem_cons_zero, Act.put, List.setIfInBounds_toArray, List.set_cons_zero, List.set_cons_succ]
    refine wpList_bif (c := ((!qb41) && (p.b 33))) (v := .pointer (some ⟨g, k * 89 + 22, none⟩)) (wanted_ct rfl (yielded_bif (by kernel_rfl))) (fun hc => by have h1 := andR hc; have hc1 := andL hc; have h0 := notT (hc1); simp [go_sem, execOp, h1, h0]) ?_
    simp only [List.getElem_toArray, List.getElem_cons_succ, List.getElem_cons_zero, Act.put, List.setIfInBounds_toArray, List.set_cons_zero, List.set_cons_succ]
    refine wpList_bif (c := ((!qb41) && (p.b 33))) (v := .pointer (some ⟨g, k * 89 + 22, none⟩)) (wanted_ct rfl (yielded_bif (by kernel_rfl))) (fun hc => by have h1 := andR hc; have hc1 := andL hc; have h0 := notT (hc1); simp [go_sem, execOp, h1, h0]) ?_
    simp only [List.getElem_toArray, List.getElem_cons_succ, List.getElem_cons_zero, Act.put, List.setIfInBounds_toArray, List.set_cons_zero, List.set_cons_succ]
    refine wpList_bif (c := ((!qb41) && (p.b 33))) (v := .bool (p.b 22)) (wanted_ct rfl (yielded_bif (by kernel_rfl))) (fun hc => by have h1 := andR hc; have hc1 := andL hc; have h0 := notT (hc1); simp [go_sem, execOp, h1, h0, (show w2.cell? ⟨g, k * 89 + 22, none⟩ = some (.bool (p.b 22)) from c22)]) ?_
    simp only [List.getElem_toArray, List.getElem_cons_succ, List.getElem_cons_zero, Act.put, List.setIfInBounds_toArray, List.set_cons_zero, List.set_cons_succ]
    refine wpList_bif (c := (!qb41)) (v := .bool qb54) (wanted_f rfl (by kernel_rfl)) (fun hc => by have h0 := notT (hc); rw [Hqb54.out]; cases hA : (p.b 33) <;> simp [go_sem, execOp, hA, h0]) ?_
    simp only [List.getElem_toArray, List.getElem_cons_succ, List.getElem_cons_zero, Act.put, List.setIfInBounds_toArray, List.set_cons_zero, List.set_cons_succ]
    refine wpList_val (by kernel_rfl) (.bool qb55) (by rw [Hqb55.out]; cases hA : qb41 <;> simp [go_sem, execOp, hA]) ?_
    simp only [List.getElem_toArray, List.getElem_cons_succ, List.getElem_cons_zero, Act.put, List.setIfInBounds_toArray, List.set_cons_zero, List.set_cons_succ]
    refine wpList_val (by kernel_rfl) (.bool qb55) (by kernel_rfl) ?_
    simp only [List.getElem_toArray, List.getElem_cons_succ, List.getElem_cons_zero, Act.put, List.setIfInBounds_toArray, List.set_cons_zero, List.set_cons_succ]
    refine wpList_nil ?_
    have hc1 : qb55 = ((syncedAll b (upd ps k p) && !p.b 22) || (p.b 33 && p.b 22)) := by rw [Hqb55.out, Hqb54.out, Hqb41.out, Hqb40.out, Hqa.out]
    have Hc1 := Lib.hid hc1
    clear hc1
    cases hv1 : qb55
    case true =>
      have HR := Lib.hid (show T = some (upd ps k (agreeF p)) by rw [HT1.out, ← Hc1.out, hv1]; rfl)
      have c31 : w2.cell? ⟨g, k * 89 + 22 + 9, none⟩ = some (.bool (p.b 31)) := (H2.out.p.cell hk (j := 31) (by omega)).trans (by rw [upd_same]; rfl)
      have f33 : w2.frozen? ⟨g, k * 89 + 22 + 11, none⟩ = false := H2.out.p.free _
      have f22 : w2.frozen? ⟨g, k * 89 + 22, none⟩ = false := H2.out.p.free _
      have f31 : w2.frozen? ⟨g, k * 89 + 22 + 9, none⟩ = false := H2.out.p.free _
      go_wp2_with fail
      go_ret
      have HB := Lib.hid (show Bst (((w2.setCell ⟨g, k * 89 + 22 + 11, none⟩ (.bool false)).setCell ⟨g, k * 89 + 22, none⟩ (.bool true)).setCell ⟨g, k * 89 + 22 + 9, none⟩ (.bool true)) bx g b (upd ps k (((p.setB 33 false).setB 22 true).setB 31 true)) ss fs from (((H2.out).put (j := 33) (by omega) (rowP_put_33 _ _)).put (j := 22) (by omega) (rowP_put_22 _ _)).put (j := 31) (by omega) (rowP_put_31 _ _))
      rw [HR.out]
      exact ⟨rfl, HB.out, (((HO2.out).setCell (Or.inl rfl) _).setCell (Or.inl rfl) _).setCell (Or.inl rfl) _⟩
    case false =>
      have HT2 := Lib.hid (show T = (bif (p.i 87 == 2) && (p.i 10 != 2 * b.r.i 4) then some (upd ps k (p.setI 10 (2 * b.r.i 4))) else (bif restlessF (fwdN b p) p then some (upd ps k (restF 5 (fwdN b p) p)) else none)) by rw [HT1.out, ← Hc1.out, hv1]; rfl)
      go_upto_region 10 with (fail)
      obtain ⟨qc73, hqc73⟩ : ∃ x : Bool, x = ((p.i 87) == 2) := ⟨_, rfl⟩
      have Hqc73 := Lib.hid hqc73
      clear hqc73
      obtain ⟨qc91, hqc91⟩ : ∃ x : Bool, x = ((p.i 10) != (2 * b.r.i 4)) := ⟨_, rfl⟩
      have Hqc91 := Lib.hid hqc91
      clear hqc91
      obtain ⟨qc92, hqc92⟩ : ∃ x : Bool, x = (qc73 && qc91) := ⟨_, rfl⟩
      have Hqc92 := Lib.hid hqc92
      clear hqc92
      refine wp_region_still_lit (by kernel_rfl) (by kernel_rfl) ?_
      refine wpStill_val (by kernel_rfl) (.pointer (some ⟨g, k * 89, none⟩)) (by kernel_rfl) ?_
      simp only [List.getElem_toArray, List.getElem_cons_succ, List.getElem_cons_zero, Act.put, List.setIfInBounds_toArray, List.set_cons_zero, List.set_cons_succ]
      refine wpStill_val (by kernel_rfl) (.pointer (some ⟨g, k * 89, none⟩)) (by simp [go_sem, execOp]) ?_
      simp only [List.getElem_toArray, List.getElem_cons_succ, List.getElem_cons_zero, Act.put, List.setIfInBounds_toArray, List.set_cons_zero, List.set_cons_succ]
      refine wpStill_val (by kernel_rfl) (.pointer (some ⟨g, k * 89 + 87, none⟩)) (by simp [go_sem, execOp]) ?_
      simp only [List.getElem_toArray, List.getElem_cons_succ, List.getElem_cons_zero, Act.put, List.setIfInBounds_toArray, List.set_cons_zero, List.set_cons_succ]
      refine wpStill_val (by kernel_rfl) (.int .i64 (p.i 87)) (by simp [go_sem, execOp, (show w2.drew.cell? ⟨g, k * 89 + 87, none⟩ = some (.int .i64 (p.i 87)) from c87)]) ?_
      simp only [List.getElem_toArray, List.getElem_cons_succ, List.getElem_cons_zero, Act.put, List.setIfInBounds_toArray, List.set_cons_zero, List.set_cons_succ]
      refine wpStill_val (by kernel_rfl) (.bool qc73) (by rw [Hqc73.out]; simp [go_sem, execOp]) ?_
      simp only [List.getElem_toArray, List.getElem_cons_succ, List.getElem_cons_zero, Act.put, List.setIfInBounds_toArray, List.set_cons_zero, List.set_cons_succ]
      refine wpStill_val (by kernel_rfl) (.bool qc73) (by kernel_rfl) ?_
      simp only [List.getElem_toArray, List.getElem_cons_succ, List.getElem_cons_zero, Act.put, List.setIfInBounds_toArray, List.set_cons_zero, List.set_cons_succ]
      refine wpStill_bif (c := qc73) (v := .pointer (some ⟨g, k * 89, none⟩)) (wanted_t rfl (by kernel_rfl)) (fun hc => by have h0 := hc; simp [go_sem, execOp, h0]) ?_
      simp only [List.getElem_toArray, List.getElem_cons_succ, List.getElem_cons_zero, Act.put, List.setIfInBounds_toArray, List.set_cons_zero, List.set_cons_succ]
      refine wpStill_bif (c := qc73) (v := .pointer (some ⟨g, k * 89, none⟩)) (wanted_t rfl (by kernel_rfl)) (fun hc => by have h0 := hc; simp [go_sem, execOp, h0]) ?_
      simp only [List.getElem_toArray, List.getElem_cons_succ, List.getElem_cons_zero, Act.put, List.setIfInBounds_toArray, List.set_cons_zero, List.set_cons_succ]
      refine wpStill_bif (c := qc73) (v := .pointer (some ⟨g, k * 89 + 6, none⟩)) (wanted_t rfl (by kernel_rfl)) (fun hc => by have h0 := hc; simp [go_sem, execOp, h0]) ?_
      simp only [List.getElem_toArray, List.getElem_cons_succ, List.getElem_cons_zero, Act.put, List.setIfInBounds_toArray, List.set_cons_zero, List.set_cons_succ]
      refine wpStill_bif (c := qc73) (v := .pointer (some ⟨g, k * 89 + 6 + 4, none⟩)) (wanted_t rfl (by kernel_rfl)) (fun hc => by have h0 := hc; simp [go_sem, execOp, h0]) ?_
      simp only [List.getElem_toArray, List.getElem_cons_succ, List.getElem_cons_zero, Act.put, List.setIfInBounds_toArray, List.set_cons_zero, List.set_cons_succ]
      refine wpStill_bif (c := qc73) (v := .int .i64 (p.i 10)) (wanted_t rfl (by kernel_rfl)) (fun hc => by have h0 := hc; simp [go_sem, execOp, h0, (show w2.drew.cell? ⟨g, k * 89 + 6 + 4, none⟩ = some (.int .i64 (p.i 10)) from c10)]) ?_
      simp only [List.getElem_toArray, List.getElem_cons_succ, List.getElem_cons_zero, Act.put, List.setIfInBounds_toArray, List.set_cons_zero, List.set_cons_succ]
      refine wpStill_bif (c := qc73) (v := .pointer (some ⟨bx, 0, none⟩)) (wanted_t rfl (by kernel_rfl)) (fun hc => by have h0 := hc; simp [go_sem, execOp, h0]) ?_
      simp only [List.getElem_toArray, List.getElem_cons_succ, List.getElem_cons_zero, Act.put, List.setIfInBounds_toArray, List.set_cons_zero, List.set_cons_succ]
      refine wpStill_bif (c := qc73) (v := .pointer (some ⟨bx, 0, none⟩)) (wanted_t rfl (by kernel_rfl)) (fun hc => by have h0 := hc; simp [go_sem, execOp, h0]) ?_
      simp only [List.getElem_toArray, List.getElem_cons_succ, List.getElem_cons_zero, Act.put, List.setIfInBounds_toArray, List.set_cons_zero, List.set_cons_succ]
      refine wpStill_bif (c := qc73) (v := .pointer (some ⟨bx, 2, none⟩)) (wanted_t rfl (by kernel_rfl)) (fun hc => by have h0 := hc; simp [go_sem, execOp, h0]) ?_
      simp only [List.getElem_toArray, List.getElem_cons_succ, List.getElem_cons_zero, Act.put, List.setIfInBounds_toArray, List.set_cons_zero, List.set_cons_succ]
      refine wpStill_bif (c := qc73) (v := .pointer (some ⟨bx, 2 + 2, none⟩)) (wanted_t rfl (by kernel_rfl)) (fun hc => by have h0 := hc; simp [go_sem, execOp, h0]) ?_
      simp only [List.getElem_toArray, List.getElem_cons_succ, List.getElem_cons_zero, Act.put, List.setIfInBounds_toArray, List.set_cons_zero, List.set_cons_succ]
      refine wpStill_bif (c := qc73) (v := .int .i64 (b.r.i 4)) (wanted_t rfl (by kernel_rfl)) (fun hc => by have h0 := hc; simp [go_sem, execOp, h0, (show w2.drew.cell? ⟨bx, 2 + 2, none⟩ = some (.int .i64 (b.r.i 4)) from b4)]) ?_
      simp only [List.getElem_toArray, List.getElem_cons_succ, List.getElem_cons_zero, Act.put, List.setIfInBounds_toArray, List.set_cons_zero, List.set_cons_succ]
      refine wpStill_bif (c := qc73) (v := .pointer (some ⟨bx, 0, none⟩)) (wanted_t rfl (by kernel_rfl)) (fun hc => by have h0 := hc; simp [go_sem, execOp, h0]) ?_
      simp only [List.getElem_toArray, List.getElem_cons_succ, List.getElem_cons_zero, Act.put, List.setIfInBounds_toArray, List.set_cons_zero, List.set_cons_succ]
      refine wpStill_bif (c := qc73) (v := .pointer (some ⟨bx, 0, none⟩)) (wanted_t rfl (by kernel_rfl)) (fun hc => by have h0 := hc; simp [go_sem, execOp, h0]) ?_
      simp only [List.getElem_toArray, List.getElem_cons_succ, List.getElem_cons_zero, Act.put, List.setIfInBounds_toArray, List.set_cons_zero, List.set_cons_succ]
      refine wpStill_bif (c := qc73) (v := .pointer (some ⟨bx, 2, none⟩)) (wanted_t rfl (by kernel_rfl)) (fun hc => by have h0 := hc; simp [go_sem, execOp, h0]) ?_
      simp only [List.getElem_toArray, List.getElem_cons_succ, List.getElem_cons_zero, Act.put, List.setIfInBounds_toArray, List.set_cons_zero, List.set_cons_succ]
      refine wpStill_bif (c := qc73) (v := .pointer (some ⟨bx, 2 + 2, none⟩)) (wanted_t rfl (by kernel_rfl)) (fun hc => by have h0 := hc; simp [go_sem, execOp, h0]) ?_
      simp only [List.getElem_toArray, List.getElem_cons_succ, List.getElem_cons_zero, Act.put, List.setIfInBounds_toArray, List.set_cons_zero, List.set_cons_succ]
      refine wpStill_bif (c := qc73) (v := .int .i64 (b.r.i 4)) (wanted_t rfl (by kernel_rfl)) (fun hc => by have h0 := hc; simp [go_sem, execOp, h0, (show w2.drew.cell? ⟨bx, 2 + 2, none⟩ = some (.int .i64 (b.r.i 4)) from b4)]) ?_
      simp only [List.getElem_toArray, List.getElem_cons_succ, List.getElem_cons_zero, Act.put, List.setIfInBounds_toArray, List.set_cons_zero, List.set_cons_succ]
      refine wpStill_bif (c := qc73) (v := .int .i64 (2 * b.r.i 4)) (wanted_t rfl (by kernel_rfl)) (fun hc => by have h0 := hc; simp [go_sem, execOp, wr, h0]) ?_
      simp only [List.getElem_toArray, List.getElem_cons_succ, List.getElem_cons_zero, Act.put, List.setIfInBounds_toArray, List.set_cons_zero, List.set_cons_succ]
      refine wpStill_bif (c := qc73) (v := .bool qc91) (wanted_t rfl (by kernel_rfl)) (fun hc => by have h0 := hc; rw [Hqc91.out]; simp [go_sem, execOp, h0]) ?_
      simp only [List.getElem_toArray, List.getElem_cons_succ, List.getElem_cons_zero, Act.put, List.setIfInBounds_toArray, List.set_cons_zero, List.set_cons_succ]
      refine wpStill_val (by kernel_rfl) (.bool qc92) (by rw [Hqc92.out]; cases hA : qc73 <;> simp [go_sem, execOp, hA]) ?_
      simp only [List.getElem_toArray, List.getElem_cons_succ, List.getElem_cons_zero, Act.put, List.setIfInBounds_toArray, List.set_cons_zero, List.set_cons_succ]
      refine wpStill_val (by kernel_rfl) (.bool qc92) (by kernel_rfl) ?_
      simp only [List.getElem_toArray, List.getElem_cons_succ, List.getElem_cons_zero, Act.put, List.setIfInBounds_toArray, List.set_cons_zero, List.set_cons_succ]
      refine wpStill_nil ?_
      have hc2 : qc92 = ((p.i 87 == 2) && (p.i 10 != 2 * b.r.i 4)) := by rw [Hqc92.out, Hqc91.out, Hqc73.out]
      have Hc2 := Lib.hid hc2
      clear hc2
      cases hv2 : qc92
      case true =>
        have HR := Lib.hid (show T = some (upd ps k (p.setI 10 (2 * b.r.i 4))) by rw [HT2.out, ← Hc2.out, hv2]; rfl)
        have f10 : w2.frozen? ⟨g, k * 89 + 6 + 4, none⟩ = false := H2.out.p.free _
        go_upto_region 11 with (fail)
        refine wp_region_held_drew (S := fun w' => Only (· = g) w2.drew w') (by kernel_rfl) (Only.refl _ _).drew (fun hH => ?_)
        refine wpAnyH_take (i := 0) (v := .pointer (some ⟨g, k * 89, none⟩)) rfl (by kernel_rfl) (by kernel_rfl) (by kernel_rfl) (fun _ _ _ h => h) (Or.inl ⟨by rfl, fun z _ => rfl⟩) hH ?_
        simp only [List.getElem_toArray, List.getElem_cons_succ, List.getElem_cons_zero, Act.put, List.setIfInBounds_toArray, List.set_cons_zero, List.set_cons_succ]
        refine wpAnyH_take (i := 1) (v := .pointer (some ⟨bx, 0, none⟩)) rfl (by kernel_rfl) (by kernel_rfl) (by kernel_rfl) (fun _ _ _ h => h) (Or.inl ⟨by rfl, fun z _ => rfl⟩) hH ?_
        simp only [List.getElem_toArray, List.getElem_cons_succ, List.getElem_cons_zero, Act.put, List.setIfInBounds_toArray, List.set_cons_zero, List.set_cons_succ]
        refine wpAnyH_take (i := 2) (v := .pointer (some ⟨bx, 0, none⟩)) rfl (by kernel_rfl) (by kernel_rfl) (by kernel_rfl) (fun _ _ _ h => h) (Or.inl ⟨by rfl, fun z _ => by simp [go_sem, execOp]⟩) hH ?_
        simp only [List.getElem_toArray, List.getElem_cons_succ, List.getElem_cons_zero, Act.put, List.setIfInBounds_toArray, List.set_cons_zero, List.set_cons_succ]
        refine wpAnyH_take (i := 3) (v := .pointer (some ⟨bx, 2, none⟩)) rfl (by kernel_rfl) (by kernel_rfl) (by kernel_rfl) (fun _ _ _ h => h) (Or.inl ⟨by rfl, fun z _ => by simp [go_sem, execOp]⟩) hH ?_
        simp only [List.getElem_toArray, List.getElem_cons_succ, List.getElem_cons_zero, Act.put, List.setIfInBounds_toArray, List.set_cons_zero, List.set_cons_succ]
        refine wpAnyH_take (i := 4) (v := .pointer (some ⟨bx, 2 + 2, none⟩)) rfl (by kernel_rfl) (by kernel_rfl) (by kernel_rfl) (fun _ _ _ h => h) (Or.inl ⟨by rfl, fun z _ => by simp [go_sem, execOp]⟩) hH ?_
        simp only [List.getElem_toArray, List.getElem_cons_succ, List.getElem_cons_zero, Act.put, List.setIfInBounds_toArray, List.set_cons_zero, List.set_cons_succ]
        refine wpAnyH_take (i := 5) (v := .int .i64 (b.r.i 4)) rfl (by kernel_rfl) (by kernel_rfl) (by kernel_rfl) (fun _ _ _ h => h) (Or.inl ⟨by rfl, fun z hz => by simp [go_sem, execOp, (show z.cell? ⟨bx, 2 + 2, none⟩ = some (.int .i64 (b.r.i 4)) from (hz.cell (p := ⟨bx, 2 + 2, none⟩) lbx (by show ¬ bx = g; exact nbg)).trans b4)]⟩) hH ?_
        simp only [List.getElem_toArray, List.getElem_cons_succ, List.getElem_cons_zero, Act.put, List.setIfInBounds_toArray, List.set_cons_zero, List.set_cons_succ]
        refine wpAnyH_take (i := 6) (v := .pointer (some ⟨bx, 0, none⟩)) rfl (by kernel_rfl) (by kernel_rfl) (by kernel_rfl) (fun _ _ _ h => h) (Or.inl ⟨by rfl, fun z _ => rfl⟩) hH ?_
        simp only [List.getElem_toArray, List.getElem_cons_succ, List.getElem_cons_zero, Act.put, List.setIfInBounds_toArray, List.set_cons_zero, List.set_cons_succ]
        refine wpAnyH_take (i := 7) (v := .pointer (some ⟨bx, 0, none⟩)) rfl (by kernel_rfl) (by kernel_rfl) (by kernel_rfl) (fun _ _ _ h => h) (Or.inl ⟨by rfl, fun z _ => by simp [go_sem, execOp]⟩) hH ?_
        simp only [List.getElem_toArray, List.getElem_cons_succ, List.getElem_cons_zero, Act.put, List.setIfInBounds_toArray, List.set_cons_zero, List.set_cons_succ]
        refine wpAnyH_take (i := 8) (v := .pointer (some ⟨bx, 2, none⟩)) rfl (by kernel_rfl) (by kernel_rfl) (by kernel_rfl) (fun _ _ _ h => h) (Or.inl ⟨by rfl, fun z _ => by simp [go_sem, execOp]⟩) hH ?_
        simp only [List.getElem_toArray, List.getElem_cons_succ, List.getElem_cons_zero, Act.put, List.setIfInBounds_toArray, List.set_cons_zero, List.set_cons_succ]
        refine wpAnyH_take (i := 9) (v := .pointer (some ⟨bx, 2 + 2, none⟩)) rfl (by kernel_rfl) (by kernel_rfl) (by kernel_rfl) (fun _ _ _ h => h) (Or.inl ⟨by rfl, fun z _ => by simp [go_sem, execOp]⟩) hH ?_
        simp only [List.getElem_toArray, List.getElem_cons_succ, List.getElem_cons_zero, Act.put, List.setIfInBounds_toArray, List.set_cons_zero, List.set_cons_succ]
        refine wpAnyH_take (i := 10) (v := .int .i64 (b.r.i 4)) rfl (by kernel_rfl) (by kernel_rfl) (by kernel_rfl) (fun _ _ _ h => h) (Or.inl ⟨by rfl, fun z hz => by simp [go_sem, execOp, (show z.cell? ⟨bx, 2 + 2, none⟩ = some (.int .i64 (b.r.i 4)) from (hz.cell (p := ⟨bx, 2 + 2, none⟩) lbx (by show ¬ bx = g; exact nbg)).trans b4)]⟩) hH ?_
        simp only [List.getElem_toArray, List.getElem_cons_succ, List.getElem_cons_zero, Act.put, List.setIfInBounds_toArray, List.set_cons_zero, List.set_cons_succ]
        refine wpAnyH_take (i := 11) (v := .int .i64 (2 * b.r.i 4)) rfl (by kernel_rfl) (by kernel_rfl) (by kernel_rfl) (fun _ _ _ h => h) (Or.inl ⟨by rfl, fun z _ => by simp [go_sem, execOp, wr]⟩) hH ?_
        simp only [List.getElem_toArray, List.getElem_cons_succ, List.getElem_cons_zero, Act.put, List.setIfInBounds_toArray, List.set_cons_zero, List.set_cons_succ]
        refine wpAnyH_take (i := 12) (v := .pointer (some ⟨g, k * 89, none⟩)) rfl (by kernel_rfl) (by kernel_rfl) (by kernel_rfl) (fun _ _ _ h => h) (Or.inl ⟨by rfl, fun z _ => by simp [go_sem, execOp]⟩) hH ?_
        simp only [List.getElem_toArray, List.getElem_cons_succ, List.getElem_cons_zero, Act.put, List.setIfInBounds_toArray, List.set_cons_zero, List.set_cons_succ]
        refine wpAnyH_take (i := 13) (v := .pointer (some ⟨g, k * 89 + 6, none⟩)) rfl (by kernel_rfl) (by kernel_rfl) (by kernel_rfl) (fun _ _ _ h => h) (Or.inl ⟨by rfl, fun z _ => by simp [go_sem, execOp]⟩) hH ?_
        simp only [List.getElem_toArray, List.getElem_cons_succ, List.getElem_cons_zero, Act.put, List.setIfInBounds_toArray, List.set_cons_zero, List.set_cons_succ]
        refine wpAnyH_take (i := 14) (v := .pointer (some ⟨g, k * 89 + 6 + 4, none⟩)) rfl (by kernel_rfl) (by kernel_rfl) (by kernel_rfl) (fun _ _ _ h => h) (Or.inl ⟨by rfl, fun z _ => by simp [go_sem, execOp]⟩) hH ?_
        simp only [List.getElem_toArray, List.getElem_cons_succ, List.getElem_cons_zero, Act.put, List.setIfInBounds_toArray, List.set_cons_zero, List.set_cons_succ]
        refine wpAnyH_ready (rs := [15]) (by kernel_rfl) (by simp) (AllReadyH.cons rfl (fun K hK => ?_) AllReadyH.nil)
        go_simp
        refine hK.out _ _ (hH.setCell (Or.inl rfl) _) (fun hH0 => ?_)
        clear hK K hH
        refine wpAnyH_done (by kernel_rfl) ?_ _
        clear hH0
        go_wp2_with fail
        go_ret
        have HB := Lib.hid (show Bst (w2.drew.drew.setCell ⟨g, k * 89 + 6 + 4, none⟩ (.int .i64 (2 * b.r.i 4))) bx g b (upd ps k (p.setI 10 (2 * b.r.i 4))) ss fs from (H2.out.below (Below.refl _ _).drew.drew).put (j := 10) (by omega) (rowP_put_10 _ _))
        rw [HR.out]
        exact ⟨rfl, HB.out, (HO2.out.drew.drew).setCell (Or.inl rfl) _⟩
      case false =>
        have HT3 := Lib.hid (show T = (bif restlessF (fwdN b p) p then some (upd ps k (restF 5 (fwdN b p) p)) else none) by rw [HT2.out, ← Hc2.out, hv2]; rfl)
        go_upto_region 12 with (fail)
        obtain ⟨qd115, hqd115⟩ : ∃ x : Bool, x = ((p.i 7) != (fwdN b p)) := ⟨_, rfl⟩
        have Hqd115 := Lib.hid hqd115
        clear hqd115
        obtain ⟨qd122, hqd122⟩ : ∃ x : Bool, x = (qd115 || (p.b 46)) := ⟨_, rfl⟩
        have Hqd122 := Lib.hid hqd122
        clear hqd122
        obtain ⟨qd129, hqd129⟩ : ∃ x : Bool, x = (qd122 || (p.b 42)) := ⟨_, rfl⟩
        have Hqd129 := Lib.hid hqd129
        clear hqd129
        obtain ⟨qd136, hqd136⟩ : ∃ x : Bool, x = (!(p.b 47)) := ⟨_, rfl⟩
        have Hqd136 := Lib.hid hqd136
        clear hqd136
        obtain ⟨qd137, hqd137⟩ : ∃ x : Bool, x = (qd129 || qd136) := ⟨_, rfl⟩
        have Hqd137 := Lib.hid hqd137
        clear hqd137
        refine wp_region_lit ?_
        refine wpList_val (by kernel_rfl) (.pointer (some ⟨g, k * 89, none⟩)) (by kernel_rfl) ?_
        simp only [List.getElem_toArray, List.getElem_cons_succ, List.getElem_cons_zero, Act.put, List.setIfInBounds_toArray, List.set_cons_zero, List.set_cons_succ]
        refine wpList_val (by kernel_rfl) (.pointer (some ⟨g, k * 89, none⟩)) (by simp [go_sem, execOp]) ?_
        simp only [List.getElem_toArray, List.getElem_cons_succ, List.getElem_cons_zero, Act.put, List.setIfInBounds_toArray, List.set_cons_zero, List.set_cons_succ]
        refine wpList_val (by kernel_rfl) (.pointer (some ⟨g, k * 89 + 6, none⟩)) (by simp [go_sem, execOp]) ?_
        simp only [List.getElem_toArray, List.getElem_cons_succ, List.getElem_cons_zero, Act.put, List.setIfInBounds_toArray, List.set_cons_zero, List.set_cons_succ]
        refine wpList_val (by kernel_rfl) (.pointer (some ⟨g, k * 89 + 6 + 1, none⟩)) (by simp [go_sem, execOp]) ?_
        simp only [List.getElem_toArray, List.getElem_cons_succ, List.getElem_cons_zero, Act.put, List.setIfInBounds_toArray, List.set_cons_zero, List.set_cons_succ]
        refine wpList_val (by kernel_rfl) (.int .i64 (p.i 7)) (by simp [go_sem, execOp, (show w2.cell? ⟨g, k * 89 + 6 + 1, none⟩ = some (.int .i64 (p.i 7)) from c7)]) ?_
        simp only [List.getElem_toArray, List.getElem_cons_succ, List.getElem_cons_zero, Act.put, List.setIfInBounds_toArray, List.set_cons_zero, List.set_cons_succ]
        refine wpList_val (by kernel_rfl) (.int .i64 (fwdN b p)) (by kernel_rfl) ?_
        simp only [List.getElem_toArray, List.getElem_cons_succ, List.getElem_cons_zero, Act.put, List.setIfInBounds_toArray, List.set_cons_zero, List.set_cons_succ]
        refine wpList_val (by kernel_rfl) (.bool qd115) (by rw [Hqd115.out]; simp [go_sem, execOp]) ?_
        simp only [List.getElem_toArray, List.getElem_cons_succ, List.getElem_cons_zero, Act.put, List.setIfInBounds_toArray, List.set_cons_zero, List.set_cons_succ]
        refine wpList_val (by kernel_rfl) (.bool qd115) (by kernel_rfl) ?_
        simp only [List.getElem_toArray, List.getElem_cons_succ, List.getElem_cons_zero, Act.put, List.setIfInBounds_toArray, List.set_cons_zero, List.set_cons_succ]
        refine wpList_bif (c := (!qd115)) (v := .pointer (some ⟨g, k * 89, none⟩)) (wanted_f rfl (by kernel_rfl)) (fun hc => by have h0 := notT (hc); simp [go_sem, execOp, h0]) ?_
        simp only [List.getElem_toArray, List.getElem_cons_succ, List.getElem_cons_zero, Act.put, List.setIfInBounds_toArray, List.set_cons_zero, List.set_cons_succ]
        refine wpList_bif (c := (!qd115)) (v := .pointer (some ⟨g, k * 89, none⟩)) (wanted_f rfl (by kernel_rfl)) (fun hc => by have h0 := notT (hc); simp [go_sem, execOp, h0]) ?_
        simp only [List.getElem_toArray, List.getElem_cons_succ, List.getElem_cons_zero, Act.put, List.setIfInBounds_toArray, List.set_cons_zero, List.set_cons_succ]
        refine wpList_bif (c := (!qd115)) (v := .pointer (some ⟨g, k * 89 + 22, none⟩)) (wanted_f rfl (by kernel_rfl)) (fun hc => by have h0 := notT (hc); simp [go_sem, execOp, h0]) ?_
        simp only [List.getElem_toArray, List.getElem_cons_succ, List.getElem_cons_zero, Act.put, List.setIfInBounds_toArray, List.set_cons_zero, List.set_cons_succ]
        refine wpList_bif (c := (!qd115)) (v := .pointer (some ⟨g, k * 89 + 22 + 24, none⟩)) (wanted_f rfl (by kernel_rfl)) (fun hc => by have h0 := notT (hc); simp [go_sem, execOp, h0]) ?_
        simp only [List.getElem_toArray, List.getElem_cons_succ, List.getElem_cons_zero, Act.put, List.setIfInBounds_toArray, List.set_cons_zero, List.set_cons_succ]
        refine wpList_bif (c := (!qd115)) (v := .bool (p.b 46)) (wanted_f rfl (by kernel_rfl)) (fun hc => by have h0 := notT (hc); simp [go_sem, execOp, h0, (show w2.cell? ⟨g, k * 89 + 22 + 24, none⟩ = some (.bool (p.b 46)) from c46)]) ?_
        simp only [List.getElem_toArray, List.getElem_cons_succ, List.getElem_cons_zero, Act.put, List.setIfInBounds_toArray, List.set_cons_zero, List.set_cons_succ]
        refine wpList_val (by kernel_rfl) (.bool qd122) (by rw [Hqd122.out]; cases hA : qd115 <;> simp [go_sem, execOp, hA]) ?_
        simp only [List.getElem_toArray, List.getElem_cons_succ, List.getElem_cons_zero, Act.put, List.setIfInBounds_toArray, List.set_cons_zero, List.set_cons_succ]
        refine wpList_val (by kernel_rfl) (.bool qd122) (by kernel_rfl) ?_
        simp only [List.getElem_toArray, List.getElem_cons_succ, List.getElem_cons_zero, Act.put, List.setIfInBounds_toArray, List.set_cons_zero, List.set_cons_succ]
        refine wpList_bif (c := (!qd122)) (v := .pointer (some ⟨g, k * 89, none⟩)) (wanted_f rfl (by kernel_rfl)) (fun hc => by have h0 := notT (hc); simp [go_sem, execOp, h0]) ?_
        simp only [List.getElem_toArray, List.getElem_cons_succ, List.getElem_cons_zero, Act.put, List.setIfInBounds_toArray, List.set_cons_zero, List.set_cons_succ]
        refine wpList_bif (c := (!qd122)) (v := .pointer (some ⟨g, k * 89, none⟩)) (wanted_f rfl (by kernel_rfl)) (fun hc => by have h0 := notT (hc); simp [go_sem, execOp, h0]) ?_
        simp only [List.getElem_toArray, List.getElem_cons_succ, List.getElem_cons_zero, Act.put, List.setIfInBounds_toArray, List.set_cons_zero, List.set_cons_succ]
        refine wpList_bif (c := (!qd122)) (v := .pointer (some ⟨g, k * 89 + 22, none⟩)) (wanted_f rfl (by kernel_rfl)) (fun hc => by have h0 := notT (hc); simp [go_sem, execOp, h0]) ?_
        simp only [List.getElem_toArray, List.getElem_cons_succ, List.getElem_cons_zero, Act.put, List.setIfInBounds_toArray, List.set_cons_zero, List.set_cons_succ]
        refine wpList_bif (c := (!qd122)) (v := .pointer (some ⟨g, k * 89 + 22 + 20, none⟩)) (wanted_f rfl (by kernel_rfl)) (fun hc => by have h0 := notT (hc); simp [go_sem, execOp, h0]) ?_
        simp only [List.getElem_toArray, List.getElem_cons_succ, List.getElem_cons_zero, Act.put, List.setIfInBounds_toArray, List.set_cons_zero, List.set_cons_succ]
        refine wpList_bif (c := (!qd122)) (v := .bool (p.b 42)) (wanted_f rfl (by kernel_rfl)) (fun hc => by have h0 := notT (hc); simp [go_sem, execOp, h0, (show w2.cell? ⟨g, k * 89 + 22 + 20, none⟩ = some (.bool (p.b 42)) from c42)]) ?_
        simp only [List.getElem_toArray, List.getElem_cons_succ, List.getElem_cons_zero, Act.put, List.setIfInBounds_toArray, List.set_cons_zero, List.set_cons_succ]
        refine wpList_val (by kernel_rfl) (.bool qd129) (by rw [Hqd129.out]; cases hA : qd122 <;> simp [go_sem, execOp, hA]) ?_
        simp only [List.getElem_toArray, List.getElem_cons_succ, List.getElem_cons_zero, Act.put, List.setIfInBounds_toArray, List.set_cons_zero, List.set_cons_succ]
        refine wpList_val (by kernel_rfl) (.bool qd129) (by kernel_rfl) ?_
        simp only [List.getElem_toArray, List.getElem_cons_succ, List.getElem_cons_zero, Act.put, List.setIfInBounds_toArray, List.set_cons_zero, List.set_cons_succ]
        refine wpList_bif (c := (!qd129)) (v := .pointer (some ⟨g, k * 89, none⟩)) (wanted_f rfl (by kernel_rfl)) (fun hc => by have h0 := notT (hc); simp [go_sem, execOp, h0]) ?_
        simp only [List.getElem_toArray, List.getElem_cons_succ, List.getElem_cons_zero, Act.put, List.setIfInBounds_toArray, List.set_cons_zero, List.set_cons_succ]
        refine wpList_bif (c := (!qd129)) (v := .pointer (some ⟨g, k * 89, none⟩)) (wanted_f rfl (by kernel_rfl)) (fun hc => by have h0 := notT (hc); simp [go_sem, execOp, h0]) ?_
        simp only [List.getElem_toArray, List.getElem_cons_succ, List.getElem_cons_zero, Act.put, List.setIfInBounds_toArray, List.set_cons_zero, List.set_cons_succ]
        refine wpList_bif (c := (!qd129)) (v := .pointer (some ⟨g, k * 89 + 22, none⟩)) (wanted_f rfl (by kernel_rfl)) (fun hc => by have h0 := notT (hc); simp [go_sem, execOp, h0]) ?_
        simp only [List.getElem_toArray, List.getElem_cons_succ, List.getElem_cons_zero, Act.put, List.setIfInBounds_toArray, List.set_cons_zero, List.set_cons_succ]
        refine wpList_bif (c := (!qd129)) (v := .pointer (some ⟨g, k * 89 + 22 + 25, none⟩)) (wanted_f rfl (by kernel_rfl)) (fun hc => by have h0 := notT (hc); simp [go_sem, execOp, h0]) ?_
        simp only [List.getElem_toArray, List.getElem_cons_succ, List.getElem_cons_zero, Act.put, List.setIfInBounds_toArray, List.set_cons_zero, List.set_cons_succ]
        refine wpList_bif (c := (!qd129)) (v := .bool (p.b 47)) (wanted_f rfl (by kernel_rfl)) (fun hc => by have h0 := notT (hc); simp [go_sem, execOp, h0, (show w2.cell? ⟨g, k * 89 + 22 + 25, none⟩ = some (.bool (p.b 47)) from c47)]) ?_
        simp only [List.getElem_toArray, List.getElem_cons_succ, List.getElem_cons_zero, Act.put, List.setIfInBounds_toArray, List.set_cons_zero, List.set_cons_succ]
        refine wpList_bif (c := (!qd129)) (v := .bool qd136) (wanted_f rfl (by kernel_rfl)) (fun hc => by have h0 := notT (hc); rw [Hqd136.out]; simp [go_sem, execOp, h0]) ?_
        simp only [List.getElem_toArray, List.getElem_cons_succ, List.getElem_cons_zero, Act.put, List.setIfInBounds_toArray, List.set_cons_zero, List.set_cons_succ]
        refine wpList_val (by kernel_rfl) (.bool qd137) (by rw [Hqd137.out]; cases hA : qd129 <;> simp [go_sem, execOp, hA]) ?_
        simp only [List.getElem_toArray, List.getElem_cons_succ, List.getElem_cons_zero, Act.put, List.setIfInBounds_toArray, List.set_cons_zero, List.set_cons_succ]
        refine wpList_val (by kernel_rfl) (.bool qd137) (by kernel_rfl) ?_
        simp only [List.getElem_toArray, List.getElem_cons_succ, List.getElem_cons_zero, Act.put, List.setIfInBounds_toArray, List.set_cons_zero, List.set_cons_succ]
        refine wpList_nil ?_
        have hc3 : qd137 = (restlessF (fwdN b p) p) := by rw [Hqd137.out, Hqd136.out, Hqd129.out, Hqd122.out, Hqd115.out]; rfl
        have Hc3 := Lib.hid hc3
        clear hc3
        cases hv3 : qd137
        case true =>
          have HR := Lib.hid (show T = some (upd ps k (restF 5 (fwdN b p) p)) by rw [HT3.out, ← Hc3.out, hv3]; rfl)
          go_wp2_with fail
          refine (refrests_any _ bx g k b ps ss fs p (H2.out.below (Below.refl _ _).drew) hk 5 (fwdN b p)).mono ?_
          rintro e w3 ⟨rfl, hb3, ho3⟩
          have H3 := Lib.hid hb3
          have HO3 := Lib.hid (HO2.out.drew.trans ho3)
          clear hb3 ho3
          go_wp2_with fail
          go_ret
          rw [HR.out]
          exact ⟨rfl, H3.out, HO3.out⟩
        case false =>
          have HT4 := Lib.hid (show T = (none) by rw [HT3.out, ← Hc3.out, hv3]; rfl)
          go_wp2_with fail
          go_ret
          rw [HT4.out]
          exact ⟨rfl, H2.out.below (Below.refl _ _).drew, HO2.out.drew⟩
end Go.Proofs.Ytdangeefecdbaaa.Br
