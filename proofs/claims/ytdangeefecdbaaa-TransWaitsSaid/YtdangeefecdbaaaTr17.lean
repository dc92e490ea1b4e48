/- Chapter 15: the document's step (ford/fordref15.Step): the same plain function of the ports. Conditions: as the program's step's, and no port's waiting time is very much. -/
import Derived.Test.YtdangeefecdbaaaTr14
import Derived.Test.YtdangeefecdbaaaTr15
import Derived.Test.YtdangeefecdbaaaTr16
set_option linter.unusedSimpArgs false
set_option linter.unusedVariables false
namespace Go.Proofs.Ytdangeefecdbaaa.Br
open Go.RowKit
theorem enter_0 (b : Bri) (p : Rec) : enterF b 0 p = (((p.setI 87 (p.i 88)).setI 19 0).setB 28 false).setB 26 false := by unfold enterF; exact if_pos (Or.inl rfl)
theorem enter_4 (b : Bri) (p : Rec) : enterF b 4 p = (((p.setI 87 (p.i 88)).setI 19 4).setB 28 false).setB 26 false := by unfold enterF; exact if_pos (Or.inr rfl)
theorem enter_2 (b : Bri) (p : Rec) : enterF b 2 p = ((p.setI 87 (p.i 88)).setI 19 2).setI 12 (b.r.i 5) := by unfold enterF; exact (if_neg (by decide)).trans (if_pos rfl)
theorem enter_3 (b : Bri) (p : Rec) : enterF b 3 p = (p.setI 87 (p.i 88)).setI 19 3 := by unfold enterF; exact (if_neg (by decide)).trans (if_neg (by decide))
theorem roles_pick (b : Bri) (k : Nat) (p : Rec) (ps : Nat → Rec) (l : List (Bool × (Nat → Rec))) (c0 c3 c4 c12 : Bool) (hne : p.i 87 ≠ p.i 88) (h0 : (p.i 88 == 0) = c0) (h3 : (p.i 88 == 3) = c3) (h4 : (p.i 88 == 4) = c4) (h12 : ((p.i 88 == 1) || (p.i 88 == 2)) = c12) :
    firstOn (rolesL b k p ps ++ l) = bif c0 then some (upd ps k (enterF b 0 p)) else bif c3 then some (upd ps k (enterF b 2 p)) else bif c4 then some (upd ps k (enterF b 3 p)) else bif c12 then some (upd ps k (enterF b 4 p)) else firstOn l := by
  have e1 : (p.i 87 != p.i 88) = true := by simpa using hne
  show (bif ((p.i 87 != p.i 88) && (p.i 88 == 0)) then some (upd ps k (enterF b 0 p)) else bif ((p.i 87 != p.i 88) && (p.i 88 == 3)) then some (upd ps k (enterF b 2 p)) else bif ((p.i 87 != p.i 88) && (p.i 88 == 4)) then some (upd ps k (enterF b 3 p)) else bif ((p.i 87 != p.i 88) && ((p.i 88 == 1) || (p.i 88 == 2))) then some (upd ps k (enterF b 4 p)) else firstOn l) = _
  rw [e1, h0, h3, h4, h12]
  simp only [Bool.true_and]
theorem roles_none (b : Bri) (k : Nat) (p : Rec) (ps : Nat → Rec) (l : List (Bool × (Nat → Rec))) (h : (((p.i 87 != p.i 88) && decide (0 ≤ p.i 88)) && decide (p.i 88 ≤ 4)) = false) : firstOn (rolesL b k p ps ++ l) = firstOn l := by
  by_cases e : p.i 87 = p.i 88
  · have e1 : (p.i 87 != p.i 88) = false := by simp [e]
    show (bif ((p.i 87 != p.i 88) && (p.i 88 == 0)) then some (upd ps k (enterF b 0 p)) else bif ((p.i 87 != p.i 88) && (p.i 88 == 3)) then some (upd ps k (enterF b 2 p)) else bif ((p.i 87 != p.i 88) && (p.i 88 == 4)) then some (upd ps k (enterF b 3 p)) else bif ((p.i 87 != p.i 88) && ((p.i 88 == 1) || (p.i 88 == 2))) then some (upd ps k (enterF b 4 p)) else firstOn l) = _
    rw [e1]
    rfl
  · have h' : ¬ (0 ≤ p.i 88 ∧ p.i 88 ≤ 4) := by
      simp [e] at h
      omega
    rw [roles_pick b k p ps l false false false false e (by simp; omega) (by simp; omega) (by simp; omega) (by simp; omega)]
    rfl
theorem transT_on (b : Bri) (k : Nat) (p : Rec) (ps : Nat → Rec) (h1 : p.b 44 = true) (h2 : p.b 50 = false) : transT b k p ps = firstOn (rolesL b k p ps ++ statesL b k p ps) := by
  unfold transT
  rw [if_neg (by rw [h1, h2]; simp)]
set_option maxRecDepth 100000 in
set_option maxHeartbeats 8000000 in
theorem refstep_any (w : World) (bx g k : Nat) (b : Bri) (ps ss : Nat → Rec) (fs : Nat → Int) (p : Rec) (h : Bst w bx g b (upd ps k p) ss fs) (hk : k < b.n) (hT : ∀ x, x < 3 → 0 ≤ b.r.i (3 + x) ∧ b.r.i (3 + x) ≤ 1000) (hn : b.n ≤ 1000) (hR : ∀ j, j < b.n → 0 ≤ (upd ps k p j).i 12 ∧ (upd ps k p j).i 12 ≤ 1000) : Calls Try.prog 15 #[.pointer (some ⟨bx, 0, none⟩), .int .i64 k] w fun e w' => e = .returned (.bool (transT b k p ps).isSome) ∧ Bst w' bx g b ((transT b k p ps).getD (upd ps k p)) ss fs ∧ Only (· = g) w w' := by
  have b17 : w.cell? ⟨bx, 17, none⟩ = some (.slice (some ⟨g, 0, none⟩) b.n b.cp) := h.c17
  have hk0 : (0 : Int) ≤ k := by omega
  have hk1 : (k : Int) < b.n := by omega
  have H1 := Lib.hid h
  have HT := Lib.hid hT
  have HRR := Lib.hid hR
  clear h hT hR
  have c44 : w.cell? ⟨g, k * 89 + 22 + 22, none⟩ = some (.bool (p.b 44)) := (H1.out.p.cell hk (j := 44) (by omega)).trans (by rw [upd_same]; rfl)
  have c50 : w.cell? ⟨g, k * 89 + 22 + 28, none⟩ = some (.bool (p.b 50)) := (H1.out.p.cell hk (j := 50) (by omega)).trans (by rw [upd_same]; rfl)
  have c87 : w.cell? ⟨g, k * 89 + 87, none⟩ = some (.int .i64 (p.i 87)) := (H1.out.p.cell hk (j := 87) (by omega)).trans (by rw [upd_same]; rfl)
  have c88 : w.cell? ⟨g, k * 89 + 88, none⟩ = some (.int .i64 (p.i 88)) := (H1.out.p.cell hk (j := 88) (by omega)).trans (by rw [upd_same]; rfl)
  go_enter Try.func15, Try.ntmps15
  cases e44 : p.b 44 with
  | false =>
    rw [e44] at c44
    go_wp2_with fail
    go_ret
    rw [show transT b k p ps = none by unfold transT; exact if_pos (Or.inl e44)]
    exact ⟨rfl, H1.out, Only.refl _ _⟩
  | true =>
    rw [e44] at c44
    cases e50 : p.b 50 with
    | true =>
      rw [e50] at c50
      go_wp2_with fail
      go_ret
      rw [show transT b k p ps = none by unfold transT; exact if_pos (Or.inr e50)]
      exact ⟨rfl, H1.out, Only.refl _ _⟩
    | false =>
      rw [e50] at c50
      have HTT := Lib.hid (transT_on b k p ps e44 e50)
      clear e44 e50
      obtain ⟨T, hT0⟩ : ∃ T, T = transT b k p ps := ⟨_, rfl⟩
      rw [← hT0]
      have HT0 := Lib.hid (hT0.trans HTT.out)
      clear hT0 HTT
      obtain ⟨g0, hg0⟩ : ∃ x : Bool, x = decide (0 ≤ p.i 88) := ⟨_, rfl⟩
      have Hg0 := Lib.hid hg0
      clear hg0
      obtain ⟨g4, hg4⟩ : ∃ x : Bool, x = decide (p.i 88 ≤ 4) := ⟨_, rfl⟩
      have Hg4 := Lib.hid hg4
      clear hg4
      go_upto_region 4 with (fail)
      obtain ⟨qr36, hqr36⟩ : ∃ x : Bool, x = ((p.i 87) != (p.i 88)) := ⟨_, rfl⟩
      have Hqr36 := Lib.hid hqr36
      clear hqr36
      obtain ⟨qr43, hqr43⟩ : ∃ x : Bool, x = (qr36 && g0) := ⟨_, rfl⟩
      have Hqr43 := Lib.hid hqr43
      clear hqr43
      obtain ⟨qr50, hqr50⟩ : ∃ x : Bool, x = (qr43 && g4) := ⟨_, rfl⟩
      have Hqr50 := Lib.hid hqr50
      clear hqr50
      refine wp_region_still_lit (by kernel_rfl) (by kernel_rfl) ?_
      refine wpStill_val (by kernel_rfl) (.pointer (some ⟨g, k * 89, none⟩)) (by kernel_rfl) ?_
      simp only [List.getElem_toArray, List.getElem_cons_succ, List.getElem_cons_zero, Act.put, List.setIfInBounds_toArray, List.set_cons_zero, List.set_cons_succ]
      refine wpStill_val (by kernel_rfl) (.pointer (some ⟨g, k * 89, none⟩)) (by simp [go_sem, execOp]) ?_
      simp only [List.getElem_toArray, List.getElem_cons_succ, List.getElem_cons_zero, Act.put, List.setIfInBounds_toArray, List.set_cons_zero, List.set_cons_succ]
      refine wpStill_val (by kernel_rfl) (.pointer (some ⟨g, k * 89 + 87, none⟩)) (by simp [go_sem, execOp]) ?_
      simp only [List.getElem_toArray, List.getElem_cons_succ, List.getElem_cons_zero, Act.put, List.setIfInBounds_toArray, List.set_cons_zero, List.set_cons_succ]
      refine wpStill_val (by kernel_rfl) (.int .i64 (p.i 87)) (by simp [go_sem, execOp, (show w.drew.cell? ⟨g, k * 89 + 87, none⟩ = some (.int .i64 (p.i 87)) from c87)]) ?_
      simp only [List.getElem_toArray, List.getElem_cons_succ, List.getElem_cons_zero, Act.put, List.setIfInBounds_toArray, List.set_cons_zero, List.set_cons_succ]
      refine wpStill_val (by kernel_rfl) (.pointer (some ⟨g, k * 89, none⟩)) (by kernel_rfl) ?_
      simp only [List.getElem_toArray, List.getElem_cons_succ, List.getElem_cons_zero, Act.put, List.setIfInBounds_toArray, List.set_cons_zero, List.set_cons_succ]
      refine wpStill_val (by kernel_rfl) (.pointer (some ⟨g, k * 89, none⟩)) (by simp [go_sem, execOp]) ?_
      simp only [List.getElem_toArray, List.getElem_cons_succ, List.getElem_cons_zero, Act.put, List.setIfInBounds_toArray, List.set_cons_zero, List.set_cons_succ]
      refine wpStill_val (by kernel_rfl) (.pointer (some ⟨g, k * 89 + 88, none⟩)) (by simp [go_sem, execOp]) ?_
      simp only [List.getElem_toArray, List.getElem_cons_succ, List.getElem_cons_zero, Act.put, List.setIfInBounds_toArray, List.set_cons_zero, List.set_cons_succ]
      refine wpStill_val (by kernel_rfl) (.int .i64 (p.i 88)) (by simp [go_sem, execOp, (show w.drew.cell? ⟨g, k * 89 + 88, none⟩ = some (.int .i64 (p.i 88)) from c88)]) ?_
      simp only [List.getElem_toArray, List.getElem_cons_succ, List.getElem_cons_zero, Act.put, List.setIfInBounds_toArray, List.set_cons_zero, List.set_cons_succ]
      refine wpStill_val (by kernel_rfl) (.bool qr36) (by rw [Hqr36.out]; simp [go_sem, execOp]) ?_
      simp only [List.getElem_toArray, List.getElem_cons_succ, List.getElem_cons_zero, Act.put, List.setIfInBounds_toArray, List.set_cons_zero, List.set_cons_succ]
      refine wpStill_val (by kernel_rfl) (.bool qr36) (by kernel_rfl) ?_
      simp only [List.getElem_toArray, List.getElem_cons_succ, List.getElem_cons_zero, Act.put, List.setIfInBounds_toArray, List.set_cons_zero, List.set_cons_succ]
      refine wpStill_bif (c := qr36) (v := .pointer (some ⟨g, k * 89, none⟩)) (wanted_t rfl (by kernel_rfl)) (fun hc => by have h0 := hc; simp [go_sem, execOp, h0]) ?_
      simp only [List.getElem_toArray, List.getElem_cons_succ, List.getElem_cons_zero, Act.put, List.setIfInBounds_toArray, List.set_cons_zero, List.set_cons_succ]
      refine wpStill_bif (c := qr36) (v := .pointer (some ⟨g, k * 89, none⟩)) (wanted_t rfl (by kernel_rfl)) (fun hc => by have h0 := hc; simp [go_sem, execOp, h0]) ?_
      simp only [List.getElem_toArray, List.getElem_cons_succ, List.getElem_cons_zero, Act.put, List.setIfInBounds_toArray, List.set_cons_zero, List.set_cons_succ]
      refine wpStill_bif (c := qr36) (v := .pointer (some ⟨g, k * 89 + 88, none⟩)) (wanted_t rfl (by kernel_rfl)) (fun hc => by have h0 := hc; simp [go_sem, execOp, h0]) ?_
      simp only [List.getElem_toArray, List.getElem_cons_succ, List.getElem_cons_zero, Act.put, List.setIfInBounds_toArray, List.set_cons_zero, List.set_cons_succ]
      refine wpStill_bif (c := qr36) (v := .int .i64 (p.i 88)) (wanted_t rfl (by kernel_rfl)) (fun hc => by have h0 := hc; simp [go_sem, execOp, h0, (show w.drew.cell? ⟨g, k * 89 + 88, none⟩ = some (.int .i64 (p.i 88)) from c88)]) ?_
      simp only [List.getElem_toArray, List.getElem_cons_succ, List.getElem_cons_zero, Act.put, List.setIfInBounds_toArray, List.set_cons_zero, List.set_cons_succ]
      refine wpStill_bif (c := qr36) (v := .bool g0) (wanted_t rfl (by kernel_rfl)) (fun hc => by have h0 := hc; rw [Hg0.out]; simp [go_sem, execOp, h0]) ?_
      simp only [List.getElem_toArray, List.getElem_cons_succ, List.getElem_cons_zero, Act.put, List.setIfInBounds_toArray, List.set_cons_zero, List.set_cons_succ]
      refine wpStill_val (by kernel_rfl) (.bool qr43) (by rw [Hqr43.out]; cases hA : qr36 <;> simp [go_sem, execOp, hA]) ?_
      simp only [List.getElem_toArray, List.getElem_cons_succ, List.getElem_cons_zero, Act.put, List.setIfInBounds_toArray, List.set_cons_zero, List.set_cons_succ]
      refine wpStill_val (by kernel_rfl) (.bool qr43) (by kernel_rfl) ?_
      simp only [List.getElem_toArray, List.getElem_cons_succ, List.getElem_cons_zero, Act.put, List.setIfInBounds_toArray, List.set_cons_zero, List.set_cons_succ]
      refine wpStill_bif (c := qr43) (v := .pointer (some ⟨g, k * 89, none⟩)) (wanted_t rfl (by kernel_rfl)) (fun hc => by have h0 := hc; simp [go_sem, execOp, h0]) ?_
      simp only [List.getElem_toArray, List.getElem_cons_succ, List.getElem_cons_zero, Act.put, List.setIfInBounds_toArray, List.set_cons_zero, List.set_cons_succ]
      refine wpStill_bif (c := qr43) (v := .pointer (some ⟨g, k * 89, none⟩)) (wanted_t rfl (by kernel_rfl)) (fun hc => by have h0 := hc; simp [go_sem, execOp, h0]) ?_
      simp only [List.getElem_toArray, List.getElem_cons_succ, List.getElem_cons_zero, Act.put, List.setIfInBounds_toArray, List.set_cons_zero, List.set_cons_succ]
      refine wpStill_bif (c := qr43) (v := .pointer (some ⟨g, k * 89 + 88, none⟩)) (wanted_t rfl (by kernel_rfl)) (fun hc => by have h0 := hc; simp [go_sem, execOp, h0]) ?_
      simp only [List.getElem_toArray, List.getElem_cons_succ, List.getElem_cons_zero, Act.put, List.setIfInBounds_toArray, List.set_cons_zero, List.set_cons_succ]
      refine wpStill_bif (c := qr43) (v := .int .i64 (p.i 88)) (wanted_t rfl (by kernel_rfl)) (fun hc => by have h0 := hc; simp [go_sem, execOp, h0, (show w.drew.cell? ⟨g, k * 89 + 88, none⟩ = some (.int .i64 (p.i 88)) from c88)]) ?_
      simp only [List.getElem_toArray, List.getElem_cons_succ, List.getElem_cons_zero, Act.put, List.setIfInBounds_toArray, List.set_cons_zero, List.set_cons_succ]
      refine wpStill_bif (c := qr43) (v := .bool g4) (wanted_t rfl (by kernel_rfl)) (fun hc => by have h0 := hc; rw [Hg4.out]; simp [go_sem, execOp, h0]) ?_
      simp only [List.getElem_toArray, List.getElem_cons_succ, List.getElem_cons_zero, Act.put, List.setIfInBounds_toArray, List.set_cons_zero, List.set_cons_succ]
      refine wpStill_val (by kernel_rfl) (.bool qr50) (by rw [Hqr50.out]; cases hA : qr43 <;> simp [go_sem, execOp, hA]) ?_
      simp only [List.getElem_toArray, List.getElem_cons_succ, List.getElem_cons_zero, Act.put, List.setIfInBounds_toArray, List.set_cons_zero, List.set_cons_succ]
      refine wpStill_nil ?_
      have Hq := Lib.hid (show qr50 = (((p.i 87 != p.i 88) && decide (0 ≤ p.i 88)) && decide (p.i 88 ≤ 4)) by rw [Hqr50.out, Hqr43.out, Hqr36.out, Hg0.out, Hg4.out])
      cases hv : qr50
      case true =>
        have hq := Hq.out.symm.trans hv
        simp only [Bool.and_eq_true, decide_eq_true_eq, bne_iff_ne, ne_eq] at hq
        obtain ⟨⟨hne, h0⟩, h4⟩ := hq
        clear Hq hv
        have c19 : w.cell? ⟨g, k * 89 + 15 + 4, none⟩ = some (.int .i64 (p.i 19)) := (H1.out.p.cell hk (j := 19) (by omega)).trans (by rw [upd_same]; rfl)
        have c28 : w.cell? ⟨g, k * 89 + 22 + 6, none⟩ = some (.bool (p.b 28)) := (H1.out.p.cell hk (j := 28) (by omega)).trans (by rw [upd_same]; rfl)
        have c26 : w.cell? ⟨g, k * 89 + 22 + 4, none⟩ = some (.bool (p.b 26)) := (H1.out.p.cell hk (j := 26) (by omega)).trans (by rw [upd_same]; rfl)
        have c12 : w.cell? ⟨g, k * 89 + 6 + 6, none⟩ = some (.int .i64 (p.i 12)) := (H1.out.p.cell hk (j := 12) (by omega)).trans (by rw [upd_same]; rfl)
        have f87 : w.frozen? ⟨g, k * 89 + 87, none⟩ = false := H1.out.p.free _
        have f19 : w.frozen? ⟨g, k * 89 + 15 + 4, none⟩ = false := H1.out.p.free _
        have f28 : w.frozen? ⟨g, k * 89 + 22 + 6, none⟩ = false := H1.out.p.free _
        have f26 : w.frozen? ⟨g, k * 89 + 22 + 4, none⟩ = false := H1.out.p.free _
        have f12 : w.frozen? ⟨g, k * 89 + 6 + 6, none⟩ = false := H1.out.p.free _
        have b5 : w.cell? ⟨bx, 2 + 3, none⟩ = some (.int .i64 (b.r.i 5)) := cells_of H1.out.h 5
        by_cases s0 : p.i 88 = 0
        · have d0 : (p.i 88 == 0) = true := by simp; omega
          have d3 : (p.i 88 == 3) = false := by simp; omega
          have d4 : (p.i 88 == 4) = false := by simp; omega
          have HR := Lib.hid (HT0.out.trans (roles_pick b k p ps (statesL b k p ps) true false false _ hne d0 d3 d4 rfl))
          clear HT0
          clear s0 hne h0 h4
          go_wp2_with fail
          go_ret
          have HB := Lib.hid (show Bst ((((w.setCell ⟨g, k * 89 + 87, none⟩ (.int .i64 (p.i 88))).setCell ⟨g, k * 89 + 15 + 4, none⟩ (.int .i64 0)).setCell ⟨g, k * 89 + 22 + 6, none⟩ (.bool false)).setCell ⟨g, k * 89 + 22 + 4, none⟩ (.bool false)) bx g b (upd ps k ((((p.setI 87 (p.i 88)).setI 19 0).setB 28 false).setB 26 false)) ss fs from ((((H1.out).put (j := 87) (by omega) (rowP_put_87 _ _)).put (j := 19) (by omega) (rowP_put_19 _ _)).put (j := 28) (by omega) (rowP_put_28 _ _)).put (j := 26) (by omega) (rowP_put_26 _ _))
          rw [HR.out, cond_true, enter_0]
          exact ⟨rfl, HB.out.below (Below.refl _ _).drew, ((((((Only.refl (· = g) w)).setCell (Or.inl rfl) _).setCell (Or.inl rfl) _).setCell (Or.inl rfl) _).setCell (Or.inl rfl) _).drew⟩
        by_cases s3 : p.i 88 = 3
        · have d0 : (p.i 88 == 0) = false := by simp; omega
          have d3 : (p.i 88 == 3) = true := by simp; omega
          have d4 : (p.i 88 == 4) = false := by simp; omega
          have HR := Lib.hid (HT0.out.trans (roles_pick b k p ps (statesL b k p ps) false true false _ hne d0 d3 d4 rfl))
          clear HT0
          clear s3 s0 hne h0 h4
          go_wp2_with fail
          go_ret
          have HB := Lib.hid (show Bst (((w.setCell ⟨g, k * 89 + 87, none⟩ (.int .i64 (p.i 88))).setCell ⟨g, k * 89 + 15 + 4, none⟩ (.int .i64 2)).setCell ⟨g, k * 89 + 6 + 6, none⟩ (.int .i64 (b.r.i 5))) bx g b (upd ps k (((p.setI 87 (p.i 88)).setI 19 2).setI 12 (b.r.i 5))) ss fs from (((H1.out).put (j := 87) (by omega) (rowP_put_87 _ _)).put (j := 19) (by omega) (rowP_put_19 _ _)).put (j := 12) (by omega) (rowP_put_12 _ _))
          rw [HR.out, cond_false, cond_true, enter_2]
          exact ⟨rfl, HB.out.below (Below.refl _ _).drew, (((((Only.refl (· = g) w)).setCell (Or.inl rfl) _).setCell (Or.inl rfl) _).setCell (Or.inl rfl) _).drew⟩
        by_cases s4 : p.i 88 = 4
        · have d0 : (p.i 88 == 0) = false := by simp; omega
          have d3 : (p.i 88 == 3) = false := by simp; omega
          have d4 : (p.i 88 == 4) = true := by simp; omega
          have HR := Lib.hid (HT0.out.trans (roles_pick b k p ps (statesL b k p ps) false false true _ hne d0 d3 d4 rfl))
          clear HT0
          clear s4 s3 s0 hne h0 h4
          go_wp2_with fail
          go_ret
          have HB := Lib.hid (show Bst ((w.setCell ⟨g, k * 89 + 87, none⟩ (.int .i64 (p.i 88))).setCell ⟨g, k * 89 + 15 + 4, none⟩ (.int .i64 3)) bx g b (upd ps k ((p.setI 87 (p.i 88)).setI 19 3)) ss fs from ((H1.out).put (j := 87) (by omega) (rowP_put_87 _ _)).put (j := 19) (by omega) (rowP_put_19 _ _))
          rw [HR.out, cond_false, cond_false, cond_true, enter_3]
          exact ⟨rfl, HB.out.below (Below.refl _ _).drew, ((((Only.refl (· = g) w)).setCell (Or.inl rfl) _).setCell (Or.inl rfl) _).drew⟩
        have d0 : (p.i 88 == 0) = false := by simp; omega
        have d3 : (p.i 88 == 3) = false := by simp; omega
        have d4 : (p.i 88 == 4) = false := by simp; omega
        have d12 : ((p.i 88 == 1) || (p.i 88 == 2)) = true := by simp; omega
        have HR := Lib.hid (HT0.out.trans (roles_pick b k p ps (statesL b k p ps) false false false true hne d0 d3 d4 d12))
        clear HT0
        clear s4 s3 s0 hne h0 h4 d12
        go_wp2_with fail
        go_ret
        have HB := Lib.hid (show Bst ((((w.setCell ⟨g, k * 89 + 87, none⟩ (.int .i64 (p.i 88))).setCell ⟨g, k * 89 + 15 + 4, none⟩ (.int .i64 4)).setCell ⟨g, k * 89 + 22 + 6, none⟩ (.bool false)).setCell ⟨g, k * 89 + 22 + 4, none⟩ (.bool false)) bx g b (upd ps k ((((p.setI 87 (p.i 88)).setI 19 4).setB 28 false).setB 26 false)) ss fs from ((((H1.out).put (j := 87) (by omega) (rowP_put_87 _ _)).put (j := 19) (by omega) (rowP_put_19 _ _)).put (j := 28) (by omega) (rowP_put_28 _ _)).put (j := 26) (by omega) (rowP_put_26 _ _))
        rw [HR.out, cond_false, cond_false, cond_false, cond_true, enter_4]
        exact ⟨rfl, HB.out.below (Below.refl _ _).drew, ((((((Only.refl (· = g) w)).setCell (Or.inl rfl) _).setCell (Or.inl rfl) _).setCell (Or.inl rfl) _).setCell (Or.inl rfl) _).drew⟩
      case false =>
        have HT1 := Lib.hid (HT0.out.trans (roles_none b k p ps (statesL b k p ps) (Hq.out.symm.trans hv)))
        clear HT0 Hq hv
        go_upto_region 20 with (fail)
        refine ((?_ : ∀ x, x = w.drew → Code.wp _ _ _ _ x) _ rfl)
        intro w2 hw2
        have hb2 : Below w.heap.size w w2 := by rw [hw2]; exact (Below.refl _ _).drew
        have H2 := Lib.hid (H1.out.below hb2)
        have HO2 := Lib.hid (show Only (· = g) w w2 from Only.of_below hb2)
        clear hw2 hb2 c44 c50 c87 c88 b17
        have c29 : w2.cell? ⟨g, k * 89 + 22 + 7, none⟩ = some (.bool (p.b 29)) := (H2.out.p.cell hk (j := 29) (by omega)).trans (by rw [upd_same]; rfl)
        have c27 : w2.cell? ⟨g, k * 89 + 22 + 5, none⟩ = some (.bool (p.b 27)) := (H2.out.p.cell hk (j := 27) (by omega)).trans (by rw [upd_same]; rfl)
        have c19 : w2.cell? ⟨g, k * 89 + 15 + 4, none⟩ = some (.int .i64 (p.i 19)) := (H2.out.p.cell hk (j := 19) (by omega)).trans (by rw [upd_same]; rfl)
        have c7 : w2.cell? ⟨g, k * 89 + 6 + 1, none⟩ = some (.int .i64 (p.i 7)) := (H2.out.p.cell hk (j := 7) (by omega)).trans (by rw [upd_same]; rfl)
        have c46 : w2.cell? ⟨g, k * 89 + 22 + 24, none⟩ = some (.bool (p.b 46)) := (H2.out.p.cell hk (j := 46) (by omega)).trans (by rw [upd_same]; rfl)
        have c42 : w2.cell? ⟨g, k * 89 + 22 + 20, none⟩ = some (.bool (p.b 42)) := (H2.out.p.cell hk (j := 42) (by omega)).trans (by rw [upd_same]; rfl)
        have c47 : w2.cell? ⟨g, k * 89 + 22 + 25, none⟩ = some (.bool (p.b 47)) := (H2.out.p.cell hk (j := 47) (by omega)).trans (by rw [upd_same]; rfl)
        go_upto_region 20 with (fail)
        obtain ⟨qs114, hqs114⟩ : ∃ x : Bool, x = (!(p.b 29)) := ⟨_, rfl⟩
        have Hqs114 := Lib.hid hqs114
        clear hqs114
        obtain ⟨qs121, hqs121⟩ : ∃ x : Bool, x = (!(p.b 27)) := ⟨_, rfl⟩
        have Hqs121 := Lib.hid hqs121
        clear hqs121
        obtain ⟨qs122, hqs122⟩ : ∃ x : Bool, x = (qs114 && qs121) := ⟨_, rfl⟩
        have Hqs122 := Lib.hid hqs122
        clear hqs122
        refine wp_region_lit ?_
        refine wpList_val (by kernel_rfl) (.pointer (some ⟨g, k * 89, none⟩)) (by kernel_rfl) ?_
        simp only [List.getElem_toArray, List.getElem_cons_succ, List.getElem_cons_zero, Act.put, List.setIfInBounds_toArray, List.set_cons_zero, List.set_cons_succ]
        refine wpList_val (by kernel_rfl) (.pointer (some ⟨g, k * 89, none⟩)) (by simp [go_sem, execOp]) ?_
        simp only [List.getElem_toArray, List.getElem_cons_succ, List.getElem_cons_zero, Act.put, List.setIfInBounds_toArray, List.set_cons_zero, List.set_cons_succ]
        refine wpList_val (by kernel_rfl) (.pointer (some ⟨g, k * 89 + 22, none⟩)) (by simp [go_sem, execOp]) ?_
        simp only [List.getElem_toArray, List.getElem_cons_succ, List.getElem_cons_zero, Act.put, List.setIfInBounds_toArray, List.set_cons_zero, List.set_cons_succ]
        refine wpList_val (by kernel_rfl) (.pointer (some ⟨g, k * 89 + 22 + 7, none⟩)) (by simp [go_sem, execOp]) ?_
        simp only [List.getElem_toArray, List.getElem_cons_succ, List.getElem_cons_zero, Act.put, List.setIfInBounds_toArray, List.set_cons_zero, List.set_cons_succ]
        refine wpList_val (by kernel_rfl) (.bool (p.b 29)) (by simp [go_sem, execOp, (show w2.cell? ⟨g, k * 89 + 22 + 7, none⟩ = some (.bool (p.b 29)) from c29)]) ?_
        simp only [List.getElem_toArray, List.getElem_cons_succ, List.getElem_cons_zero, Act.put, List.setIfInBounds_toArray, List.set_cons_zero, List.set_cons_succ]
        refine wpList_val (by kernel_rfl) (.bool qs114) (by rw [Hqs114.out]; simp [go_sem, execOp]) ?_
        simp only [List.getElem_toArray, List.getElem_cons_succ, List.getElem_cons_zero, Act.put, List.setIfInBounds_toArray, List.set_cons_zero, List.set_cons_succ]
        refine wpList_val (by kernel_rfl) (.bool qs114) (by kernel_rfl) ?_
        simp only [List.getElem_toArray, List.getElem_cons_succ, List.getElem_cons_zero, Act.put, List.setIfInBounds_toArray, List.set_cons_zero, List.set_cons_succ]
        refine wpList_bif (c := qs114) (v := .pointer (some ⟨g, k * 89, none⟩)) (wanted_t rfl (by kernel_rfl)) (fun hc => by have h0 := hc; simp [go_sem, execOp, h0]) ?_
        simp only [List.getElem_toArray, List.getElem_cons_succ, List.getElem_cons_zero, Act.put, List.setIfInBounds_toArray, List.set_cons_zero, List.set_cons_succ]
        refine wpList_bif (c := qs114) (v := .pointer (some ⟨g, k * 89, none⟩)) (wanted_t rfl (by kernel_rfl)) (fun hc => by have h0 := hc; simp [go_sem, execOp, h0]) ?_
        simp only [List.getElem_toArray, List.getElem_cons_succ, List.getElem_cons_zero, Act.put, List.setIfInBounds_toArray, List.set_cons_zero, List.set_cons_succ]
        refine wpList_bif (c := qs114) (v := .pointer (some ⟨g, k * 89 + 22, none⟩)) (wanted_t rfl (by kernel_rfl)) (fun hc => by have h0 := hc; simp [go_sem, execOp, h0]) ?_
        simp only [List.getElem_toArray, List.getElem_cons_succ, List.getElem_cons_zero, Act.put, List.setIfInBounds_toArray, List.set_cons_zero, List.set_cons_succ]
        refine wpList_bif (c := qs114) (v := .pointer (some ⟨g, k * 89 + 22 + 5, none⟩)) (wanted_t rfl (by kernel_rfl)) (fun hc => by have h0 := hc; simp [go_sem, execOp, h0]) ?_
        simp only [List.getElem_toArray, List.getElem_cons_succ, List.getElem_cons_zero, Act.put, List.setIfInBounds_toArray, List.set_cons_zero, List.set_cons_succ]
        refine wpList_bif (c := qs114) (v := .bool (p.b 27)) (wanted_t rfl (by kernel_rfl)) (fun hc => by have h0 := hc; simp [go_sem, execOp, h0, (show w2.cell? ⟨g, k * 89 + 22 + 5, none⟩ = some (.bool (p.b 27)) from c27)]) ?_
        simp only [List.getElem_toArray, List.getElem_cons_succ, List.getElem_cons_zero, Act.put, List.setIfInBounds_toArray, List.set_cons_zero, List.set_cons_succ]
        refine wpList_bif (c := qs114) (v := .bool qs121) (wanted_t rfl (by kernel_rfl)) (fun hc => by have h0 := hc; rw [Hqs121.out]; simp [go_sem, execOp, h0]) ?_
        simp only [List.getElem_toArray, List.getElem_cons_succ, List.getElem_cons_zero, Act.put, List.setIfInBounds_toArray, List.set_cons_zero, List.set_cons_succ]
        refine wpList_val (by kernel_rfl) (.bool qs122) (by rw [Hqs122.out]; cases hA : qs114 <;> simp [go_sem, execOp, hA]) ?_
        simp only [List.getElem_toArray, List.getElem_cons_succ, List.getElem_cons_zero, Act.put, List.setIfInBounds_toArray, List.set_cons_zero, List.set_cons_succ]
        refine wpList_val (by kernel_rfl) (.bool qs122) (by kernel_rfl) ?_
        simp only [List.getElem_toArray, List.getElem_cons_succ, List.getElem_cons_zero, Act.put, List.setIfInBounds_toArray, List.set_cons_zero, List.set_cons_succ]
        refine wpList_nil ?_
        have Hqs := Lib.hid (show qs122 = quietF p by rw [Hqs122.out, Hqs121.out, Hqs114.out]; rfl)
        go_wp2_with (first | (refine wpList_load_row rfl 33 _ rfl bx rfl 33 (rowB b) (0, 0) _ H2.out.h Try.underlying33 rfl (sizeBr _) ?_; simp only [Act.put, List.setIfInBounds_toArray, List.set_cons_zero, List.set_cons_succ]) | fail)
        refine (reffwd_any H2.out hk).mono ?_
        rintro e w3 ⟨rfl, hb3⟩
        have H3 := Lib.hid (H2.out.below hb3)
        have HO3 := Lib.hid (HO2.out.trans (Only.of_below hb3))
        clear hb3 c29 c27 c19 c7 c46 c42 c47
        have c19 : w3.cell? ⟨g, k * 89 + 15 + 4, none⟩ = some (.int .i64 (p.i 19)) := (H3.out.p.cell hk (j := 19) (by omega)).trans (by rw [upd_same]; rfl)
        have c7 : w3.cell? ⟨g, k * 89 + 6 + 1, none⟩ = some (.int .i64 (p.i 7)) := (H3.out.p.cell hk (j := 7) (by omega)).trans (by rw [upd_same]; rfl)
        have c46 : w3.cell? ⟨g, k * 89 + 22 + 24, none⟩ = some (.bool (p.b 46)) := (H3.out.p.cell hk (j := 46) (by omega)).trans (by rw [upd_same]; rfl)
        have c42 : w3.cell? ⟨g, k * 89 + 22 + 20, none⟩ = some (.bool (p.b 42)) := (H3.out.p.cell hk (j := 42) (by omega)).trans (by rw [upd_same]; rfl)
        have c47 : w3.cell? ⟨g, k * 89 + 22 + 25, none⟩ = some (.bool (p.b 47)) := (H3.out.p.cell hk (j := 47) (by omega)).trans (by rw [upd_same]; rfl)
        have b3 : w3.cell? ⟨bx, 2 + 1, none⟩ = some (.int .i64 (b.r.i 3)) := cells_of H3.out.h 3
        by_cases h0 : p.i 19 = 0
        · have d0 : (p.i 19 == 0) = true := by simp [h0]
          have HL := Lib.hid (show T = firstOn ([(quietF p, upd ps k (restF 1 (b.r.i 3) p))]) by rw [HT1.out]; unfold statesL; rw [if_pos h0])
          clear HT1 h0
          cases hq : qs122
          case true =>
            have HR := Lib.hid (show T = some (upd ps k (restF 1 (b.r.i 3) p)) by rw [HL.out]; show (bif quietF p then some (upd ps k (restF 1 (b.r.i 3) p)) else none) = _; rw [← Hqs.out, hq]; rfl)
            clear HL
            go_wp2_with fail
            refine (refrests_any _ bx g k b ps ss fs p (H3.out) hk 1 (b.r.i 3)).mono ?_
            rintro e w4 ⟨rfl, hb4, ho4⟩
            have H4 := Lib.hid hb4
            have HO4 := Lib.hid (HO3.out.trans ho4)
            clear hb4 ho4
            go_wp2_with fail
            go_ret
            rw [HR.out]
            exact ⟨rfl, H4.out, HO4.out⟩
          case false =>
            have HR := Lib.hid (show T = none by rw [HL.out]; show (bif quietF p then some (upd ps k (restF 1 (b.r.i 3) p)) else none) = _; rw [← Hqs.out, hq]; rfl)
            clear HL
            go_wp2_with fail
            go_ret
            rw [HR.out]
            exact ⟨rfl, H3.out, HO3.out⟩
        by_cases h1 : p.i 19 = 1
        · have d0 : (p.i 19 == 0) = false := by simp [h0]
          have d1 : (p.i 19 == 1) = true := by simp [h1]
          have HL := Lib.hid (show T = firstOn ([(restlessF (b.r.i 3) p, upd ps k (restF 1 (b.r.i 3) p))]) by rw [HT1.out]; unfold statesL; rw [if_neg h0]; rw [if_pos h1])
          clear HT1 h0 h1
          go_upto_region 28 with (fail)
          obtain ⟨qt156, hqt156⟩ : ∃ x : Bool, x = ((p.i 7) != (b.r.i 3)) := ⟨_, rfl⟩
          have Hqt156 := Lib.hid hqt156
          clear hqt156
          obtain ⟨qt163, hqt163⟩ : ∃ x : Bool, x = (qt156 || (p.b 46)) := ⟨_, rfl⟩
          have Hqt163 := Lib.hid hqt163
          clear hqt163
          obtain ⟨qt170, hqt170⟩ : ∃ x : Bool, x = (qt163 || (p.b 42)) := ⟨_, rfl⟩
          have Hqt170 := Lib.hid hqt170
          clear hqt170
          obtain ⟨qt177, hqt177⟩ : ∃ x : Bool, x = (!(p.b 47)) := ⟨_, rfl⟩
          have Hqt177 := Lib.hid hqt177
          clear hqt177
          obtain ⟨qt178, hqt178⟩ : ∃ x : Bool, x = (qt170 || qt177) := ⟨_, rfl⟩
          have Hqt178 := Lib.hid hqt178
          clear hqt178
          refine wp_region_still_lit (by kernel_rfl) (by kernel_rfl) ?_
          refine wpStill_val (by kernel_rfl) (.pointer (some ⟨g, k * 89, none⟩)) (by kernel_rfl) ?_
          simp only [List.getElem_toArray, List.getElem_cons_succ, List.getElem_cons_zero, Act.put, List.setIfInBounds_toArray, List.set_cons_zero, List.set_cons_succ]
          refine wpStill_val (by kernel_rfl) (.pointer (some ⟨g, k * 89, none⟩)) (by simp [go_sem, execOp]) ?_
          simp only [List.getElem_toArray, List.getElem_cons_succ, List.getElem_cons_zero, Act.put, List.setIfInBounds_toArray, List.set_cons_zero, List.set_cons_succ]
          refine wpStill_val (by kernel_rfl) (.pointer (some ⟨g, k * 89 + 6, none⟩)) (by simp [go_sem, execOp]) ?_
          simp only [List.getElem_toArray, List.getElem_cons_succ, List.getElem_cons_zero, Act.put, List.setIfInBounds_toArray, List.set_cons_zero, List.set_cons_succ]
          refine wpStill_val (by kernel_rfl) (.pointer (some ⟨g, k * 89 + 6 + 1, none⟩)) (by simp [go_sem, execOp]) ?_
          simp only [List.getElem_toArray, List.getElem_cons_succ, List.getElem_cons_zero, Act.put, List.setIfInBounds_toArray, List.set_cons_zero, List.set_cons_succ]
          refine wpStill_val (by kernel_rfl) (.int .i64 (p.i 7)) (by simp [go_sem, execOp, (show w3.drew.cell? ⟨g, k * 89 + 6 + 1, none⟩ = some (.int .i64 (p.i 7)) from c7)]) ?_
          simp only [List.getElem_toArray, List.getElem_cons_succ, List.getElem_cons_zero, Act.put, List.setIfInBounds_toArray, List.set_cons_zero, List.set_cons_succ]
          refine wpStill_val (by kernel_rfl) (.pointer (some ⟨bx, 0, none⟩)) (by kernel_rfl) ?_
          simp only [List.getElem_toArray, List.getElem_cons_succ, List.getElem_cons_zero, Act.put, List.setIfInBounds_toArray, List.set_cons_zero, List.set_cons_succ]
          refine wpStill_val (by kernel_rfl) (.pointer (some ⟨bx, 0, none⟩)) (by simp [go_sem, execOp]) ?_
          simp only [List.getElem_toArray, List.getElem_cons_succ, List.getElem_cons_zero, Act.put, List.setIfInBounds_toArray, List.set_cons_zero, List.set_cons_succ]
          refine wpStill_val (by kernel_rfl) (.pointer (some ⟨bx, 2, none⟩)) (by simp [go_sem, execOp]) ?_
          simp only [List.getElem_toArray, List.getElem_cons_succ, List.getElem_cons_zero, Act.put, List.setIfInBounds_toArray, List.set_cons_zero, List.set_cons_succ]
          refine wpStill_val (by kernel_rfl) (.pointer (some ⟨bx, 2 + 1, none⟩)) (by simp [go_sem, execOp]) ?_
          simp only [List.getElem_toArray, List.getElem_cons_succ, List.getElem_cons_zero, Act.put, List.setIfInBounds_toArray, List.set_cons_zero, List.set_cons_succ]
          refine wpStill_val (by kernel_rfl) (.int .i64 (b.r.i 3)) (by simp [go_sem, execOp, (show w3.drew.cell? ⟨bx, 2 + 1, none⟩ = some (.int .i64 (b.r.i 3)) from b3)]) ?_
          simp only [List.getElem_toArray, List.getElem_cons_succ, List.getElem_cons_zero, Act.put, List.setIfInBounds_toArray, List.set_cons_zero, List.set_cons_succ]
          refine wpStill_val (by kernel_rfl) (.bool qt156) (by rw [Hqt156.out]; simp [go_sem, execOp]) ?_
          simp only [List.getElem_toArray, List.getElem_cons_succ, List.getElem_cons_zero, Act.put, List.setIfInBounds_toArray, List.set_cons_zero, List.set_cons_succ]
          refine wpStill_val (by kernel_rfl) (.bool qt156) (by kernel_rfl) ?_
          simp only [List.getElem_toArray, List.getElem_cons_succ, List.getElem_cons_zero, Act.put, List.setIfInBounds_toArray, List.set_cons_zero, List.set_cons_succ]
          refine wpStill_bif (c := (!qt156)) (v := .pointer (some ⟨g, k * 89, none⟩)) (wanted_f rfl (by kernel_rfl)) (fun hc => by have h0 := notT (hc); simp [go_sem, execOp, h0]) ?_
          simp only [List.getElem_toArray, List.getElem_cons_succ, List.getElem_cons_zero, Act.put, List.setIfInBounds_toArray, List.set_cons_zero, List.set_cons_succ]
          refine wpStill_bif (c := (!qt156)) (v := .pointer (some ⟨g, k * 89, none⟩)) (wanted_f rfl (by kernel_rfl)) (fun hc => by have h0 := notT (hc); simp [go_sem, execOp, h0]) ?_
          simp only [List.getElem_toArray, List.getElem_cons_succ, List.getElem_cons_zero, Act.put, List.setIfInBounds_toArray, List.set_cons_zero, List.set_cons_succ]
          refine wpStill_bif (c := (!qt156)) (v := .pointer (some ⟨g, k * 89 + 22, none⟩)) (wanted_f rfl (by kernel_rfl)) (fun hc => by have h0 := notT (hc); simp [go_sem, execOp, h0]) ?_
          simp only [List.getElem_toArray, List.getElem_cons_succ, List.getElem_cons_zero, Act.put, List.setIfInBounds_toArray, List.set_cons_zero, List.set_cons_succ]
          refine wpStill_bif (c := (!qt156)) (v := .pointer (some ⟨g, k * 89 + 22 + 24, none⟩)) (wanted_f rfl (by kernel_rfl)) (fun hc => by have h0 := notT (hc); simp [go_sem, execOp, h0]) ?_
          simp only [List.getElem_toArray, List.getElem_cons_succ, List.getElem_cons_zero, Act.put, List.setIfInBounds_toArray, List.set_cons_zero, List.set_cons_succ]
          refine wpStill_bif (c := (!qt156)) (v := .bool (p.b 46)) (wanted_f rfl (by kernel_rfl)) (fun hc => by have h0 := notT (hc); simp [go_sem, execOp, h0, (show w3.drew.cell? ⟨g, k * 89 + 22 + 24, none⟩ = some (.bool (p.b 46)) from c46)]) ?_
          simp only [List.getElem_toArray, List.getElem_cons_succ, List.getElem_cons_zero, Act.put, List.setIfInBounds_toArray, List.set_cons_zero, List.set_cons_succ]
          refine wpStill_val (by kernel_rfl) (.bool qt163) (by rw [Hqt163.out]; cases hA : qt156 <;> simp [go_sem, execOp, hA]) ?_
          simp only [List.getElem_toArray, List.getElem_cons_succ, List.getElem_cons_zero, Act.put, List.setIfInBounds_toArray, List.set_cons_zero, List.set_cons_succ]
          refine wpStill_val (by kernel_rfl) (.bool qt163) (by kernel_rfl) ?_
          simp only [List.getElem_toArray, List.getElem_cons_succ, List.getElem_cons_zero, Act.put, List.setIfInBounds_toArray, List.set_cons_zero, List.set_cons_succ]
          refine wpStill_bif (c := (!qt163)) (v := .pointer (some ⟨g, k * 89, none⟩)) (wanted_f rfl (by kernel_rfl)) (fun hc => by have h0 := notT (hc); simp [go_sem, execOp, h0]) ?_
          simp only [List.getElem_toArray, List.getElem_cons_succ, List.getElem_cons_zero, Act.put, List.setIfInBounds_toArray, List.set_cons_zero, List.set_cons_succ]
          refine wpStill_bif (c := (!qt163)) (v := .pointer (some ⟨g, k * 89, none⟩)) (wanted_f rfl (by kernel_rfl)) (fun hc => by have h0 := notT (hc); simp [go_sem, execOp, h0]) ?_
          simp only [List.getElem_toArray, List.getElem_cons_succ, List.getElem_cons_zero, Act.put, List.setIfInBounds_toArray, List.set_cons_zero, List.set_cons_succ]
          refine wpStill_bif (c := (!qt163)) (v := .pointer (some ⟨g, k * 89 + 22, none⟩)) (wanted_f rfl (by kernel_rfl)) (fun hc => by have h0 := notT (hc); simp [go_sem, execOp, h0]) ?_
          simp only [List.getElem_toArray, List.getElem_cons_succ, List.getElem_cons_zero, Act.put, List.setIfInBounds_toArray, List.set_cons_zero, List.set_cons_succ]
          refine wpStill_bif (c := (!qt163)) (v := .pointer (some ⟨g, k * 89 + 22 + 20, none⟩)) (wanted_f rfl (by kernel_rfl)) (fun hc => by have h0 := notT (hc); simp [go_sem, execOp, h0]) ?_
          simp only [List.getElem_toArray, List.getElem_cons_succ, List.getElem_cons_zero, Act.put, List.setIfInBounds_toArray, List.set_cons_zero, List.set_cons_succ]
          refine wpStill_bif (c := (!qt163)) (v := .bool (p.b 42)) (wanted_f rfl (by kernel_rfl)) (fun hc => by have h0 := notT (hc); simp [go_sem, execOp, h0, (show w3.drew.cell? ⟨g, k * 89 + 22 + 20, none⟩ = some (.bool (p.b 42)) from c42)]) ?_
          simp only [List.getElem_toArray, List.getElem_cons_succ, List.getElem_cons_zero, Act.put, List.setIfInBounds_toArray, List.set_cons_zero, List.set_cons_succ]
          refine wpStill_val (by kernel_rfl) (.bool qt170) (by rw [Hqt170.out]; cases hA : qt163 <;> simp [go_sem, execOp, hA]) ?_
          simp only [List.getElem_toArray, List.getElem_cons_succ, List.getElem_cons_zero, Act.put, List.setIfInBounds_toArray, List.set_cons_zero, List.set_cons_succ]
          refine wpStill_val (by kernel_rfl) (.bool qt170) (by kernel_rfl) ?_
          simp only [List.getElem_toArray, List.getElem_cons_succ, List.getElem_cons_zero, Act.put, List.setIfInBounds_toArray, List.set_cons_zero, List.set_cons_succ]
          refine wpStill_bif (c := (!qt170)) (v := .pointer (some ⟨g, k * 89, none⟩)) (wanted_f rfl (by kernel_rfl)) (fun hc => by have h0 := notT (hc); simp [go_sem, execOp, h0]) ?_
          simp only [List.getElem_toArray, List.getElem_cons_succ, List.getElem_cons_zero, Act.put, List.setIfInBounds_toArray, List.set_cons_zero, List.set_cons_succ]
          refine wpStill_bif (c := (!qt170)) (v := .pointer (some ⟨g, k * 89, none⟩)) (wanted_f rfl (by kernel_rfl)) (fun hc => by have h0 := notT (hc); simp [go_sem, execOp, h0]) ?_
          simp only [List.getElem_toArray, List.getElem_cons_succ, List.getElem_cons_zero, Act.put, List.setIfInBounds_toArray, List.set_cons_zero, List.set_cons_succ]
          refine wpStill_bif (c := (!qt170)) (v := .pointer (some ⟨g, k * 89 + 22, none⟩)) (wanted_f rfl (by kernel_rfl)) (fun hc => by have h0 := notT (hc); simp [go_sem, execOp, h0]) ?_
          simp only [List.getElem_toArray, List.getElem_cons_succ, List.getElem_cons_zero, Act.put, List.setIfInBounds_toArray, List.set_cons_zero, List.set_cons_succ]
          refine wpStill_bif (c := (!qt170)) (v := .pointer (some ⟨g, k * 89 + 22 + 25, none⟩)) (wanted_f rfl (by kernel_rfl)) (fun hc => by have h0 := notT (hc); simp [go_sem, execOp, h0]) ?_
          simp only [List.getElem_toArray, List.getElem_cons_succ, List.getElem_cons_zero, Act.put, List.setIfInBounds_toArray, List.set_cons_zero, List.set_cons_succ]
          refine wpStill_bif (c := (!qt170)) (v := .bool (p.b 47)) (wanted_f rfl (by kernel_rfl)) (fun hc => by have h0 := notT (hc); simp [go_sem, execOp, h0, (show w3.drew.cell? ⟨g, k * 89 + 22 + 25, none⟩ = some (.bool (p.b 47)) from c47)]) ?_
          simp only [List.getElem_toArray, List.getElem_cons_succ, List.getElem_cons_zero, Act.put, List.setIfInBounds_toArray, List.set_cons_zero, List.set_cons_succ]
          refine wpStill_bif (c := (!qt170)) (v := .bool qt177) (wanted_f rfl (by kernel_rfl)) (fun hc => by have h0 := notT (hc); rw [Hqt177.out]; simp [go_sem, execOp, h0]) ?_
          simp only [List.getElem_toArray, List.getElem_cons_succ, List.getElem_cons_zero, Act.put, List.setIfInBounds_toArray, List.set_cons_zero, List.set_cons_succ]
          refine wpStill_val (by kernel_rfl) (.bool qt178) (by rw [Hqt178.out]; cases hA : qt170 <;> simp [go_sem, execOp, hA]) ?_
          simp only [List.getElem_toArray, List.getElem_cons_succ, List.getElem_cons_zero, Act.put, List.setIfInBounds_toArray, List.set_cons_zero, List.set_cons_succ]
          refine wpStill_val (by kernel_rfl) (.bool qt178) (by kernel_rfl) ?_
          simp only [List.getElem_toArray, List.getElem_cons_succ, List.getElem_cons_zero, Act.put, List.setIfInBounds_toArray, List.set_cons_zero, List.set_cons_succ]
          refine wpStill_nil ?_
          have Hqt := Lib.hid (show qt178 = restlessF (b.r.i 3) p by rw [Hqt178.out, Hqt177.out, Hqt170.out, Hqt163.out, Hqt156.out]; rfl)
          cases hq : qt178
          case true =>
            have HR := Lib.hid (show T = some (upd ps k (restF 1 (b.r.i 3) p)) by rw [HL.out]; show (bif restlessF (b.r.i 3) p then some (upd ps k (restF 1 (b.r.i 3) p)) else none) = _; rw [← Hqt.out, hq]; rfl)
            clear HL
            go_wp2_with fail
            refine (refrests_any _ bx g k b ps ss fs p (H3.out.below (Below.refl _ _).drew) hk 1 (b.r.i 3)).mono ?_
            rintro e w4 ⟨rfl, hb4, ho4⟩
            have H4 := Lib.hid hb4
            have HO4 := Lib.hid (HO3.out.drew.trans ho4)
            clear hb4 ho4
            go_wp2_with fail
            go_ret
            rw [HR.out]
            exact ⟨rfl, H4.out, HO4.out⟩
          case false =>
            have HR := Lib.hid (show T = none by rw [HL.out]; show (bif restlessF (b.r.i 3) p then some (upd ps k (restF 1 (b.r.i 3) p)) else none) = _; rw [← Hqt.out, hq]; rfl)
            clear HL
            go_wp2_with fail
            go_ret
            rw [HR.out]
            exact ⟨rfl, H3.out.below (Below.refl _ _).drew, HO3.out.drew⟩
        by_cases h4 : p.i 19 = 4
        · have d0 : (p.i 19 == 0) = false := by simp [h0]
          have d1 : (p.i 19 == 1) = false := by simp [h1]
          have d4 : (p.i 19 == 4) = true := by simp [h4]
          have HL := Lib.hid (show T = firstOn ([(quietF p, upd ps k (restF 5 (fwdN b p) p))]) by rw [HT1.out]; unfold statesL; rw [if_neg h0]; rw [if_neg h1]; rw [if_pos h4])
          clear HT1 h0 h1 h4
          cases hq : qs122
          case true =>
            have HR := Lib.hid (show T = some (upd ps k (restF 5 (fwdN b p) p)) by rw [HL.out]; show (bif quietF p then some (upd ps k (restF 5 (fwdN b p) p)) else none) = _; rw [← Hqs.out, hq]; rfl)
            clear HL
            go_wp2_with fail
            refine (refrests_any _ bx g k b ps ss fs p (H3.out) hk 5 (fwdN b p)).mono ?_
            rintro e w4 ⟨rfl, hb4, ho4⟩
            have H4 := Lib.hid hb4
            have HO4 := Lib.hid (HO3.out.trans ho4)
            clear hb4 ho4
            go_wp2_with fail
            go_ret
            rw [HR.out]
            exact ⟨rfl, H4.out, HO4.out⟩
          case false =>
            have HR := Lib.hid (show T = none by rw [HL.out]; show (bif quietF p then some (upd ps k (restF 5 (fwdN b p) p)) else none) = _; rw [← Hqs.out, hq]; rfl)
            clear HL
            go_wp2_with fail
            go_ret
            rw [HR.out]
            exact ⟨rfl, H3.out, HO3.out⟩
        by_cases h5 : p.i 19 = 5
        · have d0 : (p.i 19 == 0) = false := by simp [h0]
          have d1 : (p.i 19 == 1) = false := by simp [h1]
          have d4 : (p.i 19 == 4) = false := by simp [h4]
          have d5 : (p.i 19 == 5) = true := by simp [h5]
          have HL := Lib.hid (show T = firstOn (altL b k p ps) by rw [HT1.out]; unfold statesL; rw [if_neg h0]; rw [if_neg h1]; rw [if_neg h4]; rw [if_pos h5])
          clear HT1 h0 h1 h4 h5
          go_wp2_with fail
          refine (refalt_any _ bx g k b ps ss fs p H3.out hk HT.out hn).mono ?_
          rintro e w4 ⟨rfl, hb4, ho4⟩
          rw [← HL.out] at hb4
          rw [← HL.out]
          have H4 := Lib.hid hb4
          have HO4 := Lib.hid (HO3.out.trans ho4)
          clear hb4 ho4
          go_wp2_with fail
          go_ret
          exact ⟨rfl, H4.out, HO4.out⟩
        by_cases h2 : p.i 19 = 2
        · have d0 : (p.i 19 == 0) = false := by simp [h0]
          have d1 : (p.i 19 == 1) = false := by simp [h1]
          have d4 : (p.i 19 == 4) = false := by simp [h4]
          have d5 : (p.i 19 == 5) = false := by simp [h5]
          have d2 : (p.i 19 == 2) = true := by simp [h2]
          have HL := Lib.hid (show T = firstOn (rootL b k p ps) by rw [HT1.out]; unfold statesL; rw [if_neg h0]; rw [if_neg h1]; rw [if_neg h4]; rw [if_neg h5]; rw [if_pos h2])
          clear HT1 h0 h1 h4 h5 h2
          go_wp2_with fail
          refine (refroot_any _ bx g k b ps ss fs p H3.out hk hn HRR.out).mono ?_
          rintro e w4 ⟨rfl, hb4, ho4⟩
          rw [← HL.out] at hb4
          rw [← HL.out]
          have H4 := Lib.hid hb4
          have HO4 := Lib.hid (HO3.out.trans ho4)
          clear hb4 ho4
          go_wp2_with fail
          go_ret
          exact ⟨rfl, H4.out, HO4.out⟩
        by_cases h3 : p.i 19 = 3
        · have d0 : (p.i 19 == 0) = false := by simp [h0]
          have d1 : (p.i 19 == 1) = false := by simp [h1]
          have d4 : (p.i 19 == 4) = false := by simp [h4]
          have d5 : (p.i 19 == 5) = false := by simp [h5]
          have d2 : (p.i 19 == 2) = false := by simp [h2]
          have d3 : (p.i 19 == 3) = true := by simp [h3]
          have HL := Lib.hid (show T = firstOn (desL b k p ps) by rw [HT1.out]; unfold statesL; rw [if_neg h0]; rw [if_neg h1]; rw [if_neg h4]; rw [if_neg h5]; rw [if_neg h2]; rw [if_pos h3])
          clear HT1 h0 h1 h4 h5 h2 h3
          go_wp2_with fail
          refine (refdes_any _ bx g k b ps ss fs p H3.out hk).mono ?_
          rintro e w4 ⟨rfl, hb4, ho4⟩
          rw [← HL.out] at hb4
          rw [← HL.out]
          have H4 := Lib.hid hb4
          have HO4 := Lib.hid (HO3.out.trans ho4)
          clear hb4 ho4
          go_wp2_with fail
          go_ret
          exact ⟨rfl, H4.out, HO4.out⟩
        have d0 : (p.i 19 == 0) = false := by simp [h0]
        have d1 : (p.i 19 == 1) = false := by simp [h1]
        have d4 : (p.i 19 == 4) = false := by simp [h4]
        have d5 : (p.i 19 == 5) = false := by simp [h5]
        have d2 : (p.i 19 == 2) = false := by simp [h2]
        have d3 : (p.i 19 == 3) = false := by simp [h3]
        have HR := Lib.hid (show T = none by rw [HT1.out]; unfold statesL; rw [if_neg h0]; rw [if_neg h1]; rw [if_neg h4]; rw [if_neg h5]; rw [if_neg h2]; rw [if_neg h3]; rfl)
        clear HT1 h0 h1 h4 h5 h2 h3
        go_wp2_with fail
        go_ret
        rw [HR.out]
        exact ⟨rfl, H3.out, HO3.out⟩
end Go.Proofs.Ytdangeefecdbaaa.Br
