/- Chapter 15: the rows of the state that a port is in (ford/trans.port.states). Conditions: the bridge lies in memory; there aren't very many ports; its times aren't very much. -/
import Derived.Test.YtdangeefecdbaaaTr8
import Derived.Test.YtdangeefecdbaaaTr9
import Derived.Test.YtdangeefecdbaaaTr10
set_option linter.unusedSimpArgs false
set_option linter.unusedVariables false
namespace Go.Proofs.Ytdangeefecdbaaa.Br
open Go.RowKit
/-- The rows of the state that a port is in. -/
def statesL (b : Bri) (k : Nat) (p : Rec) (ps : Nat → Rec) : List (Bool × (Nat → Rec)) :=
  if p.i 19 = 0 then [(quietF p, upd ps k (restF 1 (b.r.i 3) p))]
  else if p.i 19 = 1 then [(restlessF (b.r.i 3) p, upd ps k (restF 1 (b.r.i 3) p))]
  else if p.i 19 = 4 then [(quietF p, upd ps k (restF 5 (fwdN b p) p))]
  else if p.i 19 = 5 then altL b k p ps
  else if p.i 19 = 2 then rootL b k p ps
  else if p.i 19 = 3 then desL b k p ps
  else []
attribute [local go_sem] bldRow mkRows1 mkRows2 mkRows4 mkRows5 mkRows6
set_option maxRecDepth 100000 in
set_option maxHeartbeats 8000000 in
theorem states_any (w : World) (bx g k : Nat) (b : Bri) (ps ss : Nat → Rec) (fs : Nat → Int) (p : Rec) (h : Bst w bx g b (upd ps k p) ss fs) (hk : k < b.n) (hT : ∀ x, x < 3 → 0 ≤ b.r.i (3 + x) ∧ b.r.i (3 + x) ≤ 1000) (hn : b.n ≤ 1000) : Calls Try.prog 19 #[.agg #[.pointer (some ⟨bx, 0, none⟩), .int .i64 k, .pointer (some ⟨g, k * 89, none⟩), .pointer (some ⟨g, k * 89 + 22, none⟩), .pointer (some ⟨g, k * 89 + 6, none⟩)]] w fun e w' => ∃ v, e = .returned v ∧ Rows bx g b ss fs w' v (statesL b k p ps) ∧ Below w.heap.size w w' := by
  have HT := Lib.hid hT
  clear hT
  go_enter Try.func19, Try.ntmps19
  go_upto_region 1 with (fail)
  refine ((?_ : ∀ x, x = w.alloc (.cells #[.pointer (some ⟨bx, 0, none⟩), .int .i64 k, .pointer (some ⟨g, k * 89, none⟩), .pointer (some ⟨g, k * 89 + 22, none⟩), .pointer (some ⟨g, k * 89 + 6, none⟩)] 57) → Code.wp _ _ _ _ x) _ rfl)
  intro w1 hw1
  obtain ⟨gx, hgx⟩ : ∃ x, x = w.heap.size := ⟨_, rfl⟩
  rw [← hgx]
  have hX1 : w1.heap[gx]? = some (.cells #[.pointer (some ⟨bx, 0, none⟩), .int .i64 k, .pointer (some ⟨g, k * 89, none⟩), .pointer (some ⟨g, k * 89 + 22, none⟩), .pointer (some ⟨g, k * 89 + 6, none⟩)] 57 (0, 0)) := by rw [hw1, hgx]; exact heap_alloc_new _ _
  have h1 : Bst w1 bx g b (upd ps k p) ss fs := by rw [hw1]; exact h.below (more (Below.refl _ _) _)
  have hbw : Below w.heap.size w w1 := by rw [hw1]; exact more (Below.refl _ _) _
  have HBW := Lib.hid hbw
  have HGX := Lib.hid hgx
  have ho1 : Only (· = g) w w1 := by rw [hw1]; exact (Only.refl _ _).alloc _
  have ngx : ¬ gx = g := by have := h.p.lt; omega
  have nxg : ¬ g = gx := by have := h.p.lt; omega
  have nxb : ¬ gx = bx := by have := h.lt; omega
  have H1 := Lib.hid h1
  have HO1 := Lib.hid ho1
  have lx := (Array.getElem?_eq_some_iff.1 hX1).1
  have HX1 := Lib.hid hX1
  clear hw1 hgx hX1 h1 ho1 h hbw
  have x0 : w1.cell? ⟨gx, 0, none⟩ = some (.pointer (some ⟨bx, 0, none⟩)) := cells_of HX1.out 0
  have x1 : w1.cell? ⟨gx, 1, none⟩ = some (.int .i64 k) := cells_of HX1.out 1
  have x2 : w1.cell? ⟨gx, 2, none⟩ = some (.pointer (some ⟨g, k * 89, none⟩)) := cells_of HX1.out 2
  have x3 : w1.cell? ⟨gx, 3, none⟩ = some (.pointer (some ⟨g, k * 89 + 22, none⟩)) := cells_of HX1.out 3
  have x4 : w1.cell? ⟨gx, 4, none⟩ = some (.pointer (some ⟨g, k * 89 + 6, none⟩)) := cells_of HX1.out 4
  have c29 : w1.cell? ⟨g, k * 89 + 22 + 7, none⟩ = some (.bool (p.b 29)) := (H1.out.p.cell hk (j := 29) (by omega)).trans (by rw [upd_same]; rfl)
  have c27 : w1.cell? ⟨g, k * 89 + 22 + 5, none⟩ = some (.bool (p.b 27)) := (H1.out.p.cell hk (j := 27) (by omega)).trans (by rw [upd_same]; rfl)
  have c19 : w1.cell? ⟨g, k * 89 + 15 + 4, none⟩ = some (.int .i64 (p.i 19)) := (H1.out.p.cell hk (j := 19) (by omega)).trans (by rw [upd_same]; rfl)
  have b3 : w1.cell? ⟨bx, 2 + 1, none⟩ = some (.int .i64 (b.r.i 3)) := cells_of H1.out.h 3
  go_upto_region 1 with (fail)
  go_cut [3] from 5 to 18 (fun c w' => c = .bool (quietF p) ∧ w1 = w')
  case first =>
    have hq : quietF p = (!p.b 29 && !p.b 27) := rfl
    cases e1 : p.b 29 <;> cases e2 : p.b 27
    all_goals
      rw [e1, e2] at hq
      rw [e1] at c29
      rw [e2] at c27
      have HQ := Lib.hid hq
      clear hq e1 e2
      go_wp2_with fail
      go_meet
      exact ⟨by rw [HQ.out]; rfl, rfl⟩
  case rest =>
  obtain ⟨rfl, rfl⟩ := hcut
  obtain ⟨qq, hqq⟩ : ∃ x : Bool, x = quietF p := ⟨_, rfl⟩
  rw [← hqq]
  have Hqq := Lib.hid hqq
  clear hqq c29 c27
  by_cases h0 : p.i 19 = 0
  · have d0 : (p.i 19 == 0) = true := by simp [h0]
    have HL := Lib.hid (show statesL b k p ps = [(quietF p, upd ps k (restF 1 (b.r.i 3) p))] by unfold statesL; rw [if_pos h0])
    clear h0
    go_wp2_with (first | (refine wpList_load_row rfl 57 _ rfl gx rfl 57 #[.pointer (some ⟨bx, 0, none⟩), .int .i64 k, .pointer (some ⟨g, k * 89, none⟩), .pointer (some ⟨g, k * 89 + 22, none⟩), .pointer (some ⟨g, k * 89 + 6, none⟩)] (0, 0) _ HX1.out Try.underlying57 rfl (by kernel_rfl) ?_; simp only [Act.put, List.setIfInBounds_toArray, List.set_cons_zero, List.set_cons_succ]) | fail)
    refine (rest_any _ bx g k b ps ss fs p H1.out hk 1 (b.r.i 3)).mono ?_
    rintro e we ⟨f, bn, cp, rfl, hD, hbe⟩
    have HD := Lib.hid hD
    have HBE := Lib.hid hbe
    clear hD hbe
    go_wp2_with fail
    go_ret
    exact ⟨_, rfl, by rw [HL.out]; exact (rows_new (bx := bx) (g := g) (b := b) (ss := ss) (fs := fs) (ds := [(quietF p, upd ps k (restF 1 (b.r.i 3) p))]) (W := we.alloc (.cells #[.bool qq, .func (.func f) bn cp] 61)) (n := 1) [(qq, .func (.func f) bn cp)] (heap_alloc_new we _) rfl rfl (by omega) ⟨⟨Hqq.out, HD.out.later (more (Below.refl _ _) _)⟩, trivial⟩).rows, HBW.out.trans ((HBE.out.trans ((more (Below.refl we.heap.size we) _).mono HBE.out.size)).mono HBW.out.size)⟩
  by_cases h1 : p.i 19 = 1
  · have d0 : (p.i 19 == 0) = false := by simp [h0]
    have d1 : (p.i 19 == 1) = true := by simp [h1]
    have HL := Lib.hid (show statesL b k p ps = [(restlessF (b.r.i 3) p, upd ps k (restF 1 (b.r.i 3) p))] by unfold statesL; rw [if_neg h0]; rw [if_pos h1])
    clear h0 h1
    obtain ⟨qr, hqr⟩ : ∃ x : Bool, x = restlessF (b.r.i 3) p := ⟨_, rfl⟩
    have Hqr := Lib.hid hqr
    clear hqr
    go_upto_region 7 with (fail)
    refine wp_region_held_drew (S := fun w' => Below w1.heap.size w1 w') (by kernel_rfl) (Below.refl _ _).drew (fun hH => ?_)
    refine wpAnyH_take (i := 0) (v := .agg #[.pointer (some ⟨bx, 0, none⟩), .int .i64 k, .pointer (some ⟨g, k * 89, none⟩), .pointer (some ⟨g, k * 89 + 22, none⟩), .pointer (some ⟨g, k * 89 + 6, none⟩)]) rfl (by kernel_rfl) (by kernel_rfl) (by kernel_rfl) (fun _ _ _ h => h) (by exact yieldsIf_load_mid (by kernel_rfl) 57 (.tmp 1) (by kernel_rfl) gx (0) (by kernel_rfl) (#[.pointer (some ⟨bx, 0, none⟩), .int .i64 k, .pointer (some ⟨g, k * 89, none⟩), .pointer (some ⟨g, k * 89 + 22, none⟩), .pointer (some ⟨g, k * 89 + 6, none⟩)]).toList _ (row_held HX1.out lx) Try.underlying57 rfl (by kernel_rfl)) hH ?_
    simp only [List.getElem_toArray, List.getElem_cons_succ, List.getElem_cons_zero, Act.put, List.setIfInBounds_toArray, List.set_cons_zero, List.set_cons_succ]
    refine wpAnyH_take (i := 1) (v := .int .i64 (b.r.i 3)) rfl (by kernel_rfl) (by kernel_rfl) (by kernel_rfl) (fun _ _ _ h => h) (Or.inl ⟨by kernel_rfl, fun z hz => by kernel_rfl⟩) hH ?_
    simp only [List.getElem_toArray, List.getElem_cons_succ, List.getElem_cons_zero, Act.put, List.setIfInBounds_toArray, List.set_cons_zero, List.set_cons_succ]
    refine wpAnyH_take (i := 3) (v := .agg #[.pointer (some ⟨bx, 0, none⟩), .int .i64 k, .pointer (some ⟨g, k * 89, none⟩), .pointer (some ⟨g, k * 89 + 22, none⟩), .pointer (some ⟨g, k * 89 + 6, none⟩)]) rfl (by kernel_rfl) (by kernel_rfl) (by kernel_rfl) (fun _ _ _ h => h) (by exact yieldsIf_load_mid (by kernel_rfl) 57 (.tmp 1) (by kernel_rfl) gx (0) (by kernel_rfl) (#[.pointer (some ⟨bx, 0, none⟩), .int .i64 k, .pointer (some ⟨g, k * 89, none⟩), .pointer (some ⟨g, k * 89 + 22, none⟩), .pointer (some ⟨g, k * 89 + 6, none⟩)]).toList _ (row_held HX1.out lx) Try.underlying57 rfl (by kernel_rfl)) hH ?_
    simp only [List.getElem_toArray, List.getElem_cons_succ, List.getElem_cons_zero, Act.put, List.setIfInBounds_toArray, List.set_cons_zero, List.set_cons_succ]
    refine wpAnyH_take (i := 4) (v := .int .i64 (b.r.i 3)) rfl (by kernel_rfl) (by kernel_rfl) (by kernel_rfl) (fun _ _ _ h => h) (Or.inl ⟨by kernel_rfl, fun z hz => by kernel_rfl⟩) hH ?_
    simp only [List.getElem_toArray, List.getElem_cons_succ, List.getElem_cons_zero, Act.put, List.setIfInBounds_toArray, List.set_cons_zero, List.set_cons_succ]
    refine wpAnyH_ready (rs := [2]) (by kernel_rfl) (by simp) (AllReadyH.cons rfl (fun K hK => ?_) AllReadyH.nil)
    go_simp
    refine (restless_any _ bx g k b ps ss fs p (H1.out.below hH) hk _).mono ?_
    rintro e wd ⟨rfl, hbe⟩
    rw [show restlessF (b.r.i 3) p = qr from Hqr.out.symm]
    refine hK.out _ _ (hH.trans (hbe.mono hH.size)) (fun hA => ?_)
    clear hK K hbe
    refine wpAnyH_ready (rs := [5]) (by kernel_rfl) (by simp) (AllReadyH.cons rfl (fun K hK => ?_) AllReadyH.nil)
    go_simp
    refine (rest_any _ bx g k b ps ss fs p (H1.out.below hA) hk 1 (b.r.i 3)).mono ?_
    rintro e we ⟨f, bn, cp, rfl, hD, hbe⟩
    refine hK.out _ _ (hA.trans (hbe.mono hA.size)) (fun hB => ?_)
    have HD := Lib.hid hD
    clear hK K hbe hD
    refine wpAnyH_take (i := 6) (v := .agg #[.bool qr, .func (.func f) bn cp]) rfl (by kernel_rfl) (by kernel_rfl) (by kernel_rfl) (fun _ _ _ h => h) (Or.inl ⟨by kernel_rfl, fun z hz => by simp [go_sem, execOp, bldRow]⟩) hB ?_
    simp only [List.getElem_toArray, List.getElem_cons_succ, List.getElem_cons_zero, Act.put, List.setIfInBounds_toArray, List.set_cons_zero, List.set_cons_succ]
    refine wpAnyH_ready (rs := [7]) (by kernel_rfl) (by simp) (AllReadyH.cons rfl (fun K hK => ?_) AllReadyH.nil)
    go_simp
    refine hK.out _ _ (hB.alloc hB.size _) (fun hE => ?_)
    clear hK K
    refine wpAnyH_take (i := 8) (v := .slice (some ⟨we.heap.size, 0, none⟩) 1 1) rfl (by kernel_rfl) (by kernel_rfl) (by kernel_rfl) (fun _ _ _ h => h) (Or.inl ⟨by kernel_rfl, fun z hz => by kernel_rfl⟩) hE ?_
    simp only [List.getElem_toArray, List.getElem_cons_succ, List.getElem_cons_zero, Act.put, List.setIfInBounds_toArray, List.set_cons_zero, List.set_cons_succ]
    refine wpAnyH_done (by kernel_rfl) ?_ _
    go_wp2_with fail
    go_ret
    exact ⟨_, rfl, by rw [HL.out]; exact (rows_new (bx := bx) (g := g) (b := b) (ss := ss) (fs := fs) (ds := [(restlessF (b.r.i 3) p, upd ps k (restF 1 (b.r.i 3) p))]) (W := we.alloc (.cells #[.bool qr, .func (.func f) bn cp] 61)) (n := 1) [(qr, .func (.func f) bn cp)] (heap_alloc_new we _) rfl rfl (by omega) ⟨⟨Hqr.out, HD.out.later (more (Below.refl _ _) _)⟩, trivial⟩).rows, HBW.out.trans (hE.mono HBW.out.size)⟩
  by_cases h4 : p.i 19 = 4
  · have d0 : (p.i 19 == 0) = false := by simp [h0]
    have d1 : (p.i 19 == 1) = false := by simp [h1]
    have d4 : (p.i 19 == 4) = true := by simp [h4]
    have HL := Lib.hid (show statesL b k p ps = [(quietF p, upd ps k (restF 5 (fwdN b p) p))] by unfold statesL; rw [if_neg h0]; rw [if_neg h1]; rw [if_pos h4])
    clear h0 h1 h4
    go_upto_region 9 with (fail)
    refine wp_region_held_drew (S := fun w' => Below w1.heap.size w1 w') (by kernel_rfl) (Below.refl _ _).drew (fun hH => ?_)
    refine wpAnyH_take (i := 0) (v := .bool qq) rfl (by kernel_rfl) (by kernel_rfl) (by kernel_rfl) (fun _ _ _ h => h) (Or.inl ⟨by kernel_rfl, fun z hz => by kernel_rfl⟩) hH ?_
    simp only [List.getElem_toArray, List.getElem_cons_succ, List.getElem_cons_zero, Act.put, List.setIfInBounds_toArray, List.set_cons_zero, List.set_cons_succ]
    refine wpAnyH_take (i := 1) (v := .agg #[.pointer (some ⟨bx, 0, none⟩), .int .i64 k, .pointer (some ⟨g, k * 89, none⟩), .pointer (some ⟨g, k * 89 + 22, none⟩), .pointer (some ⟨g, k * 89 + 6, none⟩)]) rfl (by kernel_rfl) (by kernel_rfl) (by kernel_rfl) (fun _ _ _ h => h) (by exact yieldsIf_load_mid (by kernel_rfl) 57 (.tmp 1) (by kernel_rfl) gx (0) (by kernel_rfl) (#[.pointer (some ⟨bx, 0, none⟩), .int .i64 k, .pointer (some ⟨g, k * 89, none⟩), .pointer (some ⟨g, k * 89 + 22, none⟩), .pointer (some ⟨g, k * 89 + 6, none⟩)]).toList _ (row_held HX1.out lx) Try.underlying57 rfl (by kernel_rfl)) hH ?_
    simp only [List.getElem_toArray, List.getElem_cons_succ, List.getElem_cons_zero, Act.put, List.setIfInBounds_toArray, List.set_cons_zero, List.set_cons_succ]
    refine wpAnyH_take (i := 2) (v := .pointer (some ⟨gx, 0, none⟩)) rfl (by kernel_rfl) (by kernel_rfl) (by kernel_rfl) (fun _ _ _ h => h) (Or.inl ⟨by kernel_rfl, fun z hz => by simp [go_sem, execOp]⟩) hH ?_
    simp only [List.getElem_toArray, List.getElem_cons_succ, List.getElem_cons_zero, Act.put, List.setIfInBounds_toArray, List.set_cons_zero, List.set_cons_succ]
    refine wpAnyH_take (i := 3) (v := .pointer (some ⟨bx, 0, none⟩)) rfl (by kernel_rfl) (by kernel_rfl) (by kernel_rfl) (fun _ _ _ h => h) (Or.inl ⟨by kernel_rfl, fun z hz => by simp [go_sem, execOp, (show z.cell? ⟨gx, 0, none⟩ = some (.pointer (some ⟨bx, 0, none⟩)) from (hz.cell (p := ⟨gx, 0, none⟩) lx).trans x0)]⟩) hH ?_
    simp only [List.getElem_toArray, List.getElem_cons_succ, List.getElem_cons_zero, Act.put, List.setIfInBounds_toArray, List.set_cons_zero, List.set_cons_succ]
    refine wpAnyH_take (i := 4) (v := .pointer (some ⟨bx, 0, none⟩)) rfl (by kernel_rfl) (by kernel_rfl) (by kernel_rfl) (fun _ _ _ h => h) (Or.inl ⟨by kernel_rfl, fun z hz => by simp [go_sem, execOp]⟩) hH ?_
    simp only [List.getElem_toArray, List.getElem_cons_succ, List.getElem_cons_zero, Act.put, List.setIfInBounds_toArray, List.set_cons_zero, List.set_cons_succ]
    refine wpAnyH_take (i := 5) (v := .agg (rowB b)) rfl (by kernel_rfl) (by kernel_rfl) (by kernel_rfl) (fun _ _ _ h => h) (by exact yieldsIf_load_mid (by kernel_rfl) 33 (.tmp 55) (by kernel_rfl) bx (0) (by kernel_rfl) (rowB b).toList _ (row_held H1.out.h H1.out.lt) Try.underlying33 rfl (sizeBr _)) hH ?_
    simp only [List.getElem_toArray, List.getElem_cons_succ, List.getElem_cons_zero, Act.put, List.setIfInBounds_toArray, List.set_cons_zero, List.set_cons_succ]
    refine wpAnyH_take (i := 6) (v := .pointer (some ⟨gx, 1, none⟩)) rfl (by kernel_rfl) (by kernel_rfl) (by kernel_rfl) (fun _ _ _ h => h) (Or.inl ⟨by kernel_rfl, fun z hz => by simp [go_sem, execOp]⟩) hH ?_
    simp only [List.getElem_toArray, List.getElem_cons_succ, List.getElem_cons_zero, Act.put, List.setIfInBounds_toArray, List.set_cons_zero, List.set_cons_succ]
    refine wpAnyH_take (i := 7) (v := .int .i64 k) rfl (by kernel_rfl) (by kernel_rfl) (by kernel_rfl) (fun _ _ _ h => h) (Or.inl ⟨by kernel_rfl, fun z hz => by simp [go_sem, execOp, (show z.cell? ⟨gx, 1, none⟩ = some (.int .i64 k) from (hz.cell (p := ⟨gx, 1, none⟩) lx).trans x1)]⟩) hH ?_
    simp only [List.getElem_toArray, List.getElem_cons_succ, List.getElem_cons_zero, Act.put, List.setIfInBounds_toArray, List.set_cons_zero, List.set_cons_succ]
    refine wpAnyH_ready (rs := [8]) (by kernel_rfl) (by simp) (AllReadyH.cons rfl (fun K hK => ?_) AllReadyH.nil)
    go_simp
    refine (fwd_any (H1.out.below hH) hk).mono ?_
    rintro e wd ⟨rfl, hbe⟩
    refine hK.out _ _ (hH.trans (hbe.mono hH.size)) (fun hA => ?_)
    clear hK K hbe
    refine wpAnyH_ready (rs := [9]) (by kernel_rfl) (by simp) (AllReadyH.cons rfl (fun K hK => ?_) AllReadyH.nil)
    go_simp
    refine (rest_any _ bx g k b ps ss fs p (H1.out.below hA) hk 5 (fwdN b p)).mono ?_
    rintro e we ⟨f, bn, cp, rfl, hD, hbe⟩
    refine hK.out _ _ (hA.trans (hbe.mono hA.size)) (fun hB => ?_)
    have HD := Lib.hid hD
    clear hK K hbe hD
    refine wpAnyH_take (i := 10) (v := .agg #[.bool qq, .func (.func f) bn cp]) rfl (by kernel_rfl) (by kernel_rfl) (by kernel_rfl) (fun _ _ _ h => h) (Or.inl ⟨by kernel_rfl, fun z hz => by simp [go_sem, execOp, bldRow]⟩) hB ?_
    simp only [List.getElem_toArray, List.getElem_cons_succ, List.getElem_cons_zero, Act.put, List.setIfInBounds_toArray, List.set_cons_zero, List.set_cons_succ]
    refine wpAnyH_ready (rs := [11]) (by kernel_rfl) (by simp) (AllReadyH.cons rfl (fun K hK => ?_) AllReadyH.nil)
    go_simp
    refine hK.out _ _ (hB.alloc hB.size _) (fun hE => ?_)
    clear hK K
    refine wpAnyH_take (i := 12) (v := .slice (some ⟨we.heap.size, 0, none⟩) 1 1) rfl (by kernel_rfl) (by kernel_rfl) (by kernel_rfl) (fun _ _ _ h => h) (Or.inl ⟨by kernel_rfl, fun z hz => by kernel_rfl⟩) hE ?_
    simp only [List.getElem_toArray, List.getElem_cons_succ, List.getElem_cons_zero, Act.put, List.setIfInBounds_toArray, List.set_cons_zero, List.set_cons_succ]
    refine wpAnyH_done (by kernel_rfl) ?_ _
    go_wp2_with fail
    go_ret
    exact ⟨_, rfl, by rw [HL.out]; exact (rows_new (bx := bx) (g := g) (b := b) (ss := ss) (fs := fs) (ds := [(quietF p, upd ps k (restF 5 (fwdN b p) p))]) (W := we.alloc (.cells #[.bool qq, .func (.func f) bn cp] 61)) (n := 1) [(qq, .func (.func f) bn cp)] (heap_alloc_new we _) rfl rfl (by omega) ⟨⟨Hqq.out, HD.out.later (more (Below.refl _ _) _)⟩, trivial⟩).rows, HBW.out.trans (hE.mono HBW.out.size)⟩
  by_cases h5 : p.i 19 = 5
  · have d0 : (p.i 19 == 0) = false := by simp [h0]
    have d1 : (p.i 19 == 1) = false := by simp [h1]
    have d4 : (p.i 19 == 4) = false := by simp [h4]
    have d5 : (p.i 19 == 5) = true := by simp [h5]
    have HL := Lib.hid (show statesL b k p ps = altL b k p ps by unfold statesL; rw [if_neg h0]; rw [if_neg h1]; rw [if_neg h4]; rw [if_pos h5])
    clear h0 h1 h4 h5
    go_wp2_with (first | (refine wpList_load_row rfl 57 _ rfl gx rfl 57 #[.pointer (some ⟨bx, 0, none⟩), .int .i64 k, .pointer (some ⟨g, k * 89, none⟩), .pointer (some ⟨g, k * 89 + 22, none⟩), .pointer (some ⟨g, k * 89 + 6, none⟩)] (0, 0) _ HX1.out Try.underlying57 rfl (by kernel_rfl) ?_; simp only [Act.put, List.setIfInBounds_toArray, List.set_cons_zero, List.set_cons_succ]) | fail)
    refine (alternate_any _ bx g k b ps ss fs p H1.out hk HT.out hn).mono ?_
    rintro e we ⟨v, rfl, hR, hbe⟩
    have HR := Lib.hid hR
    have HBE := Lib.hid hbe
    clear hR hbe
    go_wp2_with fail
    go_ret
    exact ⟨v, rfl, by rw [HL.out]; exact HR.out, HBW.out.trans (HBE.out.mono HBW.out.size)⟩
  by_cases h2 : p.i 19 = 2
  · have d0 : (p.i 19 == 0) = false := by simp [h0]
    have d1 : (p.i 19 == 1) = false := by simp [h1]
    have d4 : (p.i 19 == 4) = false := by simp [h4]
    have d5 : (p.i 19 == 5) = false := by simp [h5]
    have d2 : (p.i 19 == 2) = true := by simp [h2]
    have HL := Lib.hid (show statesL b k p ps = rootL b k p ps by unfold statesL; rw [if_neg h0]; rw [if_neg h1]; rw [if_neg h4]; rw [if_neg h5]; rw [if_pos h2])
    clear h0 h1 h4 h5 h2
    go_wp2_with (first | (refine wpList_load_row rfl 57 _ rfl gx rfl 57 #[.pointer (some ⟨bx, 0, none⟩), .int .i64 k, .pointer (some ⟨g, k * 89, none⟩), .pointer (some ⟨g, k * 89 + 22, none⟩), .pointer (some ⟨g, k * 89 + 6, none⟩)] (0, 0) _ HX1.out Try.underlying57 rfl (by kernel_rfl) ?_; simp only [Act.put, List.setIfInBounds_toArray, List.set_cons_zero, List.set_cons_succ]) | fail)
    refine (root_any _ bx g k b ps ss fs p H1.out hk hn).mono ?_
    rintro e we ⟨v, rfl, hR, hbe⟩
    have HR := Lib.hid hR
    have HBE := Lib.hid hbe
    clear hR hbe
    go_wp2_with fail
    go_ret
    exact ⟨v, rfl, by rw [HL.out]; exact HR.out, HBW.out.trans (HBE.out.mono HBW.out.size)⟩
  by_cases h3 : p.i 19 = 3
  · have d0 : (p.i 19 == 0) = false := by simp [h0]
    have d1 : (p.i 19 == 1) = false := by simp [h1]
    have d4 : (p.i 19 == 4) = false := by simp [h4]
    have d5 : (p.i 19 == 5) = false := by simp [h5]
    have d2 : (p.i 19 == 2) = false := by simp [h2]
    have d3 : (p.i 19 == 3) = true := by simp [h3]
    have HL := Lib.hid (show statesL b k p ps = desL b k p ps by unfold statesL; rw [if_neg h0]; rw [if_neg h1]; rw [if_neg h4]; rw [if_neg h5]; rw [if_neg h2]; rw [if_pos h3])
    clear h0 h1 h4 h5 h2 h3
    go_wp2_with (first | (refine wpList_load_row rfl 57 _ rfl gx rfl 57 #[.pointer (some ⟨bx, 0, none⟩), .int .i64 k, .pointer (some ⟨g, k * 89, none⟩), .pointer (some ⟨g, k * 89 + 22, none⟩), .pointer (some ⟨g, k * 89 + 6, none⟩)] (0, 0) _ HX1.out Try.underlying57 rfl (by kernel_rfl) ?_; simp only [Act.put, List.setIfInBounds_toArray, List.set_cons_zero, List.set_cons_succ]) | fail)
    refine (designated_any _ bx g k b ps ss fs p H1.out hk).mono ?_
    rintro e we ⟨v, rfl, hR, hbe⟩
    have HR := Lib.hid hR
    have HBE := Lib.hid hbe
    clear hR hbe
    go_wp2_with fail
    go_ret
    exact ⟨v, rfl, by rw [HL.out]; exact HR.out, HBW.out.trans (HBE.out.mono HBW.out.size)⟩
  have d0 : (p.i 19 == 0) = false := by simp [h0]
  have d1 : (p.i 19 == 1) = false := by simp [h1]
  have d4 : (p.i 19 == 4) = false := by simp [h4]
  have d5 : (p.i 19 == 5) = false := by simp [h5]
  have d2 : (p.i 19 == 2) = false := by simp [h2]
  have d3 : (p.i 19 == 3) = false := by simp [h3]
  have HL := Lib.hid (show statesL b k p ps = [] by unfold statesL; rw [if_neg h0]; rw [if_neg h1]; rw [if_neg h4]; rw [if_neg h5]; rw [if_neg h2]; rw [if_neg h3])
  clear h0 h1 h4 h5 h2 h3
  go_wp2_with fail
  go_ret
  exact ⟨_, rfl, by rw [HL.out]; exact ⟨[], 0, .inl ⟨rfl, rfl, rfl⟩, trivial⟩, HBW.out⟩
end Go.Proofs.Ytdangeefecdbaaa.Br
