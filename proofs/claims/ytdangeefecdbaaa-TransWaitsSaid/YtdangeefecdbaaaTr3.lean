/- Chapter 15: what is done to a port when a row's condition holds, the rest: learning, agreeing, the designated port's, all ports'. Conditions: the bridge lies in memory; what a closure has caught lies elsewhere; there aren't very many ports. -/
import Derived.Test.YtdangeefecdbaaaTr2
set_option linter.unusedSimpArgs false
set_option linter.unusedVariables false
namespace Go.Proofs.Ytdangeefecdbaaa.Br
open Go.RowKit
set_option maxRecDepth 100000 in
set_option maxHeartbeats 4000000 in
theorem learns_any (w : World) (bx g k : Nat) (b : Bri) (ps ss : Nat → Rec) (fs : Nat → Int) (p : Rec) (h : Bst w bx g b (upd ps k p) ss fs) (hk : k < b.n) : Calls Try.prog 46 #[.agg #[.pointer (some ⟨bx, 0, none⟩), .int .i64 k, .pointer (some ⟨g, k * 89, none⟩), .pointer (some ⟨g, k * 89 + 22, none⟩), .pointer (some ⟨g, k * 89 + 6, none⟩)]] w fun e w' => e = .returned (.tuple #[]) ∧ Bst w' bx g b (upd ps k ((p.setB 28 true).setI 7 (fwdN b p))) ss fs ∧ Only (· = g) w w' := by
  go_enter Try.func46, Try.ntmps46
  go_upto_region 1 with (fail)
  refine ((?_ : ∀ x, x = w.alloc (.cells #[.pointer (some ⟨bx, 0, none⟩), .int .i64 k, .pointer (some ⟨g, k * 89, none⟩), .pointer (some ⟨g, k * 89 + 22, none⟩), .pointer (some ⟨g, k * 89 + 6, none⟩)] 57) → Code.wp _ _ _ _ x) _ rfl)
  intro w1 hw1
  obtain ⟨gx, hgx⟩ : ∃ x, x = w.heap.size := ⟨_, rfl⟩
  rw [← hgx]
  have hX1 : w1.heap[gx]? = some (.cells #[.pointer (some ⟨bx, 0, none⟩), .int .i64 k, .pointer (some ⟨g, k * 89, none⟩), .pointer (some ⟨g, k * 89 + 22, none⟩), .pointer (some ⟨g, k * 89 + 6, none⟩)] 57 (0, 0)) := by rw [hw1, hgx]; exact heap_alloc_new _ _
  have h1 : Bst w1 bx g b (upd ps k p) ss fs := by rw [hw1]; exact h.below (more (Below.refl _ _) _)
  have hbw : Below w.heap.size w w1 := by rw [hw1]; exact more (Below.refl _ _) _
  have HBW := Lib.hid hbw
  have HGX := Lib.hid hgx
  have ho1 : Only (· = g) w w1 := by rw [hw1]; exact (Only.refl _ _).alloc _
  have ngx : ¬ gx = g := by have := h.p.lt; omega
  have nxg : ¬ g = gx := by have := h.p.lt; omega
  have nxb : ¬ gx = bx := by have := h.lt; omega
  have H1 := Lib.hid h1
  have HO1 := Lib.hid ho1
  have lx := (Array.getElem?_eq_some_iff.1 hX1).1
  have HX1 := Lib.hid hX1
  clear hw1 hgx hX1 h1 ho1 h hbw
  have x0 : w1.cell? ⟨gx, 0, none⟩ = some (.pointer (some ⟨bx, 0, none⟩)) := cells_of HX1.out 0
  have x1 : w1.cell? ⟨gx, 1, none⟩ = some (.int .i64 k) := cells_of HX1.out 1
  have x2 : w1.cell? ⟨gx, 2, none⟩ = some (.pointer (some ⟨g, k * 89, none⟩)) := cells_of HX1.out 2
  have x3 : w1.cell? ⟨gx, 3, none⟩ = some (.pointer (some ⟨g, k * 89 + 22, none⟩)) := cells_of HX1.out 3
  have x4 : w1.cell? ⟨gx, 4, none⟩ = some (.pointer (some ⟨g, k * 89 + 6, none⟩)) := cells_of HX1.out 4
  refine wp_region_held_drew (S := fun w' => Only (· = g) w1 w') (by kernel_rfl) (Only.refl _ _).drew (fun hH => ?_)
  refine wpAnyH_take (i := 0) (v := .pointer (some ⟨gx, 3, none⟩)) rfl (by kernel_rfl) (by kernel_rfl) (by kernel_rfl) (fun _ _ _ h => h) (Or.inl ⟨by rfl, fun z _ => by simp [go_sem, execOp]⟩) hH ?_
  simp only [List.getElem_toArray, List.getElem_cons_succ, List.getElem_cons_zero, Act.put, List.setIfInBounds_toArray, List.set_cons_zero, List.set_cons_succ]
  refine wpAnyH_take (i := 1) (v := .pointer (some ⟨g, k * 89 + 22, none⟩)) rfl (by kernel_rfl) (by kernel_rfl) (by kernel_rfl) (fun _ _ _ h => h) (Or.inl ⟨by rfl, fun z hz => by simp [go_sem, execOp, (show z.cell? ⟨gx, 3, none⟩ = some (.pointer (some ⟨g, k * 89 + 22, none⟩)) from (hz.cell (p := ⟨gx, 3, none⟩) lx (by show ¬ gx = g; exact ngx)).trans x3)]⟩) hH ?_
  simp only [List.getElem_toArray, List.getElem_cons_succ, List.getElem_cons_zero, Act.put, List.setIfInBounds_toArray, List.set_cons_zero, List.set_cons_succ]
  refine wpAnyH_take (i := 2) (v := .pointer (some ⟨gx, 4, none⟩)) rfl (by kernel_rfl) (by kernel_rfl) (by kernel_rfl) (fun _ _ _ h => h) (Or.inl ⟨by rfl, fun z _ => by simp [go_sem, execOp]⟩) hH ?_
  simp only [List.getElem_toArray, List.getElem_cons_succ, List.getElem_cons_zero, Act.put, List.setIfInBounds_toArray, List.set_cons_zero, List.set_cons_succ]
  refine wpAnyH_take (i := 3) (v := .pointer (some ⟨g, k * 89 + 6, none⟩)) rfl (by kernel_rfl) (by kernel_rfl) (by kernel_rfl) (fun _ _ _ h => h) (Or.inl ⟨by rfl, fun z hz => by simp [go_sem, execOp, (show z.cell? ⟨gx, 4, none⟩ = some (.pointer (some ⟨g, k * 89 + 6, none⟩)) from (hz.cell (p := ⟨gx, 4, none⟩) lx (by show ¬ gx = g; exact ngx)).trans x4)]⟩) hH ?_
  simp only [List.getElem_toArray, List.getElem_cons_succ, List.getElem_cons_zero, Act.put, List.setIfInBounds_toArray, List.set_cons_zero, List.set_cons_succ]
  refine wpAnyH_take (i := 4) (v := .pointer (some ⟨gx, 0, none⟩)) rfl (by kernel_rfl) (by kernel_rfl) (by kernel_rfl) (fun _ _ _ h => h) (Or.inl ⟨by rfl, fun z _ => by simp [go_sem, execOp]⟩) hH ?_
  simp only [List.getElem_toArray, List.getElem_cons_succ, List.getElem_cons_zero, Act.put, List.setIfInBounds_toArray, List.set_cons_zero, List.set_cons_succ]
  refine wpAnyH_take (i := 5) (v := .pointer (some ⟨bx, 0, none⟩)) rfl (by kernel_rfl) (by kernel_rfl) (by kernel_rfl) (fun _ _ _ h => h) (Or.inl ⟨by rfl, fun z hz => by simp [go_sem, execOp, (show z.cell? ⟨gx, 0, none⟩ = some (.pointer (some ⟨bx, 0, none⟩)) from (hz.cell (p := ⟨gx, 0, none⟩) lx (by show ¬ gx = g; exact ngx)).trans x0)]⟩) hH ?_
  simp only [List.getElem_toArray, List.getElem_cons_succ, List.getElem_cons_zero, Act.put, List.setIfInBounds_toArray, List.set_cons_zero, List.set_cons_succ]
  refine wpAnyH_take (i := 6) (v := .pointer (some ⟨bx, 0, none⟩)) rfl (by kernel_rfl) (by kernel_rfl) (by kernel_rfl) (fun _ _ _ h => h) (Or.inl ⟨by rfl, fun z _ => by simp [go_sem, execOp]⟩) hH ?_
  simp only [List.getElem_toArray, List.getElem_cons_succ, List.getElem_cons_zero, Act.put, List.setIfInBounds_toArray, List.set_cons_zero, List.set_cons_succ]
  refine wpAnyH_take (i := 7) rfl (by kernel_rfl) (by kernel_rfl) (by kernel_rfl) (fun _ _ _ h => h) ((yieldsIf_load_mid (by rfl) 33 _ rfl bx (0) rfl (rowB b).toList _ (H1.out.rowB) Try.underlying33 rfl (sizeBr _))) hH ?_
  simp only [List.getElem_toArray, List.getElem_cons_succ, List.getElem_cons_zero, Act.put, List.setIfInBounds_toArray, List.set_cons_zero, List.set_cons_succ]
  refine wpAnyH_take (i := 8) (v := .pointer (some ⟨gx, 1, none⟩)) rfl (by kernel_rfl) (by kernel_rfl) (by kernel_rfl) (fun _ _ _ h => h) (Or.inl ⟨by rfl, fun z _ => by simp [go_sem, execOp]⟩) hH ?_
  simp only [List.getElem_toArray, List.getElem_cons_succ, List.getElem_cons_zero, Act.put, List.setIfInBounds_toArray, List.set_cons_zero, List.set_cons_succ]
  refine wpAnyH_take (i := 9) (v := .int .i64 k) rfl (by kernel_rfl) (by kernel_rfl) (by kernel_rfl) (fun _ _ _ h => h) (Or.inl ⟨by rfl, fun z hz => by simp [go_sem, execOp, (show z.cell? ⟨gx, 1, none⟩ = some (.int .i64 k) from (hz.cell (p := ⟨gx, 1, none⟩) lx (by show ¬ gx = g; exact ngx)).trans x1)]⟩) hH ?_
  simp only [List.getElem_toArray, List.getElem_cons_succ, List.getElem_cons_zero, Act.put, List.setIfInBounds_toArray, List.set_cons_zero, List.set_cons_succ]
  refine wpAnyH_ready (rs := [10]) (by kernel_rfl) (by simp) (AllReadyH.cons rfl (fun K hK => ?_) AllReadyH.nil)
  go_simp
  refine (fwd_any (w := w1.drew) (H1.out.below (Below.refl _ _).drew) hk).mono ?_
  rintro e we ⟨rfl, hbe⟩
  have He := Lib.hid (show Bst we bx g b (upd ps k p) ss fs from (H1.out.below (Below.refl _ _).drew).below hbe)
  have c28 : we.cell? ⟨g, k * 89 + 22 + 6, none⟩ = some (.bool (p.b 28)) := (He.out.p.cell hk (j := 28) (by omega)).trans (by rw [upd_same]; rfl)
  have c7 : we.cell? ⟨g, k * 89 + 6 + 1, none⟩ = some (.int .i64 (p.i 7)) := (He.out.p.cell hk (j := 7) (by omega)).trans (by rw [upd_same]; rfl)
  have f28 : we.frozen? ⟨g, k * 89 + 22 + 6, none⟩ = false := He.out.p.free _
  have f7 : we.frozen? ⟨g, k * 89 + 6 + 1, none⟩ = false := He.out.p.free _
  refine hK.out _ _ (hH.trans (Only.of_below hbe)) (fun hHe => ?_)
  clear hK K hH hbe
  refine wpAnyH_take (i := 11) (v := .pointer (some ⟨g, k * 89 + 22, none⟩)) rfl (by kernel_rfl) (by kernel_rfl) (by kernel_rfl) (fun _ _ _ h => h) (Or.inl ⟨by rfl, fun z _ => by simp [go_sem, execOp]⟩) hHe ?_
  simp only [List.getElem_toArray, List.getElem_cons_succ, List.getElem_cons_zero, Act.put, List.setIfInBounds_toArray, List.set_cons_zero, List.set_cons_succ]
  refine wpAnyH_take (i := 12) (v := .pointer (some ⟨g, k * 89 + 22 + 6, none⟩)) rfl (by kernel_rfl) (by kernel_rfl) (by kernel_rfl) (fun _ _ _ h => h) (Or.inl ⟨by rfl, fun z _ => by simp [go_sem, execOp]⟩) hHe ?_
  simp only [List.getElem_toArray, List.getElem_cons_succ, List.getElem_cons_zero, Act.put, List.setIfInBounds_toArray, List.set_cons_zero, List.set_cons_succ]
  refine wpAnyH_ready (rs := [13]) (by kernel_rfl) (by simp) (AllReadyH.cons rfl (fun K hK => ?_) AllReadyH.nil)
  go_simp
  refine hK.out _ _ (hHe.setCell (Or.inl rfl) _) (fun hHs0 => ?_)
  clear hK K hHe
  refine wpAnyH_take (i := 14) (v := .pointer (some ⟨g, k * 89 + 6, none⟩)) rfl (by kernel_rfl) (by kernel_rfl) (by kernel_rfl) (fun _ _ _ h => h) (Or.inl ⟨by rfl, fun z _ => by simp [go_sem, execOp]⟩) hHs0 ?_
  simp only [List.getElem_toArray, List.getElem_cons_succ, List.getElem_cons_zero, Act.put, List.setIfInBounds_toArray, List.set_cons_zero, List.set_cons_succ]
  refine wpAnyH_take (i := 15) (v := .pointer (some ⟨g, k * 89 + 6 + 1, none⟩)) rfl (by kernel_rfl) (by kernel_rfl) (by kernel_rfl) (fun _ _ _ h => h) (Or.inl ⟨by rfl, fun z _ => by simp [go_sem, execOp]⟩) hHs0 ?_
  simp only [List.getElem_toArray, List.getElem_cons_succ, List.getElem_cons_zero, Act.put, List.setIfInBounds_toArray, List.set_cons_zero, List.set_cons_succ]
  refine wpAnyH_ready (rs := [16]) (by kernel_rfl) (by simp) (AllReadyH.cons rfl (fun K hK => ?_) AllReadyH.nil)
  go_simp
  refine hK.out _ _ (hHs0.setCell (Or.inl rfl) _) (fun hHs1 => ?_)
  clear hK K hHs0
  refine wpAnyH_done (by kernel_rfl) ?_ _
  go_wp2_with fail
  go_end0
  exact ⟨rfl, ((He.out).put (j := 28) (by omega) (rowP_put_28 _ _)).put (j := 7) (by omega) (rowP_put_7 _ _), HO1.out.trans hHs1⟩
set_option maxRecDepth 100000 in
set_option maxHeartbeats 4000000 in
theorem des1_any (w : World) (bx g k : Nat) (b : Bri) (ps ss : Nat → Rec) (fs : Nat → Int) (p : Rec) (h : Bst w bx g b (upd ps k p) ss fs) (hk : k < b.n) (gx : Nat) (hX : w.heap[gx]? = some (.cells #[.pointer (some ⟨bx, 0, none⟩), .int .i64 k, .pointer (some ⟨g, k * 89, none⟩), .pointer (some ⟨g, k * 89 + 22, none⟩), .pointer (some ⟨g, k * 89 + 6, none⟩)] 57 (0, 0))) (ngx : ¬ gx = g) (gf : Nat) (hF : w.cell? ⟨gf, 0, none⟩ = some (.pointer (some ⟨g, k * 89 + 22, none⟩))) (nF : ¬ gf = g) (gc : Nat) (hC : w.cell? ⟨gc, 0, none⟩ = some (.pointer (some ⟨g, k * 89 + 6, none⟩))) (nC : ¬ gc = g) : Calls Try.prog 50 #[.pointer (some ⟨gx, 0, none⟩), .pointer (some ⟨gf, 0, none⟩), .pointer (some ⟨gc, 0, none⟩)] w fun e w' => e = .returned (.tuple #[]) ∧ Bst w' bx g b (upd ps k (propF b p)) ss fs ∧ Only (· = g) w w' := by
  have lx := (Array.getElem?_eq_some_iff.1 hX).1
  have HX := Lib.hid hX
  have x0 : w.cell? ⟨gx, 0, none⟩ = some (.pointer (some ⟨bx, 0, none⟩)) := cells_of HX.out 0
  have x1 : w.cell? ⟨gx, 1, none⟩ = some (.int .i64 k) := cells_of HX.out 1
  have x2 : w.cell? ⟨gx, 2, none⟩ = some (.pointer (some ⟨g, k * 89, none⟩)) := cells_of HX.out 2
  have x3 : w.cell? ⟨gx, 3, none⟩ = some (.pointer (some ⟨g, k * 89 + 22, none⟩)) := cells_of HX.out 3
  have x4 : w.cell? ⟨gx, 4, none⟩ = some (.pointer (some ⟨g, k * 89 + 6, none⟩)) := cells_of HX.out 4
  clear hX
  have lF := cell_lt hF
  have lC := cell_lt hC
  have qx : ¬ g = gx := fun e => ngx e.symm
  have qf : ¬ g = gf := fun e => nF e.symm
  have qc : ¬ g = gc := fun e => nC e.symm
  have H1 := Lib.hid h
  have hgl := h.p.lt
  have nbg : ¬ bx = g := h.ne
  have ngb : ¬ g = bx := fun e => h.ne e.symm
  clear h
  go_enter Try.func50, Try.ntmps50
  refine wp_region_held_drew (S := fun w' => Only (· = g) w w') (by kernel_rfl) (Only.refl _ _).drew (fun hH => ?_)
  refine wpAnyH_take (i := 0) (v := .pointer (some ⟨g, k * 89 + 22, none⟩)) rfl (by kernel_rfl) (by kernel_rfl) (by kernel_rfl) (fun _ _ _ h => h) (Or.inl ⟨by rfl, fun z hz => by simp [go_sem, execOp, (show z.cell? ⟨gf, 0, none⟩ = some (.pointer (some ⟨g, k * 89 + 22, none⟩)) from (hz.cell (p := ⟨gf, 0, none⟩) lF (by show ¬ gf = g; exact nF)).trans hF)]⟩) hH ?_
  simp only [List.getElem_toArray, List.getElem_cons_succ, List.getElem_cons_zero, Act.put, List.setIfInBounds_toArray, List.set_cons_zero, List.set_cons_succ]
  refine wpAnyH_take (i := 1) (v := .pointer (some ⟨g, k * 89 + 22, none⟩)) rfl (by kernel_rfl) (by kernel_rfl) (by kernel_rfl) (fun _ _ _ h => h) (Or.inl ⟨by rfl, fun z hz => by simp [go_sem, execOp, (show z.cell? ⟨gf, 0, none⟩ = some (.pointer (some ⟨g, k * 89 + 22, none⟩)) from (hz.cell (p := ⟨gf, 0, none⟩) lF (by show ¬ gf = g; exact nF)).trans hF)]⟩) hH ?_
  simp only [List.getElem_toArray, List.getElem_cons_succ, List.getElem_cons_zero, Act.put, List.setIfInBounds_toArray, List.set_cons_zero, List.set_cons_succ]
  refine wpAnyH_take (i := 2) (v := .pointer (some ⟨g, k * 89 + 6, none⟩)) rfl (by kernel_rfl) (by kernel_rfl) (by kernel_rfl) (fun _ _ _ h => h) (Or.inl ⟨by rfl, fun z hz => by simp [go_sem, execOp, (show z.cell? ⟨gc, 0, none⟩ = some (.pointer (some ⟨g, k * 89 + 6, none⟩)) from (hz.cell (p := ⟨gc, 0, none⟩) lC (by show ¬ gc = g; exact nC)).trans hC)]⟩) hH ?_
  simp only [List.getElem_toArray, List.getElem_cons_succ, List.getElem_cons_zero, Act.put, List.setIfInBounds_toArray, List.set_cons_zero, List.set_cons_succ]
  refine wpAnyH_take (i := 3) (v := .pointer (some ⟨gx, 0, none⟩)) rfl (by kernel_rfl) (by kernel_rfl) (by kernel_rfl) (fun _ _ _ h => h) (Or.inl ⟨by rfl, fun z _ => by simp [go_sem, execOp]⟩) hH ?_
  simp only [List.getElem_toArray, List.getElem_cons_succ, List.getElem_cons_zero, Act.put, List.setIfInBounds_toArray, List.set_cons_zero, List.set_cons_succ]
  refine wpAnyH_take (i := 4) (v := .pointer (some ⟨bx, 0, none⟩)) rfl (by kernel_rfl) (by kernel_rfl) (by kernel_rfl) (fun _ _ _ h => h) (Or.inl ⟨by rfl, fun z hz => by simp [go_sem, execOp, (show z.cell? ⟨gx, 0, none⟩ = some (.pointer (some ⟨bx, 0, none⟩)) from (hz.cell (p := ⟨gx, 0, none⟩) lx (by show ¬ gx = g; exact ngx)).trans x0)]⟩) hH ?_
  simp only [List.getElem_toArray, List.getElem_cons_succ, List.getElem_cons_zero, Act.put, List.setIfInBounds_toArray, List.set_cons_zero, List.set_cons_succ]
  refine wpAnyH_take (i := 5) (v := .pointer (some ⟨bx, 0, none⟩)) rfl (by kernel_rfl) (by kernel_rfl) (by kernel_rfl) (fun _ _ _ h => h) (Or.inl ⟨by rfl, fun z _ => by simp [go_sem, execOp]⟩) hH ?_
  simp only [List.getElem_toArray, List.getElem_cons_succ, List.getElem_cons_zero, Act.put, List.setIfInBounds_toArray, List.set_cons_zero, List.set_cons_succ]
  refine wpAnyH_take (i := 6) rfl (by kernel_rfl) (by kernel_rfl) (by kernel_rfl) (fun _ _ _ h => h) ((yieldsIf_load_mid (by rfl) 33 _ rfl bx (0) rfl (rowB b).toList _ (H1.out.rowB) Try.underlying33 rfl (sizeBr _))) hH ?_
  simp only [List.getElem_toArray, List.getElem_cons_succ, List.getElem_cons_zero, Act.put, List.setIfInBounds_toArray, List.set_cons_zero, List.set_cons_succ]
  refine wpAnyH_take (i := 7) (v := .pointer (some ⟨gx, 1, none⟩)) rfl (by kernel_rfl) (by kernel_rfl) (by kernel_rfl) (fun _ _ _ h => h) (Or.inl ⟨by rfl, fun z _ => by simp [go_sem, execOp]⟩) hH ?_
  simp only [List.getElem_toArray, List.getElem_cons_succ, List.getElem_cons_zero, Act.put, List.setIfInBounds_toArray, List.set_cons_zero, List.set_cons_succ]
  refine wpAnyH_take (i := 8) (v := .int .i64 k) rfl (by kernel_rfl) (by kernel_rfl) (by kernel_rfl) (fun _ _ _ h => h) (Or.inl ⟨by rfl, fun z hz => by simp [go_sem, execOp, (show z.cell? ⟨gx, 1, none⟩ = some (.int .i64 k) from (hz.cell (p := ⟨gx, 1, none⟩) lx (by show ¬ gx = g; exact ngx)).trans x1)]⟩) hH ?_
  simp only [List.getElem_toArray, List.getElem_cons_succ, List.getElem_cons_zero, Act.put, List.setIfInBounds_toArray, List.set_cons_zero, List.set_cons_succ]
  refine wpAnyH_ready (rs := [9]) (by kernel_rfl) (by simp) (AllReadyH.cons rfl (fun K hK => ?_) AllReadyH.nil)
  go_simp
  refine (edgedelay_any (w := w.drew) (H1.out.below (Below.refl _ _).drew) hk).mono ?_
  rintro e we ⟨rfl, hbe⟩
  have He := Lib.hid (show Bst we bx g b (upd ps k p) ss fs from (H1.out.below (Below.refl _ _).drew).below hbe)
  have c34 : we.cell? ⟨g, k * 89 + 22 + 12, none⟩ = some (.bool (p.b 34)) := (He.out.p.cell hk (j := 34) (by omega)).trans (by rw [upd_same]; rfl)
  have c31 : we.cell? ⟨g, k * 89 + 22 + 9, none⟩ = some (.bool (p.b 31)) := (He.out.p.cell hk (j := 31) (by omega)).trans (by rw [upd_same]; rfl)
  have c6 : we.cell? ⟨g, k * 89 + 6, none⟩ = some (.int .i64 (p.i 6)) := (He.out.p.cell hk (j := 6) (by omega)).trans (by rw [upd_same]; rfl)
  have f34 : we.frozen? ⟨g, k * 89 + 22 + 12, none⟩ = false := He.out.p.free _
  have f31 : we.frozen? ⟨g, k * 89 + 22 + 9, none⟩ = false := He.out.p.free _
  have f6 : we.frozen? ⟨g, k * 89 + 6, none⟩ = false := He.out.p.free _
  refine hK.out _ _ (hH.trans (Only.of_below hbe)) (fun hHe => ?_)
  clear hK K hH hbe
  refine wpAnyH_take (i := 10) (v := .pointer (some ⟨g, k * 89 + 22, none⟩)) rfl (by kernel_rfl) (by kernel_rfl) (by kernel_rfl) (fun _ _ _ h => h) (Or.inl ⟨by rfl, fun z _ => by simp [go_sem, execOp]⟩) hHe ?_
  simp only [List.getElem_toArray, List.getElem_cons_succ, List.getElem_cons_zero, Act.put, List.setIfInBounds_toArray, List.set_cons_zero, List.set_cons_succ]
  refine wpAnyH_take (i := 11) (v := .pointer (some ⟨g, k * 89 + 22 + 12, none⟩)) rfl (by kernel_rfl) (by kernel_rfl) (by kernel_rfl) (fun _ _ _ h => h) (Or.inl ⟨by rfl, fun z _ => by simp [go_sem, execOp]⟩) hHe ?_
  simp only [List.getElem_toArray, List.getElem_cons_succ, List.getElem_cons_zero, Act.put, List.setIfInBounds_toArray, List.set_cons_zero, List.set_cons_succ]
  refine wpAnyH_ready (rs := [12]) (by kernel_rfl) (by simp) (AllReadyH.cons rfl (fun K hK => ?_) AllReadyH.nil)
  go_simp
  refine hK.out _ _ (hHe.setCell (Or.inl rfl) _) (fun hHs0 => ?_)
  clear hK K hHe
  refine wpAnyH_take (i := 13) (v := .pointer (some ⟨g, k * 89 + 22, none⟩)) rfl (by kernel_rfl) (by kernel_rfl) (by kernel_rfl) (fun _ _ _ h => h) (Or.inl ⟨by rfl, fun z _ => by simp [go_sem, execOp]⟩) hHs0 ?_
  simp only [List.getElem_toArray, List.getElem_cons_succ, List.getElem_cons_zero, Act.put, List.setIfInBounds_toArray, List.set_cons_zero, List.set_cons_succ]
  refine wpAnyH_take (i := 14) (v := .pointer (some ⟨g, k * 89 + 22 + 9, none⟩)) rfl (by kernel_rfl) (by kernel_rfl) (by kernel_rfl) (fun _ _ _ h => h) (Or.inl ⟨by rfl, fun z _ => by simp [go_sem, execOp]⟩) hHs0 ?_
  simp only [List.getElem_toArray, List.getElem_cons_succ, List.getElem_cons_zero, Act.put, List.setIfInBounds_toArray, List.set_cons_zero, List.set_cons_succ]
  refine wpAnyH_ready (rs := [15]) (by kernel_rfl) (by simp) (AllReadyH.cons rfl (fun K hK => ?_) AllReadyH.nil)
  go_simp
  refine hK.out _ _ (hHs0.setCell (Or.inl rfl) _) (fun hHs1 => ?_)
  clear hK K hHs0
  refine wpAnyH_take (i := 16) (v := .pointer (some ⟨g, k * 89 + 6, none⟩)) rfl (by kernel_rfl) (by kernel_rfl) (by kernel_rfl) (fun _ _ _ h => h) (Or.inl ⟨by rfl, fun z _ => by simp [go_sem, execOp]⟩) hHs1 ?_
  simp only [List.getElem_toArray, List.getElem_cons_succ, List.getElem_cons_zero, Act.put, List.setIfInBounds_toArray, List.set_cons_zero, List.set_cons_succ]
  refine wpAnyH_take (i := 17) (v := .pointer (some ⟨g, k * 89 + 6, none⟩)) rfl (by kernel_rfl) (by kernel_rfl) (by kernel_rfl) (fun _ _ _ h => h) (Or.inl ⟨by rfl, fun z _ => by simp [go_sem, execOp]⟩) hHs1 ?_
  simp only [List.getElem_toArray, List.getElem_cons_succ, List.getElem_cons_zero, Act.put, List.setIfInBounds_toArray, List.set_cons_zero, List.set_cons_succ]
  refine wpAnyH_ready (rs := [18]) (by kernel_rfl) (by simp) (AllReadyH.cons rfl (fun K hK => ?_) AllReadyH.nil)
  go_simp
  refine hK.out _ _ (hHs1.setCell (Or.inl rfl) _) (fun hHs2 => ?_)
  clear hK K hHs1
  refine wpAnyH_done (by kernel_rfl) ?_ _
  go_wp2_with fail
  go_end0
  exact ⟨rfl, (((He.out).put (j := 34) (by omega) (rowP_put_34 _ _)).put (j := 31) (by omega) (rowP_put_31 _ _)).put (j := 6) (by omega) (rowP_put_6 _ _), hHs2⟩
set_option maxRecDepth 100000 in
set_option maxHeartbeats 4000000 in
theorem des4_any (w : World) (bx g k : Nat) (b : Bri) (ps ss : Nat → Rec) (fs : Nat → Int) (p : Rec) (h : Bst w bx g b (upd ps k p) ss fs) (hk : k < b.n) (gx : Nat) (hX : w.heap[gx]? = some (.cells #[.pointer (some ⟨bx, 0, none⟩), .int .i64 k, .pointer (some ⟨g, k * 89, none⟩), .pointer (some ⟨g, k * 89 + 22, none⟩), .pointer (some ⟨g, k * 89 + 6, none⟩)] 57 (0, 0))) (ngx : ¬ gx = g) (gf : Nat) (hF : w.cell? ⟨gf, 0, none⟩ = some (.pointer (some ⟨g, k * 89 + 22, none⟩))) (nF : ¬ gf = g) (gc : Nat) (hC : w.cell? ⟨gc, 0, none⟩ = some (.pointer (some ⟨g, k * 89 + 6, none⟩))) (nC : ¬ gc = g) : Calls Try.prog 54 #[.pointer (some ⟨gf, 0, none⟩), .pointer (some ⟨gx, 0, none⟩), .pointer (some ⟨gc, 0, none⟩)] w fun e w' => e = .returned (.tuple #[]) ∧ Bst w' bx g b (upd ps k (stopF b p)) ss fs ∧ Only (· = g) w w' := by
  have lx := (Array.getElem?_eq_some_iff.1 hX).1
  have HX := Lib.hid hX
  have x0 : w.cell? ⟨gx, 0, none⟩ = some (.pointer (some ⟨bx, 0, none⟩)) := cells_of HX.out 0
  have x1 : w.cell? ⟨gx, 1, none⟩ = some (.int .i64 k) := cells_of HX.out 1
  have x2 : w.cell? ⟨gx, 2, none⟩ = some (.pointer (some ⟨g, k * 89, none⟩)) := cells_of HX.out 2
  have x3 : w.cell? ⟨gx, 3, none⟩ = some (.pointer (some ⟨g, k * 89 + 22, none⟩)) := cells_of HX.out 3
  have x4 : w.cell? ⟨gx, 4, none⟩ = some (.pointer (some ⟨g, k * 89 + 6, none⟩)) := cells_of HX.out 4
  clear hX
  have lF := cell_lt hF
  have lC := cell_lt hC
  have qx : ¬ g = gx := fun e => ngx e.symm
  have qf : ¬ g = gf := fun e => nF e.symm
  have qc : ¬ g = gc := fun e => nC e.symm
  have H1 := Lib.hid h
  have hgl := h.p.lt
  have nbg : ¬ bx = g := h.ne
  have ngb : ¬ g = bx := fun e => h.ne e.symm
  clear h
  go_enter Try.func54, Try.ntmps54
  have c28 : w.cell? ⟨g, k * 89 + 22 + 6, none⟩ = some (.bool (p.b 28)) := (H1.out.p.cell hk (j := 28) (by omega)).trans (by rw [upd_same]; rfl)
  have c26 : w.cell? ⟨g, k * 89 + 22 + 4, none⟩ = some (.bool (p.b 26)) := (H1.out.p.cell hk (j := 26) (by omega)).trans (by rw [upd_same]; rfl)
  have c24 : w.cell? ⟨g, k * 89 + 22 + 2, none⟩ = some (.bool (p.b 24)) := (H1.out.p.cell hk (j := 24) (by omega)).trans (by rw [upd_same]; rfl)
  have f28 : w.frozen? ⟨g, k * 89 + 22 + 6, none⟩ = false := H1.out.p.free _
  have f26 : w.frozen? ⟨g, k * 89 + 22 + 4, none⟩ = false := H1.out.p.free _
  have f24 : w.frozen? ⟨g, k * 89 + 22 + 2, none⟩ = false := H1.out.p.free _
  go_wp2_with fail
  refine wp_region_held_drew (S := fun w' => Only (· = g) w w') (by kernel_rfl) (Only.refl _ _).drew (fun hH => ?_)
  refine wpAnyH_take (i := 0) (v := .pointer (some ⟨g, k * 89 + 22, none⟩)) rfl (by kernel_rfl) (by kernel_rfl) (by kernel_rfl) (fun _ _ _ h => h) (Or.inl ⟨by rfl, fun z hz => by simp [go_sem, execOp, (show z.cell? ⟨gf, 0, none⟩ = some (.pointer (some ⟨g, k * 89 + 22, none⟩)) from (hz.cell (p := ⟨gf, 0, none⟩) lF (by show ¬ gf = g; exact nF)).trans hF)]⟩) hH ?_
  simp only [List.getElem_toArray, List.getElem_cons_succ, List.getElem_cons_zero, Act.put, List.setIfInBounds_toArray, List.set_cons_zero, List.set_cons_succ]
  refine wpAnyH_take (i := 1) (v := .pointer (some ⟨g, k * 89 + 22, none⟩)) rfl (by kernel_rfl) (by kernel_rfl) (by kernel_rfl) (fun _ _ _ h => h) (Or.inl ⟨by rfl, fun z hz => by simp [go_sem, execOp, (show z.cell? ⟨gf, 0, none⟩ = some (.pointer (some ⟨g, k * 89 + 22, none⟩)) from (hz.cell (p := ⟨gf, 0, none⟩) lF (by show ¬ gf = g; exact nF)).trans hF)]⟩) hH ?_
  simp only [List.getElem_toArray, List.getElem_cons_succ, List.getElem_cons_zero, Act.put, List.setIfInBounds_toArray, List.set_cons_zero, List.set_cons_succ]
  refine wpAnyH_take (i := 2) (v := .pointer (some ⟨g, k * 89 + 22, none⟩)) rfl (by kernel_rfl) (by kernel_rfl) (by kernel_rfl) (fun _ _ _ h => h) (Or.inl ⟨by rfl, fun z hz => by simp [go_sem, execOp, (show z.cell? ⟨gf, 0, none⟩ = some (.pointer (some ⟨g, k * 89 + 22, none⟩)) from (hz.cell (p := ⟨gf, 0, none⟩) lF (by show ¬ gf = g; exact nF)).trans hF)]⟩) hH ?_
  simp only [List.getElem_toArray, List.getElem_cons_succ, List.getElem_cons_zero, Act.put, List.setIfInBounds_toArray, List.set_cons_zero, List.set_cons_succ]
  refine wpAnyH_take (i := 3) (v := .pointer (some ⟨g, k * 89 + 22, none⟩)) rfl (by kernel_rfl) (by kernel_rfl) (by kernel_rfl) (fun _ _ _ h => h) (Or.inl ⟨by rfl, fun z _ => by simp [go_sem, execOp]⟩) hH ?_
  simp only [List.getElem_toArray, List.getElem_cons_succ, List.getElem_cons_zero, Act.put, List.setIfInBounds_toArray, List.set_cons_zero, List.set_cons_succ]
  refine wpAnyH_take (i := 4) (v := .pointer (some ⟨g, k * 89 + 22 + 6, none⟩)) rfl (by kernel_rfl) (by kernel_rfl) (by kernel_rfl) (fun _ _ _ h => h) (Or.inl ⟨by rfl, fun z _ => by simp [go_sem, execOp]⟩) hH ?_
  simp only [List.getElem_toArray, List.getElem_cons_succ, List.getElem_cons_zero, Act.put, List.setIfInBounds_toArray, List.set_cons_zero, List.set_cons_succ]
  refine wpAnyH_ready (rs := [5]) (by kernel_rfl) (by simp) (AllReadyH.cons rfl (fun K hK => ?_) AllReadyH.nil)
  go_simp
  refine hK.out _ _ (hH.setCell (Or.inl rfl) _) (fun hH0 => ?_)
  clear hK K hH
  refine wpAnyH_take (i := 6) (v := .pointer (some ⟨g, k * 89 + 22, none⟩)) rfl (by kernel_rfl) (by kernel_rfl) (by kernel_rfl) (fun _ _ _ h => h) (Or.inl ⟨by rfl, fun z _ => by simp [go_sem, execOp]⟩) hH0 ?_
  simp only [List.getElem_toArray, List.getElem_cons_succ, List.getElem_cons_zero, Act.put, List.setIfInBounds_toArray, List.set_cons_zero, List.set_cons_succ]
  refine wpAnyH_take (i := 7) (v := .pointer (some ⟨g, k * 89 + 22 + 4, none⟩)) rfl (by kernel_rfl) (by kernel_rfl) (by kernel_rfl) (fun _ _ _ h => h) (Or.inl ⟨by rfl, fun z _ => by simp [go_sem, execOp]⟩) hH0 ?_
  simp only [List.getElem_toArray, List.getElem_cons_succ, List.getElem_cons_zero, Act.put, List.setIfInBounds_toArray, List.set_cons_zero, List.set_cons_succ]
  refine wpAnyH_ready (rs := [8]) (by kernel_rfl) (by simp) (AllReadyH.cons rfl (fun K hK => ?_) AllReadyH.nil)
  go_simp
  refine hK.out _ _ (hH0.setCell (Or.inl rfl) _) (fun hH1 => ?_)
  clear hK K hH0
  refine wpAnyH_take (i := 9) (v := .pointer (some ⟨g, k * 89 + 22, none⟩)) rfl (by kernel_rfl) (by kernel_rfl) (by kernel_rfl) (fun _ _ _ h => h) (Or.inl ⟨by rfl, fun z _ => by simp [go_sem, execOp]⟩) hH1 ?_
  simp only [List.getElem_toArray, List.getElem_cons_succ, List.getElem_cons_zero, Act.put, List.setIfInBounds_toArray, List.set_cons_zero, List.set_cons_succ]
  refine wpAnyH_take (i := 10) (v := .pointer (some ⟨g, k * 89 + 22 + 2, none⟩)) rfl (by kernel_rfl) (by kernel_rfl) (by kernel_rfl) (fun _ _ _ h => h) (Or.inl ⟨by rfl, fun z _ => by simp [go_sem, execOp]⟩) hH1 ?_
  simp only [List.getElem_toArray, List.getElem_cons_succ, List.getElem_cons_zero, Act.put, List.setIfInBounds_toArray, List.set_cons_zero, List.set_cons_succ]
  refine wpAnyH_ready (rs := [11]) (by kernel_rfl) (by simp) (AllReadyH.cons rfl (fun K hK => ?_) AllReadyH.nil)
  go_simp
  refine hK.out _ _ (hH1.setCell (Or.inl rfl) _) (fun hH2 => ?_)
  clear hK K hH1
  refine wpAnyH_done (by kernel_rfl) ?_ _
  refine ((?_ : ∀ y, y = (((w.drew.setCell ⟨g, k * 89 + 22 + 6, none⟩ (.bool false)).setCell ⟨g, k * 89 + 22 + 4, none⟩ (.bool false)).setCell ⟨g, k * 89 + 22 + 2, none⟩ (.bool false)) → Exit.then _ _ _ _ y) _ rfl)
  intro w2 hw2
  have H2 := Lib.hid (show Bst w2 bx g b (upd ps k (((p.setB 28 false).setB 26 false).setB 24 false)) ss fs by rw [hw2]; exact (((H1.out.below (Below.refl _ _).drew).put (j := 28) (by omega) (rowP_put_28 _ _)).put (j := 26) (by omega) (rowP_put_26 _ _)).put (j := 24) (by omega) (rowP_put_24 _ _))
  have ho2 : Only (· = g) w w2 := by rw [hw2]; exact hH2
  have HO2 := Lib.hid ((Only.refl (· = g) w).trans ho2)
  clear hH2 hw2 c28 c26 c24 f28 f26 f24
  have x0 : w2.cell? ⟨gx, 0, none⟩ = some (.pointer (some ⟨bx, 0, none⟩)) := (ho2.cell (p := ⟨gx, 0, none⟩) lx ngx).trans x0
  have x1 : w2.cell? ⟨gx, 1, none⟩ = some (.int .i64 k) := (ho2.cell (p := ⟨gx, 1, none⟩) lx ngx).trans x1
  have x2 : w2.cell? ⟨gx, 2, none⟩ = some (.pointer (some ⟨g, k * 89, none⟩)) := (ho2.cell (p := ⟨gx, 2, none⟩) lx ngx).trans x2
  have x3 : w2.cell? ⟨gx, 3, none⟩ = some (.pointer (some ⟨g, k * 89 + 22, none⟩)) := (ho2.cell (p := ⟨gx, 3, none⟩) lx ngx).trans x3
  have x4 : w2.cell? ⟨gx, 4, none⟩ = some (.pointer (some ⟨g, k * 89 + 6, none⟩)) := (ho2.cell (p := ⟨gx, 4, none⟩) lx ngx).trans x4
  have lx := Nat.lt_of_lt_of_le lx ho2.size
  clear HX
  have hC : w2.cell? ⟨gc, 0, none⟩ = some (.pointer (some ⟨g, k * 89 + 6, none⟩)) := (ho2.cell (p := ⟨gc, 0, none⟩) lC nC).trans hC
  have lC := cell_lt hC
  have hfw : fwdN b (((p.setB 28 false).setB 26 false).setB 24 false) = fwdN b p := rfl
  go_wp2_with fail
  refine wp_region_held_drew (S := fun w' => Only (· = g) w2 w') (by kernel_rfl) (Only.refl _ _).drew (fun hH => ?_)
  refine wpAnyH_take (i := 0) (v := .pointer (some ⟨g, k * 89 + 6, none⟩)) rfl (by kernel_rfl) (by kernel_rfl) (by kernel_rfl) (fun _ _ _ h => h) (Or.inl ⟨by rfl, fun z hz => by simp [go_sem, execOp, (show z.cell? ⟨gc, 0, none⟩ = some (.pointer (some ⟨g, k * 89 + 6, none⟩)) from (hz.cell (p := ⟨gc, 0, none⟩) lC (by show ¬ gc = g; exact nC)).trans hC)]⟩) hH ?_
  simp only [List.getElem_toArray, List.getElem_cons_succ, List.getElem_cons_zero, Act.put, List.setIfInBounds_toArray, List.set_cons_zero, List.set_cons_succ]
  refine wpAnyH_take (i := 1) (v := .pointer (some ⟨gx, 0, none⟩)) rfl (by kernel_rfl) (by kernel_rfl) (by kernel_rfl) (fun _ _ _ h => h) (Or.inl ⟨by rfl, fun z _ => by simp [go_sem, execOp]⟩) hH ?_
  simp only [List.getElem_toArray, List.getElem_cons_succ, List.getElem_cons_zero, Act.put, List.setIfInBounds_toArray, List.set_cons_zero, List.set_cons_succ]
  refine wpAnyH_take (i := 2) (v := .pointer (some ⟨bx, 0, none⟩)) rfl (by kernel_rfl) (by kernel_rfl) (by kernel_rfl) (fun _ _ _ h => h) (Or.inl ⟨by rfl, fun z hz => by simp [go_sem, execOp, (show z.cell? ⟨gx, 0, none⟩ = some (.pointer (some ⟨bx, 0, none⟩)) from (hz.cell (p := ⟨gx, 0, none⟩) lx (by show ¬ gx = g; exact ngx)).trans x0)]⟩) hH ?_
  simp only [List.getElem_toArray, List.getElem_cons_succ, List.getElem_cons_zero, Act.put, List.setIfInBounds_toArray, List.set_cons_zero, List.set_cons_succ]
  refine wpAnyH_take (i := 3) (v := .pointer (some ⟨bx, 0, none⟩)) rfl (by kernel_rfl) (by kernel_rfl) (by kernel_rfl) (fun _ _ _ h => h) (Or.inl ⟨by rfl, fun z _ => by simp [go_sem, execOp]⟩) hH ?_
  simp only [List.getElem_toArray, List.getElem_cons_succ, List.getElem_cons_zero, Act.put, List.setIfInBounds_toArray, List.set_cons_zero, List.set_cons_succ]
  refine wpAnyH_take (i := 4) rfl (by kernel_rfl) (by kernel_rfl) (by kernel_rfl) (fun _ _ _ h => h) ((yieldsIf_load_mid (by rfl) 33 _ rfl bx (0) rfl (rowB b).toList _ (H2.out.rowB) Try.underlying33 rfl (sizeBr _))) hH ?_
  simp only [List.getElem_toArray, List.getElem_cons_succ, List.getElem_cons_zero, Act.put, List.setIfInBounds_toArray, List.set_cons_zero, List.set_cons_succ]
  refine wpAnyH_take (i := 5) (v := .pointer (some ⟨gx, 1, none⟩)) rfl (by kernel_rfl) (by kernel_rfl) (by kernel_rfl) (fun _ _ _ h => h) (Or.inl ⟨by rfl, fun z _ => by simp [go_sem, execOp]⟩) hH ?_
  simp only [List.getElem_toArray, List.getElem_cons_succ, List.getElem_cons_zero, Act.put, List.setIfInBounds_toArray, List.set_cons_zero, List.set_cons_succ]
  refine wpAnyH_take (i := 6) (v := .int .i64 k) rfl (by kernel_rfl) (by kernel_rfl) (by kernel_rfl) (fun _ _ _ h => h) (Or.inl ⟨by rfl, fun z hz => by simp [go_sem, execOp, (show z.cell? ⟨gx, 1, none⟩ = some (.int .i64 k) from (hz.cell (p := ⟨gx, 1, none⟩) lx (by show ¬ gx = g; exact ngx)).trans x1)]⟩) hH ?_
  simp only [List.getElem_toArray, List.getElem_cons_succ, List.getElem_cons_zero, Act.put, List.setIfInBounds_toArray, List.set_cons_zero, List.set_cons_succ]
  refine wpAnyH_ready (rs := [7]) (by kernel_rfl) (by simp) (AllReadyH.cons rfl (fun K hK => ?_) AllReadyH.nil)
  go_simp
  refine (fwd_any (w := w2.drew) (H2.out.below (Below.refl _ _).drew) hk).mono ?_
  rintro e we ⟨rfl, hbe⟩
  have He := Lib.hid (show Bst we bx g b (upd ps k (((p.setB 28 false).setB 26 false).setB 24 false)) ss fs from (H2.out.below (Below.refl _ _).drew).below hbe)
  have c7 : we.cell? ⟨g, k * 89 + 6 + 1, none⟩ = some (.int .i64 ((((p.setB 28 false).setB 26 false).setB 24 false).i 7)) := (He.out.p.cell hk (j := 7) (by omega)).trans (by rw [upd_same]; rfl)
  have f7 : we.frozen? ⟨g, k * 89 + 6 + 1, none⟩ = false := He.out.p.free _
  refine hK.out _ _ (hH.trans (Only.of_below hbe)) (fun hHe => ?_)
  clear hK K hH hbe
  refine wpAnyH_take (i := 8) (v := .pointer (some ⟨g, k * 89 + 6, none⟩)) rfl (by kernel_rfl) (by kernel_rfl) (by kernel_rfl) (fun _ _ _ h => h) (Or.inl ⟨by rfl, fun z _ => by simp [go_sem, execOp]⟩) hHe ?_
  simp only [List.getElem_toArray, List.getElem_cons_succ, List.getElem_cons_zero, Act.put, List.setIfInBounds_toArray, List.set_cons_zero, List.set_cons_succ]
  refine wpAnyH_take (i := 9) (v := .pointer (some ⟨g, k * 89 + 6 + 1, none⟩)) rfl (by kernel_rfl) (by kernel_rfl) (by kernel_rfl) (fun _ _ _ h => h) (Or.inl ⟨by rfl, fun z _ => by simp [go_sem, execOp]⟩) hHe ?_
  simp only [List.getElem_toArray, List.getElem_cons_succ, List.getElem_cons_zero, Act.put, List.setIfInBounds_toArray, List.set_cons_zero, List.set_cons_succ]
  refine wpAnyH_ready (rs := [10]) (by kernel_rfl) (by simp) (AllReadyH.cons rfl (fun K hK => ?_) AllReadyH.nil)
  go_simp
  refine hK.out _ _ (hHe.setCell (Or.inl rfl) _) (fun hHs0 => ?_)
  clear hK K hHe
  refine wpAnyH_done (by kernel_rfl) ?_ _
  go_wp2_with fail
  go_end0
  exact ⟨rfl, (He.out).put (j := 7) (by omega) (rowP_put_7 _ _), HO2.out.trans hHs0⟩
set_option maxRecDepth 100000 in
set_option maxHeartbeats 4000000 in
theorem des5_any (w : World) (bx g k : Nat) (b : Bri) (ps ss : Nat → Rec) (fs : Nat → Int) (p : Rec) (h : Bst w bx g b (upd ps k p) ss fs) (hk : k < b.n) (gf : Nat) (hF : w.cell? ⟨gf, 0, none⟩ = some (.pointer (some ⟨g, k * 89 + 22, none⟩))) (nF : ¬ gf = g) (gc : Nat) (hC : w.cell? ⟨gc, 0, none⟩ = some (.pointer (some ⟨g, k * 89 + 6, none⟩))) (nC : ¬ gc = g) : Calls Try.prog 55 #[.pointer (some ⟨gf, 0, none⟩), .pointer (some ⟨gc, 0, none⟩)] w fun e w' => e = .returned (.tuple #[]) ∧ Bst w' bx g b (upd ps k (openF p)) ss fs ∧ Only (· = g) w w' := by
  have lF := cell_lt hF
  have lC := cell_lt hC
  have qf : ¬ g = gf := fun e => nF e.symm
  have qc : ¬ g = gc := fun e => nC e.symm
  have H1 := Lib.hid h
  have hgl := h.p.lt
  have nbg : ¬ bx = g := h.ne
  have ngb : ¬ g = bx := fun e => h.ne e.symm
  clear h
  go_enter Try.func55, Try.ntmps55
  have c45 : w.cell? ⟨g, k * 89 + 22 + 23, none⟩ = some (.bool (p.b 45)) := (H1.out.p.cell hk (j := 45) (by omega)).trans (by rw [upd_same]; rfl)
  have c26 : w.cell? ⟨g, k * 89 + 22 + 4, none⟩ = some (.bool (p.b 26)) := (H1.out.p.cell hk (j := 26) (by omega)).trans (by rw [upd_same]; rfl)
  have c7 : w.cell? ⟨g, k * 89 + 6 + 1, none⟩ = some (.int .i64 (p.i 7)) := (H1.out.p.cell hk (j := 7) (by omega)).trans (by rw [upd_same]; rfl)
  have c23 : w.cell? ⟨g, k * 89 + 22 + 1, none⟩ = some (.bool (p.b 23)) := (H1.out.p.cell hk (j := 23) (by omega)).trans (by rw [upd_same]; rfl)
  have f26 : w.frozen? ⟨g, k * 89 + 22 + 4, none⟩ = false := H1.out.p.free _
  have f7 : w.frozen? ⟨g, k * 89 + 6 + 1, none⟩ = false := H1.out.p.free _
  have f23 : w.frozen? ⟨g, k * 89 + 22 + 1, none⟩ = false := H1.out.p.free _
  refine wp_region_held_drew (S := fun w' => Only (· = g) w w') (by kernel_rfl) (Only.refl _ _).drew (fun hH => ?_)
  refine wpAnyH_take (i := 0) (v := .pointer (some ⟨g, k * 89 + 22, none⟩)) rfl (by kernel_rfl) (by kernel_rfl) (by kernel_rfl) (fun _ _ _ h => h) (Or.inl ⟨by rfl, fun z hz => by simp [go_sem, execOp, (show z.cell? ⟨gf, 0, none⟩ = some (.pointer (some ⟨g, k * 89 + 22, none⟩)) from (hz.cell (p := ⟨gf, 0, none⟩) lF (by show ¬ gf = g; exact nF)).trans hF)]⟩) hH ?_
  simp only [List.getElem_toArray, List.getElem_cons_succ, List.getElem_cons_zero, Act.put, List.setIfInBounds_toArray, List.set_cons_zero, List.set_cons_succ]
  refine wpAnyH_take (i := 1) (v := .pointer (some ⟨g, k * 89 + 6, none⟩)) rfl (by kernel_rfl) (by kernel_rfl) (by kernel_rfl) (fun _ _ _ h => h) (Or.inl ⟨by rfl, fun z hz => by simp [go_sem, execOp, (show z.cell? ⟨gc, 0, none⟩ = some (.pointer (some ⟨g, k * 89 + 6, none⟩)) from (hz.cell (p := ⟨gc, 0, none⟩) lC (by show ¬ gc = g; exact nC)).trans hC)]⟩) hH ?_
  simp only [List.getElem_toArray, List.getElem_cons_succ, List.getElem_cons_zero, Act.put, List.setIfInBounds_toArray, List.set_cons_zero, List.set_cons_succ]
  refine wpAnyH_take (i := 2) (v := .pointer (some ⟨g, k * 89 + 22, none⟩)) rfl (by kernel_rfl) (by kernel_rfl) (by kernel_rfl) (fun _ _ _ h => h) (Or.inl ⟨by rfl, fun z hz => by simp [go_sem, execOp, (show z.cell? ⟨gf, 0, none⟩ = some (.pointer (some ⟨g, k * 89 + 22, none⟩)) from (hz.cell (p := ⟨gf, 0, none⟩) lF (by show ¬ gf = g; exact nF)).trans hF)]⟩) hH ?_
  simp only [List.getElem_toArray, List.getElem_cons_succ, List.getElem_cons_zero, Act.put, List.setIfInBounds_toArray, List.set_cons_zero, List.set_cons_succ]
  refine wpAnyH_take (i := 3) (v := .pointer (some ⟨g, k * 89 + 22, none⟩)) rfl (by kernel_rfl) (by kernel_rfl) (by kernel_rfl) (fun _ _ _ h => h) (Or.inl ⟨by rfl, fun z hz => by simp [go_sem, execOp, (show z.cell? ⟨gf, 0, none⟩ = some (.pointer (some ⟨g, k * 89 + 22, none⟩)) from (hz.cell (p := ⟨gf, 0, none⟩) lF (by show ¬ gf = g; exact nF)).trans hF)]⟩) hH ?_
  simp only [List.getElem_toArray, List.getElem_cons_succ, List.getElem_cons_zero, Act.put, List.setIfInBounds_toArray, List.set_cons_zero, List.set_cons_succ]
  refine wpAnyH_take (i := 4) (v := .pointer (some ⟨g, k * 89 + 22, none⟩)) rfl (by kernel_rfl) (by kernel_rfl) (by kernel_rfl) (fun _ _ _ h => h) (Or.inl ⟨by rfl, fun z _ => by simp [go_sem, execOp]⟩) hH ?_
  simp only [List.getElem_toArray, List.getElem_cons_succ, List.getElem_cons_zero, Act.put, List.setIfInBounds_toArray, List.set_cons_zero, List.set_cons_succ]
  refine wpAnyH_take (i := 5) (v := .pointer (some ⟨g, k * 89 + 22 + 23, none⟩)) rfl (by kernel_rfl) (by kernel_rfl) (by kernel_rfl) (fun _ _ _ h => h) (Or.inl ⟨by rfl, fun z _ => by simp [go_sem, execOp]⟩) hH ?_
  simp only [List.getElem_toArray, List.getElem_cons_succ, List.getElem_cons_zero, Act.put, List.setIfInBounds_toArray, List.set_cons_zero, List.set_cons_succ]
  refine wpAnyH_ready (rs := [6]) (by kernel_rfl) (by simp) (AllReadyH.cons rfl (fun K hK => ?_) AllReadyH.nil)
  go_simp
  refine hK.out _ _ hH (fun _ => ?_)
  clear hK K
  refine wpAnyH_take (i := 7) (v := .pointer (some ⟨g, k * 89 + 22, none⟩)) rfl (by kernel_rfl) (by kernel_rfl) (by kernel_rfl) (fun _ _ _ h => h) (Or.inl ⟨by rfl, fun z _ => by simp [go_sem, execOp]⟩) hH ?_
  simp only [List.getElem_toArray, List.getElem_cons_succ, List.getElem_cons_zero, Act.put, List.setIfInBounds_toArray, List.set_cons_zero, List.set_cons_succ]
  refine wpAnyH_take (i := 8) (v := .pointer (some ⟨g, k * 89 + 22 + 4, none⟩)) rfl (by kernel_rfl) (by kernel_rfl) (by kernel_rfl) (fun _ _ _ h => h) (Or.inl ⟨by rfl, fun z _ => by simp [go_sem, execOp]⟩) hH ?_
  simp only [List.getElem_toArray, List.getElem_cons_succ, List.getElem_cons_zero, Act.put, List.setIfInBounds_toArray, List.set_cons_zero, List.set_cons_succ]
  refine wpAnyH_ready (rs := [9]) (by kernel_rfl) (by simp) (AllReadyH.cons rfl (fun K hK => ?_) AllReadyH.nil)
  go_simp
  refine hK.out _ _ (hH.setCell (Or.inl rfl) _) (fun hH0 => ?_)
  clear hK K hH
  refine wpAnyH_take (i := 10) (v := .pointer (some ⟨g, k * 89 + 6, none⟩)) rfl (by kernel_rfl) (by kernel_rfl) (by kernel_rfl) (fun _ _ _ h => h) (Or.inl ⟨by rfl, fun z _ => by simp [go_sem, execOp]⟩) hH0 ?_
  simp only [List.getElem_toArray, List.getElem_cons_succ, List.getElem_cons_zero, Act.put, List.setIfInBounds_toArray, List.set_cons_zero, List.set_cons_succ]
  refine wpAnyH_take (i := 11) (v := .pointer (some ⟨g, k * 89 + 6 + 1, none⟩)) rfl (by kernel_rfl) (by kernel_rfl) (by kernel_rfl) (fun _ _ _ h => h) (Or.inl ⟨by rfl, fun z _ => by simp [go_sem, execOp]⟩) hH0 ?_
  simp only [List.getElem_toArray, List.getElem_cons_succ, List.getElem_cons_zero, Act.put, List.setIfInBounds_toArray, List.set_cons_zero, List.set_cons_succ]
  refine wpAnyH_ready (rs := [12]) (by kernel_rfl) (by simp) (AllReadyH.cons rfl (fun K hK => ?_) AllReadyH.nil)
  go_simp
  refine hK.out _ _ (hH0.setCell (Or.inl rfl) _) (fun hH1 => ?_)
  clear hK K hH0
  refine wpAnyH_take (i := 13) (v := .pointer (some ⟨g, k * 89 + 22, none⟩)) rfl (by kernel_rfl) (by kernel_rfl) (by kernel_rfl) (fun _ _ _ h => h) (Or.inl ⟨by rfl, fun z _ => by simp [go_sem, execOp]⟩) hH1 ?_
  simp only [List.getElem_toArray, List.getElem_cons_succ, List.getElem_cons_zero, Act.put, List.setIfInBounds_toArray, List.set_cons_zero, List.set_cons_succ]
  refine wpAnyH_take (i := 14) (v := .pointer (some ⟨g, k * 89 + 22 + 1, none⟩)) rfl (by kernel_rfl) (by kernel_rfl) (by kernel_rfl) (fun _ _ _ h => h) (Or.inl ⟨by rfl, fun z _ => by simp [go_sem, execOp]⟩) hH1 ?_
  simp only [List.getElem_toArray, List.getElem_cons_succ, List.getElem_cons_zero, Act.put, List.setIfInBounds_toArray, List.set_cons_zero, List.set_cons_succ]
  refine wpAnyH_ready (rs := [15]) (by kernel_rfl) (by simp) (AllReadyH.cons rfl (fun K hK => ?_) AllReadyH.nil)
  go_simp
  refine hK.out _ _ (hH1.setCell (Or.inl rfl) _) (fun hH2 => ?_)
  clear hK K hH1
  refine wpAnyH_done (by kernel_rfl) ?_ _
  clear hH2
  go_wp2_with fail
  go_end0
  exact ⟨rfl, (((H1.out.below (Below.refl _ _).drew).put (j := 26) (by omega) (rowP_put_26 _ _)).put (j := 7) (by omega) (rowP_put_7 _ _)).put (j := 23) (by omega) (rowP_put_23 _ _), ((((Only.refl (· = g) w).drew).setCell (Or.inl rfl) _).setCell (Or.inl rfl) _).setCell (Or.inl rfl) _⟩
set_option maxRecDepth 100000 in
set_option maxHeartbeats 4000000 in
theorem root1_any (w : World) (bx g k : Nat) (b : Bri) (ps ss : Nat → Rec) (fs : Nat → Int) (p : Rec) (h : Bst w bx g b (upd ps k p) ss fs) (hk : k < b.n) (gx : Nat) (hX : w.heap[gx]? = some (.cells #[.pointer (some ⟨bx, 0, none⟩), .int .i64 k, .pointer (some ⟨g, k * 89, none⟩), .pointer (some ⟨g, k * 89 + 22, none⟩), .pointer (some ⟨g, k * 89 + 6, none⟩)] 57 (0, 0))) (ngx : ¬ gx = g) (gf : Nat) (hF : w.cell? ⟨gf, 0, none⟩ = some (.pointer (some ⟨g, k * 89 + 22, none⟩))) (nF : ¬ gf = g) : Calls Try.prog 44 #[.pointer (some ⟨gx, 0, none⟩), .pointer (some ⟨gf, 0, none⟩)] w fun e w' => e = .returned (.tuple #[]) ∧ Bst w' bx g b (upd ps k ((agreeF p).setB 46 false)) ss fs ∧ Only (· = g) w w' := by
  have lx := (Array.getElem?_eq_some_iff.1 hX).1
  have HX := Lib.hid hX
  have x0 : w.cell? ⟨gx, 0, none⟩ = some (.pointer (some ⟨bx, 0, none⟩)) := cells_of HX.out 0
  have x1 : w.cell? ⟨gx, 1, none⟩ = some (.int .i64 k) := cells_of HX.out 1
  have x2 : w.cell? ⟨gx, 2, none⟩ = some (.pointer (some ⟨g, k * 89, none⟩)) := cells_of HX.out 2
  have x3 : w.cell? ⟨gx, 3, none⟩ = some (.pointer (some ⟨g, k * 89 + 22, none⟩)) := cells_of HX.out 3
  have x4 : w.cell? ⟨gx, 4, none⟩ = some (.pointer (some ⟨g, k * 89 + 6, none⟩)) := cells_of HX.out 4
  clear hX
  have lF := cell_lt hF
  have qx : ¬ g = gx := fun e => ngx e.symm
  have qf : ¬ g = gf := fun e => nF e.symm
  have H1 := Lib.hid h
  have hgl := h.p.lt
  have nbg : ¬ bx = g := h.ne
  have ngb : ¬ g = bx := fun e => h.ne e.symm
  clear h
  go_enter Try.func44, Try.ntmps44
  go_wp2_with (first | (refine wpList_load_row rfl 57 _ rfl gx rfl 57 #[.pointer (some ⟨bx, 0, none⟩), .int .i64 k, .pointer (some ⟨g, k * 89, none⟩), .pointer (some ⟨g, k * 89 + 22, none⟩), .pointer (some ⟨g, k * 89 + 6, none⟩)] (0, 0) _ HX.out Try.underlying57 rfl (by kernel_rfl) ?_; simp only [Act.put, List.setIfInBounds_toArray, List.set_cons_zero, List.set_cons_succ]) | fail)
  refine (agrees_any w bx g k b ps ss fs p H1.out hk).mono ?_
  rintro e w2 ⟨rfl, h2, ho2⟩
  have H2 := Lib.hid h2
  have hF2 : w2.cell? ⟨gf, 0, none⟩ = some (.pointer (some ⟨g, k * 89 + 22, none⟩)) := (ho2.cell (p := ⟨gf, 0, none⟩) lF nF).trans hF
  have HO2 := Lib.hid ho2
  clear h2 ho2
  have c46 : w2.cell? ⟨g, k * 89 + 22 + 24, none⟩ = some (.bool ((agreeF p).b 46)) := (H2.out.p.cell hk (j := 46) (by omega)).trans (by rw [upd_same]; rfl)
  have f46 : w2.frozen? ⟨g, k * 89 + 22 + 24, none⟩ = false := H2.out.p.free _
  go_wp2_with fail
  go_end0
  exact ⟨rfl, (H2.out).put (j := 46) (by omega) (rowP_put_46 _ _), (HO2.out).setCell (Or.inl rfl) _⟩
set_option maxRecDepth 100000 in
set_option maxHeartbeats 4000000 in
theorem reroots_any (w : World) (bx g k : Nat) (b : Bri) (ps ss : Nat → Rec) (fs : Nat → Int) (p : Rec) (h : Bst w bx g b (upd ps k p) ss fs) (hk : k < b.n) (hn : b.n ≤ 1000) : Calls Try.prog 45 #[.agg #[.pointer (some ⟨bx, 0, none⟩), .int .i64 k, .pointer (some ⟨g, k * 89, none⟩), .pointer (some ⟨g, k * 89 + 22, none⟩), .pointer (some ⟨g, k * 89 + 6, none⟩)]] w fun e w' => e = .returned (.tuple #[]) ∧ Bst w' bx g b (upd (allB 42 ps) k (p.setB 42 true)) ss fs ∧ Only (· = g) w w' := by
  go_enter Try.func45, Try.ntmps45
  go_upto_region 1 with (fail)
  refine ((?_ : ∀ x, x = w.alloc (.cells #[.pointer (some ⟨bx, 0, none⟩), .int .i64 k, .pointer (some ⟨g, k * 89, none⟩), .pointer (some ⟨g, k * 89 + 22, none⟩), .pointer (some ⟨g, k * 89 + 6, none⟩)] 57) → Code.wp _ _ _ _ x) _ rfl)
  intro w1 hw1
  obtain ⟨gx, hgx⟩ : ∃ x, x = w.heap.size := ⟨_, rfl⟩
  rw [← hgx]
  have hX1 : w1.heap[gx]? = some (.cells #[.pointer (some ⟨bx, 0, none⟩), .int .i64 k, .pointer (some ⟨g, k * 89, none⟩), .pointer (some ⟨g, k * 89 + 22, none⟩), .pointer (some ⟨g, k * 89 + 6, none⟩)] 57 (0, 0)) := by rw [hw1, hgx]; exact heap_alloc_new _ _
  have h1 : Bst w1 bx g b (upd ps k p) ss fs := by rw [hw1]; exact h.below (more (Below.refl _ _) _)
  have hbw : Below w.heap.size w w1 := by rw [hw1]; exact more (Below.refl _ _) _
  have HBW := Lib.hid hbw
  have HGX := Lib.hid hgx
  have ho1 : Only (· = g) w w1 := by rw [hw1]; exact (Only.refl _ _).alloc _
  have ngx : ¬ gx = g := by have := h.p.lt; omega
  have nxg : ¬ g = gx := by have := h.p.lt; omega
  have nxb : ¬ gx = bx := by have := h.lt; omega
  have H1 := Lib.hid h1
  have HO1 := Lib.hid ho1
  have lx := (Array.getElem?_eq_some_iff.1 hX1).1
  have HX1 := Lib.hid hX1
  clear hw1 hgx hX1 h1 ho1 h hbw
  have x0 : w1.cell? ⟨gx, 0, none⟩ = some (.pointer (some ⟨bx, 0, none⟩)) := cells_of HX1.out 0
  have x1 : w1.cell? ⟨gx, 1, none⟩ = some (.int .i64 k) := cells_of HX1.out 1
  have x2 : w1.cell? ⟨gx, 2, none⟩ = some (.pointer (some ⟨g, k * 89, none⟩)) := cells_of HX1.out 2
  have x3 : w1.cell? ⟨gx, 3, none⟩ = some (.pointer (some ⟨g, k * 89 + 22, none⟩)) := cells_of HX1.out 3
  have x4 : w1.cell? ⟨gx, 4, none⟩ = some (.pointer (some ⟨g, k * 89 + 6, none⟩)) := cells_of HX1.out 4
  have hB0 := Lib.hid (Bst.cong (qs := allM 42 0 (upd ps k p)) (fun j _ => allM_0 42 (upd ps k p) j) H1.out)
  have b17 : w1.cell? ⟨bx, 17, none⟩ = some (.slice (some ⟨g, 0, none⟩) b.n b.cp) := H1.out.c17
  go_wp2_with fail
  clear b17
  go_loopw [9] (fun i wr => ∃ m : Nat, m ≤ b.n ∧ i = .int .i64 m ∧ Hid (Bst wr bx g b (allM 42 m (upd ps k p)) ss fs) ∧ Hid (Only (· = g) w1 wr)) (fun i _ => b.n - (intOf i).toNat)
  case atStart => exact ⟨0, by omega, rfl, hB0, Lib.hid (Only.refl _ _)⟩
  case round =>
    clear hB0
    obtain ⟨m, hm, rfl, hB, hO⟩ := hrel
    have hm0 : (0 : Int) ≤ m := by omega
    have b17 : wr.cell? ⟨bx, 17, none⟩ = some (.slice (some ⟨g, 0, none⟩) b.n b.cp) := hB.out.c17
    have y0 : wr.cell? ⟨gx, 0, none⟩ = some (.pointer (some ⟨bx, 0, none⟩)) := (hO.out.cell (p := ⟨gx, 0, none⟩) lx ngx).trans (cells_of HX1.out 0)
    have y3 : wr.cell? ⟨gx, 3, none⟩ = some (.pointer (some ⟨g, k * 89 + 22, none⟩)) := (hO.out.cell (p := ⟨gx, 3, none⟩) lx ngx).trans (cells_of HX1.out 3)
    by_cases hlt : m < b.n
    · have dl : decide ((m : Int) < b.n) = true := decide_eq_true (by omega)
      have hm1 : (m : Int) < b.n := by omega
      have hwm : IntKind.i64.wrap ((m : Int) + 1) = (m + 1 : Nat) := by unfold IntKind.wrap; simp [IntKind.signed, IntKind.bits]; omega
      have cm : wr.cell? ⟨g, m * 89 + 22 + 20, none⟩ = some (.bool ((upd ps k p m).b 42)) := (hB.out.p.cell hlt (j := 42) (by omega)).trans (by rw [allM_at]; rfl)
      have fm : wr.frozen? ⟨g, m * 89 + 22 + 20, none⟩ = false := hB.out.p.free _
      have HB2 := Lib.hid (Bst.cong (fun j _ => allM_put 42 m (upd ps k p) j) (Bst.put (w := wr) (k := m) (j := 42) (p := upd ps k p m) (p' := (upd ps k p m).setB 42 true) (by have h := hB.out.start m; rw [allM_at] at h; exact h) (by omega) (rowP_put_42 _ _)))
      go_wp2_with fail
      exact ⟨⟨m + 1, by omega, rfl, HB2, Lib.hid (hO.out.setCell (Or.inl rfl) _)⟩, by simp [intOf]; omega⟩
    · have dl : decide ((m : Int) < b.n) = false := decide_eq_false (by omega)
      obtain rfl : m = b.n := by omega
      have hBE := Bst.cong (fun j hj => allM_all 42 b.n (upd ps k p) j hj) hB.out
      rw [allB_upd] at hBE
      have HBE := Lib.hid hBE
      clear hBE
      go_wp2_with fail
      go_end0
      exact ⟨rfl, HBE.out, HO1.out.trans hO.out⟩
set_option maxRecDepth 100000 in
set_option maxHeartbeats 4000000 in
theorem syncs_any (w : World) (bx g k : Nat) (b : Bri) (ps ss : Nat → Rec) (fs : Nat → Int) (p : Rec) (h : Bst w bx g b (upd ps k p) ss fs) (hk : k < b.n) (hn : b.n ≤ 1000) : Calls Try.prog 56 #[.agg #[.pointer (some ⟨bx, 0, none⟩), .int .i64 k, .pointer (some ⟨g, k * 89, none⟩), .pointer (some ⟨g, k * 89 + 22, none⟩), .pointer (some ⟨g, k * 89 + 6, none⟩)]] w fun e w' => e = .returned (.tuple #[]) ∧ Bst w' bx g b (upd (allB 46 ps) k ((p.setB 46 true).setB 33 false)) ss fs ∧ Only (· = g) w w' := by
  go_enter Try.func56, Try.ntmps56
  go_upto_region 1 with (fail)
  refine ((?_ : ∀ x, x = w.alloc (.cells #[.pointer (some ⟨bx, 0, none⟩), .int .i64 k, .pointer (some ⟨g, k * 89, none⟩), .pointer (some ⟨g, k * 89 + 22, none⟩), .pointer (some ⟨g, k * 89 + 6, none⟩)] 57) → Code.wp _ _ _ _ x) _ rfl)
  intro w1 hw1
  obtain ⟨gx, hgx⟩ : ∃ x, x = w.heap.size := ⟨_, rfl⟩
  rw [← hgx]
  have hX1 : w1.heap[gx]? = some (.cells #[.pointer (some ⟨bx, 0, none⟩), .int .i64 k, .pointer (some ⟨g, k * 89, none⟩), .pointer (some ⟨g, k * 89 + 22, none⟩), .pointer (some ⟨g, k * 89 + 6, none⟩)] 57 (0, 0)) := by rw [hw1, hgx]; exact heap_alloc_new _ _
  have h1 : Bst w1 bx g b (upd ps k p) ss fs := by rw [hw1]; exact h.below (more (Below.refl _ _) _)
  have hbw : Below w.heap.size w w1 := by rw [hw1]; exact more (Below.refl _ _) _
  have HBW := Lib.hid hbw
  have HGX := Lib.hid hgx
  have ho1 : Only (· = g) w w1 := by rw [hw1]; exact (Only.refl _ _).alloc _
  have ngx : ¬ gx = g := by have := h.p.lt; omega
  have nxg : ¬ g = gx := by have := h.p.lt; omega
  have nxb : ¬ gx = bx := by have := h.lt; omega
  have H1 := Lib.hid h1
  have HO1 := Lib.hid ho1
  have lx := (Array.getElem?_eq_some_iff.1 hX1).1
  have HX1 := Lib.hid hX1
  clear hw1 hgx hX1 h1 ho1 h hbw
  have x0 : w1.cell? ⟨gx, 0, none⟩ = some (.pointer (some ⟨bx, 0, none⟩)) := cells_of HX1.out 0
  have x1 : w1.cell? ⟨gx, 1, none⟩ = some (.int .i64 k) := cells_of HX1.out 1
  have x2 : w1.cell? ⟨gx, 2, none⟩ = some (.pointer (some ⟨g, k * 89, none⟩)) := cells_of HX1.out 2
  have x3 : w1.cell? ⟨gx, 3, none⟩ = some (.pointer (some ⟨g, k * 89 + 22, none⟩)) := cells_of HX1.out 3
  have x4 : w1.cell? ⟨gx, 4, none⟩ = some (.pointer (some ⟨g, k * 89 + 6, none⟩)) := cells_of HX1.out 4
  have hB0 := Lib.hid (Bst.cong (qs := allM 46 0 (upd ps k p)) (fun j _ => allM_0 46 (upd ps k p) j) H1.out)
  have b17 : w1.cell? ⟨bx, 17, none⟩ = some (.slice (some ⟨g, 0, none⟩) b.n b.cp) := H1.out.c17
  go_wp2_with fail
  clear b17
  go_loopw [9] (fun i wr => ∃ m : Nat, m ≤ b.n ∧ i = .int .i64 m ∧ Hid (Bst wr bx g b (allM 46 m (upd ps k p)) ss fs) ∧ Hid (Only (· = g) w1 wr)) (fun i _ => b.n - (intOf i).toNat)
  case atStart => exact ⟨0, by omega, rfl, hB0, Lib.hid (Only.refl _ _)⟩
  case round =>
    clear hB0
    obtain ⟨m, hm, rfl, hB, hO⟩ := hrel
    have hm0 : (0 : Int) ≤ m := by omega
    have b17 : wr.cell? ⟨bx, 17, none⟩ = some (.slice (some ⟨g, 0, none⟩) b.n b.cp) := hB.out.c17
    have y0 : wr.cell? ⟨gx, 0, none⟩ = some (.pointer (some ⟨bx, 0, none⟩)) := (hO.out.cell (p := ⟨gx, 0, none⟩) lx ngx).trans (cells_of HX1.out 0)
    have y3 : wr.cell? ⟨gx, 3, none⟩ = some (.pointer (some ⟨g, k * 89 + 22, none⟩)) := (hO.out.cell (p := ⟨gx, 3, none⟩) lx ngx).trans (cells_of HX1.out 3)
    by_cases hlt : m < b.n
    · have dl : decide ((m : Int) < b.n) = true := decide_eq_true (by omega)
      have hm1 : (m : Int) < b.n := by omega
      have hwm : IntKind.i64.wrap ((m : Int) + 1) = (m + 1 : Nat) := by unfold IntKind.wrap; simp [IntKind.signed, IntKind.bits]; omega
      have cm : wr.cell? ⟨g, m * 89 + 22 + 24, none⟩ = some (.bool ((upd ps k p m).b 46)) := (hB.out.p.cell hlt (j := 46) (by omega)).trans (by rw [allM_at]; rfl)
      have fm : wr.frozen? ⟨g, m * 89 + 22 + 24, none⟩ = false := hB.out.p.free _
      have HB2 := Lib.hid (Bst.cong (fun j _ => allM_put 46 m (upd ps k p) j) (Bst.put (w := wr) (k := m) (j := 46) (p := upd ps k p m) (p' := (upd ps k p m).setB 46 true) (by have h := hB.out.start m; rw [allM_at] at h; exact h) (by omega) (rowP_put_46 _ _)))
      go_wp2_with fail
      exact ⟨⟨m + 1, by omega, rfl, HB2, Lib.hid (hO.out.setCell (Or.inl rfl) _)⟩, by simp [intOf]; omega⟩
    · have dl : decide ((m : Int) < b.n) = false := decide_eq_false (by omega)
      obtain rfl : m = b.n := by omega
      have hBE := Bst.cong (fun j hj => allM_all 46 b.n (upd ps k p) j hj) hB.out
      rw [allB_upd] at hBE
      have HBE := Lib.hid hBE
      clear hBE
      have c33 : wr.cell? ⟨g, k * 89 + 22 + 11, none⟩ = some (.bool ((p.setB 46 true).b 33)) := (HBE.out.p.cell hk (j := 33) (by omega)).trans (by rw [upd_same]; rfl)
      have f33 : wr.frozen? ⟨g, k * 89 + 22 + 11, none⟩ = false := HBE.out.p.free _
      go_wp2_with fail
      go_end0
      exact ⟨rfl, (HBE.out).put (j := 33) (by omega) (rowP_put_33 _ _), (HO1.out.trans hO.out).setCell (Or.inl rfl) _⟩
end Go.Proofs.Ytdangeefecdbaaa.Br
