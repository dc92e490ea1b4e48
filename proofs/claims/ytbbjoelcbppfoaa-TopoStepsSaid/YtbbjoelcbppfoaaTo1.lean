/- Chapter 17: what is done to a port alone: the four cleared, whether one of them is set, a change begun; the program's methods and the document's functions. Conditions: the bridge lies in memory; its times aren't very much. -/
import Derived.Test.YtbbjoelcbppfoaaBst
import Derived.StillTailTactics
import Derived.Deep.RegionHeld
import Derived.Deep.CutRange
import Derived.Lib.Hide
set_option linter.unusedSimpArgs false
set_option linter.unusedVariables false
namespace Go.Proofs.Ytbbjoelcbppfoaa.Br
open Go.RowKit
/-- The four cleared. -/
def clear4 (p : Rec) : Rec := (((p.setB 39 false).setB 41 false).setB 40 false).setB 49 false
/-- Is one of the four set? -/
def four4 (p : Rec) : Bool := p.b 39 || (p.b 41 || (p.b 40 || p.b 49))
/-- A change is begun: hello, greatest age, delay. -/
def beginF (hl mx dl : Int) (p : Rec) : Rec := if p.i 13 != 0 then p else if p.b 45 then (p.setI 13 (hl + 1)).setB 31 true else p.setI 13 (mx + dl)
set_option maxRecDepth 100000 in
set_option maxHeartbeats 4000000 in
theorem clears_any (w : World) (bx g k : Nat) (b : Bri) (ps ss : Nat → Rec) (fs : Nat → Int) (p : Rec) (h : Bst w bx g b (upd ps k p) ss fs) (hk : k < b.n) : Calls Try.prog 18 #[.agg #[.pointer (some ⟨bx, 0, none⟩), .int .i64 k, .pointer (some ⟨g, k * 89, none⟩), .pointer (some ⟨g, k * 89 + 22, none⟩)]] w fun e w' => e = .returned (.tuple #[]) ∧ Bst w' bx g b (upd ps k ((clear4 p).setI 21 1)) ss fs ∧ Only (· = g) w w' := by
  go_enter Try.func18, Try.ntmps18
  go_upto_region 1 with (fail)
  refine ((?_ : ∀ x, x = w.alloc (.cells #[.pointer (some ⟨bx, 0, none⟩), .int .i64 k, .pointer (some ⟨g, k * 89, none⟩), .pointer (some ⟨g, k * 89 + 22, none⟩)] 57) → Code.wp _ _ _ _ x) _ rfl)
  intro w1 hw1
  obtain ⟨gx, hgx⟩ : ∃ x, x = w.heap.size := ⟨_, rfl⟩
  rw [← hgx]
  have hX1 : w1.heap[gx]? = some (.cells #[.pointer (some ⟨bx, 0, none⟩), .int .i64 k, .pointer (some ⟨g, k * 89, none⟩), .pointer (some ⟨g, k * 89 + 22, none⟩)] 57 (0, 0)) := by rw [hw1, hgx]; exact heap_alloc_new _ _
  have h1 : Bst w1 bx g b (upd ps k p) ss fs := by rw [hw1]; exact h.below (more (Below.refl _ _) _)
  have ho1 : Only (· = g) w w1 := by rw [hw1]; exact (Only.refl _ _).alloc _
  have ngx : ¬ gx = g := by have := h.p.lt; omega
  have nxg : ¬ g = gx := by have := h.p.lt; omega
  have nxb : ¬ gx = bx := by have := h.lt; omega
  have H1 := Lib.hid h1
  have HO1 := Lib.hid ho1
  have lx := (Array.getElem?_eq_some_iff.1 hX1).1
  have HX1 := Lib.hid hX1
  clear hw1 hgx hX1 h1 ho1 h
  have x0 : w1.cell? ⟨gx, 0, none⟩ = some (.pointer (some ⟨bx, 0, none⟩)) := cells_of HX1.out 0
  have x1 : w1.cell? ⟨gx, 1, none⟩ = some (.int .i64 k) := cells_of HX1.out 1
  have x2 : w1.cell? ⟨gx, 2, none⟩ = some (.pointer (some ⟨g, k * 89, none⟩)) := cells_of HX1.out 2
  have x3 : w1.cell? ⟨gx, 3, none⟩ = some (.pointer (some ⟨g, k * 89 + 22, none⟩)) := cells_of HX1.out 3
  have c39 : w1.cell? ⟨g, k * 89 + 22 + 17, none⟩ = some (.bool (p.b 39)) := (H1.out.p.cell hk (j := 39) (by omega)).trans (by rw [upd_same]; rfl)
  have c40 : w1.cell? ⟨g, k * 89 + 22 + 18, none⟩ = some (.bool (p.b 40)) := (H1.out.p.cell hk (j := 40) (by omega)).trans (by rw [upd_same]; rfl)
  have c41 : w1.cell? ⟨g, k * 89 + 22 + 19, none⟩ = some (.bool (p.b 41)) := (H1.out.p.cell hk (j := 41) (by omega)).trans (by rw [upd_same]; rfl)
  have c49 : w1.cell? ⟨g, k * 89 + 22 + 27, none⟩ = some (.bool (p.b 49)) := (H1.out.p.cell hk (j := 49) (by omega)).trans (by rw [upd_same]; rfl)
  have c21 : w1.cell? ⟨g, k * 89 + 15 + 6, none⟩ = some (.int .i64 (p.i 21)) := (H1.out.p.cell hk (j := 21) (by omega)).trans (by rw [upd_same]; rfl)
  have f39 : w1.frozen? ⟨g, k * 89 + 22 + 17, none⟩ = false := H1.out.p.free _
  have f40 : w1.frozen? ⟨g, k * 89 + 22 + 18, none⟩ = false := H1.out.p.free _
  have f41 : w1.frozen? ⟨g, k * 89 + 22 + 19, none⟩ = false := H1.out.p.free _
  have f49 : w1.frozen? ⟨g, k * 89 + 22 + 27, none⟩ = false := H1.out.p.free _
  have f21 : w1.frozen? ⟨g, k * 89 + 15 + 6, none⟩ = false := H1.out.p.free _
  refine wp_region_held_drew (S := fun w' => Only (· = g) w1 w') (by kernel_rfl) (Only.refl _ _).drew (fun hH => ?_)
  refine wpAnyH_take (i := 0) (v := .pointer (some ⟨gx, 3, none⟩)) rfl (by kernel_rfl) (by kernel_rfl) (by kernel_rfl) (fun _ _ _ h => h) (Or.inl ⟨by rfl, fun z _ => by simp [go_sem, execOp]⟩) hH ?_
  simp only [List.getElem_toArray, List.getElem_cons_succ, List.getElem_cons_zero, Act.put, List.setIfInBounds_toArray, List.set_cons_zero, List.set_cons_succ]
  refine wpAnyH_take (i := 1) (v := .pointer (some ⟨g, k * 89 + 22, none⟩)) rfl (by kernel_rfl) (by kernel_rfl) (by kernel_rfl) (fun _ _ _ h => h) (Or.inl ⟨by rfl, fun z hz => by simp [go_sem, execOp, (show z.cell? ⟨gx, 3, none⟩ = some (.pointer (some ⟨g, k * 89 + 22, none⟩)) from (hz.cell (p := ⟨gx, 3, none⟩) lx (by show ¬ gx = g; exact ngx)).trans x3)]⟩) hH ?_
  simp only [List.getElem_toArray, List.getElem_cons_succ, List.getElem_cons_zero, Act.put, List.setIfInBounds_toArray, List.set_cons_zero, List.set_cons_succ]
  refine wpAnyH_take (i := 2) (v := .pointer (some ⟨gx, 3, none⟩)) rfl (by kernel_rfl) (by kernel_rfl) (by kernel_rfl) (fun _ _ _ h => h) (Or.inl ⟨by rfl, fun z _ => by simp [go_sem, execOp]⟩) hH ?_
  simp only [List.getElem_toArray, List.getElem_cons_succ, List.getElem_cons_zero, Act.put, List.setIfInBounds_toArray, List.set_cons_zero, List.set_cons_succ]
  refine wpAnyH_take (i := 3) (v := .pointer (some ⟨g, k * 89 + 22, none⟩)) rfl (by kernel_rfl) (by kernel_rfl) (by kernel_rfl) (fun _ _ _ h => h) (Or.inl ⟨by rfl, fun z hz => by simp [go_sem, execOp, (show z.cell? ⟨gx, 3, none⟩ = some (.pointer (some ⟨g, k * 89 + 22, none⟩)) from (hz.cell (p := ⟨gx, 3, none⟩) lx (by show ¬ gx = g; exact ngx)).trans x3)]⟩) hH ?_
  simp only [List.getElem_toArray, List.getElem_cons_succ, List.getElem_cons_zero, Act.put, List.setIfInBounds_toArray, List.set_cons_zero, List.set_cons_succ]
  refine wpAnyH_take (i := 4) (v := .pointer (some ⟨gx, 3, none⟩)) rfl (by kernel_rfl) (by kernel_rfl) (by kernel_rfl) (fun _ _ _ h => h) (Or.inl ⟨by rfl, fun z _ => by simp [go_sem, execOp]⟩) hH ?_
  simp only [List.getElem_toArray, List.getElem_cons_succ, List.getElem_cons_zero, Act.put, List.setIfInBounds_toArray, List.set_cons_zero, List.set_cons_succ]
  refine wpAnyH_take (i := 5) (v := .pointer (some ⟨g, k * 89 + 22, none⟩)) rfl (by kernel_rfl) (by kernel_rfl) (by kernel_rfl) (fun _ _ _ h => h) (Or.inl ⟨by rfl, fun z hz => by simp [go_sem, execOp, (show z.cell? ⟨gx, 3, none⟩ = some (.pointer (some ⟨g, k * 89 + 22, none⟩)) from (hz.cell (p := ⟨gx, 3, none⟩) lx (by show ¬ gx = g; exact ngx)).trans x3)]⟩) hH ?_
  simp only [List.getElem_toArray, List.getElem_cons_succ, List.getElem_cons_zero, Act.put, List.setIfInBounds_toArray, List.set_cons_zero, List.set_cons_succ]
  refine wpAnyH_take (i := 6) (v := .pointer (some ⟨gx, 3, none⟩)) rfl (by kernel_rfl) (by kernel_rfl) (by kernel_rfl) (fun _ _ _ h => h) (Or.inl ⟨by rfl, fun z _ => by simp [go_sem, execOp]⟩) hH ?_
  simp only [List.getElem_toArray, List.getElem_cons_succ, List.getElem_cons_zero, Act.put, List.setIfInBounds_toArray, List.set_cons_zero, List.set_cons_succ]
  refine wpAnyH_take (i := 7) (v := .pointer (some ⟨g, k * 89 + 22, none⟩)) rfl (by kernel_rfl) (by kernel_rfl) (by kernel_rfl) (fun _ _ _ h => h) (Or.inl ⟨by rfl, fun z hz => by simp [go_sem, execOp, (show z.cell? ⟨gx, 3, none⟩ = some (.pointer (some ⟨g, k * 89 + 22, none⟩)) from (hz.cell (p := ⟨gx, 3, none⟩) lx (by show ¬ gx = g; exact ngx)).trans x3)]⟩) hH ?_
  simp only [List.getElem_toArray, List.getElem_cons_succ, List.getElem_cons_zero, Act.put, List.setIfInBounds_toArray, List.set_cons_zero, List.set_cons_succ]
  refine wpAnyH_take (i := 8) (v := .pointer (some ⟨g, k * 89 + 22, none⟩)) rfl (by kernel_rfl) (by kernel_rfl) (by kernel_rfl) (fun _ _ _ h => h) (Or.inl ⟨by rfl, fun z _ => by simp [go_sem, execOp]⟩) hH ?_
  simp only [List.getElem_toArray, List.getElem_cons_succ, List.getElem_cons_zero, Act.put, List.setIfInBounds_toArray, List.set_cons_zero, List.set_cons_succ]
  refine wpAnyH_take (i := 9) (v := .pointer (some ⟨g, k * 89 + 22 + 17, none⟩)) rfl (by kernel_rfl) (by kernel_rfl) (by kernel_rfl) (fun _ _ _ h => h) (Or.inl ⟨by rfl, fun z _ => by simp [go_sem, execOp]⟩) hH ?_
  simp only [List.getElem_toArray, List.getElem_cons_succ, List.getElem_cons_zero, Act.put, List.setIfInBounds_toArray, List.set_cons_zero, List.set_cons_succ]
  refine wpAnyH_ready (rs := [10]) (by kernel_rfl) (by simp) (AllReadyH.cons rfl (fun K hK => ?_) AllReadyH.nil)
  go_simp
  refine hK.out _ _ (hH.setCell (Or.inl rfl) _) (fun hH0 => ?_)
  clear hK K hH
  refine wpAnyH_take (i := 11) (v := .pointer (some ⟨g, k * 89 + 22, none⟩)) rfl (by kernel_rfl) (by kernel_rfl) (by kernel_rfl) (fun _ _ _ h => h) (Or.inl ⟨by rfl, fun z _ => by simp [go_sem, execOp]⟩) hH0 ?_
  simp only [List.getElem_toArray, List.getElem_cons_succ, List.getElem_cons_zero, Act.put, List.setIfInBounds_toArray, List.set_cons_zero, List.set_cons_succ]
  refine wpAnyH_take (i := 12) (v := .pointer (some ⟨g, k * 89 + 22 + 19, none⟩)) rfl (by kernel_rfl) (by kernel_rfl) (by kernel_rfl) (fun _ _ _ h => h) (Or.inl ⟨by rfl, fun z _ => by simp [go_sem, execOp]⟩) hH0 ?_
  simp only [List.getElem_toArray, List.getElem_cons_succ, List.getElem_cons_zero, Act.put, List.setIfInBounds_toArray, List.set_cons_zero, List.set_cons_succ]
  refine wpAnyH_ready (rs := [13]) (by kernel_rfl) (by simp) (AllReadyH.cons rfl (fun K hK => ?_) AllReadyH.nil)
  go_simp
  refine hK.out _ _ (hH0.setCell (Or.inl rfl) _) (fun hH1 => ?_)
  clear hK K hH0
  refine wpAnyH_take (i := 14) (v := .pointer (some ⟨g, k * 89 + 22, none⟩)) rfl (by kernel_rfl) (by kernel_rfl) (by kernel_rfl) (fun _ _ _ h => h) (Or.inl ⟨by rfl, fun z _ => by simp [go_sem, execOp]⟩) hH1 ?_
  simp only [List.getElem_toArray, List.getElem_cons_succ, List.getElem_cons_zero, Act.put, List.setIfInBounds_toArray, List.set_cons_zero, List.set_cons_succ]
  refine wpAnyH_take (i := 15) (v := .pointer (some ⟨g, k * 89 + 22 + 18, none⟩)) rfl (by kernel_rfl) (by kernel_rfl) (by kernel_rfl) (fun _ _ _ h => h) (Or.inl ⟨by rfl, fun z _ => by simp [go_sem, execOp]⟩) hH1 ?_
  simp only [List.getElem_toArray, List.getElem_cons_succ, List.getElem_cons_zero, Act.put, List.setIfInBounds_toArray, List.set_cons_zero, List.set_cons_succ]
  refine wpAnyH_ready (rs := [16]) (by kernel_rfl) (by simp) (AllReadyH.cons rfl (fun K hK => ?_) AllReadyH.nil)
  go_simp
  refine hK.out _ _ (hH1.setCell (Or.inl rfl) _) (fun hH2 => ?_)
  clear hK K hH1
  refine wpAnyH_take (i := 17) (v := .pointer (some ⟨g, k * 89 + 22, none⟩)) rfl (by kernel_rfl) (by kernel_rfl) (by kernel_rfl) (fun _ _ _ h => h) (Or.inl ⟨by rfl, fun z _ => by simp [go_sem, execOp]⟩) hH2 ?_
  simp only [List.getElem_toArray, List.getElem_cons_succ, List.getElem_cons_zero, Act.put, List.setIfInBounds_toArray, List.set_cons_zero, List.set_cons_succ]
  refine wpAnyH_take (i := 18) (v := .pointer (some ⟨g, k * 89 + 22 + 27, none⟩)) rfl (by kernel_rfl) (by kernel_rfl) (by kernel_rfl) (fun _ _ _ h => h) (Or.inl ⟨by rfl, fun z _ => by simp [go_sem, execOp]⟩) hH2 ?_
  simp only [List.getElem_toArray, List.getElem_cons_succ, List.getElem_cons_zero, Act.put, List.setIfInBounds_toArray, List.set_cons_zero, List.set_cons_succ]
  refine wpAnyH_ready (rs := [19]) (by kernel_rfl) (by simp) (AllReadyH.cons rfl (fun K hK => ?_) AllReadyH.nil)
  go_simp
  refine hK.out _ _ (hH2.setCell (Or.inl rfl) _) (fun hH3 => ?_)
  clear hK K hH2
  refine wpAnyH_done (by kernel_rfl) ?_ _
  clear hH3
  go_wp2_with fail
  go_end0
  exact ⟨rfl, (((((H1.out.below (Below.refl _ _).drew).put (j := 39) (by omega) (rowP_put_39 _ _)).put (j := 41) (by omega) (rowP_put_41 _ _)).put (j := 40) (by omega) (rowP_put_40 _ _)).put (j := 49) (by omega) (rowP_put_49 _ _)).put (j := 21) (by omega) (rowP_put_21 _ _), (((((HO1.out.drew).setCell (Or.inl rfl) _).setCell (Or.inl rfl) _).setCell (Or.inl rfl) _).setCell (Or.inl rfl) _).setCell (Or.inl rfl) _⟩
set_option maxRecDepth 100000 in
set_option maxHeartbeats 4000000 in
theorem four_any (w : World) (bx g k : Nat) (b : Bri) (ps ss : Nat → Rec) (fs : Nat → Int) (p : Rec) (h : Bst w bx g b (upd ps k p) ss fs) (hk : k < b.n) : Calls Try.prog 28 #[.agg #[.pointer (some ⟨bx, 0, none⟩), .int .i64 k, .pointer (some ⟨g, k * 89, none⟩), .pointer (some ⟨g, k * 89 + 22, none⟩)]] w fun e w' => e = .returned (.bool (four4 p)) ∧ Bst w' bx g b (upd ps k p) ss fs ∧ Only (· = g) w w' := by
  obtain ⟨vv, hvv⟩ : ∃ x, x = four4 p := ⟨_, rfl⟩
  rw [← hvv]
  have HV := Lib.hid hvv
  clear hvv
  go_enter Try.func28, Try.ntmps28
  go_upto_region 1 with (fail)
  refine ((?_ : ∀ x, x = w.alloc (.cells #[.pointer (some ⟨bx, 0, none⟩), .int .i64 k, .pointer (some ⟨g, k * 89, none⟩), .pointer (some ⟨g, k * 89 + 22, none⟩)] 57) → Code.wp _ _ _ _ x) _ rfl)
  intro w1 hw1
  obtain ⟨gx, hgx⟩ : ∃ x, x = w.heap.size := ⟨_, rfl⟩
  rw [← hgx]
  have hX1 : w1.heap[gx]? = some (.cells #[.pointer (some ⟨bx, 0, none⟩), .int .i64 k, .pointer (some ⟨g, k * 89, none⟩), .pointer (some ⟨g, k * 89 + 22, none⟩)] 57 (0, 0)) := by rw [hw1, hgx]; exact heap_alloc_new _ _
  have h1 : Bst w1 bx g b (upd ps k p) ss fs := by rw [hw1]; exact h.below (more (Below.refl _ _) _)
  have ho1 : Only (· = g) w w1 := by rw [hw1]; exact (Only.refl _ _).alloc _
  have ngx : ¬ gx = g := by have := h.p.lt; omega
  have nxg : ¬ g = gx := by have := h.p.lt; omega
  have nxb : ¬ gx = bx := by have := h.lt; omega
  have H1 := Lib.hid h1
  have HO1 := Lib.hid ho1
  have lx := (Array.getElem?_eq_some_iff.1 hX1).1
  have HX1 := Lib.hid hX1
  clear hw1 hgx hX1 h1 ho1 h
  have x0 : w1.cell? ⟨gx, 0, none⟩ = some (.pointer (some ⟨bx, 0, none⟩)) := cells_of HX1.out 0
  have x1 : w1.cell? ⟨gx, 1, none⟩ = some (.int .i64 k) := cells_of HX1.out 1
  have x2 : w1.cell? ⟨gx, 2, none⟩ = some (.pointer (some ⟨g, k * 89, none⟩)) := cells_of HX1.out 2
  have x3 : w1.cell? ⟨gx, 3, none⟩ = some (.pointer (some ⟨g, k * 89 + 22, none⟩)) := cells_of HX1.out 3
  have c39 : w1.cell? ⟨g, k * 89 + 22 + 17, none⟩ = some (.bool (p.b 39)) := (H1.out.p.cell hk (j := 39) (by omega)).trans (by rw [upd_same]; rfl)
  have c40 : w1.cell? ⟨g, k * 89 + 22 + 18, none⟩ = some (.bool (p.b 40)) := (H1.out.p.cell hk (j := 40) (by omega)).trans (by rw [upd_same]; rfl)
  have c41 : w1.cell? ⟨g, k * 89 + 22 + 19, none⟩ = some (.bool (p.b 41)) := (H1.out.p.cell hk (j := 41) (by omega)).trans (by rw [upd_same]; rfl)
  have c49 : w1.cell? ⟨g, k * 89 + 22 + 27, none⟩ = some (.bool (p.b 49)) := (H1.out.p.cell hk (j := 49) (by omega)).trans (by rw [upd_same]; rfl)
  cases e1 : p.b 39 <;> cases e2 : p.b 41 <;> cases e3 : p.b 40 <;> cases e4 : p.b 49
  all_goals
    have hE := HV.out
    unfold four4 at hE
    rw [e1, e2, e3, e4] at hE
    have HE := Lib.hid hE
    clear hE
    rw [e1] at c39
    rw [e2] at c41
    rw [e3] at c40
    rw [e4] at c49
    clear HV e1 e2 e3 e4
    go_wp2_with fail
    go_ret
    exact ⟨by rw [HE.out]; rfl, H1.out, HO1.out⟩
set_option maxRecDepth 100000 in
set_option maxHeartbeats 4000000 in
theorem begins_any (w : World) (bx g k : Nat) (b : Bri) (ps ss : Nat → Rec) (fs : Nat → Int) (p : Rec) (h : Bst w bx g b (upd ps k p) ss fs) (hk : k < b.n) (hT : ∀ x, x < 3 → 0 ≤ b.r.i (3 + x) ∧ b.r.i (3 + x) ≤ 1000) : Calls Try.prog 26 #[.agg #[.pointer (some ⟨bx, 0, none⟩), .int .i64 k, .pointer (some ⟨g, k * 89, none⟩), .pointer (some ⟨g, k * 89 + 22, none⟩)]] w fun e w' => e = .returned (.tuple #[]) ∧ Bst w' bx g b (upd ps k (beginF (b.r.i 4) (b.r.i 3) (b.r.i 5) p)) ss fs ∧ Only (· = g) w w' := by
  have t3 := hT 0 (by omega)
  have t4 := hT 1 (by omega)
  have t5 := hT 2 (by omega)
  simp only [Nat.add_zero, Nat.reduceAdd] at t3 t4 t5
  have wa : IntKind.i64.wrap (b.r.i 4 + 1) = b.r.i 4 + 1 := by unfold IntKind.wrap; simp [IntKind.signed, IntKind.bits]; omega
  have wb : IntKind.i64.wrap (b.r.i 3 + b.r.i 5) = b.r.i 3 + b.r.i 5 := by unfold IntKind.wrap; simp [IntKind.signed, IntKind.bits]; omega
  clear hT
  go_enter Try.func26, Try.ntmps26
  go_upto_region 1 with (fail)
  refine ((?_ : ∀ x, x = w.alloc (.cells #[.pointer (some ⟨bx, 0, none⟩), .int .i64 k, .pointer (some ⟨g, k * 89, none⟩), .pointer (some ⟨g, k * 89 + 22, none⟩)] 57) → Code.wp _ _ _ _ x) _ rfl)
  intro w1 hw1
  obtain ⟨gx, hgx⟩ : ∃ x, x = w.heap.size := ⟨_, rfl⟩
  rw [← hgx]
  have hX1 : w1.heap[gx]? = some (.cells #[.pointer (some ⟨bx, 0, none⟩), .int .i64 k, .pointer (some ⟨g, k * 89, none⟩), .pointer (some ⟨g, k * 89 + 22, none⟩)] 57 (0, 0)) := by rw [hw1, hgx]; exact heap_alloc_new _ _
  have h1 : Bst w1 bx g b (upd ps k p) ss fs := by rw [hw1]; exact h.below (more (Below.refl _ _) _)
  have ho1 : Only (· = g) w w1 := by rw [hw1]; exact (Only.refl _ _).alloc _
  have ngx : ¬ gx = g := by have := h.p.lt; omega
  have nxg : ¬ g = gx := by have := h.p.lt; omega
  have nxb : ¬ gx = bx := by have := h.lt; omega
  have H1 := Lib.hid h1
  have HO1 := Lib.hid ho1
  have lx := (Array.getElem?_eq_some_iff.1 hX1).1
  have HX1 := Lib.hid hX1
  clear hw1 hgx hX1 h1 ho1 h
  have x0 : w1.cell? ⟨gx, 0, none⟩ = some (.pointer (some ⟨bx, 0, none⟩)) := cells_of HX1.out 0
  have x1 : w1.cell? ⟨gx, 1, none⟩ = some (.int .i64 k) := cells_of HX1.out 1
  have x2 : w1.cell? ⟨gx, 2, none⟩ = some (.pointer (some ⟨g, k * 89, none⟩)) := cells_of HX1.out 2
  have x3 : w1.cell? ⟨gx, 3, none⟩ = some (.pointer (some ⟨g, k * 89 + 22, none⟩)) := cells_of HX1.out 3
  have b2 : w1.cell? ⟨bx, 2, none⟩ = some (.int .i64 (b.r.i 2)) := cells_of H1.out.h 2
  have b3 : w1.cell? ⟨bx, 2 + 1, none⟩ = some (.int .i64 (b.r.i 3)) := cells_of H1.out.h 3
  have b4 : w1.cell? ⟨bx, 2 + 2, none⟩ = some (.int .i64 (b.r.i 4)) := cells_of H1.out.h 4
  have b5 : w1.cell? ⟨bx, 2 + 3, none⟩ = some (.int .i64 (b.r.i 5)) := cells_of H1.out.h 5
  go_upto_region 3 with (fail)
  refine ((?_ : ∀ x, x = w1.alloc (.cells #[.int .i64 (b.r.i 2), .int .i64 (b.r.i 3), .int .i64 (b.r.i 4), .int .i64 (b.r.i 5)] 24) → Code.wp _ _ _ _ x) _ rfl)
  intro w2 hw2
  obtain ⟨gt, hgt⟩ : ∃ x, x = w1.heap.size := ⟨_, rfl⟩
  rw [← hgt]
  have hT2 : w2.heap[gt]? = some (.cells #[.int .i64 (b.r.i 2), .int .i64 (b.r.i 3), .int .i64 (b.r.i 4), .int .i64 (b.r.i 5)] 24 (0, 0)) := by rw [hw2, hgt]; exact heap_alloc_new _ _
  have hb2 : Below w1.heap.size w1 w2 := by rw [hw2]; exact more (Below.refl _ _) _
  have ngt : ¬ gt = g := by have := H1.out.p.lt; omega
  have ntg : ¬ g = gt := by have := H1.out.p.lt; omega
  have HB2 := Lib.hid (H1.out.below hb2)
  have HO2 := Lib.hid (HO1.out.trans (Only.of_below hb2))
  have y2 : w2.cell? ⟨gx, 2, none⟩ = some (.pointer (some ⟨g, k * 89, none⟩)) := (hb2.cell (p := ⟨gx, 2, none⟩) lx).trans x2
  have y3 : w2.cell? ⟨gx, 3, none⟩ = some (.pointer (some ⟨g, k * 89 + 22, none⟩)) := (hb2.cell (p := ⟨gx, 3, none⟩) lx).trans x3
  have z1 : w2.cell? ⟨gt, 1, none⟩ = some (.int .i64 (b.r.i 3)) := cells_of hT2 1
  have z2 : w2.cell? ⟨gt, 2, none⟩ = some (.int .i64 (b.r.i 4)) := cells_of hT2 2
  have z3 : w2.cell? ⟨gt, 3, none⟩ = some (.int .i64 (b.r.i 5)) := cells_of hT2 3
  clear hw2 hgt hT2 hb2 b2 b3 b4 b5 x0 x1 x2 x3
  have c13 : w2.cell? ⟨g, k * 89 + 6 + 7, none⟩ = some (.int .i64 (p.i 13)) := (HB2.out.p.cell hk (j := 13) (by omega)).trans (by rw [upd_same]; rfl)
  have c45 : w2.cell? ⟨g, k * 89 + 22 + 23, none⟩ = some (.bool (p.b 45)) := (HB2.out.p.cell hk (j := 45) (by omega)).trans (by rw [upd_same]; rfl)
  have c31 : w2.cell? ⟨g, k * 89 + 22 + 9, none⟩ = some (.bool (p.b 31)) := (HB2.out.p.cell hk (j := 31) (by omega)).trans (by rw [upd_same]; rfl)
  have f13 : w2.frozen? ⟨g, k * 89 + 6 + 7, none⟩ = false := HB2.out.p.free _
  have f31 : w2.frozen? ⟨g, k * 89 + 22 + 9, none⟩ = false := HB2.out.p.free _
  cases e1 : (p.i 13 != 0) with
  | true =>
    have HE := Lib.hid (show beginF (b.r.i 4) (b.r.i 3) (b.r.i 5) p = p by unfold beginF; rw [e1]; rfl)
    go_wp2_with fail
    go_end0
    rw [HE.out]
    exact ⟨rfl, HB2.out, HO2.out⟩
  | false =>
  cases e2 : p.b 45 with
  | true =>
    have HE := Lib.hid (show beginF (b.r.i 4) (b.r.i 3) (b.r.i 5) p = (p.setI 13 (b.r.i 4 + 1)).setB 31 true by unfold beginF; rw [e1, e2]; rfl)
    rw [e2] at c45
    go_wp2_with fail
    go_end0
    rw [HE.out]
    exact ⟨rfl, ((HB2.out).put (j := 13) (by omega) (rowP_put_13 _ _)).put (j := 31) (by omega) (rowP_put_31 _ _), ((HO2.out).setCell (Or.inl rfl) _).setCell (Or.inl rfl) _⟩
  | false =>
    have HE := Lib.hid (show beginF (b.r.i 4) (b.r.i 3) (b.r.i 5) p = p.setI 13 (b.r.i 3 + b.r.i 5) by unfold beginF; rw [e1, e2]; rfl)
    rw [e2] at c45
    go_wp2_with fail
    go_end0
    rw [HE.out]
    exact ⟨rfl, (HB2.out).put (j := 13) (by omega) (rowP_put_13 _ _), (HO2.out).setCell (Or.inl rfl) _⟩
set_option maxRecDepth 100000 in
set_option maxHeartbeats 4000000 in
theorem refclears_any (w : World) (bx g k : Nat) (b : Bri) (ps ss : Nat → Rec) (fs : Nat → Int) (p : Rec) (h : Bst w bx g b (upd ps k p) ss fs) (hk : k < b.n) : Calls Try.prog 21 #[.pointer (some ⟨g, k * 89, none⟩)] w fun e w' => e = .returned (.tuple #[]) ∧ Bst w' bx g b (upd ps k (clear4 p)) ss fs ∧ Only (· = g) w w' := by
  go_enter Try.func21, Try.ntmps21
  have H1 := Lib.hid h
  have hgl := h.p.lt
  clear h
  have c39 : w.cell? ⟨g, k * 89 + 22 + 17, none⟩ = some (.bool (p.b 39)) := (H1.out.p.cell hk (j := 39) (by omega)).trans (by rw [upd_same]; rfl)
  have c40 : w.cell? ⟨g, k * 89 + 22 + 18, none⟩ = some (.bool (p.b 40)) := (H1.out.p.cell hk (j := 40) (by omega)).trans (by rw [upd_same]; rfl)
  have c41 : w.cell? ⟨g, k * 89 + 22 + 19, none⟩ = some (.bool (p.b 41)) := (H1.out.p.cell hk (j := 41) (by omega)).trans (by rw [upd_same]; rfl)
  have c49 : w.cell? ⟨g, k * 89 + 22 + 27, none⟩ = some (.bool (p.b 49)) := (H1.out.p.cell hk (j := 49) (by omega)).trans (by rw [upd_same]; rfl)
  have f39 : w.frozen? ⟨g, k * 89 + 22 + 17, none⟩ = false := H1.out.p.free _
  have f40 : w.frozen? ⟨g, k * 89 + 22 + 18, none⟩ = false := H1.out.p.free _
  have f41 : w.frozen? ⟨g, k * 89 + 22 + 19, none⟩ = false := H1.out.p.free _
  have f49 : w.frozen? ⟨g, k * 89 + 22 + 27, none⟩ = false := H1.out.p.free _
  go_wp2_with fail
  go_end0
  exact ⟨rfl, ((((H1.out).put (j := 39) (by omega) (rowP_put_39 _ _)).put (j := 41) (by omega) (rowP_put_41 _ _)).put (j := 40) (by omega) (rowP_put_40 _ _)).put (j := 49) (by omega) (rowP_put_49 _ _), ((((Only.refl (· = g) w).setCell (Or.inl rfl) _).setCell (Or.inl rfl) _).setCell (Or.inl rfl) _).setCell (Or.inl rfl) _⟩
set_option maxRecDepth 100000 in
set_option maxHeartbeats 4000000 in
theorem refbegins_any (w : World) (bx g k : Nat) (b : Bri) (ps ss : Nat → Rec) (fs : Nat → Int) (p : Rec) (h : Bst w bx g b (upd ps k p) ss fs) (hk : k < b.n) (hT : ∀ x, x < 3 → 0 ≤ b.r.i (3 + x) ∧ b.r.i (3 + x) ≤ 1000) : Calls Try.prog 22 #[.pointer (some ⟨bx, 0, none⟩), .pointer (some ⟨g, k * 89, none⟩)] w fun e w' => e = .returned (.tuple #[]) ∧ Bst w' bx g b (upd ps k (beginF (b.r.i 4) (b.r.i 3) (b.r.i 5) p)) ss fs ∧ Only (· = g) w w' := by
  have t3 := hT 0 (by omega)
  have t4 := hT 1 (by omega)
  have t5 := hT 2 (by omega)
  simp only [Nat.add_zero, Nat.reduceAdd] at t3 t4 t5
  have wa : IntKind.i64.wrap (b.r.i 4 + 1) = b.r.i 4 + 1 := by unfold IntKind.wrap; simp [IntKind.signed, IntKind.bits]; omega
  have wb : IntKind.i64.wrap (b.r.i 3 + b.r.i 5) = b.r.i 3 + b.r.i 5 := by unfold IntKind.wrap; simp [IntKind.signed, IntKind.bits]; omega
  clear hT
  go_enter Try.func22, Try.ntmps22
  have H1 := Lib.hid h
  have hgl := h.p.lt
  clear h
  have c13 : w.cell? ⟨g, k * 89 + 6 + 7, none⟩ = some (.int .i64 (p.i 13)) := (H1.out.p.cell hk (j := 13) (by omega)).trans (by rw [upd_same]; rfl)
  have c45 : w.cell? ⟨g, k * 89 + 22 + 23, none⟩ = some (.bool (p.b 45)) := (H1.out.p.cell hk (j := 45) (by omega)).trans (by rw [upd_same]; rfl)
  have c31 : w.cell? ⟨g, k * 89 + 22 + 9, none⟩ = some (.bool (p.b 31)) := (H1.out.p.cell hk (j := 31) (by omega)).trans (by rw [upd_same]; rfl)
  have f13 : w.frozen? ⟨g, k * 89 + 6 + 7, none⟩ = false := H1.out.p.free _
  have f31 : w.frozen? ⟨g, k * 89 + 22 + 9, none⟩ = false := H1.out.p.free _
  have z1 : w.cell? ⟨bx, 2 + 1, none⟩ = some (.int .i64 (b.r.i 3)) := cells_of H1.out.h 3
  have z2 : w.cell? ⟨bx, 2 + 2, none⟩ = some (.int .i64 (b.r.i 4)) := cells_of H1.out.h 4
  have z3 : w.cell? ⟨bx, 2 + 3, none⟩ = some (.int .i64 (b.r.i 5)) := cells_of H1.out.h 5
  have nbg : ¬ bx = g := H1.out.ne
  have ngb : ¬ g = bx := fun e => H1.out.ne e.symm
  cases e1 : (p.i 13 != 0) with
  | true =>
    have HE := Lib.hid (show beginF (b.r.i 4) (b.r.i 3) (b.r.i 5) p = p by unfold beginF; rw [e1]; rfl)
    go_wp2_with fail
    refine bodyPost_ret (results_none rfl _ _ _) rfl ?_
    rw [HE.out]
    exact ⟨rfl, H1.out, Only.refl _ _⟩
  | false =>
  cases e2 : p.b 45 with
  | true =>
    have HE := Lib.hid (show beginF (b.r.i 4) (b.r.i 3) (b.r.i 5) p = (p.setI 13 (b.r.i 4 + 1)).setB 31 true by unfold beginF; rw [e1, e2]; rfl)
    rw [e2] at c45
    go_wp2_with fail
    refine bodyPost_ret (results_none rfl _ _ _) rfl ?_
    rw [HE.out]
    exact ⟨rfl, ((H1.out).put (j := 13) (by omega) (rowP_put_13 _ _)).put (j := 31) (by omega) (rowP_put_31 _ _), ((Only.refl (· = g) w).setCell (Or.inl rfl) _).setCell (Or.inl rfl) _⟩
  | false =>
    have HE := Lib.hid (show beginF (b.r.i 4) (b.r.i 3) (b.r.i 5) p = p.setI 13 (b.r.i 3 + b.r.i 5) by unfold beginF; rw [e1, e2]; rfl)
    rw [e2] at c45
    go_wp2_with fail
    go_still_tail 12, (by kernel_rfl)
    change wpList _ _ _ _ _ (World.drew _)
    go_wp2_with fail
    go_end0
    rw [HE.out]
    exact ⟨rfl, (H1.out.below (Below.refl _ _).drew).put (j := 13) (by omega) (rowP_put_13 _ _), ((Only.refl (· = g) w).drew).setCell (Or.inl rfl) _⟩
end Go.Proofs.Ytbbjoelcbppfoaa.Br
