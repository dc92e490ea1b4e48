/- Chapter 15: the rows of a root port (ford/trans.port.root). Conditions: the bridge lies in memory; there aren't very many ports. -/
import Derived.Test.YtdangeefecdbaaaTr7
set_option linter.unusedSimpArgs false
set_option linter.unusedVariables false
namespace Go.Proofs.Ytdangeefecdbaaa.Br
open Go.RowKit
/-- May a root port go on? -/
def onR (b : Bri) (k : Nat) (p : Rec) (ps : Nat → Rec) : Bool := p.i 7 == 0 || (b.r.b 1 && aloneB b k (upd ps k p) && p.i 10 == 0)
/-- The rows of a root port. -/
def rootL (b : Bri) (k : Nat) (p : Rec) (ps : Nat → Rec) : List (Bool × (Nat → Rec)) :=
  setsL b k p ps (upd ps k ((agreeF p).setB 46 false)) ++ [(!p.b 26 && !p.b 42, upd (allB 42 ps) k (p.setB 42 true)), (onR b k p ps && !p.b 28, upd ps k ((p.setB 28 true).setI 7 (fwdN b p))), (onR b k p ps && p.b 28 && !p.b 26, upd ps k ((p.setI 7 0).setB 26 true)), (p.b 42 && p.b 26, upd ps k (p.setB 42 false)), (p.i 12 != b.r.i 5, upd ps k (p.setI 12 (b.r.i 5)))]
attribute [local go_sem] bldRow mkRows1 mkRows2 mkRows4 mkRows5 mkRows6
set_option maxRecDepth 100000 in
set_option maxHeartbeats 16000000 in
theorem root_any (w : World) (bx g k : Nat) (b : Bri) (ps ss : Nat → Rec) (fs : Nat → Int) (p : Rec) (h : Bst w bx g b (upd ps k p) ss fs) (hk : k < b.n) (hn : b.n ≤ 1000) : Calls Try.prog 32 #[.agg #[.pointer (some ⟨bx, 0, none⟩), .int .i64 k, .pointer (some ⟨g, k * 89, none⟩), .pointer (some ⟨g, k * 89 + 22, none⟩), .pointer (some ⟨g, k * 89 + 6, none⟩)]] w fun e w' => ∃ v, e = .returned v ∧ Rows bx g b ss fs w' v (rootL b k p ps) ∧ Below w.heap.size w w' := by
  go_enter Try.func32, Try.ntmps32
  go_upto_region 1 with (fail)
  refine ((?_ : ∀ x, x = w.alloc (.cells #[.pointer (some ⟨bx, 0, none⟩), .int .i64 k, .pointer (some ⟨g, k * 89, none⟩), .pointer (some ⟨g, k * 89 + 22, none⟩), .pointer (some ⟨g, k * 89 + 6, none⟩)] 57) → Code.wp _ _ _ _ x) _ rfl)
  intro w1 hw1
  obtain ⟨gx, hgx⟩ : ∃ x, x = w.heap.size := ⟨_, rfl⟩
  rw [← hgx]
  have hX1 : w1.heap[gx]? = some (.cells #[.pointer (some ⟨bx, 0, none⟩), .int .i64 k, .pointer (some ⟨g, k * 89, none⟩), .pointer (some ⟨g, k * 89 + 22, none⟩), .pointer (some ⟨g, k * 89 + 6, none⟩)] 57 (0, 0)) := by rw [hw1, hgx]; exact heap_alloc_new _ _
  have h1 : Bst w1 bx g b (upd ps k p) ss fs := by rw [hw1]; exact h.below (more (Below.refl _ _) _)
  have hbw : Below w.heap.size w w1 := by rw [hw1]; exact more (Below.refl _ _) _
  have HBW := Lib.hid hbw
  have HGX := Lib.hid hgx
  have ho1 : Only (· = g) w w1 := by rw [hw1]; exact (Only.refl _ _).alloc _
  have ngx : ¬ gx = g := by have := h.p.lt; omega
  have nxg : ¬ g = gx := by have := h.p.lt; omega
  have nxb : ¬ gx = bx := by have := h.lt; omega
  have H1 := Lib.hid h1
  have HO1 := Lib.hid ho1
  have lx := (Array.getElem?_eq_some_iff.1 hX1).1
  have HX1 := Lib.hid hX1
  clear hw1 hgx hX1 h1 ho1 h hbw
  have x0 : w1.cell? ⟨gx, 0, none⟩ = some (.pointer (some ⟨bx, 0, none⟩)) := cells_of HX1.out 0
  have x1 : w1.cell? ⟨gx, 1, none⟩ = some (.int .i64 k) := cells_of HX1.out 1
  have x2 : w1.cell? ⟨gx, 2, none⟩ = some (.pointer (some ⟨g, k * 89, none⟩)) := cells_of HX1.out 2
  have x3 : w1.cell? ⟨gx, 3, none⟩ = some (.pointer (some ⟨g, k * 89 + 22, none⟩)) := cells_of HX1.out 3
  have x4 : w1.cell? ⟨gx, 4, none⟩ = some (.pointer (some ⟨g, k * 89 + 6, none⟩)) := cells_of HX1.out 4
  go_upto_region 2 with (fail)
  refine ((?_ : ∀ y, y = w1.alloc (.cells #[.pointer (some ⟨g, k * 89 + 22, none⟩)] 54) → Code.wp _ _ _ _ y) _ rfl)
  intro w2 hw2
  obtain ⟨gf, hgf⟩ : ∃ x, x = w1.heap.size := ⟨_, rfl⟩
  rw [← hgf]
  have hb2 : Below w1.heap.size w1 w2 := by rw [hw2]; exact more (Below.refl _ _) _
  have HF := Lib.hid (show w2.heap[gf]? = some (.cells #[.pointer (some ⟨g, k * 89 + 22, none⟩)] 54 (0, 0)) by rw [hw2, hgf]; exact heap_alloc_new _ _)
  have nF : ¬ gf = g := by have := H1.out.p.lt; omega
  have H2 := Lib.hid (H1.out.below hb2)
  have HX2 := Lib.hid ((hb2.block _ lx).trans HX1.out)
  have HB2 := Lib.hid (HBW.out.trans (hb2.mono HBW.out.size))
  clear x0 x1 x2 x3 x4 lx hw2 hgf hb2 H1 HX1 HBW HO1
  have lx := (Array.getElem?_eq_some_iff.1 HX2.out).1
  have lbx := H2.out.lt
  have lg := H2.out.p.lt
  have x0 : w2.cell? ⟨gx, 0, none⟩ = some (.pointer (some ⟨bx, 0, none⟩)) := cells_of HX2.out 0
  have x1 : w2.cell? ⟨gx, 1, none⟩ = some (.int .i64 k) := cells_of HX2.out 1
  have x2 : w2.cell? ⟨gx, 2, none⟩ = some (.pointer (some ⟨g, k * 89, none⟩)) := cells_of HX2.out 2
  have x3 : w2.cell? ⟨gx, 3, none⟩ = some (.pointer (some ⟨g, k * 89 + 22, none⟩)) := cells_of HX2.out 3
  have x4 : w2.cell? ⟨gx, 4, none⟩ = some (.pointer (some ⟨g, k * 89 + 6, none⟩)) := cells_of HX2.out 4
  have c7 : w2.cell? ⟨g, k * 89 + 6 + 1, none⟩ = some (.int .i64 (p.i 7)) := (H2.out.p.cell hk (j := 7) (by omega)).trans (by rw [upd_same]; rfl)
  have c10 : w2.cell? ⟨g, k * 89 + 6 + 4, none⟩ = some (.int .i64 (p.i 10)) := (H2.out.p.cell hk (j := 10) (by omega)).trans (by rw [upd_same]; rfl)
  have b1 : w2.cell? ⟨bx, 1, none⟩ = some (.bool (b.r.b 1)) := cells_of H2.out.h 1
  go_cut [4] from 9 to 38 (fun c w' => c = .bool (onR b k p ps) ∧ Hid (Below w2.heap.size w2 w'))
  case first =>
    cases hA : (p.i 7 == 0) with
    | true =>
      have hon : onR b k p ps = true := by unfold onR; rw [hA]; rfl
      refine wp_region_held_drew (S := fun w' => Below w2.heap.size w2 w') (by kernel_rfl) (Below.refl _ _).drew (fun hH => ?_)
      refine wpAnyH_take (i := 0) (v := .pointer (some ⟨gx, 4, none⟩)) rfl (by kernel_rfl) (by kernel_rfl) (by kernel_rfl) (fun _ _ _ h => h) (Or.inl ⟨by kernel_rfl, fun z hz => by simp [go_sem, execOp]⟩) hH ?_
      simp only [List.getElem_toArray, List.getElem_cons_succ, List.getElem_cons_zero, Act.put, List.setIfInBounds_toArray, List.set_cons_zero, List.set_cons_succ]
      refine wpAnyH_take (i := 1) (v := .pointer (some ⟨g, k * 89 + 6, none⟩)) rfl (by kernel_rfl) (by kernel_rfl) (by kernel_rfl) (fun _ _ _ h => h) (Or.inl ⟨by kernel_rfl, fun z hz => by simp [go_sem, execOp, (show z.cell? ⟨gx, 4, none⟩ = some (.pointer (some ⟨g, k * 89 + 6, none⟩)) from (hz.cell (p := ⟨gx, 4, none⟩) lx).trans x4)]⟩) hH ?_
      simp only [List.getElem_toArray, List.getElem_cons_succ, List.getElem_cons_zero, Act.put, List.setIfInBounds_toArray, List.set_cons_zero, List.set_cons_succ]
      refine wpAnyH_take (i := 2) (v := .pointer (some ⟨g, k * 89 + 6, none⟩)) rfl (by kernel_rfl) (by kernel_rfl) (by kernel_rfl) (fun _ _ _ h => h) (Or.inl ⟨by kernel_rfl, fun z hz => by simp [go_sem, execOp]⟩) hH ?_
      simp only [List.getElem_toArray, List.getElem_cons_succ, List.getElem_cons_zero, Act.put, List.setIfInBounds_toArray, List.set_cons_zero, List.set_cons_succ]
      refine wpAnyH_take (i := 3) (v := .pointer (some ⟨g, k * 89 + 6 + 1, none⟩)) rfl (by kernel_rfl) (by kernel_rfl) (by kernel_rfl) (fun _ _ _ h => h) (Or.inl ⟨by kernel_rfl, fun z hz => by simp [go_sem, execOp]⟩) hH ?_
      simp only [List.getElem_toArray, List.getElem_cons_succ, List.getElem_cons_zero, Act.put, List.setIfInBounds_toArray, List.set_cons_zero, List.set_cons_succ]
      refine wpAnyH_take (i := 4) (v := .int .i64 (p.i 7)) rfl (by kernel_rfl) (by kernel_rfl) (by kernel_rfl) (fun _ _ _ h => h) (Or.inl ⟨by kernel_rfl, fun z hz => by simp [go_sem, execOp, (show z.cell? ⟨g, k * 89 + 6 + 1, none⟩ = some (.int .i64 (p.i 7)) from (hz.cell (p := ⟨g, k * 89 + 6 + 1, none⟩) lg).trans c7)]⟩) hH ?_
      simp only [List.getElem_toArray, List.getElem_cons_succ, List.getElem_cons_zero, Act.put, List.setIfInBounds_toArray, List.set_cons_zero, List.set_cons_succ]
      refine wpAnyH_take (i := 5) (v := .bool true) rfl (by kernel_rfl) (by kernel_rfl) (by kernel_rfl) (fun _ _ _ h => h) (Or.inl ⟨by kernel_rfl, fun z hz => by simp [go_sem, execOp, hA]⟩) hH ?_
      simp only [List.getElem_toArray, List.getElem_cons_succ, List.getElem_cons_zero, Act.put, List.setIfInBounds_toArray, List.set_cons_zero, List.set_cons_succ]
      refine wpAnyH_take (i := 6) (v := .bool true) rfl (by kernel_rfl) (by kernel_rfl) (by kernel_rfl) (fun _ _ _ h => h) (Or.inl ⟨by kernel_rfl, fun z hz => by kernel_rfl⟩) hH ?_
      simp only [List.getElem_toArray, List.getElem_cons_succ, List.getElem_cons_zero, Act.put, List.setIfInBounds_toArray, List.set_cons_zero, List.set_cons_succ]
      refine wpAnyH_take (i := 7) (v := undef) rfl (by kernel_rfl) (by kernel_rfl) (by kernel_rfl) (fun _ _ _ h => h) (Or.inr ⟨by kernel_rfl, rfl⟩) hH ?_
      simp only [List.getElem_toArray, List.getElem_cons_succ, List.getElem_cons_zero, Act.put, List.setIfInBounds_toArray, List.set_cons_zero, List.set_cons_succ]
      refine wpAnyH_take (i := 8) (v := undef) rfl (by kernel_rfl) (by kernel_rfl) (by kernel_rfl) (fun _ _ _ h => h) (Or.inr ⟨by kernel_rfl, rfl⟩) hH ?_
      simp only [List.getElem_toArray, List.getElem_cons_succ, List.getElem_cons_zero, Act.put, List.setIfInBounds_toArray, List.set_cons_zero, List.set_cons_succ]
      refine wpAnyH_take (i := 9) (v := undef) rfl (by kernel_rfl) (by kernel_rfl) (by kernel_rfl) (fun _ _ _ h => h) (Or.inr ⟨by kernel_rfl, rfl⟩) hH ?_
      simp only [List.getElem_toArray, List.getElem_cons_succ, List.getElem_cons_zero, Act.put, List.setIfInBounds_toArray, List.set_cons_zero, List.set_cons_succ]
      refine wpAnyH_take (i := 10) (v := undef) rfl (by kernel_rfl) (by kernel_rfl) (by kernel_rfl) (fun _ _ _ h => h) (Or.inr ⟨by kernel_rfl, rfl⟩) hH ?_
      simp only [List.getElem_toArray, List.getElem_cons_succ, List.getElem_cons_zero, Act.put, List.setIfInBounds_toArray, List.set_cons_zero, List.set_cons_succ]
      refine wpAnyH_take (i := 11) (v := undef) rfl (by kernel_rfl) (by kernel_rfl) (by kernel_rfl) (fun _ _ _ h => h) (Or.inr ⟨by kernel_rfl, rfl⟩) hH ?_
      simp only [List.getElem_toArray, List.getElem_cons_succ, List.getElem_cons_zero, Act.put, List.setIfInBounds_toArray, List.set_cons_zero, List.set_cons_succ]
      refine wpAnyH_take (i := 12) (v := undef) rfl (by kernel_rfl) (by kernel_rfl) (by kernel_rfl) (fun _ _ _ h => h) (Or.inr ⟨by kernel_rfl, rfl⟩) hH ?_
      simp only [List.getElem_toArray, List.getElem_cons_succ, List.getElem_cons_zero, Act.put, List.setIfInBounds_toArray, List.set_cons_zero, List.set_cons_succ]
      refine wpAnyH_take (i := 13) (v := undef) rfl (by kernel_rfl) (by kernel_rfl) (by kernel_rfl) (fun _ _ _ h => h) (Or.inr ⟨by kernel_rfl, rfl⟩) hH ?_
      simp only [List.getElem_toArray, List.getElem_cons_succ, List.getElem_cons_zero, Act.put, List.setIfInBounds_toArray, List.set_cons_zero, List.set_cons_succ]
      refine wpAnyH_take (i := 14) (v := undef) rfl (by kernel_rfl) (by kernel_rfl) (by kernel_rfl) (fun _ _ _ h => h) (Or.inr ⟨by kernel_rfl, rfl⟩) hH ?_
      simp only [List.getElem_toArray, List.getElem_cons_succ, List.getElem_cons_zero, Act.put, List.setIfInBounds_toArray, List.set_cons_zero, List.set_cons_succ]
      refine wpAnyH_take (i := 15) (v := undef) rfl (by kernel_rfl) (by kernel_rfl) (by kernel_rfl) (fun _ _ _ h => h) (Or.inr ⟨by kernel_rfl, rfl⟩) hH ?_
      simp only [List.getElem_toArray, List.getElem_cons_succ, List.getElem_cons_zero, Act.put, List.setIfInBounds_toArray, List.set_cons_zero, List.set_cons_succ]
      refine wpAnyH_take (i := 16) (v := undef) rfl (by kernel_rfl) (by kernel_rfl) (by kernel_rfl) (fun _ _ _ h => h) (Or.inr ⟨by kernel_rfl, rfl⟩) hH ?_
      simp only [List.getElem_toArray, List.getElem_cons_succ, List.getElem_cons_zero, Act.put, List.setIfInBounds_toArray, List.set_cons_zero, List.set_cons_succ]
      refine wpAnyH_take (i := 17) (v := undef) rfl (by kernel_rfl) (by kernel_rfl) (by kernel_rfl) (fun _ _ _ h => h) (Or.inr ⟨by kernel_rfl, rfl⟩) hH ?_
      simp only [List.getElem_toArray, List.getElem_cons_succ, List.getElem_cons_zero, Act.put, List.setIfInBounds_toArray, List.set_cons_zero, List.set_cons_succ]
      refine wpAnyH_take (i := 18) (v := undef) rfl (by kernel_rfl) (by kernel_rfl) (by kernel_rfl) (fun _ _ _ h => h) (Or.inr ⟨by kernel_rfl, rfl⟩) hH ?_
      simp only [List.getElem_toArray, List.getElem_cons_succ, List.getElem_cons_zero, Act.put, List.setIfInBounds_toArray, List.set_cons_zero, List.set_cons_succ]
      refine wpAnyH_take (i := 19) (v := undef) rfl (by kernel_rfl) (by kernel_rfl) (by kernel_rfl) (fun _ _ _ h => h) (Or.inr ⟨by kernel_rfl, rfl⟩) hH ?_
      simp only [List.getElem_toArray, List.getElem_cons_succ, List.getElem_cons_zero, Act.put, List.setIfInBounds_toArray, List.set_cons_zero, List.set_cons_succ]
      refine wpAnyH_take (i := 20) (v := undef) rfl (by kernel_rfl) (by kernel_rfl) (by kernel_rfl) (fun _ _ _ h => h) (Or.inr ⟨by kernel_rfl, rfl⟩) hH ?_
      simp only [List.getElem_toArray, List.getElem_cons_succ, List.getElem_cons_zero, Act.put, List.setIfInBounds_toArray, List.set_cons_zero, List.set_cons_succ]
      refine wpAnyH_take (i := 21) (v := undef) rfl (by kernel_rfl) (by kernel_rfl) (by kernel_rfl) (fun _ _ _ h => h) (Or.inr ⟨by kernel_rfl, rfl⟩) hH ?_
      simp only [List.getElem_toArray, List.getElem_cons_succ, List.getElem_cons_zero, Act.put, List.setIfInBounds_toArray, List.set_cons_zero, List.set_cons_succ]
      refine wpAnyH_take (i := 22) (v := undef) rfl (by kernel_rfl) (by kernel_rfl) (by kernel_rfl) (fun _ _ _ h => h) (Or.inr ⟨by kernel_rfl, rfl⟩) hH ?_
      simp only [List.getElem_toArray, List.getElem_cons_succ, List.getElem_cons_zero, Act.put, List.setIfInBounds_toArray, List.set_cons_zero, List.set_cons_succ]
      refine wpAnyH_take (i := 23) (v := undef) rfl (by kernel_rfl) (by kernel_rfl) (by kernel_rfl) (fun _ _ _ h => h) (Or.inr ⟨by kernel_rfl, rfl⟩) hH ?_
      simp only [List.getElem_toArray, List.getElem_cons_succ, List.getElem_cons_zero, Act.put, List.setIfInBounds_toArray, List.set_cons_zero, List.set_cons_succ]
      refine wpAnyH_take (i := 24) (v := undef) rfl (by kernel_rfl) (by kernel_rfl) (by kernel_rfl) (fun _ _ _ h => h) (Or.inr ⟨by kernel_rfl, rfl⟩) hH ?_
      simp only [List.getElem_toArray, List.getElem_cons_succ, List.getElem_cons_zero, Act.put, List.setIfInBounds_toArray, List.set_cons_zero, List.set_cons_succ]
      refine wpAnyH_take (i := 25) (v := undef) rfl (by kernel_rfl) (by kernel_rfl) (by kernel_rfl) (fun _ _ _ h => h) (Or.inr ⟨by kernel_rfl, rfl⟩) hH ?_
      simp only [List.getElem_toArray, List.getElem_cons_succ, List.getElem_cons_zero, Act.put, List.setIfInBounds_toArray, List.set_cons_zero, List.set_cons_succ]
      refine wpAnyH_take (i := 26) (v := undef) rfl (by kernel_rfl) (by kernel_rfl) (by kernel_rfl) (fun _ _ _ h => h) (Or.inr ⟨by kernel_rfl, rfl⟩) hH ?_
      simp only [List.getElem_toArray, List.getElem_cons_succ, List.getElem_cons_zero, Act.put, List.setIfInBounds_toArray, List.set_cons_zero, List.set_cons_succ]
      refine wpAnyH_take (i := 27) (v := undef) rfl (by kernel_rfl) (by kernel_rfl) (by kernel_rfl) (fun _ _ _ h => h) (Or.inr ⟨by kernel_rfl, rfl⟩) hH ?_
      simp only [List.getElem_toArray, List.getElem_cons_succ, List.getElem_cons_zero, Act.put, List.setIfInBounds_toArray, List.set_cons_zero, List.set_cons_succ]
      refine wpAnyH_take (i := 28) (v := undef) rfl (by kernel_rfl) (by kernel_rfl) (by kernel_rfl) (fun _ _ _ h => h) (Or.inr ⟨by kernel_rfl, rfl⟩) hH ?_
      simp only [List.getElem_toArray, List.getElem_cons_succ, List.getElem_cons_zero, Act.put, List.setIfInBounds_toArray, List.set_cons_zero, List.set_cons_succ]
      refine wpAnyH_take (i := 29) (v := .bool true) rfl (by kernel_rfl) (by kernel_rfl) (by kernel_rfl) (fun _ _ _ h => h) (Or.inl ⟨by kernel_rfl, fun z hz => by simp [go_sem, execOp]⟩) hH ?_
      simp only [List.getElem_toArray, List.getElem_cons_succ, List.getElem_cons_zero, Act.put, List.setIfInBounds_toArray, List.set_cons_zero, List.set_cons_succ]
      refine wpAnyH_take (i := 30) (v := .bool true) rfl (by kernel_rfl) (by kernel_rfl) (by kernel_rfl) (fun _ _ _ h => h) (Or.inl ⟨by kernel_rfl, fun z hz => by kernel_rfl⟩) hH ?_
      simp only [List.getElem_toArray, List.getElem_cons_succ, List.getElem_cons_zero, Act.put, List.setIfInBounds_toArray, List.set_cons_zero, List.set_cons_succ]
      refine wpAnyH_done (by kernel_rfl) ?_ _
      go_wp2_with fail
      go_meet
      exact ⟨by rw [hon], Lib.hid hH⟩
    | false =>
    cases hB : b.r.b 1 with
    | false =>
      rw [hB] at b1
      have hon : onR b k p ps = false := by unfold onR; rw [hA, hB]; rfl
      refine wp_region_held_drew (S := fun w' => Below w2.heap.size w2 w') (by kernel_rfl) (Below.refl _ _).drew (fun hH => ?_)
      refine wpAnyH_take (i := 0) (v := .pointer (some ⟨gx, 4, none⟩)) rfl (by kernel_rfl) (by kernel_rfl) (by kernel_rfl) (fun _ _ _ h => h) (Or.inl ⟨by kernel_rfl, fun z hz => by simp [go_sem, execOp]⟩) hH ?_
      simp only [List.getElem_toArray, List.getElem_cons_succ, List.getElem_cons_zero, Act.put, List.setIfInBounds_toArray, List.set_cons_zero, List.set_cons_succ]
      refine wpAnyH_take (i := 1) (v := .pointer (some ⟨g, k * 89 + 6, none⟩)) rfl (by kernel_rfl) (by kernel_rfl) (by kernel_rfl) (fun _ _ _ h => h) (Or.inl ⟨by kernel_rfl, fun z hz => by simp [go_sem, execOp, (show z.cell? ⟨gx, 4, none⟩ = some (.pointer (some ⟨g, k * 89 + 6, none⟩)) from (hz.cell (p := ⟨gx, 4, none⟩) lx).trans x4)]⟩) hH ?_
      simp only [List.getElem_toArray, List.getElem_cons_succ, List.getElem_cons_zero, Act.put, List.setIfInBounds_toArray, List.set_cons_zero, List.set_cons_succ]
      refine wpAnyH_take (i := 2) (v := .pointer (some ⟨g, k * 89 + 6, none⟩)) rfl (by kernel_rfl) (by kernel_rfl) (by kernel_rfl) (fun _ _ _ h => h) (Or.inl ⟨by kernel_rfl, fun z hz => by simp [go_sem, execOp]⟩) hH ?_
      simp only [List.getElem_toArray, List.getElem_cons_succ, List.getElem_cons_zero, Act.put, List.setIfInBounds_toArray, List.set_cons_zero, List.set_cons_succ]
      refine wpAnyH_take (i := 3) (v := .pointer (some ⟨g, k * 89 + 6 + 1, none⟩)) rfl (by kernel_rfl) (by kernel_rfl) (by kernel_rfl) (fun _ _ _ h => h) (Or.inl ⟨by kernel_rfl, fun z hz => by simp [go_sem, execOp]⟩) hH ?_
      simp only [List.getElem_toArray, List.getElem_cons_succ, List.getElem_cons_zero, Act.put, List.setIfInBounds_toArray, List.set_cons_zero, List.set_cons_succ]
      refine wpAnyH_take (i := 4) (v := .int .i64 (p.i 7)) rfl (by kernel_rfl) (by kernel_rfl) (by kernel_rfl) (fun _ _ _ h => h) (Or.inl ⟨by kernel_rfl, fun z hz => by simp [go_sem, execOp, (show z.cell? ⟨g, k * 89 + 6 + 1, none⟩ = some (.int .i64 (p.i 7)) from (hz.cell (p := ⟨g, k * 89 + 6 + 1, none⟩) lg).trans c7)]⟩) hH ?_
      simp only [List.getElem_toArray, List.getElem_cons_succ, List.getElem_cons_zero, Act.put, List.setIfInBounds_toArray, List.set_cons_zero, List.set_cons_succ]
      refine wpAnyH_take (i := 5) (v := .bool false) rfl (by kernel_rfl) (by kernel_rfl) (by kernel_rfl) (fun _ _ _ h => h) (Or.inl ⟨by kernel_rfl, fun z hz => by simp [go_sem, execOp, hA]⟩) hH ?_
      simp only [List.getElem_toArray, List.getElem_cons_succ, List.getElem_cons_zero, Act.put, List.setIfInBounds_toArray, List.set_cons_zero, List.set_cons_succ]
      refine wpAnyH_take (i := 6) (v := .bool false) rfl (by kernel_rfl) (by kernel_rfl) (by kernel_rfl) (fun _ _ _ h => h) (Or.inl ⟨by kernel_rfl, fun z hz => by kernel_rfl⟩) hH ?_
      simp only [List.getElem_toArray, List.getElem_cons_succ, List.getElem_cons_zero, Act.put, List.setIfInBounds_toArray, List.set_cons_zero, List.set_cons_succ]
      refine wpAnyH_take (i := 7) (v := .pointer (some ⟨gx, 0, none⟩)) rfl (by kernel_rfl) (by kernel_rfl) (by kernel_rfl) (fun _ _ _ h => h) (Or.inl ⟨by kernel_rfl, fun z hz => by simp [go_sem, execOp]⟩) hH ?_
      simp only [List.getElem_toArray, List.getElem_cons_succ, List.getElem_cons_zero, Act.put, List.setIfInBounds_toArray, List.set_cons_zero, List.set_cons_succ]
      refine wpAnyH_take (i := 8) (v := .pointer (some ⟨bx, 0, none⟩)) rfl (by kernel_rfl) (by kernel_rfl) (by kernel_rfl) (fun _ _ _ h => h) (Or.inl ⟨by kernel_rfl, fun z hz => by simp [go_sem, execOp, (show z.cell? ⟨gx, 0, none⟩ = some (.pointer (some ⟨bx, 0, none⟩)) from (hz.cell (p := ⟨gx, 0, none⟩) lx).trans x0)]⟩) hH ?_
      simp only [List.getElem_toArray, List.getElem_cons_succ, List.getElem_cons_zero, Act.put, List.setIfInBounds_toArray, List.set_cons_zero, List.set_cons_succ]
      refine wpAnyH_take (i := 9) (v := .pointer (some ⟨bx, 0, none⟩)) rfl (by kernel_rfl) (by kernel_rfl) (by kernel_rfl) (fun _ _ _ h => h) (Or.inl ⟨by kernel_rfl, fun z hz => by simp [go_sem, execOp]⟩) hH ?_
      simp only [List.getElem_toArray, List.getElem_cons_succ, List.getElem_cons_zero, Act.put, List.setIfInBounds_toArray, List.set_cons_zero, List.set_cons_succ]
      refine wpAnyH_take (i := 10) (v := .pointer (some ⟨bx, 1, none⟩)) rfl (by kernel_rfl) (by kernel_rfl) (by kernel_rfl) (fun _ _ _ h => h) (Or.inl ⟨by kernel_rfl, fun z hz => by simp [go_sem, execOp]⟩) hH ?_
      simp only [List.getElem_toArray, List.getElem_cons_succ, List.getElem_cons_zero, Act.put, List.setIfInBounds_toArray, List.set_cons_zero, List.set_cons_succ]
      refine wpAnyH_take (i := 11) (v := .bool false) rfl (by kernel_rfl) (by kernel_rfl) (by kernel_rfl) (fun _ _ _ h => h) (Or.inl ⟨by kernel_rfl, fun z hz => by simp [go_sem, execOp, (show z.cell? ⟨bx, 1, none⟩ = some (.bool false) from (hz.cell (p := ⟨bx, 1, none⟩) lbx).trans b1)]⟩) hH ?_
      simp only [List.getElem_toArray, List.getElem_cons_succ, List.getElem_cons_zero, Act.put, List.setIfInBounds_toArray, List.set_cons_zero, List.set_cons_succ]
      refine wpAnyH_take (i := 12) (v := .bool false) rfl (by kernel_rfl) (by kernel_rfl) (by kernel_rfl) (fun _ _ _ h => h) (Or.inl ⟨by kernel_rfl, fun z hz => by kernel_rfl⟩) hH ?_
      simp only [List.getElem_toArray, List.getElem_cons_succ, List.getElem_cons_zero, Act.put, List.setIfInBounds_toArray, List.set_cons_zero, List.set_cons_succ]
      refine wpAnyH_take (i := 13) (v := undef) rfl (by kernel_rfl) (by kernel_rfl) (by kernel_rfl) (fun _ _ _ h => h) (Or.inr ⟨by kernel_rfl, rfl⟩) hH ?_
      simp only [List.getElem_toArray, List.getElem_cons_succ, List.getElem_cons_zero, Act.put, List.setIfInBounds_toArray, List.set_cons_zero, List.set_cons_succ]
      refine wpAnyH_take (i := 14) (v := undef) rfl (by kernel_rfl) (by kernel_rfl) (by kernel_rfl) (fun _ _ _ h => h) (Or.inr ⟨by kernel_rfl, rfl⟩) hH ?_
      simp only [List.getElem_toArray, List.getElem_cons_succ, List.getElem_cons_zero, Act.put, List.setIfInBounds_toArray, List.set_cons_zero, List.set_cons_succ]
      refine wpAnyH_take (i := 15) (v := undef) rfl (by kernel_rfl) (by kernel_rfl) (by kernel_rfl) (fun _ _ _ h => h) (Or.inr ⟨by kernel_rfl, rfl⟩) hH ?_
      simp only [List.getElem_toArray, List.getElem_cons_succ, List.getElem_cons_zero, Act.put, List.setIfInBounds_toArray, List.set_cons_zero, List.set_cons_succ]
      refine wpAnyH_take (i := 16) (v := undef) rfl (by kernel_rfl) (by kernel_rfl) (by kernel_rfl) (fun _ _ _ h => h) (Or.inr ⟨by kernel_rfl, rfl⟩) hH ?_
      simp only [List.getElem_toArray, List.getElem_cons_succ, List.getElem_cons_zero, Act.put, List.setIfInBounds_toArray, List.set_cons_zero, List.set_cons_succ]
      refine wpAnyH_take (i := 17) (v := undef) rfl (by kernel_rfl) (by kernel_rfl) (by kernel_rfl) (fun _ _ _ h => h) (Or.inr ⟨by kernel_rfl, rfl⟩) hH ?_
      simp only [List.getElem_toArray, List.getElem_cons_succ, List.getElem_cons_zero, Act.put, List.setIfInBounds_toArray, List.set_cons_zero, List.set_cons_succ]
      refine wpAnyH_take (i := 18) (v := undef) rfl (by kernel_rfl) (by kernel_rfl) (by kernel_rfl) (fun _ _ _ h => h) (Or.inr ⟨by kernel_rfl, rfl⟩) hH ?_
      simp only [List.getElem_toArray, List.getElem_cons_succ, List.getElem_cons_zero, Act.put, List.setIfInBounds_toArray, List.set_cons_zero, List.set_cons_succ]
      refine wpAnyH_take (i := 19) (v := undef) rfl (by kernel_rfl) (by kernel_rfl) (by kernel_rfl) (fun _ _ _ h => h) (Or.inr ⟨by kernel_rfl, rfl⟩) hH ?_
      simp only [List.getElem_toArray, List.getElem_cons_succ, List.getElem_cons_zero, Act.put, List.setIfInBounds_toArray, List.set_cons_zero, List.set_cons_succ]
      refine wpAnyH_take (i := 20) (v := .bool false) rfl (by kernel_rfl) (by kernel_rfl) (by kernel_rfl) (fun _ _ _ h => h) (Or.inl ⟨by kernel_rfl, fun z hz => by simp [go_sem, execOp]⟩) hH ?_
      simp only [List.getElem_toArray, List.getElem_cons_succ, List.getElem_cons_zero, Act.put, List.setIfInBounds_toArray, List.set_cons_zero, List.set_cons_succ]
      refine wpAnyH_take (i := 21) (v := .bool false) rfl (by kernel_rfl) (by kernel_rfl) (by kernel_rfl) (fun _ _ _ h => h) (Or.inl ⟨by kernel_rfl, fun z hz => by kernel_rfl⟩) hH ?_
      simp only [List.getElem_toArray, List.getElem_cons_succ, List.getElem_cons_zero, Act.put, List.setIfInBounds_toArray, List.set_cons_zero, List.set_cons_succ]
      refine wpAnyH_take (i := 22) (v := undef) rfl (by kernel_rfl) (by kernel_rfl) (by kernel_rfl) (fun _ _ _ h => h) (Or.inr ⟨by kernel_rfl, rfl⟩) hH ?_
      simp only [List.getElem_toArray, List.getElem_cons_succ, List.getElem_cons_zero, Act.put, List.setIfInBounds_toArray, List.set_cons_zero, List.set_cons_succ]
      refine wpAnyH_take (i := 23) (v := undef) rfl (by kernel_rfl) (by kernel_rfl) (by kernel_rfl) (fun _ _ _ h => h) (Or.inr ⟨by kernel_rfl, rfl⟩) hH ?_
      simp only [List.getElem_toArray, List.getElem_cons_succ, List.getElem_cons_zero, Act.put, List.setIfInBounds_toArray, List.set_cons_zero, List.set_cons_succ]
      refine wpAnyH_take (i := 24) (v := undef) rfl (by kernel_rfl) (by kernel_rfl) (by kernel_rfl) (fun _ _ _ h => h) (Or.inr ⟨by kernel_rfl, rfl⟩) hH ?_
      simp only [List.getElem_toArray, List.getElem_cons_succ, List.getElem_cons_zero, Act.put, List.setIfInBounds_toArray, List.set_cons_zero, List.set_cons_succ]
      refine wpAnyH_take (i := 25) (v := undef) rfl (by kernel_rfl) (by kernel_rfl) (by kernel_rfl) (fun _ _ _ h => h) (Or.inr ⟨by kernel_rfl, rfl⟩) hH ?_
      simp only [List.getElem_toArray, List.getElem_cons_succ, List.getElem_cons_zero, Act.put, List.setIfInBounds_toArray, List.set_cons_zero, List.set_cons_succ]
      refine wpAnyH_take (i := 26) (v := undef) rfl (by kernel_rfl) (by kernel_rfl) (by kernel_rfl) (fun _ _ _ h => h) (Or.inr ⟨by kernel_rfl, rfl⟩) hH ?_
      simp only [List.getElem_toArray, List.getElem_cons_succ, List.getElem_cons_zero, Act.put, List.setIfInBounds_toArray, List.set_cons_zero, List.set_cons_succ]
      refine wpAnyH_take (i := 27) (v := undef) rfl (by kernel_rfl) (by kernel_rfl) (by kernel_rfl) (fun _ _ _ h => h) (Or.inr ⟨by kernel_rfl, rfl⟩) hH ?_
      simp only [List.getElem_toArray, List.getElem_cons_succ, List.getElem_cons_zero, Act.put, List.setIfInBounds_toArray, List.set_cons_zero, List.set_cons_succ]
      refine wpAnyH_take (i := 28) (v := .bool false) rfl (by kernel_rfl) (by kernel_rfl) (by kernel_rfl) (fun _ _ _ h => h) (Or.inl ⟨by kernel_rfl, fun z hz => by simp [go_sem, execOp]⟩) hH ?_
      simp only [List.getElem_toArray, List.getElem_cons_succ, List.getElem_cons_zero, Act.put, List.setIfInBounds_toArray, List.set_cons_zero, List.set_cons_succ]
      refine wpAnyH_take (i := 29) (v := .bool false) rfl (by kernel_rfl) (by kernel_rfl) (by kernel_rfl) (fun _ _ _ h => h) (Or.inl ⟨by kernel_rfl, fun z hz => by simp [go_sem, execOp]⟩) hH ?_
      simp only [List.getElem_toArray, List.getElem_cons_succ, List.getElem_cons_zero, Act.put, List.setIfInBounds_toArray, List.set_cons_zero, List.set_cons_succ]
      refine wpAnyH_take (i := 30) (v := .bool false) rfl (by kernel_rfl) (by kernel_rfl) (by kernel_rfl) (fun _ _ _ h => h) (Or.inl ⟨by kernel_rfl, fun z hz => by kernel_rfl⟩) hH ?_
      simp only [List.getElem_toArray, List.getElem_cons_succ, List.getElem_cons_zero, Act.put, List.setIfInBounds_toArray, List.set_cons_zero, List.set_cons_succ]
      refine wpAnyH_done (by kernel_rfl) ?_ _
      go_wp2_with fail
      go_meet
      exact ⟨by rw [hon], Lib.hid hH⟩
    | true =>
      rw [hB] at b1
      obtain ⟨qc, hqc⟩ : ∃ x : Bool, x = aloneB b k (upd ps k p) := ⟨_, rfl⟩
      have Hqc := Lib.hid hqc
      clear hqc
      obtain ⟨q36, hq36⟩ : ∃ x : Bool, x = ((p.i 10) == 0) := ⟨_, rfl⟩
      have Hq36 := Lib.hid hq36
      clear hq36
      obtain ⟨q37, hq37⟩ : ∃ x : Bool, x = (qc && q36) := ⟨_, rfl⟩
      have Hq37 := Lib.hid hq37
      clear hq37
      refine wp_region_held_drew (S := fun w' => Below w2.heap.size w2 w') (by kernel_rfl) (Below.refl _ _).drew (fun hH => ?_)
      refine wpAnyH_take (i := 0) (v := .pointer (some ⟨gx, 4, none⟩)) rfl (by kernel_rfl) (by kernel_rfl) (by kernel_rfl) (fun _ _ _ h => h) (Or.inl ⟨by kernel_rfl, fun z hz => by simp [go_sem, execOp]⟩) hH ?_
      simp only [List.getElem_toArray, List.getElem_cons_succ, List.getElem_cons_zero, Act.put, List.setIfInBounds_toArray, List.set_cons_zero, List.set_cons_succ]
      refine wpAnyH_take (i := 1) (v := .pointer (some ⟨g, k * 89 + 6, none⟩)) rfl (by kernel_rfl) (by kernel_rfl) (by kernel_rfl) (fun _ _ _ h => h) (Or.inl ⟨by kernel_rfl, fun z hz => by simp [go_sem, execOp, (show z.cell? ⟨gx, 4, none⟩ = some (.pointer (some ⟨g, k * 89 + 6, none⟩)) from (hz.cell (p := ⟨gx, 4, none⟩) lx).trans x4)]⟩) hH ?_
      simp only [List.getElem_toArray, List.getElem_cons_succ, List.getElem_cons_zero, Act.put, List.setIfInBounds_toArray, List.set_cons_zero, List.set_cons_succ]
      refine wpAnyH_take (i := 2) (v := .pointer (some ⟨g, k * 89 + 6, none⟩)) rfl (by kernel_rfl) (by kernel_rfl) (by kernel_rfl) (fun _ _ _ h => h) (Or.inl ⟨by kernel_rfl, fun z hz => by simp [go_sem, execOp]⟩) hH ?_
      simp only [List.getElem_toArray, List.getElem_cons_succ, List.getElem_cons_zero, Act.put, List.setIfInBounds_toArray, List.set_cons_zero, List.set_cons_succ]
      refine wpAnyH_take (i := 3) (v := .pointer (some ⟨g, k * 89 + 6 + 1, none⟩)) rfl (by kernel_rfl) (by kernel_rfl) (by kernel_rfl) (fun _ _ _ h => h) (Or.inl ⟨by kernel_rfl, fun z hz => by simp [go_sem, execOp]⟩) hH ?_
      simp only [List.getElem_toArray, List.getElem_cons_succ, List.getElem_cons_zero, Act.put, List.setIfInBounds_toArray, List.set_cons_zero, List.set_cons_succ]
      refine wpAnyH_take (i := 4) (v := .int .i64 (p.i 7)) rfl (by kernel_rfl) (by kernel_rfl) (by kernel_rfl) (fun _ _ _ h => h) (Or.inl ⟨by kernel_rfl, fun z hz => by simp [go_sem, execOp, (show z.cell? ⟨g, k * 89 + 6 + 1, none⟩ = some (.int .i64 (p.i 7)) from (hz.cell (p := ⟨g, k * 89 + 6 + 1, none⟩) lg).trans c7)]⟩) hH ?_
      simp only [List.getElem_toArray, List.getElem_cons_succ, List.getElem_cons_zero, Act.put, List.setIfInBounds_toArray, List.set_cons_zero, List.set_cons_succ]
      refine wpAnyH_take (i := 5) (v := .bool false) rfl (by kernel_rfl) (by kernel_rfl) (by kernel_rfl) (fun _ _ _ h => h) (Or.inl ⟨by kernel_rfl, fun z hz => by simp [go_sem, execOp, hA]⟩) hH ?_
      simp only [List.getElem_toArray, List.getElem_cons_succ, List.getElem_cons_zero, Act.put, List.setIfInBounds_toArray, List.set_cons_zero, List.set_cons_succ]
      refine wpAnyH_take (i := 6) (v := .bool false) rfl (by kernel_rfl) (by kernel_rfl) (by kernel_rfl) (fun _ _ _ h => h) (Or.inl ⟨by kernel_rfl, fun z hz => by kernel_rfl⟩) hH ?_
      simp only [List.getElem_toArray, List.getElem_cons_succ, List.getElem_cons_zero, Act.put, List.setIfInBounds_toArray, List.set_cons_zero, List.set_cons_succ]
      refine wpAnyH_take (i := 7) (v := .pointer (some ⟨gx, 0, none⟩)) rfl (by kernel_rfl) (by kernel_rfl) (by kernel_rfl) (fun _ _ _ h => h) (Or.inl ⟨by kernel_rfl, fun z hz => by simp [go_sem, execOp]⟩) hH ?_
      simp only [List.getElem_toArray, List.getElem_cons_succ, List.getElem_cons_zero, Act.put, List.setIfInBounds_toArray, List.set_cons_zero, List.set_cons_succ]
      refine wpAnyH_take (i := 8) (v := .pointer (some ⟨bx, 0, none⟩)) rfl (by kernel_rfl) (by kernel_rfl) (by kernel_rfl) (fun _ _ _ h => h) (Or.inl ⟨by kernel_rfl, fun z hz => by simp [go_sem, execOp, (show z.cell? ⟨gx, 0, none⟩ = some (.pointer (some ⟨bx, 0, none⟩)) from (hz.cell (p := ⟨gx, 0, none⟩) lx).trans x0)]⟩) hH ?_
      simp only [List.getElem_toArray, List.getElem_cons_succ, List.getElem_cons_zero, Act.put, List.setIfInBounds_toArray, List.set_cons_zero, List.set_cons_succ]
      refine wpAnyH_take (i := 9) (v := .pointer (some ⟨bx, 0, none⟩)) rfl (by kernel_rfl) (by kernel_rfl) (by kernel_rfl) (fun _ _ _ h => h) (Or.inl ⟨by kernel_rfl, fun z hz => by simp [go_sem, execOp]⟩) hH ?_
      simp only [List.getElem_toArray, List.getElem_cons_succ, List.getElem_cons_zero, Act.put, List.setIfInBounds_toArray, List.set_cons_zero, List.set_cons_succ]
      refine wpAnyH_take (i := 10) (v := .pointer (some ⟨bx, 1, none⟩)) rfl (by kernel_rfl) (by kernel_rfl) (by kernel_rfl) (fun _ _ _ h => h) (Or.inl ⟨by kernel_rfl, fun z hz => by simp [go_sem, execOp]⟩) hH ?_
      simp only [List.getElem_toArray, List.getElem_cons_succ, List.getElem_cons_zero, Act.put, List.setIfInBounds_toArray, List.set_cons_zero, List.set_cons_succ]
      refine wpAnyH_take (i := 11) (v := .bool true) rfl (by kernel_rfl) (by kernel_rfl) (by kernel_rfl) (fun _ _ _ h => h) (Or.inl ⟨by kernel_rfl, fun z hz => by simp [go_sem, execOp, (show z.cell? ⟨bx, 1, none⟩ = some (.bool true) from (hz.cell (p := ⟨bx, 1, none⟩) lbx).trans b1)]⟩) hH ?_
      simp only [List.getElem_toArray, List.getElem_cons_succ, List.getElem_cons_zero, Act.put, List.setIfInBounds_toArray, List.set_cons_zero, List.set_cons_succ]
      refine wpAnyH_take (i := 12) (v := .bool true) rfl (by kernel_rfl) (by kernel_rfl) (by kernel_rfl) (fun _ _ _ h => h) (Or.inl ⟨by kernel_rfl, fun z hz => by kernel_rfl⟩) hH ?_
      simp only [List.getElem_toArray, List.getElem_cons_succ, List.getElem_cons_zero, Act.put, List.setIfInBounds_toArray, List.set_cons_zero, List.set_cons_succ]
      refine wpAnyH_take (i := 13) (v := .pointer (some ⟨gx, 0, none⟩)) rfl (by kernel_rfl) (by kernel_rfl) (by kernel_rfl) (fun _ _ _ h => h) (Or.inl ⟨by kernel_rfl, fun z hz => by simp [go_sem, execOp]⟩) hH ?_
      simp only [List.getElem_toArray, List.getElem_cons_succ, List.getElem_cons_zero, Act.put, List.setIfInBounds_toArray, List.set_cons_zero, List.set_cons_succ]
      refine wpAnyH_take (i := 14) (v := .pointer (some ⟨bx, 0, none⟩)) rfl (by kernel_rfl) (by kernel_rfl) (by kernel_rfl) (fun _ _ _ h => h) (Or.inl ⟨by kernel_rfl, fun z hz => by simp [go_sem, execOp, (show z.cell? ⟨gx, 0, none⟩ = some (.pointer (some ⟨bx, 0, none⟩)) from (hz.cell (p := ⟨gx, 0, none⟩) lx).trans x0)]⟩) hH ?_
      simp only [List.getElem_toArray, List.getElem_cons_succ, List.getElem_cons_zero, Act.put, List.setIfInBounds_toArray, List.set_cons_zero, List.set_cons_succ]
      refine wpAnyH_take (i := 15) (v := .pointer (some ⟨bx, 0, none⟩)) rfl (by kernel_rfl) (by kernel_rfl) (by kernel_rfl) (fun _ _ _ h => h) (Or.inl ⟨by kernel_rfl, fun z hz => by simp [go_sem, execOp]⟩) hH ?_
      simp only [List.getElem_toArray, List.getElem_cons_succ, List.getElem_cons_zero, Act.put, List.setIfInBounds_toArray, List.set_cons_zero, List.set_cons_succ]
      refine wpAnyH_take (i := 16) (v := .agg (rowB b)) rfl (by kernel_rfl) (by kernel_rfl) (by kernel_rfl) (fun _ _ _ h => h) (by exact yieldsIf_load_mid (by kernel_rfl) 33 (.tmp 24) (by kernel_rfl) bx (0) (by kernel_rfl) (rowB b).toList _ (row_held H2.out.h H2.out.lt) Try.underlying33 rfl (sizeBr _)) hH ?_
      simp only [List.getElem_toArray, List.getElem_cons_succ, List.getElem_cons_zero, Act.put, List.setIfInBounds_toArray, List.set_cons_zero, List.set_cons_succ]
      refine wpAnyH_take (i := 17) (v := .pointer (some ⟨gx, 1, none⟩)) rfl (by kernel_rfl) (by kernel_rfl) (by kernel_rfl) (fun _ _ _ h => h) (Or.inl ⟨by kernel_rfl, fun z hz => by simp [go_sem, execOp]⟩) hH ?_
      simp only [List.getElem_toArray, List.getElem_cons_succ, List.getElem_cons_zero, Act.put, List.setIfInBounds_toArray, List.set_cons_zero, List.set_cons_succ]
      refine wpAnyH_take (i := 18) (v := .int .i64 k) rfl (by kernel_rfl) (by kernel_rfl) (by kernel_rfl) (fun _ _ _ h => h) (Or.inl ⟨by kernel_rfl, fun z hz => by simp [go_sem, execOp, (show z.cell? ⟨gx, 1, none⟩ = some (.int .i64 k) from (hz.cell (p := ⟨gx, 1, none⟩) lx).trans x1)]⟩) hH ?_
      simp only [List.getElem_toArray, List.getElem_cons_succ, List.getElem_cons_zero, Act.put, List.setIfInBounds_toArray, List.set_cons_zero, List.set_cons_succ]
      refine wpAnyH_ready (rs := [19]) (by kernel_rfl) (by simp) (AllReadyH.cons rfl (fun K hK => ?_) AllReadyH.nil)
      go_simp
      refine (rerooted_any b (upd ps k p) k _ (H2.out.below hH).portsV hn).mono ?_
      rintro e we ⟨rfl, hbe⟩
      rw [show (!anyR (lately (upd ps k p) k) b.n) = qc from Hqc.out.symm]
      refine hK.out _ _ (hH.trans (hbe.mono hH.size)) (fun hE => ?_)
      clear hK K hbe hH
      refine wpAnyH_take (i := 20) (v := .bool qc) rfl (by kernel_rfl) (by kernel_rfl) (by kernel_rfl) (fun _ _ _ h => h) (Or.inl ⟨by kernel_rfl, fun z hz => by simp [go_sem, execOp]⟩) hE ?_
      simp only [List.getElem_toArray, List.getElem_cons_succ, List.getElem_cons_zero, Act.put, List.setIfInBounds_toArray, List.set_cons_zero, List.set_cons_succ]
      refine wpAnyH_take (i := 21) (v := .bool qc) rfl (by kernel_rfl) (by kernel_rfl) (by kernel_rfl) (fun _ _ _ h => h) (Or.inl ⟨by kernel_rfl, fun z hz => by kernel_rfl⟩) hE ?_
      simp only [List.getElem_toArray, List.getElem_cons_succ, List.getElem_cons_zero, Act.put, List.setIfInBounds_toArray, List.set_cons_zero, List.set_cons_succ]
      refine wpAnyH_take (i := 22) (v := (bif qc then .pointer (some ⟨gx, 4, none⟩) else undef)) rfl (by kernel_rfl) (by kernel_rfl) (by kernel_rfl) (fun _ _ _ h => h) (yields_bif (wanted_t rfl (by kernel_rfl)) (fun hc z hz => by have h0 := hc; simp [go_sem, execOp, h0])) hE ?_
      simp only [List.getElem_toArray, List.getElem_cons_succ, List.getElem_cons_zero, Act.put, List.setIfInBounds_toArray, List.set_cons_zero, List.set_cons_succ]
      refine wpAnyH_take (i := 23) (v := (bif qc then .pointer (some ⟨g, k * 89 + 6, none⟩) else undef)) rfl (by kernel_rfl) (by kernel_rfl) (by kernel_rfl) (fun _ _ _ h => h) (yields_bif (wanted_t rfl (by kernel_rfl)) (fun hc z hz => by have h0 := hc; simp [go_sem, execOp, h0, (show z.cell? ⟨gx, 4, none⟩ = some (.pointer (some ⟨g, k * 89 + 6, none⟩)) from (hz.cell (p := ⟨gx, 4, none⟩) lx).trans x4)])) hE ?_
      simp only [List.getElem_toArray, List.getElem_cons_succ, List.getElem_cons_zero, Act.put, List.setIfInBounds_toArray, List.set_cons_zero, List.set_cons_succ]
      refine wpAnyH_take (i := 24) (v := (bif qc then .pointer (some ⟨g, k * 89 + 6, none⟩) else undef)) rfl (by kernel_rfl) (by kernel_rfl) (by kernel_rfl) (fun _ _ _ h => h) (yields_bif (wanted_t rfl (by kernel_rfl)) (fun hc z hz => by have h0 := hc; simp [go_sem, execOp, h0])) hE ?_
      simp only [List.getElem_toArray, List.getElem_cons_succ, List.getElem_cons_zero, Act.put, List.setIfInBounds_toArray, List.set_cons_zero, List.set_cons_succ]
      refine wpAnyH_take (i := 25) (v := (bif qc then .pointer (some ⟨g, k * 89 + 6 + 4, none⟩) else undef)) rfl (by kernel_rfl) (by kernel_rfl) (by kernel_rfl) (fun _ _ _ h => h) (yields_bif (wanted_t rfl (by kernel_rfl)) (fun hc z hz => by have h0 := hc; simp [go_sem, execOp, h0])) hE ?_
      simp only [List.getElem_toArray, List.getElem_cons_succ, List.getElem_cons_zero, Act.put, List.setIfInBounds_toArray, List.set_cons_zero, List.set_cons_succ]
      refine wpAnyH_take (i := 26) (v := (bif qc then .int .i64 (p.i 10) else undef)) rfl (by kernel_rfl) (by kernel_rfl) (by kernel_rfl) (fun _ _ _ h => h) (yields_bif (wanted_t rfl (by kernel_rfl)) (fun hc z hz => by have h0 := hc; simp [go_sem, execOp, h0, (show z.cell? ⟨g, k * 89 + 6 + 4, none⟩ = some (.int .i64 (p.i 10)) from (hz.cell (p := ⟨g, k * 89 + 6 + 4, none⟩) lg).trans c10)])) hE ?_
      simp only [List.getElem_toArray, List.getElem_cons_succ, List.getElem_cons_zero, Act.put, List.setIfInBounds_toArray, List.set_cons_zero, List.set_cons_succ]
      refine wpAnyH_take (i := 27) (v := (bif qc then .bool q36 else undef)) rfl (by kernel_rfl) (by kernel_rfl) (by kernel_rfl) (fun _ _ _ h => h) (yields_bif (wanted_t rfl (by kernel_rfl)) (fun hc z hz => by have h0 := hc; rw [Hq36.out]; simp [go_sem, execOp, h0])) hE ?_
      simp only [List.getElem_toArray, List.getElem_cons_succ, List.getElem_cons_zero, Act.put, List.setIfInBounds_toArray, List.set_cons_zero, List.set_cons_succ]
      refine wpAnyH_take (i := 28) (v := .bool q37) rfl (by kernel_rfl) (by kernel_rfl) (by kernel_rfl) (fun _ _ _ h => h) (Or.inl ⟨by kernel_rfl, fun z hz => by rw [Hq37.out]; cases hA : qc <;> simp [go_sem, execOp, hA]⟩) hE ?_
      simp only [List.getElem_toArray, List.getElem_cons_succ, List.getElem_cons_zero, Act.put, List.setIfInBounds_toArray, List.set_cons_zero, List.set_cons_succ]
      refine wpAnyH_take (i := 29) (v := .bool q37) rfl (by kernel_rfl) (by kernel_rfl) (by kernel_rfl) (fun _ _ _ h => h) (Or.inl ⟨by kernel_rfl, fun z hz => by simp [go_sem, execOp]⟩) hE ?_
      simp only [List.getElem_toArray, List.getElem_cons_succ, List.getElem_cons_zero, Act.put, List.setIfInBounds_toArray, List.set_cons_zero, List.set_cons_succ]
      refine wpAnyH_take (i := 30) (v := .bool q37) rfl (by kernel_rfl) (by kernel_rfl) (by kernel_rfl) (fun _ _ _ h => h) (Or.inl ⟨by kernel_rfl, fun z hz => by kernel_rfl⟩) hE ?_
      simp only [List.getElem_toArray, List.getElem_cons_succ, List.getElem_cons_zero, Act.put, List.setIfInBounds_toArray, List.set_cons_zero, List.set_cons_succ]
      refine wpAnyH_done (by kernel_rfl) ?_ _
      have hon : onR b k p ps = q37 := by unfold onR; rw [hA, hB, Hq37.out, Hq36.out]; simp [Hqc.out]
      go_wp2_with fail
      go_meet
      exact ⟨by rw [hon], Lib.hid hE⟩
  case rest =>
  obtain ⟨rfl, HBc⟩ := hcut
  have Hc := Lib.hid (H2.out.below HBc.out)
  have HXc := Lib.hid ((HBc.out.block _ lx).trans HX2.out)
  have HFc := Lib.hid ((HBc.out.block _ (Array.getElem?_eq_some_iff.1 HF.out).1).trans HF.out)
  have HBC := Lib.hid (HB2.out.trans (HBc.out.mono HB2.out.size))
  clear x0 x1 x2 x3 x4 lx b1 c7 c10 H2 HX2 HF HB2 HBc lbx lg
  have lx := (Array.getElem?_eq_some_iff.1 HXc.out).1
  obtain ⟨qn, hqn⟩ : ∃ x, x = onR b k p ps := ⟨_, rfl⟩
  rw [← hqn]
  have Hqn := Lib.hid hqn
  clear hqn
  have x0 : wc.cell? ⟨gx, 0, none⟩ = some (.pointer (some ⟨bx, 0, none⟩)) := cells_of HXc.out 0
  have x1 : wc.cell? ⟨gx, 1, none⟩ = some (.int .i64 k) := cells_of HXc.out 1
  have x2 : wc.cell? ⟨gx, 2, none⟩ = some (.pointer (some ⟨g, k * 89, none⟩)) := cells_of HXc.out 2
  have x3 : wc.cell? ⟨gx, 3, none⟩ = some (.pointer (some ⟨g, k * 89 + 22, none⟩)) := cells_of HXc.out 3
  have x4 : wc.cell? ⟨gx, 4, none⟩ = some (.pointer (some ⟨g, k * 89 + 6, none⟩)) := cells_of HXc.out 4
  have b5 : wc.cell? ⟨bx, 2 + 3, none⟩ = some (.int .i64 (b.r.i 5)) := cells_of Hc.out.h 5
  go_upto_region 5 with (fail)
  refine ((?_ : ∀ y, y = wc.alloc (.cells #[.int .i64 (b.r.i 5)] 3) → Code.wp _ _ _ _ y) _ rfl)
  intro w3 hw3
  obtain ⟨gs, hgs⟩ : ∃ x, x = wc.heap.size := ⟨_, rfl⟩
  rw [← hgs]
  have hb3 : Below wc.heap.size wc w3 := by rw [hw3]; exact more (Below.refl _ _) _
  have HS := Lib.hid (show w3.cell? ⟨gs, 0, none⟩ = some (.int .i64 (b.r.i 5)) by rw [hw3, hgs]; simp [go_sem])
  have nS : ¬ gs = g := by have := Hc.out.p.lt; omega
  have H3 := Lib.hid (Hc.out.below hb3)
  have HX3 := Lib.hid ((hb3.block _ lx).trans HXc.out)
  have HF3 := Lib.hid ((hb3.block _ (Array.getElem?_eq_some_iff.1 HFc.out).1).trans HFc.out)
  have HB3 := Lib.hid (HBC.out.trans (hb3.mono HBC.out.size))
  clear x0 x1 x2 x3 x4 lx hw3 hgs hb3 Hc HXc HFc HBC b5
  have lx := (Array.getElem?_eq_some_iff.1 HX3.out).1
  have lg := H3.out.p.lt
  have lS := cell_lt HS.out
  have hFc : w3.cell? ⟨gf, 0, none⟩ = some (.pointer (some ⟨g, k * 89 + 22, none⟩)) := cells_of HF3.out 0
  have lF := cell_lt hFc
  have x0 : w3.cell? ⟨gx, 0, none⟩ = some (.pointer (some ⟨bx, 0, none⟩)) := cells_of HX3.out 0
  have x1 : w3.cell? ⟨gx, 1, none⟩ = some (.int .i64 k) := cells_of HX3.out 1
  have x2 : w3.cell? ⟨gx, 2, none⟩ = some (.pointer (some ⟨g, k * 89, none⟩)) := cells_of HX3.out 2
  have x3 : w3.cell? ⟨gx, 3, none⟩ = some (.pointer (some ⟨g, k * 89 + 22, none⟩)) := cells_of HX3.out 3
  have x4 : w3.cell? ⟨gx, 4, none⟩ = some (.pointer (some ⟨g, k * 89 + 6, none⟩)) := cells_of HX3.out 4
  have c26 : w3.cell? ⟨g, k * 89 + 22 + 4, none⟩ = some (.bool (p.b 26)) := (H3.out.p.cell hk (j := 26) (by omega)).trans (by rw [upd_same]; rfl)
  have c42 : w3.cell? ⟨g, k * 89 + 22 + 20, none⟩ = some (.bool (p.b 42)) := (H3.out.p.cell hk (j := 42) (by omega)).trans (by rw [upd_same]; rfl)
  have c28 : w3.cell? ⟨g, k * 89 + 22 + 6, none⟩ = some (.bool (p.b 28)) := (H3.out.p.cell hk (j := 28) (by omega)).trans (by rw [upd_same]; rfl)
  have c12 : w3.cell? ⟨g, k * 89 + 6 + 6, none⟩ = some (.int .i64 (p.i 12)) := (H3.out.p.cell hk (j := 12) (by omega)).trans (by rw [upd_same]; rfl)
  obtain ⟨f26v, hf26v⟩ : ∃ x : Bool, x = p.b 26 := ⟨_, rfl⟩
  rw [← hf26v] at c26
  have Hf26v := Lib.hid hf26v
  clear hf26v
  obtain ⟨f42v, hf42v⟩ : ∃ x : Bool, x = p.b 42 := ⟨_, rfl⟩
  rw [← hf42v] at c42
  have Hf42v := Lib.hid hf42v
  clear hf42v
  obtain ⟨f28v, hf28v⟩ : ∃ x : Bool, x = p.b 28 := ⟨_, rfl⟩
  rw [← hf28v] at c28
  have Hf28v := Lib.hid hf28v
  clear hf28v
  obtain ⟨q53, hq53⟩ : ∃ x : Bool, x = (!f26v) := ⟨_, rfl⟩
  have Hq53 := Lib.hid hq53
  clear hq53
  obtain ⟨q109, hq109⟩ : ∃ x : Bool, x = ((p.i 12) != (b.r.i 5)) := ⟨_, rfl⟩
  have Hq109 := Lib.hid hq109
  clear hq109
  obtain ⟨q59, hq59⟩ : ∃ x : Bool, x = (!f42v) := ⟨_, rfl⟩
  have Hq59 := Lib.hid hq59
  clear hq59
  obtain ⟨q60, hq60⟩ : ∃ x : Bool, x = (q53 && q59) := ⟨_, rfl⟩
  have Hq60 := Lib.hid hq60
  clear hq60
  obtain ⟨q70, hq70⟩ : ∃ x : Bool, x = (!f28v) := ⟨_, rfl⟩
  have Hq70 := Lib.hid hq70
  clear hq70
  obtain ⟨q71, hq71⟩ : ∃ x : Bool, x = (qn && q70) := ⟨_, rfl⟩
  have Hq71 := Lib.hid hq71
  clear hq71
  obtain ⟨q81, hq81⟩ : ∃ x : Bool, x = (qn && f28v) := ⟨_, rfl⟩
  have Hq81 := Lib.hid hq81
  clear hq81
  obtain ⟨q87, hq87⟩ : ∃ x : Bool, x = (!f26v) := ⟨_, rfl⟩
  have Hq87 := Lib.hid hq87
  clear hq87
  obtain ⟨q88, hq88⟩ : ∃ x : Bool, x = (q81 && q87) := ⟨_, rfl⟩
  have Hq88 := Lib.hid hq88
  clear hq88
  obtain ⟨q100, hq100⟩ : ∃ x : Bool, x = (f42v && f26v) := ⟨_, rfl⟩
  have Hq100 := Lib.hid hq100
  clear hq100
  refine wp_region_held_drew (S := fun w' => Below w3.heap.size w3 w') (by kernel_rfl) (Below.refl _ _).drew (fun hH => ?_)
  refine wpAnyH_take (i := 0) (v := .agg #[.pointer (some ⟨bx, 0, none⟩), .int .i64 k, .pointer (some ⟨g, k * 89, none⟩), .pointer (some ⟨g, k * 89 + 22, none⟩), .pointer (some ⟨g, k * 89 + 6, none⟩)]) rfl (by kernel_rfl) (by kernel_rfl) (by kernel_rfl) (fun _ _ _ h => h) (by exact yieldsIf_load_mid (by kernel_rfl) 57 (.tmp 1) (by kernel_rfl) gx (0) (by kernel_rfl) (#[.pointer (some ⟨bx, 0, none⟩), .int .i64 k, .pointer (some ⟨g, k * 89, none⟩), .pointer (some ⟨g, k * 89 + 22, none⟩), .pointer (some ⟨g, k * 89 + 6, none⟩)]).toList _ (row_held HX3.out lx) Try.underlying57 rfl (by kernel_rfl)) hH ?_
  simp only [List.getElem_toArray, List.getElem_cons_succ, List.getElem_cons_zero, Act.put, List.setIfInBounds_toArray, List.set_cons_zero, List.set_cons_succ]
  refine wpAnyH_take (i := 1) (v := .func (.func 44) #[] #[.pointer (some ⟨gx, 0, none⟩), .pointer (some ⟨gf, 0, none⟩)]) rfl (by kernel_rfl) (by kernel_rfl) (by kernel_rfl) (fun _ _ _ h => h) (Or.inl ⟨by kernel_rfl, fun z hz => by kernel_rfl⟩) hH ?_
  simp only [List.getElem_toArray, List.getElem_cons_succ, List.getElem_cons_zero, Act.put, List.setIfInBounds_toArray, List.set_cons_zero, List.set_cons_succ]
  refine wpAnyH_take (i := 3) (v := .pointer (some ⟨g, k * 89 + 22, none⟩)) rfl (by kernel_rfl) (by kernel_rfl) (by kernel_rfl) (fun _ _ _ h => h) (Or.inl ⟨by kernel_rfl, fun z hz => by simp [go_sem, execOp, (show z.cell? ⟨gf, 0, none⟩ = some (.pointer (some ⟨g, k * 89 + 22, none⟩)) from (hz.cell (p := ⟨gf, 0, none⟩) lF).trans hFc)]⟩) hH ?_
  simp only [List.getElem_toArray, List.getElem_cons_succ, List.getElem_cons_zero, Act.put, List.setIfInBounds_toArray, List.set_cons_zero, List.set_cons_succ]
  refine wpAnyH_take (i := 4) (v := .pointer (some ⟨g, k * 89 + 22, none⟩)) rfl (by kernel_rfl) (by kernel_rfl) (by kernel_rfl) (fun _ _ _ h => h) (Or.inl ⟨by kernel_rfl, fun z hz => by simp [go_sem, execOp]⟩) hH ?_
  simp only [List.getElem_toArray, List.getElem_cons_succ, List.getElem_cons_zero, Act.put, List.setIfInBounds_toArray, List.set_cons_zero, List.set_cons_succ]
  refine wpAnyH_take (i := 5) (v := .pointer (some ⟨g, k * 89 + 22 + 4, none⟩)) rfl (by kernel_rfl) (by kernel_rfl) (by kernel_rfl) (fun _ _ _ h => h) (Or.inl ⟨by kernel_rfl, fun z hz => by simp [go_sem, execOp]⟩) hH ?_
  simp only [List.getElem_toArray, List.getElem_cons_succ, List.getElem_cons_zero, Act.put, List.setIfInBounds_toArray, List.set_cons_zero, List.set_cons_succ]
  refine wpAnyH_take (i := 6) (v := .bool f26v) rfl (by kernel_rfl) (by kernel_rfl) (by kernel_rfl) (fun _ _ _ h => h) (Or.inl ⟨by kernel_rfl, fun z hz => by simp [go_sem, execOp, (show z.cell? ⟨g, k * 89 + 22 + 4, none⟩ = some (.bool f26v) from (hz.cell (p := ⟨g, k * 89 + 22 + 4, none⟩) lg).trans c26)]⟩) hH ?_
  simp only [List.getElem_toArray, List.getElem_cons_succ, List.getElem_cons_zero, Act.put, List.setIfInBounds_toArray, List.set_cons_zero, List.set_cons_succ]
  refine wpAnyH_take (i := 7) (v := .bool q53) rfl (by kernel_rfl) (by kernel_rfl) (by kernel_rfl) (fun _ _ _ h => h) (Or.inl ⟨by kernel_rfl, fun z hz => by rw [Hq53.out]; simp [go_sem, execOp]⟩) hH ?_
  simp only [List.getElem_toArray, List.getElem_cons_succ, List.getElem_cons_zero, Act.put, List.setIfInBounds_toArray, List.set_cons_zero, List.set_cons_succ]
  refine wpAnyH_take (i := 15) (v := .agg #[.pointer (some ⟨bx, 0, none⟩), .int .i64 k, .pointer (some ⟨g, k * 89, none⟩), .pointer (some ⟨g, k * 89 + 22, none⟩), .pointer (some ⟨g, k * 89 + 6, none⟩)]) rfl (by kernel_rfl) (by kernel_rfl) (by kernel_rfl) (fun _ _ _ h => h) (by exact yieldsIf_load_mid (by kernel_rfl) 57 (.tmp 1) (by kernel_rfl) gx (0) (by kernel_rfl) (#[.pointer (some ⟨bx, 0, none⟩), .int .i64 k, .pointer (some ⟨g, k * 89, none⟩), .pointer (some ⟨g, k * 89 + 22, none⟩), .pointer (some ⟨g, k * 89 + 6, none⟩)]).toList _ (row_held HX3.out lx) Try.underlying57 rfl (by kernel_rfl)) hH ?_
  simp only [List.getElem_toArray, List.getElem_cons_succ, List.getElem_cons_zero, Act.put, List.setIfInBounds_toArray, List.set_cons_zero, List.set_cons_succ]
  refine wpAnyH_take (i := 16) (v := .func (.func 45) #[.agg #[.pointer (some ⟨bx, 0, none⟩), .int .i64 k, .pointer (some ⟨g, k * 89, none⟩), .pointer (some ⟨g, k * 89 + 22, none⟩), .pointer (some ⟨g, k * 89 + 6, none⟩)]] #[]) rfl (by kernel_rfl) (by kernel_rfl) (by kernel_rfl) (fun _ _ _ h => h) (Or.inl ⟨by kernel_rfl, fun z hz => by kernel_rfl⟩) hH ?_
  simp only [List.getElem_toArray, List.getElem_cons_succ, List.getElem_cons_zero, Act.put, List.setIfInBounds_toArray, List.set_cons_zero, List.set_cons_succ]
  refine wpAnyH_take (i := 18) (v := .bool qn) rfl (by kernel_rfl) (by kernel_rfl) (by kernel_rfl) (fun _ _ _ h => h) (Or.inl ⟨by kernel_rfl, fun z hz => by kernel_rfl⟩) hH ?_
  simp only [List.getElem_toArray, List.getElem_cons_succ, List.getElem_cons_zero, Act.put, List.setIfInBounds_toArray, List.set_cons_zero, List.set_cons_succ]
  refine wpAnyH_take (i := 26) (v := .agg #[.pointer (some ⟨bx, 0, none⟩), .int .i64 k, .pointer (some ⟨g, k * 89, none⟩), .pointer (some ⟨g, k * 89 + 22, none⟩), .pointer (some ⟨g, k * 89 + 6, none⟩)]) rfl (by kernel_rfl) (by kernel_rfl) (by kernel_rfl) (fun _ _ _ h => h) (by exact yieldsIf_load_mid (by kernel_rfl) 57 (.tmp 1) (by kernel_rfl) gx (0) (by kernel_rfl) (#[.pointer (some ⟨bx, 0, none⟩), .int .i64 k, .pointer (some ⟨g, k * 89, none⟩), .pointer (some ⟨g, k * 89 + 22, none⟩), .pointer (some ⟨g, k * 89 + 6, none⟩)]).toList _ (row_held HX3.out lx) Try.underlying57 rfl (by kernel_rfl)) hH ?_
  simp only [List.getElem_toArray, List.getElem_cons_succ, List.getElem_cons_zero, Act.put, List.setIfInBounds_toArray, List.set_cons_zero, List.set_cons_succ]
  refine wpAnyH_take (i := 27) (v := .func (.func 46) #[.agg #[.pointer (some ⟨bx, 0, none⟩), .int .i64 k, .pointer (some ⟨g, k * 89, none⟩), .pointer (some ⟨g, k * 89 + 22, none⟩), .pointer (some ⟨g, k * 89 + 6, none⟩)]] #[]) rfl (by kernel_rfl) (by kernel_rfl) (by kernel_rfl) (fun _ _ _ h => h) (Or.inl ⟨by kernel_rfl, fun z hz => by kernel_rfl⟩) hH ?_
  simp only [List.getElem_toArray, List.getElem_cons_succ, List.getElem_cons_zero, Act.put, List.setIfInBounds_toArray, List.set_cons_zero, List.set_cons_succ]
  refine wpAnyH_take (i := 29) (v := .bool qn) rfl (by kernel_rfl) (by kernel_rfl) (by kernel_rfl) (fun _ _ _ h => h) (Or.inl ⟨by kernel_rfl, fun z hz => by kernel_rfl⟩) hH ?_
  simp only [List.getElem_toArray, List.getElem_cons_succ, List.getElem_cons_zero, Act.put, List.setIfInBounds_toArray, List.set_cons_zero, List.set_cons_succ]
  refine wpAnyH_take (i := 43) (v := .func (.func 47) #[] #[.pointer (some ⟨gx, 0, none⟩), .pointer (some ⟨gf, 0, none⟩)]) rfl (by kernel_rfl) (by kernel_rfl) (by kernel_rfl) (fun _ _ _ h => h) (Or.inl ⟨by kernel_rfl, fun z hz => by kernel_rfl⟩) hH ?_
  simp only [List.getElem_toArray, List.getElem_cons_succ, List.getElem_cons_zero, Act.put, List.setIfInBounds_toArray, List.set_cons_zero, List.set_cons_succ]
  refine wpAnyH_take (i := 45) (v := .pointer (some ⟨g, k * 89 + 22, none⟩)) rfl (by kernel_rfl) (by kernel_rfl) (by kernel_rfl) (fun _ _ _ h => h) (Or.inl ⟨by kernel_rfl, fun z hz => by simp [go_sem, execOp, (show z.cell? ⟨gf, 0, none⟩ = some (.pointer (some ⟨g, k * 89 + 22, none⟩)) from (hz.cell (p := ⟨gf, 0, none⟩) lF).trans hFc)]⟩) hH ?_
  simp only [List.getElem_toArray, List.getElem_cons_succ, List.getElem_cons_zero, Act.put, List.setIfInBounds_toArray, List.set_cons_zero, List.set_cons_succ]
  refine wpAnyH_take (i := 46) (v := .pointer (some ⟨g, k * 89 + 22, none⟩)) rfl (by kernel_rfl) (by kernel_rfl) (by kernel_rfl) (fun _ _ _ h => h) (Or.inl ⟨by kernel_rfl, fun z hz => by simp [go_sem, execOp]⟩) hH ?_
  simp only [List.getElem_toArray, List.getElem_cons_succ, List.getElem_cons_zero, Act.put, List.setIfInBounds_toArray, List.set_cons_zero, List.set_cons_succ]
  refine wpAnyH_take (i := 47) (v := .pointer (some ⟨g, k * 89 + 22 + 20, none⟩)) rfl (by kernel_rfl) (by kernel_rfl) (by kernel_rfl) (fun _ _ _ h => h) (Or.inl ⟨by kernel_rfl, fun z hz => by simp [go_sem, execOp]⟩) hH ?_
  simp only [List.getElem_toArray, List.getElem_cons_succ, List.getElem_cons_zero, Act.put, List.setIfInBounds_toArray, List.set_cons_zero, List.set_cons_succ]
  refine wpAnyH_take (i := 48) (v := .bool f42v) rfl (by kernel_rfl) (by kernel_rfl) (by kernel_rfl) (fun _ _ _ h => h) (Or.inl ⟨by kernel_rfl, fun z hz => by simp [go_sem, execOp, (show z.cell? ⟨g, k * 89 + 22 + 20, none⟩ = some (.bool f42v) from (hz.cell (p := ⟨g, k * 89 + 22 + 20, none⟩) lg).trans c42)]⟩) hH ?_
  simp only [List.getElem_toArray, List.getElem_cons_succ, List.getElem_cons_zero, Act.put, List.setIfInBounds_toArray, List.set_cons_zero, List.set_cons_succ]
  refine wpAnyH_take (i := 55) (v := .func (.func 48) #[] #[.pointer (some ⟨gf, 0, none⟩)]) rfl (by kernel_rfl) (by kernel_rfl) (by kernel_rfl) (fun _ _ _ h => h) (Or.inl ⟨by kernel_rfl, fun z hz => by kernel_rfl⟩) hH ?_
  simp only [List.getElem_toArray, List.getElem_cons_succ, List.getElem_cons_zero, Act.put, List.setIfInBounds_toArray, List.set_cons_zero, List.set_cons_succ]
  refine wpAnyH_take (i := 57) (v := .pointer (some ⟨gx, 4, none⟩)) rfl (by kernel_rfl) (by kernel_rfl) (by kernel_rfl) (fun _ _ _ h => h) (Or.inl ⟨by kernel_rfl, fun z hz => by simp [go_sem, execOp]⟩) hH ?_
  simp only [List.getElem_toArray, List.getElem_cons_succ, List.getElem_cons_zero, Act.put, List.setIfInBounds_toArray, List.set_cons_zero, List.set_cons_succ]
  refine wpAnyH_take (i := 58) (v := .pointer (some ⟨g, k * 89 + 6, none⟩)) rfl (by kernel_rfl) (by kernel_rfl) (by kernel_rfl) (fun _ _ _ h => h) (Or.inl ⟨by kernel_rfl, fun z hz => by simp [go_sem, execOp, (show z.cell? ⟨gx, 4, none⟩ = some (.pointer (some ⟨g, k * 89 + 6, none⟩)) from (hz.cell (p := ⟨gx, 4, none⟩) lx).trans x4)]⟩) hH ?_
  simp only [List.getElem_toArray, List.getElem_cons_succ, List.getElem_cons_zero, Act.put, List.setIfInBounds_toArray, List.set_cons_zero, List.set_cons_succ]
  refine wpAnyH_take (i := 59) (v := .pointer (some ⟨g, k * 89 + 6, none⟩)) rfl (by kernel_rfl) (by kernel_rfl) (by kernel_rfl) (fun _ _ _ h => h) (Or.inl ⟨by kernel_rfl, fun z hz => by simp [go_sem, execOp]⟩) hH ?_
  simp only [List.getElem_toArray, List.getElem_cons_succ, List.getElem_cons_zero, Act.put, List.setIfInBounds_toArray, List.set_cons_zero, List.set_cons_succ]
  refine wpAnyH_take (i := 60) (v := .pointer (some ⟨g, k * 89 + 6 + 6, none⟩)) rfl (by kernel_rfl) (by kernel_rfl) (by kernel_rfl) (fun _ _ _ h => h) (Or.inl ⟨by kernel_rfl, fun z hz => by simp [go_sem, execOp]⟩) hH ?_
  simp only [List.getElem_toArray, List.getElem_cons_succ, List.getElem_cons_zero, Act.put, List.setIfInBounds_toArray, List.set_cons_zero, List.set_cons_succ]
  refine wpAnyH_take (i := 61) (v := .int .i64 (p.i 12)) rfl (by kernel_rfl) (by kernel_rfl) (by kernel_rfl) (fun _ _ _ h => h) (Or.inl ⟨by kernel_rfl, fun z hz => by simp [go_sem, execOp, (show z.cell? ⟨g, k * 89 + 6 + 6, none⟩ = some (.int .i64 (p.i 12)) from (hz.cell (p := ⟨g, k * 89 + 6 + 6, none⟩) lg).trans c12)]⟩) hH ?_
  simp only [List.getElem_toArray, List.getElem_cons_succ, List.getElem_cons_zero, Act.put, List.setIfInBounds_toArray, List.set_cons_zero, List.set_cons_succ]
  refine wpAnyH_take (i := 62) (v := .int .i64 (b.r.i 5)) rfl (by kernel_rfl) (by kernel_rfl) (by kernel_rfl) (fun _ _ _ h => h) (Or.inl ⟨by kernel_rfl, fun z hz => by simp [go_sem, execOp, (show z.cell? ⟨gs, 0, none⟩ = some (.int .i64 (b.r.i 5)) from (hz.cell (p := ⟨gs, 0, none⟩) lS).trans HS.out)]⟩) hH ?_
  simp only [List.getElem_toArray, List.getElem_cons_succ, List.getElem_cons_zero, Act.put, List.setIfInBounds_toArray, List.set_cons_zero, List.set_cons_succ]
  refine wpAnyH_take (i := 63) (v := .bool q109) rfl (by kernel_rfl) (by kernel_rfl) (by kernel_rfl) (fun _ _ _ h => h) (Or.inl ⟨by kernel_rfl, fun z hz => by rw [Hq109.out]; simp [go_sem, execOp]⟩) hH ?_
  simp only [List.getElem_toArray, List.getElem_cons_succ, List.getElem_cons_zero, Act.put, List.setIfInBounds_toArray, List.set_cons_zero, List.set_cons_succ]
  refine wpAnyH_take (i := 64) (v := .func (.func 49) #[] #[.pointer (some ⟨gs, 0, none⟩), .pointer (some ⟨gx, 0, none⟩)]) rfl (by kernel_rfl) (by kernel_rfl) (by kernel_rfl) (fun _ _ _ h => h) (Or.inl ⟨by kernel_rfl, fun z hz => by kernel_rfl⟩) hH ?_
  simp only [List.getElem_toArray, List.getElem_cons_succ, List.getElem_cons_zero, Act.put, List.setIfInBounds_toArray, List.set_cons_zero, List.set_cons_succ]
  refine wpAnyH_take (i := 65) (v := .agg #[.bool q109, .func (.func 49) #[] #[.pointer (some ⟨gs, 0, none⟩), .pointer (some ⟨gx, 0, none⟩)]]) rfl (by kernel_rfl) (by kernel_rfl) (by kernel_rfl) (fun _ _ _ h => h) (Or.inl ⟨by kernel_rfl, fun z hz => by simp [go_sem, execOp, bldRow]⟩) hH ?_
  simp only [List.getElem_toArray, List.getElem_cons_succ, List.getElem_cons_zero, Act.put, List.setIfInBounds_toArray, List.set_cons_zero, List.set_cons_succ]
  refine wpAnyH_ready (rs := [2]) (by kernel_rfl) (by simp) (AllReadyH.cons rfl (fun K hK => ?_) AllReadyH.nil)
  go_simp
  refine (sets_any _ bx g k b ps ss fs p (H3.out.below hH) hk hn _ _ _ _ (does_root1 (H3.out.below hH) hk ((hH.block _ lx).trans HX3.out) ngx ((hH.cell (p := ⟨gf, 0, none⟩) lF).trans hFc) nF)).mono ?_
  rintro e we ⟨v3, rfl, hR3, hbe⟩
  refine hK.out _ _ (hH.trans (hbe.mono hH.size)) (fun hA => ?_)
  clear hK K hbe
  refine wpAnyH_take (i := 8) (v := .bool q53) rfl (by kernel_rfl) (by kernel_rfl) (by kernel_rfl) (fun _ _ _ h => h) (Or.inl ⟨by kernel_rfl, fun z hz => by kernel_rfl⟩) hA ?_
  simp only [List.getElem_toArray, List.getElem_cons_succ, List.getElem_cons_zero, Act.put, List.setIfInBounds_toArray, List.set_cons_zero, List.set_cons_succ]
  refine wpAnyH_take (i := 9) (v := (bif q53 then .pointer (some ⟨g, k * 89 + 22, none⟩) else undef)) rfl (by kernel_rfl) (by kernel_rfl) (by kernel_rfl) (fun _ _ _ h => h) (yields_bif (wanted_t rfl (by kernel_rfl)) (fun hc z hz => by have h0 := hc; simp [go_sem, execOp, h0, (show z.cell? ⟨gf, 0, none⟩ = some (.pointer (some ⟨g, k * 89 + 22, none⟩)) from (hz.cell (p := ⟨gf, 0, none⟩) lF).trans hFc)])) hA ?_
  simp only [List.getElem_toArray, List.getElem_cons_succ, List.getElem_cons_zero, Act.put, List.setIfInBounds_toArray, List.set_cons_zero, List.set_cons_succ]
  refine wpAnyH_take (i := 10) (v := (bif q53 then .pointer (some ⟨g, k * 89 + 22, none⟩) else undef)) rfl (by kernel_rfl) (by kernel_rfl) (by kernel_rfl) (fun _ _ _ h => h) (yields_bif (wanted_t rfl (by kernel_rfl)) (fun hc z hz => by have h0 := hc; simp [go_sem, execOp, h0])) hA ?_
  simp only [List.getElem_toArray, List.getElem_cons_succ, List.getElem_cons_zero, Act.put, List.setIfInBounds_toArray, List.set_cons_zero, List.set_cons_succ]
  refine wpAnyH_take (i := 11) (v := (bif q53 then .pointer (some ⟨g, k * 89 + 22 + 20, none⟩) else undef)) rfl (by kernel_rfl) (by kernel_rfl) (by kernel_rfl) (fun _ _ _ h => h) (yields_bif (wanted_t rfl (by kernel_rfl)) (fun hc z hz => by have h0 := hc; simp [go_sem, execOp, h0])) hA ?_
  simp only [List.getElem_toArray, List.getElem_cons_succ, List.getElem_cons_zero, Act.put, List.setIfInBounds_toArray, List.set_cons_zero, List.set_cons_succ]
  refine wpAnyH_take (i := 12) (v := (bif q53 then .bool f42v else undef)) rfl (by kernel_rfl) (by kernel_rfl) (by kernel_rfl) (fun _ _ _ h => h) (yields_bif (wanted_t rfl (by kernel_rfl)) (fun hc z hz => by have h0 := hc; simp [go_sem, execOp, h0, (show z.cell? ⟨g, k * 89 + 22 + 20, none⟩ = some (.bool f42v) from (hz.cell (p := ⟨g, k * 89 + 22 + 20, none⟩) lg).trans c42)])) hA ?_
  simp only [List.getElem_toArray, List.getElem_cons_succ, List.getElem_cons_zero, Act.put, List.setIfInBounds_toArray, List.set_cons_zero, List.set_cons_succ]
  refine wpAnyH_take (i := 13) (v := (bif q53 then .bool q59 else undef)) rfl (by kernel_rfl) (by kernel_rfl) (by kernel_rfl) (fun _ _ _ h => h) (yields_bif (wanted_t rfl (by kernel_rfl)) (fun hc z hz => by have h0 := hc; rw [Hq59.out]; simp [go_sem, execOp, h0])) hA ?_
  simp only [List.getElem_toArray, List.getElem_cons_succ, List.getElem_cons_zero, Act.put, List.setIfInBounds_toArray, List.set_cons_zero, List.set_cons_succ]
  refine wpAnyH_take (i := 14) (v := .bool q60) rfl (by kernel_rfl) (by kernel_rfl) (by kernel_rfl) (fun _ _ _ h => h) (Or.inl ⟨by kernel_rfl, fun z hz => by rw [Hq60.out]; cases hA : q53 <;> simp [go_sem, execOp, hA]⟩) hA ?_
  simp only [List.getElem_toArray, List.getElem_cons_succ, List.getElem_cons_zero, Act.put, List.setIfInBounds_toArray, List.set_cons_zero, List.set_cons_succ]
  refine wpAnyH_take (i := 17) (v := .agg #[.bool q60, .func (.func 45) #[.agg #[.pointer (some ⟨bx, 0, none⟩), .int .i64 k, .pointer (some ⟨g, k * 89, none⟩), .pointer (some ⟨g, k * 89 + 22, none⟩), .pointer (some ⟨g, k * 89 + 6, none⟩)]] #[]]) rfl (by kernel_rfl) (by kernel_rfl) (by kernel_rfl) (fun _ _ _ h => h) (Or.inl ⟨by kernel_rfl, fun z hz => by simp [go_sem, execOp, bldRow]⟩) hA ?_
  simp only [List.getElem_toArray, List.getElem_cons_succ, List.getElem_cons_zero, Act.put, List.setIfInBounds_toArray, List.set_cons_zero, List.set_cons_succ]
  refine wpAnyH_take (i := 19) (v := .bool qn) rfl (by kernel_rfl) (by kernel_rfl) (by kernel_rfl) (fun _ _ _ h => h) (Or.inl ⟨by kernel_rfl, fun z hz => by kernel_rfl⟩) hA ?_
  simp only [List.getElem_toArray, List.getElem_cons_succ, List.getElem_cons_zero, Act.put, List.setIfInBounds_toArray, List.set_cons_zero, List.set_cons_succ]
  refine wpAnyH_take (i := 20) (v := (bif qn then .pointer (some ⟨g, k * 89 + 22, none⟩) else undef)) rfl (by kernel_rfl) (by kernel_rfl) (by kernel_rfl) (fun _ _ _ h => h) (yields_bif (wanted_t rfl (by kernel_rfl)) (fun hc z hz => by have h0 := hc; simp [go_sem, execOp, h0, (show z.cell? ⟨gf, 0, none⟩ = some (.pointer (some ⟨g, k * 89 + 22, none⟩)) from (hz.cell (p := ⟨gf, 0, none⟩) lF).trans hFc)])) hA ?_
  simp only [List.getElem_toArray, List.getElem_cons_succ, List.getElem_cons_zero, Act.put, List.setIfInBounds_toArray, List.set_cons_zero, List.set_cons_succ]
  refine wpAnyH_take (i := 21) (v := (bif qn then .pointer (some ⟨g, k * 89 + 22, none⟩) else undef)) rfl (by kernel_rfl) (by kernel_rfl) (by kernel_rfl) (fun _ _ _ h => h) (yields_bif (wanted_t rfl (by kernel_rfl)) (fun hc z hz => by have h0 := hc; simp [go_sem, execOp, h0])) hA ?_
  simp only [List.getElem_toArray, List.getElem_cons_succ, List.getElem_cons_zero, Act.put, List.setIfInBounds_toArray, List.set_cons_zero, List.set_cons_succ]
  refine wpAnyH_take (i := 22) (v := (bif qn then .pointer (some ⟨g, k * 89 + 22 + 6, none⟩) else undef)) rfl (by kernel_rfl) (by kernel_rfl) (by kernel_rfl) (fun _ _ _ h => h) (yields_bif (wanted_t rfl (by kernel_rfl)) (fun hc z hz => by have h0 := hc; simp [go_sem, execOp, h0])) hA ?_
  simp only [List.getElem_toArray, List.getElem_cons_succ, List.getElem_cons_zero, Act.put, List.setIfInBounds_toArray, List.set_cons_zero, List.set_cons_succ]
  refine wpAnyH_take (i := 23) (v := (bif qn then .bool f28v else undef)) rfl (by kernel_rfl) (by kernel_rfl) (by kernel_rfl) (fun _ _ _ h => h) (yields_bif (wanted_t rfl (by kernel_rfl)) (fun hc z hz => by have h0 := hc; simp [go_sem, execOp, h0, (show z.cell? ⟨g, k * 89 + 22 + 6, none⟩ = some (.bool f28v) from (hz.cell (p := ⟨g, k * 89 + 22 + 6, none⟩) lg).trans c28)])) hA ?_
  simp only [List.getElem_toArray, List.getElem_cons_succ, List.getElem_cons_zero, Act.put, List.setIfInBounds_toArray, List.set_cons_zero, List.set_cons_succ]
  refine wpAnyH_take (i := 24) (v := (bif qn then .bool q70 else undef)) rfl (by kernel_rfl) (by kernel_rfl) (by kernel_rfl) (fun _ _ _ h => h) (yields_bif (wanted_t rfl (by kernel_rfl)) (fun hc z hz => by have h0 := hc; rw [Hq70.out]; simp [go_sem, execOp, h0])) hA ?_
  simp only [List.getElem_toArray, List.getElem_cons_succ, List.getElem_cons_zero, Act.put, List.setIfInBounds_toArray, List.set_cons_zero, List.set_cons_succ]
  refine wpAnyH_take (i := 25) (v := .bool q71) rfl (by kernel_rfl) (by kernel_rfl) (by kernel_rfl) (fun _ _ _ h => h) (Or.inl ⟨by kernel_rfl, fun z hz => by rw [Hq71.out]; cases hA : qn <;> simp [go_sem, execOp, hA]⟩) hA ?_
  simp only [List.getElem_toArray, List.getElem_cons_succ, List.getElem_cons_zero, Act.put, List.setIfInBounds_toArray, List.set_cons_zero, List.set_cons_succ]
  refine wpAnyH_take (i := 28) (v := .agg #[.bool q71, .func (.func 46) #[.agg #[.pointer (some ⟨bx, 0, none⟩), .int .i64 k, .pointer (some ⟨g, k * 89, none⟩), .pointer (some ⟨g, k * 89 + 22, none⟩), .pointer (some ⟨g, k * 89 + 6, none⟩)]] #[]]) rfl (by kernel_rfl) (by kernel_rfl) (by kernel_rfl) (fun _ _ _ h => h) (Or.inl ⟨by kernel_rfl, fun z hz => by simp [go_sem, execOp, bldRow]⟩) hA ?_
  simp only [List.getElem_toArray, List.getElem_cons_succ, List.getElem_cons_zero, Act.put, List.setIfInBounds_toArray, List.set_cons_zero, List.set_cons_succ]
  refine wpAnyH_take (i := 30) (v := .bool qn) rfl (by kernel_rfl) (by kernel_rfl) (by kernel_rfl) (fun _ _ _ h => h) (Or.inl ⟨by kernel_rfl, fun z hz => by kernel_rfl⟩) hA ?_
  simp only [List.getElem_toArray, List.getElem_cons_succ, List.getElem_cons_zero, Act.put, List.setIfInBounds_toArray, List.set_cons_zero, List.set_cons_succ]
  refine wpAnyH_take (i := 31) (v := (bif qn then .pointer (some ⟨g, k * 89 + 22, none⟩) else undef)) rfl (by kernel_rfl) (by kernel_rfl) (by kernel_rfl) (fun _ _ _ h => h) (yields_bif (wanted_t rfl (by kernel_rfl)) (fun hc z hz => by have h0 := hc; simp [go_sem, execOp, h0, (show z.cell? ⟨gf, 0, none⟩ = some (.pointer (some ⟨g, k * 89 + 22, none⟩)) from (hz.cell (p := ⟨gf, 0, none⟩) lF).trans hFc)])) hA ?_
  simp only [List.getElem_toArray, List.getElem_cons_succ, List.getElem_cons_zero, Act.put, List.setIfInBounds_toArray, List.set_cons_zero, List.set_cons_succ]
  refine wpAnyH_take (i := 32) (v := (bif qn then .pointer (some ⟨g, k * 89 + 22, none⟩) else undef)) rfl (by kernel_rfl) (by kernel_rfl) (by kernel_rfl) (fun _ _ _ h => h) (yields_bif (wanted_t rfl (by kernel_rfl)) (fun hc z hz => by have h0 := hc; simp [go_sem, execOp, h0])) hA ?_
  simp only [List.getElem_toArray, List.getElem_cons_succ, List.getElem_cons_zero, Act.put, List.setIfInBounds_toArray, List.set_cons_zero, List.set_cons_succ]
  refine wpAnyH_take (i := 33) (v := (bif qn then .pointer (some ⟨g, k * 89 + 22 + 6, none⟩) else undef)) rfl (by kernel_rfl) (by kernel_rfl) (by kernel_rfl) (fun _ _ _ h => h) (yields_bif (wanted_t rfl (by kernel_rfl)) (fun hc z hz => by have h0 := hc; simp [go_sem, execOp, h0])) hA ?_
  simp only [List.getElem_toArray, List.getElem_cons_succ, List.getElem_cons_zero, Act.put, List.setIfInBounds_toArray, List.set_cons_zero, List.set_cons_succ]
  refine wpAnyH_take (i := 34) (v := (bif qn then .bool f28v else undef)) rfl (by kernel_rfl) (by kernel_rfl) (by kernel_rfl) (fun _ _ _ h => h) (yields_bif (wanted_t rfl (by kernel_rfl)) (fun hc z hz => by have h0 := hc; simp [go_sem, execOp, h0, (show z.cell? ⟨g, k * 89 + 22 + 6, none⟩ = some (.bool f28v) from (hz.cell (p := ⟨g, k * 89 + 22 + 6, none⟩) lg).trans c28)])) hA ?_
  simp only [List.getElem_toArray, List.getElem_cons_succ, List.getElem_cons_zero, Act.put, List.setIfInBounds_toArray, List.set_cons_zero, List.set_cons_succ]
  refine wpAnyH_take (i := 35) (v := .bool q81) rfl (by kernel_rfl) (by kernel_rfl) (by kernel_rfl) (fun _ _ _ h => h) (Or.inl ⟨by kernel_rfl, fun z hz => by rw [Hq81.out]; cases hA : qn <;> simp [go_sem, execOp, hA]⟩) hA ?_
  simp only [List.getElem_toArray, List.getElem_cons_succ, List.getElem_cons_zero, Act.put, List.setIfInBounds_toArray, List.set_cons_zero, List.set_cons_succ]
  refine wpAnyH_take (i := 36) (v := .bool q81) rfl (by kernel_rfl) (by kernel_rfl) (by kernel_rfl) (fun _ _ _ h => h) (Or.inl ⟨by kernel_rfl, fun z hz => by kernel_rfl⟩) hA ?_
  simp only [List.getElem_toArray, List.getElem_cons_succ, List.getElem_cons_zero, Act.put, List.setIfInBounds_toArray, List.set_cons_zero, List.set_cons_succ]
  refine wpAnyH_take (i := 37) (v := (bif q81 then .pointer (some ⟨g, k * 89 + 22, none⟩) else undef)) rfl (by kernel_rfl) (by kernel_rfl) (by kernel_rfl) (fun _ _ _ h => h) (yields_bif (wanted_t rfl (by kernel_rfl)) (fun hc z hz => by have h0 := hc; simp [go_sem, execOp, h0, (show z.cell? ⟨gf, 0, none⟩ = some (.pointer (some ⟨g, k * 89 + 22, none⟩)) from (hz.cell (p := ⟨gf, 0, none⟩) lF).trans hFc)])) hA ?_
  simp only [List.getElem_toArray, List.getElem_cons_succ, List.getElem_cons_zero, Act.put, List.setIfInBounds_toArray, List.set_cons_zero, List.set_cons_succ]
  refine wpAnyH_take (i := 38) (v := (bif q81 then .pointer (some ⟨g, k * 89 + 22, none⟩) else undef)) rfl (by kernel_rfl) (by kernel_rfl) (by kernel_rfl) (fun _ _ _ h => h) (yields_bif (wanted_t rfl (by kernel_rfl)) (fun hc z hz => by have h0 := hc; simp [go_sem, execOp, h0])) hA ?_
  simp only [List.getElem_toArray, List.getElem_cons_succ, List.getElem_cons_zero, Act.put, List.setIfInBounds_toArray, List.set_cons_zero, List.set_cons_succ]
  refine wpAnyH_take (i := 39) (v := (bif q81 then .pointer (some ⟨g, k * 89 + 22 + 4, none⟩) else undef)) rfl (by kernel_rfl) (by kernel_rfl) (by kernel_rfl) (fun _ _ _ h => h) (yields_bif (wanted_t rfl (by kernel_rfl)) (fun hc z hz => by have h0 := hc; simp [go_sem, execOp, h0])) hA ?_
  simp only [List.getElem_toArray, List.getElem_cons_succ, List.getElem_cons_zero, Act.put, List.setIfInBounds_toArray, List.set_cons_zero, List.set_cons_succ]
  refine wpAnyH_take (i := 40) (v := (bif q81 then .bool f26v else undef)) rfl (by kernel_rfl) (by kernel_rfl) (by kernel_rfl) (fun _ _ _ h => h) (yields_bif (wanted_t rfl (by kernel_rfl)) (fun hc z hz => by have h0 := hc; simp [go_sem, execOp, h0, (show z.cell? ⟨g, k * 89 + 22 + 4, none⟩ = some (.bool f26v) from (hz.cell (p := ⟨g, k * 89 + 22 + 4, none⟩) lg).trans c26)])) hA ?_
  simp only [List.getElem_toArray, List.getElem_cons_succ, List.getElem_cons_zero, Act.put, List.setIfInBounds_toArray, List.set_cons_zero, List.set_cons_succ]
  refine wpAnyH_take (i := 41) (v := (bif q81 then .bool q87 else undef)) rfl (by kernel_rfl) (by kernel_rfl) (by kernel_rfl) (fun _ _ _ h => h) (yields_bif (wanted_t rfl (by kernel_rfl)) (fun hc z hz => by have h0 := hc; rw [Hq87.out]; simp [go_sem, execOp, h0])) hA ?_
  simp only [List.getElem_toArray, List.getElem_cons_succ, List.getElem_cons_zero, Act.put, List.setIfInBounds_toArray, List.set_cons_zero, List.set_cons_succ]
  refine wpAnyH_take (i := 42) (v := .bool q88) rfl (by kernel_rfl) (by kernel_rfl) (by kernel_rfl) (fun _ _ _ h => h) (Or.inl ⟨by kernel_rfl, fun z hz => by rw [Hq88.out]; cases hA : q81 <;> simp [go_sem, execOp, hA]⟩) hA ?_
  simp only [List.getElem_toArray, List.getElem_cons_succ, List.getElem_cons_zero, Act.put, List.setIfInBounds_toArray, List.set_cons_zero, List.set_cons_succ]
  refine wpAnyH_take (i := 44) (v := .agg #[.bool q88, .func (.func 47) #[] #[.pointer (some ⟨gx, 0, none⟩), .pointer (some ⟨gf, 0, none⟩)]]) rfl (by kernel_rfl) (by kernel_rfl) (by kernel_rfl) (fun _ _ _ h => h) (Or.inl ⟨by kernel_rfl, fun z hz => by simp [go_sem, execOp, bldRow]⟩) hA ?_
  simp only [List.getElem_toArray, List.getElem_cons_succ, List.getElem_cons_zero, Act.put, List.setIfInBounds_toArray, List.set_cons_zero, List.set_cons_succ]
  refine wpAnyH_take (i := 49) (v := .bool f42v) rfl (by kernel_rfl) (by kernel_rfl) (by kernel_rfl) (fun _ _ _ h => h) (Or.inl ⟨by kernel_rfl, fun z hz => by kernel_rfl⟩) hA ?_
  simp only [List.getElem_toArray, List.getElem_cons_succ, List.getElem_cons_zero, Act.put, List.setIfInBounds_toArray, List.set_cons_zero, List.set_cons_succ]
  refine wpAnyH_take (i := 50) (v := (bif f42v then .pointer (some ⟨g, k * 89 + 22, none⟩) else undef)) rfl (by kernel_rfl) (by kernel_rfl) (by kernel_rfl) (fun _ _ _ h => h) (yields_bif (wanted_t rfl (by kernel_rfl)) (fun hc z hz => by have h0 := hc; simp [go_sem, execOp, h0, (show z.cell? ⟨gf, 0, none⟩ = some (.pointer (some ⟨g, k * 89 + 22, none⟩)) from (hz.cell (p := ⟨gf, 0, none⟩) lF).trans hFc)])) hA ?_
  simp only [List.getElem_toArray, List.getElem_cons_succ, List.getElem_cons_zero, Act.put, List.setIfInBounds_toArray, List.set_cons_zero, List.set_cons_succ]
  refine wpAnyH_take (i := 51) (v := (bif f42v then .pointer (some ⟨g, k * 89 + 22, none⟩) else undef)) rfl (by kernel_rfl) (by kernel_rfl) (by kernel_rfl) (fun _ _ _ h => h) (yields_bif (wanted_t rfl (by kernel_rfl)) (fun hc z hz => by have h0 := hc; simp [go_sem, execOp, h0])) hA ?_
  simp only [List.getElem_toArray, List.getElem_cons_succ, List.getElem_cons_zero, Act.put, List.setIfInBounds_toArray, List.set_cons_zero, List.set_cons_succ]
  refine wpAnyH_take (i := 52) (v := (bif f42v then .pointer (some ⟨g, k * 89 + 22 + 4, none⟩) else undef)) rfl (by kernel_rfl) (by kernel_rfl) (by kernel_rfl) (fun _ _ _ h => h) (yields_bif (wanted_t rfl (by kernel_rfl)) (fun hc z hz => by have h0 := hc; simp [go_sem, execOp, h0])) hA ?_
  simp only [List.getElem_toArray, List.getElem_cons_succ, List.getElem_cons_zero, Act.put, List.setIfInBounds_toArray, List.set_cons_zero, List.set_cons_succ]
  refine wpAnyH_take (i := 53) (v := (bif f42v then .bool f26v else undef)) rfl (by kernel_rfl) (by kernel_rfl) (by kernel_rfl) (fun _ _ _ h => h) (yields_bif (wanted_t rfl (by kernel_rfl)) (fun hc z hz => by have h0 := hc; simp [go_sem, execOp, h0, (show z.cell? ⟨g, k * 89 + 22 + 4, none⟩ = some (.bool f26v) from (hz.cell (p := ⟨g, k * 89 + 22 + 4, none⟩) lg).trans c26)])) hA ?_
  simp only [List.getElem_toArray, List.getElem_cons_succ, List.getElem_cons_zero, Act.put, List.setIfInBounds_toArray, List.set_cons_zero, List.set_cons_succ]
  refine wpAnyH_take (i := 54) (v := .bool q100) rfl (by kernel_rfl) (by kernel_rfl) (by kernel_rfl) (fun _ _ _ h => h) (Or.inl ⟨by kernel_rfl, fun z hz => by rw [Hq100.out]; cases hA : f42v <;> simp [go_sem, execOp, hA]⟩) hA ?_
  simp only [List.getElem_toArray, List.getElem_cons_succ, List.getElem_cons_zero, Act.put, List.setIfInBounds_toArray, List.set_cons_zero, List.set_cons_succ]
  refine wpAnyH_take (i := 56) (v := .agg #[.bool q100, .func (.func 48) #[] #[.pointer (some ⟨gf, 0, none⟩)]]) rfl (by kernel_rfl) (by kernel_rfl) (by kernel_rfl) (fun _ _ _ h => h) (Or.inl ⟨by kernel_rfl, fun z hz => by simp [go_sem, execOp, bldRow]⟩) hA ?_
  simp only [List.getElem_toArray, List.getElem_cons_succ, List.getElem_cons_zero, Act.put, List.setIfInBounds_toArray, List.set_cons_zero, List.set_cons_succ]
  refine wpAnyH_ready (rs := [66]) (by kernel_rfl) (by simp) (AllReadyH.cons rfl (fun K hK => ?_) AllReadyH.nil)
  go_simp
  refine hK.out _ _ (hA.alloc hA.size _) (fun hE => ?_)
  clear hK K
  have hr0 : q60 = (!p.b 26 && !p.b 42) := by rw [Hq60.out, Hq59.out, Hq53.out, Hf42v.out, Hf26v.out]
  have hr1 : q71 = (onR b k p ps && !p.b 28) := by rw [Hq71.out, Hq70.out, Hf28v.out, Hqn.out]
  have hr2 : q88 = (onR b k p ps && p.b 28 && !p.b 26) := by rw [Hq88.out, Hq87.out, Hq81.out, Hf26v.out, Hf28v.out, Hqn.out]
  have hr3 : q100 = (p.b 42 && p.b 26) := by rw [Hq100.out, Hf42v.out, Hf26v.out]
  have hr4 : q109 = (p.i 12 != b.r.i 5) := by rw [Hq109.out]
  have HF9 := Lib.hid (hR3.later (more (Below.refl we.heap.size we) (.cells #[.bool q60, .func (.func 45) #[.agg #[.pointer (some ⟨bx, 0, none⟩), .int .i64 k, .pointer (some ⟨g, k * 89, none⟩), .pointer (some ⟨g, k * 89 + 22, none⟩), .pointer (some ⟨g, k * 89 + 6, none⟩)]] #[], .bool q71, .func (.func 46) #[.agg #[.pointer (some ⟨bx, 0, none⟩), .int .i64 k, .pointer (some ⟨g, k * 89, none⟩), .pointer (some ⟨g, k * 89 + 22, none⟩), .pointer (some ⟨g, k * 89 + 6, none⟩)]] #[], .bool q88, .func (.func 47) #[] #[.pointer (some ⟨gx, 0, none⟩), .pointer (some ⟨gf, 0, none⟩)], .bool q100, .func (.func 48) #[] #[.pointer (some ⟨gf, 0, none⟩)], .bool q109, .func (.func 49) #[] #[.pointer (some ⟨gs, 0, none⟩), .pointer (some ⟨gx, 0, none⟩)]] 61)))
  have HR := Lib.hid (rows_new (W := (we.alloc (.cells #[.bool q60, .func (.func 45) #[.agg #[.pointer (some ⟨bx, 0, none⟩), .int .i64 k, .pointer (some ⟨g, k * 89, none⟩), .pointer (some ⟨g, k * 89 + 22, none⟩), .pointer (some ⟨g, k * 89 + 6, none⟩)]] #[], .bool q71, .func (.func 46) #[.agg #[.pointer (some ⟨bx, 0, none⟩), .int .i64 k, .pointer (some ⟨g, k * 89, none⟩), .pointer (some ⟨g, k * 89 + 22, none⟩), .pointer (some ⟨g, k * 89 + 6, none⟩)]] #[], .bool q88, .func (.func 47) #[] #[.pointer (some ⟨gx, 0, none⟩), .pointer (some ⟨gf, 0, none⟩)], .bool q100, .func (.func 48) #[] #[.pointer (some ⟨gf, 0, none⟩)], .bool q109, .func (.func 49) #[] #[.pointer (some ⟨gs, 0, none⟩), .pointer (some ⟨gx, 0, none⟩)]] 61))) (n := 5) [(q60, .func (.func 45) #[.agg #[.pointer (some ⟨bx, 0, none⟩), .int .i64 k, .pointer (some ⟨g, k * 89, none⟩), .pointer (some ⟨g, k * 89 + 22, none⟩), .pointer (some ⟨g, k * 89 + 6, none⟩)]] #[]), (q71, .func (.func 46) #[.agg #[.pointer (some ⟨bx, 0, none⟩), .int .i64 k, .pointer (some ⟨g, k * 89, none⟩), .pointer (some ⟨g, k * 89 + 22, none⟩), .pointer (some ⟨g, k * 89 + 6, none⟩)]] #[]), (q88, .func (.func 47) #[] #[.pointer (some ⟨gx, 0, none⟩), .pointer (some ⟨gf, 0, none⟩)]), (q100, .func (.func 48) #[] #[.pointer (some ⟨gf, 0, none⟩)]), (q109, .func (.func 49) #[] #[.pointer (some ⟨gs, 0, none⟩), .pointer (some ⟨gx, 0, none⟩)])] (heap_alloc_new we _) rfl rfl (by omega) (ds := [(!p.b 26 && !p.b 42, upd (allB 42 ps) k (p.setB 42 true)), (onR b k p ps && !p.b 28, upd ps k ((p.setB 28 true).setI 7 (fwdN b p))), (onR b k p ps && p.b 28 && !p.b 26, upd ps k ((p.setI 7 0).setB 26 true)), (p.b 42 && p.b 26, upd ps k (p.setB 42 false)), (p.i 12 != b.r.i 5, upd ps k (p.setI 12 (b.r.i 5)))])
    ⟨⟨hr0, does_reroots (H3.out.below hE) hk hn⟩, ⟨hr1, does_learns (H3.out.below hE) hk⟩, ⟨hr2, does_root2 (H3.out.below hE) hk ((hE.block _ lx).trans HX3.out) ngx ((hE.cell (p := ⟨gf, 0, none⟩) lF).trans hFc) nF⟩, ⟨hr3, does_root3 (H3.out.below hE) hk ((hE.cell (p := ⟨gf, 0, none⟩) lF).trans hFc) nF⟩, ⟨hr4, does_root4 (H3.out.below hE) hk ((hE.block _ lx).trans HX3.out) ngx ((hE.cell (p := ⟨gs, 0, none⟩) lS).trans HS.out) nS⟩, trivial⟩)
  clear hR3 hr0 hr1 hr2 hr3 hr4
  refine wpAnyH_ready (rs := [67]) (by kernel_rfl) (by simp) (AllReadyH.cons rfl (fun K hK => ?_) AllReadyH.nil)
  rw [if_pos (by rfl)]
  refine wp_appendR (.tmp 48) (.tmp 112) rfl rfl rfl HF9.out HR.out.rows (by simp [setsL]) (by simp) (dd := some 113) (by kernel_rfl) ?_
  intro v9 w9 hv9 hb9
  refine hK.out _ _ (hE.trans (hb9.mono hE.size)) (fun hF => ?_)
  clear hK K
  simp only [List.getElem_toArray, List.getElem_cons_succ, List.getElem_cons_zero, Act.put, List.setIfInBounds_toArray, List.set_cons_zero, List.set_cons_succ]
  refine wpAnyH_ready (rs := [68]) (by kernel_rfl) (by simp) (AllReadyH.cons rfl (fun K hK => ?_) AllReadyH.nil)
  go_simp
  refine hK.out _ _ hF (fun _ => ?_)
  clear hK K
  refine wpAnyH_done (by kernel_rfl) ?_ _
  have HV9 := Lib.hid hv9
  clear hv9 HR HF9
  go_wp2_with fail
  go_ret
  exact ⟨v9, by kernel_rfl, HV9.out, HB3.out.trans (hF.mono HB3.out.size)⟩
end Go.Proofs.Ytdangeefecdbaaa.Br
