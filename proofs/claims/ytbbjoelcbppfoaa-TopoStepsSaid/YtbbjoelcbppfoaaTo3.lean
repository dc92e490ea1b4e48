/- Chapter 17: what is done in a state, and a step of the machine (ford/topo.Step). Conditions: the bridge lies in memory; there aren't very many ports; its times aren't very much. -/
import Derived.Test.YtbbjoelcbppfoaaTo2
set_option linter.unusedSimpArgs false
set_option linter.unusedVariables false
namespace Go.Proofs.Ytbbjoelcbppfoaa.Br
open Go.RowKit
/-- What is done in TopoLearning: the port, whether the others are told, whether it was a step. -/
def learnP (hl mx dl : Int) (c : Bool) (p : Rec) : Rec × Bool × Bool :=
  if (c && (p.b 26 && !p.b 32)) = true then (((beginF hl mx dl p).setB 31 true).setI 21 2, true, true)
  else if (!c && (!p.b 28 && (!p.b 29 && !four4 p))) = true then ((((p.setB 25 true).setB 48 false).setI 13 0).setI 21 0, false, true)
  else if four4 p = true then ((clear4 p).setI 21 1, false, true)
  else (p, false, false)
/-- What is done in TopoActive. -/
def activeP (hl mx dl : Int) (c : Bool) (p : Rec) : Rec × Bool × Bool :=
  if (!c || p.b 32) = true then ((clear4 p).setI 21 1, false, true)
  else if p.b 41 = true then (noteF (beginF hl mx dl p), true, true)
  else if p.b 39 = true then (noteF p, true, true)
  else if p.b 49 = true then (((beginF hl mx dl p).setB 25 true).setB 49 false, false, true)
  else if p.b 40 = true then ((p.setI 13 0).setB 40 false, false, true)
  else (p, false, false)
/-- The ports, the others told or not. -/
def tellF (t : Bool) (k : Nat) (ps : Nat → Rec) : Nat → Rec := if t = true then toldF k ps else ps
theorem tellF_yes (k : Nat) (ps : Nat → Rec) : tellF true k ps = toldF k ps := rfl
theorem tellF_no (k : Nat) (ps : Nat → Rec) : tellF false k ps = ps := rfl
theorem Rec.setI_self (p : Rec) (j : Nat) : p.setI j (p.i j) = p := by
  cases p with
  | mk i b =>
    unfold Rec.setI
    simp only [Rec.mk.injEq, and_true]
    funext x
    by_cases h : x = j
    · rw [if_pos h, h]
    · rw [if_neg h]
theorem Rec.setB_self (p : Rec) (j : Nat) : p.setB j (p.b j) = p := by
  cases p with
  | mk i b =>
    unfold Rec.setB
    simp only [Rec.mk.injEq, true_and]
    funext x
    by_cases h : x = j
    · rw [if_pos h, h]
    · rw [if_neg h]
set_option maxRecDepth 100000 in
set_option maxHeartbeats 8000000 in
theorem learning_any (w : World) (bx g k : Nat) (b : Bri) (ps ss : Nat → Rec) (fs : Nat → Int) (p : Rec) (h : Bst w bx g b (upd ps k p) ss fs) (hk : k < b.n) (hT : ∀ x, x < 3 → 0 ≤ b.r.i (3 + x) ∧ b.r.i (3 + x) ≤ 1000) (hn : b.n ≤ 1000) (c : Bool) : Calls Try.prog 19 #[.agg #[.pointer (some ⟨bx, 0, none⟩), .int .i64 k, .pointer (some ⟨g, k * 89, none⟩), .pointer (some ⟨g, k * 89 + 22, none⟩)], .bool c] w fun e w' => e = .returned (.bool (learnP (b.r.i 4) (b.r.i 3) (b.r.i 5) c p).2.2) ∧ Bst w' bx g b (upd (tellF (learnP (b.r.i 4) (b.r.i 3) (b.r.i 5) c p).2.1 k ps) k (learnP (b.r.i 4) (b.r.i 3) (b.r.i 5) c p).1) ss fs ∧ Only (· = g) w w' := by
  obtain ⟨vv, hvv⟩ : ∃ x, x = learnP (b.r.i 4) (b.r.i 3) (b.r.i 5) c p := ⟨_, rfl⟩
  rw [← hvv]
  have HV := Lib.hid hvv
  clear hvv
  go_enter Try.func19, Try.ntmps19
  go_upto_region 1 with (fail)
  refine ((?_ : ∀ x, x = w.alloc (.cells #[.pointer (some ⟨bx, 0, none⟩), .int .i64 k, .pointer (some ⟨g, k * 89, none⟩), .pointer (some ⟨g, k * 89 + 22, none⟩)] 57) → Code.wp _ _ _ _ x) _ rfl)
  intro w1 hw1
  obtain ⟨gx, hgx⟩ : ∃ x, x = w.heap.size := ⟨_, rfl⟩
  rw [← hgx]
  have hX1 : w1.heap[gx]? = some (.cells #[.pointer (some ⟨bx, 0, none⟩), .int .i64 k, .pointer (some ⟨g, k * 89, none⟩), .pointer (some ⟨g, k * 89 + 22, none⟩)] 57 (0, 0)) := by rw [hw1, hgx]; exact heap_alloc_new _ _
  have h1 : Bst w1 bx g b (upd ps k p) ss fs := by rw [hw1]; exact h.below (more (Below.refl _ _) _)
  have ho1 : Only (· = g) w w1 := by rw [hw1]; exact (Only.refl _ _).alloc _
  have ngx : ¬ gx = g := by have := h.p.lt; omega
  have nxg : ¬ g = gx := by have := h.p.lt; omega
  have nxb : ¬ gx = bx := by have := h.lt; omega
  have H1 := Lib.hid h1
  have HO1 := Lib.hid ho1
  have lx := (Array.getElem?_eq_some_iff.1 hX1).1
  have HX1 := Lib.hid hX1
  clear hw1 hgx hX1 h1 ho1 h
  have x0 : w1.cell? ⟨gx, 0, none⟩ = some (.pointer (some ⟨bx, 0, none⟩)) := cells_of HX1.out 0
  have x1 : w1.cell? ⟨gx, 1, none⟩ = some (.int .i64 k) := cells_of HX1.out 1
  have x2 : w1.cell? ⟨gx, 2, none⟩ = some (.pointer (some ⟨g, k * 89, none⟩)) := cells_of HX1.out 2
  have x3 : w1.cell? ⟨gx, 3, none⟩ = some (.pointer (some ⟨g, k * 89 + 22, none⟩)) := cells_of HX1.out 3
  have c26 : w1.cell? ⟨g, k * 89 + 22 + 4, none⟩ = some (.bool (p.b 26)) := (H1.out.p.cell hk (j := 26) (by omega)).trans (by rw [upd_same]; rfl)
  have c32 : w1.cell? ⟨g, k * 89 + 22 + 10, none⟩ = some (.bool (p.b 32)) := (H1.out.p.cell hk (j := 32) (by omega)).trans (by rw [upd_same]; rfl)
  have c28 : w1.cell? ⟨g, k * 89 + 22 + 6, none⟩ = some (.bool (p.b 28)) := (H1.out.p.cell hk (j := 28) (by omega)).trans (by rw [upd_same]; rfl)
  have c29 : w1.cell? ⟨g, k * 89 + 22 + 7, none⟩ = some (.bool (p.b 29)) := (H1.out.p.cell hk (j := 29) (by omega)).trans (by rw [upd_same]; rfl)
  cases c with
  | true =>
    cases e26 : p.b 26 with
    | true =>
      rw [e26] at c26
      cases e32 : p.b 32 with
      | true =>
        rw [e32] at c32
        cases e4 : four4 p with
        | true =>
          have HE := Lib.hid (show vv = ((clear4 p).setI 21 1, false, true) by rw [HV.out]; unfold learnP; simp [e26, e32, e4])
          clear HV
          go_wp2_with fail
          refine (four_any w1 bx g k b ps ss fs p H1.out hk).mono ?_
          rw [e4]
          rintro e w2 ⟨rfl, h2, ho2⟩
          have H2 := Lib.hid h2
          have HO2 := Lib.hid (HO1.out.trans ho2)
          have HX2 := Lib.hid ((ho2.block _ (Array.getElem?_eq_some_iff.1 HX1.out).1 ngx).trans HX1.out)
          clear h2 ho2 c26 c32 c28 c29 x0 x1 x2 x3
          have x0 : w2.cell? ⟨gx, 0, none⟩ = some (.pointer (some ⟨bx, 0, none⟩)) := cells_of HX2.out 0
          have x1 : w2.cell? ⟨gx, 1, none⟩ = some (.int .i64 k) := cells_of HX2.out 1
          have x2 : w2.cell? ⟨gx, 2, none⟩ = some (.pointer (some ⟨g, k * 89, none⟩)) := cells_of HX2.out 2
          have x3 : w2.cell? ⟨gx, 3, none⟩ = some (.pointer (some ⟨g, k * 89 + 22, none⟩)) := cells_of HX2.out 3
          go_wp2_with fail
          refine (clears_any w2 bx g k b ps ss fs p H2.out hk).mono ?_
          rintro e w3 ⟨rfl, h3, ho3⟩
          have H3 := Lib.hid h3
          have HO3 := Lib.hid (HO2.out.trans ho3)
          have HX3 := Lib.hid ((ho3.block _ (Array.getElem?_eq_some_iff.1 HX2.out).1 ngx).trans HX2.out)
          clear h3 ho3 x0 x1 x2 x3
          have x0 : w3.cell? ⟨gx, 0, none⟩ = some (.pointer (some ⟨bx, 0, none⟩)) := cells_of HX3.out 0
          have x1 : w3.cell? ⟨gx, 1, none⟩ = some (.int .i64 k) := cells_of HX3.out 1
          have x2 : w3.cell? ⟨gx, 2, none⟩ = some (.pointer (some ⟨g, k * 89, none⟩)) := cells_of HX3.out 2
          have x3 : w3.cell? ⟨gx, 3, none⟩ = some (.pointer (some ⟨g, k * 89 + 22, none⟩)) := cells_of HX3.out 3
          go_wp2_with fail
          go_ret
          rw [HE.out]
          exact ⟨rfl, H3.out, HO3.out⟩
        | false =>
          have HE := Lib.hid (show vv = (p, false, false) by rw [HV.out]; unfold learnP; simp [e26, e32, e4])
          clear HV
          go_wp2_with fail
          refine (four_any w1 bx g k b ps ss fs p H1.out hk).mono ?_
          rw [e4]
          rintro e w2 ⟨rfl, h2, ho2⟩
          have H2 := Lib.hid h2
          have HO2 := Lib.hid (HO1.out.trans ho2)
          have HX2 := Lib.hid ((ho2.block _ (Array.getElem?_eq_some_iff.1 HX1.out).1 ngx).trans HX1.out)
          clear h2 ho2 c26 c32 c28 c29 x0 x1 x2 x3
          have x0 : w2.cell? ⟨gx, 0, none⟩ = some (.pointer (some ⟨bx, 0, none⟩)) := cells_of HX2.out 0
          have x1 : w2.cell? ⟨gx, 1, none⟩ = some (.int .i64 k) := cells_of HX2.out 1
          have x2 : w2.cell? ⟨gx, 2, none⟩ = some (.pointer (some ⟨g, k * 89, none⟩)) := cells_of HX2.out 2
          have x3 : w2.cell? ⟨gx, 3, none⟩ = some (.pointer (some ⟨g, k * 89 + 22, none⟩)) := cells_of HX2.out 3
          go_wp2_with fail
          go_ret
          rw [HE.out]
          exact ⟨rfl, H2.out, HO2.out⟩
      | false =>
        rw [e32] at c32
        have HE := Lib.hid (show vv = (((beginF (b.r.i 4) (b.r.i 3) (b.r.i 5) p).setB 31 true).setI 21 2, true, true) by rw [HV.out]; unfold learnP; simp [e26, e32])
        clear HV
        go_wp2_with fail
        refine (begins_any w1 bx g k b ps ss fs p H1.out hk hT).mono ?_
        rintro e w2 ⟨rfl, h2, ho2⟩
        have H2 := Lib.hid h2
        have HO2 := Lib.hid (HO1.out.trans ho2)
        have HX2 := Lib.hid ((ho2.block _ (Array.getElem?_eq_some_iff.1 HX1.out).1 ngx).trans HX1.out)
        clear h2 ho2 c26 c32 c28 c29 x0 x1 x2 x3
        have x0 : w2.cell? ⟨gx, 0, none⟩ = some (.pointer (some ⟨bx, 0, none⟩)) := cells_of HX2.out 0
        have x1 : w2.cell? ⟨gx, 1, none⟩ = some (.int .i64 k) := cells_of HX2.out 1
        have x2 : w2.cell? ⟨gx, 2, none⟩ = some (.pointer (some ⟨g, k * 89, none⟩)) := cells_of HX2.out 2
        have x3 : w2.cell? ⟨gx, 3, none⟩ = some (.pointer (some ⟨g, k * 89 + 22, none⟩)) := cells_of HX2.out 3
        go_wp2_with fail
        refine (told_any w2 bx g k b _ ss fs H2.out hn).mono ?_
        rw [told_upd]
        rintro e w3 ⟨rfl, h3, ho3⟩
        have H3 := Lib.hid h3
        have HO3 := Lib.hid (HO2.out.trans ho3)
        have HX3 := Lib.hid ((ho3.block _ (Array.getElem?_eq_some_iff.1 HX2.out).1 ngx).trans HX2.out)
        clear h3 ho3 x0 x1 x2 x3
        have x0 : w3.cell? ⟨gx, 0, none⟩ = some (.pointer (some ⟨bx, 0, none⟩)) := cells_of HX3.out 0
        have x1 : w3.cell? ⟨gx, 1, none⟩ = some (.int .i64 k) := cells_of HX3.out 1
        have x2 : w3.cell? ⟨gx, 2, none⟩ = some (.pointer (some ⟨g, k * 89, none⟩)) := cells_of HX3.out 2
        have x3 : w3.cell? ⟨gx, 3, none⟩ = some (.pointer (some ⟨g, k * 89 + 22, none⟩)) := cells_of HX3.out 3
        have c31 : w3.cell? ⟨g, k * 89 + 22 + 9, none⟩ = some (.bool ((beginF (b.r.i 4) (b.r.i 3) (b.r.i 5) p).b 31)) := (H3.out.p.cell hk (j := 31) (by omega)).trans (by rw [upd_same]; rfl)
        have c21 : w3.cell? ⟨g, k * 89 + 15 + 6, none⟩ = some (.int .i64 ((beginF (b.r.i 4) (b.r.i 3) (b.r.i 5) p).i 21)) := (H3.out.p.cell hk (j := 21) (by omega)).trans (by rw [upd_same]; rfl)
        have f31 : w3.frozen? ⟨g, k * 89 + 22 + 9, none⟩ = false := H3.out.p.free _
        have f21 : w3.frozen? ⟨g, k * 89 + 15 + 6, none⟩ = false := H3.out.p.free _
        go_wp2_with fail
        go_ret
        rw [HE.out]
        exact ⟨rfl, ((H3.out).put (j := 31) (by omega) (rowP_put_31 _ _)).put (j := 21) (by omega) (rowP_put_21 _ _), ((HO3.out).setCell (Or.inl rfl) _).setCell (Or.inl rfl) _⟩
    | false =>
      rw [e26] at c26
      cases e4 : four4 p with
      | true =>
        have HE := Lib.hid (show vv = ((clear4 p).setI 21 1, false, true) by rw [HV.out]; unfold learnP; simp [e26, e4])
        clear HV
        go_wp2_with fail
        refine (four_any w1 bx g k b ps ss fs p H1.out hk).mono ?_
        rw [e4]
        rintro e w2 ⟨rfl, h2, ho2⟩
        have H2 := Lib.hid h2
        have HO2 := Lib.hid (HO1.out.trans ho2)
        have HX2 := Lib.hid ((ho2.block _ (Array.getElem?_eq_some_iff.1 HX1.out).1 ngx).trans HX1.out)
        clear h2 ho2 c26 c32 c28 c29 x0 x1 x2 x3
        have x0 : w2.cell? ⟨gx, 0, none⟩ = some (.pointer (some ⟨bx, 0, none⟩)) := cells_of HX2.out 0
        have x1 : w2.cell? ⟨gx, 1, none⟩ = some (.int .i64 k) := cells_of HX2.out 1
        have x2 : w2.cell? ⟨gx, 2, none⟩ = some (.pointer (some ⟨g, k * 89, none⟩)) := cells_of HX2.out 2
        have x3 : w2.cell? ⟨gx, 3, none⟩ = some (.pointer (some ⟨g, k * 89 + 22, none⟩)) := cells_of HX2.out 3
        go_wp2_with fail
        refine (clears_any w2 bx g k b ps ss fs p H2.out hk).mono ?_
        rintro e w3 ⟨rfl, h3, ho3⟩
        have H3 := Lib.hid h3
        have HO3 := Lib.hid (HO2.out.trans ho3)
        have HX3 := Lib.hid ((ho3.block _ (Array.getElem?_eq_some_iff.1 HX2.out).1 ngx).trans HX2.out)
        clear h3 ho3 x0 x1 x2 x3
        have x0 : w3.cell? ⟨gx, 0, none⟩ = some (.pointer (some ⟨bx, 0, none⟩)) := cells_of HX3.out 0
        have x1 : w3.cell? ⟨gx, 1, none⟩ = some (.int .i64 k) := cells_of HX3.out 1
        have x2 : w3.cell? ⟨gx, 2, none⟩ = some (.pointer (some ⟨g, k * 89, none⟩)) := cells_of HX3.out 2
        have x3 : w3.cell? ⟨gx, 3, none⟩ = some (.pointer (some ⟨g, k * 89 + 22, none⟩)) := cells_of HX3.out 3
        go_wp2_with fail
        go_ret
        rw [HE.out]
        exact ⟨rfl, H3.out, HO3.out⟩
      | false =>
        have HE := Lib.hid (show vv = (p, false, false) by rw [HV.out]; unfold learnP; simp [e26, e4])
        clear HV
        go_wp2_with fail
        refine (four_any w1 bx g k b ps ss fs p H1.out hk).mono ?_
        rw [e4]
        rintro e w2 ⟨rfl, h2, ho2⟩
        have H2 := Lib.hid h2
        have HO2 := Lib.hid (HO1.out.trans ho2)
        have HX2 := Lib.hid ((ho2.block _ (Array.getElem?_eq_some_iff.1 HX1.out).1 ngx).trans HX1.out)
        clear h2 ho2 c26 c32 c28 c29 x0 x1 x2 x3
        have x0 : w2.cell? ⟨gx, 0, none⟩ = some (.pointer (some ⟨bx, 0, none⟩)) := cells_of HX2.out 0
        have x1 : w2.cell? ⟨gx, 1, none⟩ = some (.int .i64 k) := cells_of HX2.out 1
        have x2 : w2.cell? ⟨gx, 2, none⟩ = some (.pointer (some ⟨g, k * 89, none⟩)) := cells_of HX2.out 2
        have x3 : w2.cell? ⟨gx, 3, none⟩ = some (.pointer (some ⟨g, k * 89 + 22, none⟩)) := cells_of HX2.out 3
        go_wp2_with fail
        go_ret
        rw [HE.out]
        exact ⟨rfl, H2.out, HO2.out⟩
  | false =>
    cases e28 : p.b 28 with
    | true =>
      rw [e28] at c28
      cases e4 : four4 p with
      | true =>
        have HE := Lib.hid (show vv = ((clear4 p).setI 21 1, false, true) by rw [HV.out]; unfold learnP; simp [e28, e4])
        clear HV
        go_wp2_with fail
        refine (four_any w1 bx g k b ps ss fs p H1.out hk).mono ?_
        rw [e4]
        rintro e w2 ⟨rfl, h2, ho2⟩
        have H2 := Lib.hid h2
        have HO2 := Lib.hid (HO1.out.trans ho2)
        have HX2 := Lib.hid ((ho2.block _ (Array.getElem?_eq_some_iff.1 HX1.out).1 ngx).trans HX1.out)
        clear h2 ho2 c26 c32 c28 c29 x0 x1 x2 x3
        have x0 : w2.cell? ⟨gx, 0, none⟩ = some (.pointer (some ⟨bx, 0, none⟩)) := cells_of HX2.out 0
        have x1 : w2.cell? ⟨gx, 1, none⟩ = some (.int .i64 k) := cells_of HX2.out 1
        have x2 : w2.cell? ⟨gx, 2, none⟩ = some (.pointer (some ⟨g, k * 89, none⟩)) := cells_of HX2.out 2
        have x3 : w2.cell? ⟨gx, 3, none⟩ = some (.pointer (some ⟨g, k * 89 + 22, none⟩)) := cells_of HX2.out 3
        go_wp2_with fail
        refine (clears_any w2 bx g k b ps ss fs p H2.out hk).mono ?_
        rintro e w3 ⟨rfl, h3, ho3⟩
        have H3 := Lib.hid h3
        have HO3 := Lib.hid (HO2.out.trans ho3)
        have HX3 := Lib.hid ((ho3.block _ (Array.getElem?_eq_some_iff.1 HX2.out).1 ngx).trans HX2.out)
        clear h3 ho3 x0 x1 x2 x3
        have x0 : w3.cell? ⟨gx, 0, none⟩ = some (.pointer (some ⟨bx, 0, none⟩)) := cells_of HX3.out 0
        have x1 : w3.cell? ⟨gx, 1, none⟩ = some (.int .i64 k) := cells_of HX3.out 1
        have x2 : w3.cell? ⟨gx, 2, none⟩ = some (.pointer (some ⟨g, k * 89, none⟩)) := cells_of HX3.out 2
        have x3 : w3.cell? ⟨gx, 3, none⟩ = some (.pointer (some ⟨g, k * 89 + 22, none⟩)) := cells_of HX3.out 3
        go_wp2_with fail
        go_ret
        rw [HE.out]
        exact ⟨rfl, H3.out, HO3.out⟩
      | false =>
        have HE := Lib.hid (show vv = (p, false, false) by rw [HV.out]; unfold learnP; simp [e28, e4])
        clear HV
        go_wp2_with fail
        refine (four_any w1 bx g k b ps ss fs p H1.out hk).mono ?_
        rw [e4]
        rintro e w2 ⟨rfl, h2, ho2⟩
        have H2 := Lib.hid h2
        have HO2 := Lib.hid (HO1.out.trans ho2)
        have HX2 := Lib.hid ((ho2.block _ (Array.getElem?_eq_some_iff.1 HX1.out).1 ngx).trans HX1.out)
        clear h2 ho2 c26 c32 c28 c29 x0 x1 x2 x3
        have x0 : w2.cell? ⟨gx, 0, none⟩ = some (.pointer (some ⟨bx, 0, none⟩)) := cells_of HX2.out 0
        have x1 : w2.cell? ⟨gx, 1, none⟩ = some (.int .i64 k) := cells_of HX2.out 1
        have x2 : w2.cell? ⟨gx, 2, none⟩ = some (.pointer (some ⟨g, k * 89, none⟩)) := cells_of HX2.out 2
        have x3 : w2.cell? ⟨gx, 3, none⟩ = some (.pointer (some ⟨g, k * 89 + 22, none⟩)) := cells_of HX2.out 3
        go_wp2_with fail
        go_ret
        rw [HE.out]
        exact ⟨rfl, H2.out, HO2.out⟩
    | false =>
      rw [e28] at c28
      cases e29 : p.b 29 with
      | true =>
        rw [e29] at c29
        cases e4 : four4 p with
        | true =>
          have HE := Lib.hid (show vv = ((clear4 p).setI 21 1, false, true) by rw [HV.out]; unfold learnP; simp [e28, e29, e4])
          clear HV
          go_wp2_with fail
          refine (four_any w1 bx g k b ps ss fs p H1.out hk).mono ?_
          rw [e4]
          rintro e w2 ⟨rfl, h2, ho2⟩
          have H2 := Lib.hid h2
          have HO2 := Lib.hid (HO1.out.trans ho2)
          have HX2 := Lib.hid ((ho2.block _ (Array.getElem?_eq_some_iff.1 HX1.out).1 ngx).trans HX1.out)
          clear h2 ho2 c26 c32 c28 c29 x0 x1 x2 x3
          have x0 : w2.cell? ⟨gx, 0, none⟩ = some (.pointer (some ⟨bx, 0, none⟩)) := cells_of HX2.out 0
          have x1 : w2.cell? ⟨gx, 1, none⟩ = some (.int .i64 k) := cells_of HX2.out 1
          have x2 : w2.cell? ⟨gx, 2, none⟩ = some (.pointer (some ⟨g, k * 89, none⟩)) := cells_of HX2.out 2
          have x3 : w2.cell? ⟨gx, 3, none⟩ = some (.pointer (some ⟨g, k * 89 + 22, none⟩)) := cells_of HX2.out 3
          go_wp2_with fail
          refine (clears_any w2 bx g k b ps ss fs p H2.out hk).mono ?_
          rintro e w3 ⟨rfl, h3, ho3⟩
          have H3 := Lib.hid h3
          have HO3 := Lib.hid (HO2.out.trans ho3)
          have HX3 := Lib.hid ((ho3.block _ (Array.getElem?_eq_some_iff.1 HX2.out).1 ngx).trans HX2.out)
          clear h3 ho3 x0 x1 x2 x3
          have x0 : w3.cell? ⟨gx, 0, none⟩ = some (.pointer (some ⟨bx, 0, none⟩)) := cells_of HX3.out 0
          have x1 : w3.cell? ⟨gx, 1, none⟩ = some (.int .i64 k) := cells_of HX3.out 1
          have x2 : w3.cell? ⟨gx, 2, none⟩ = some (.pointer (some ⟨g, k * 89, none⟩)) := cells_of HX3.out 2
          have x3 : w3.cell? ⟨gx, 3, none⟩ = some (.pointer (some ⟨g, k * 89 + 22, none⟩)) := cells_of HX3.out 3
          go_wp2_with fail
          go_ret
          rw [HE.out]
          exact ⟨rfl, H3.out, HO3.out⟩
        | false =>
          have HE := Lib.hid (show vv = (p, false, false) by rw [HV.out]; unfold learnP; simp [e28, e29, e4])
          clear HV
          go_wp2_with fail
          refine (four_any w1 bx g k b ps ss fs p H1.out hk).mono ?_
          rw [e4]
          rintro e w2 ⟨rfl, h2, ho2⟩
          have H2 := Lib.hid h2
          have HO2 := Lib.hid (HO1.out.trans ho2)
          have HX2 := Lib.hid ((ho2.block _ (Array.getElem?_eq_some_iff.1 HX1.out).1 ngx).trans HX1.out)
          clear h2 ho2 c26 c32 c28 c29 x0 x1 x2 x3
          have x0 : w2.cell? ⟨gx, 0, none⟩ = some (.pointer (some ⟨bx, 0, none⟩)) := cells_of HX2.out 0
          have x1 : w2.cell? ⟨gx, 1, none⟩ = some (.int .i64 k) := cells_of HX2.out 1
          have x2 : w2.cell? ⟨gx, 2, none⟩ = some (.pointer (some ⟨g, k * 89, none⟩)) := cells_of HX2.out 2
          have x3 : w2.cell? ⟨gx, 3, none⟩ = some (.pointer (some ⟨g, k * 89 + 22, none⟩)) := cells_of HX2.out 3
          go_wp2_with fail
          go_ret
          rw [HE.out]
          exact ⟨rfl, H2.out, HO2.out⟩
      | false =>
        rw [e29] at c29
        cases e4 : four4 p with
        | true =>
          have HE := Lib.hid (show vv = ((clear4 p).setI 21 1, false, true) by rw [HV.out]; unfold learnP; simp [e28, e29, e4])
          clear HV
          go_wp2_with fail
          refine (four_any w1 bx g k b ps ss fs p H1.out hk).mono ?_
          rw [e4]
          rintro e w2 ⟨rfl, h2, ho2⟩
          have H2 := Lib.hid h2
          have HO2 := Lib.hid (HO1.out.trans ho2)
          have HX2 := Lib.hid ((ho2.block _ (Array.getElem?_eq_some_iff.1 HX1.out).1 ngx).trans HX1.out)
          clear h2 ho2 c26 c32 c28 c29 x0 x1 x2 x3
          have x0 : w2.cell? ⟨gx, 0, none⟩ = some (.pointer (some ⟨bx, 0, none⟩)) := cells_of HX2.out 0
          have x1 : w2.cell? ⟨gx, 1, none⟩ = some (.int .i64 k) := cells_of HX2.out 1
          have x2 : w2.cell? ⟨gx, 2, none⟩ = some (.pointer (some ⟨g, k * 89, none⟩)) := cells_of HX2.out 2
          have x3 : w2.cell? ⟨gx, 3, none⟩ = some (.pointer (some ⟨g, k * 89 + 22, none⟩)) := cells_of HX2.out 3
          go_wp2_with fail
          refine (four_any w2 bx g k b ps ss fs p H2.out hk).mono ?_
          rw [e4]
          rintro e w3 ⟨rfl, h3, ho3⟩
          have H3 := Lib.hid h3
          have HO3 := Lib.hid (HO2.out.trans ho3)
          have HX3 := Lib.hid ((ho3.block _ (Array.getElem?_eq_some_iff.1 HX2.out).1 ngx).trans HX2.out)
          clear h3 ho3 x0 x1 x2 x3
          have x0 : w3.cell? ⟨gx, 0, none⟩ = some (.pointer (some ⟨bx, 0, none⟩)) := cells_of HX3.out 0
          have x1 : w3.cell? ⟨gx, 1, none⟩ = some (.int .i64 k) := cells_of HX3.out 1
          have x2 : w3.cell? ⟨gx, 2, none⟩ = some (.pointer (some ⟨g, k * 89, none⟩)) := cells_of HX3.out 2
          have x3 : w3.cell? ⟨gx, 3, none⟩ = some (.pointer (some ⟨g, k * 89 + 22, none⟩)) := cells_of HX3.out 3
          go_wp2_with fail
          refine (clears_any w3 bx g k b ps ss fs p H3.out hk).mono ?_
          rintro e w4 ⟨rfl, h4, ho4⟩
          have H4 := Lib.hid h4
          have HO4 := Lib.hid (HO3.out.trans ho4)
          have HX4 := Lib.hid ((ho4.block _ (Array.getElem?_eq_some_iff.1 HX3.out).1 ngx).trans HX3.out)
          clear h4 ho4 x0 x1 x2 x3
          have x0 : w4.cell? ⟨gx, 0, none⟩ = some (.pointer (some ⟨bx, 0, none⟩)) := cells_of HX4.out 0
          have x1 : w4.cell? ⟨gx, 1, none⟩ = some (.int .i64 k) := cells_of HX4.out 1
          have x2 : w4.cell? ⟨gx, 2, none⟩ = some (.pointer (some ⟨g, k * 89, none⟩)) := cells_of HX4.out 2
          have x3 : w4.cell? ⟨gx, 3, none⟩ = some (.pointer (some ⟨g, k * 89 + 22, none⟩)) := cells_of HX4.out 3
          go_wp2_with fail
          go_ret
          rw [HE.out]
          exact ⟨rfl, H4.out, HO4.out⟩
        | false =>
          have HE := Lib.hid (show vv = ((((p.setB 25 true).setB 48 false).setI 13 0).setI 21 0, false, true) by rw [HV.out]; unfold learnP; simp [e28, e29, e4])
          clear HV
          go_wp2_with fail
          refine (four_any w1 bx g k b ps ss fs p H1.out hk).mono ?_
          rw [e4]
          rintro e w2 ⟨rfl, h2, ho2⟩
          have H2 := Lib.hid h2
          have HO2 := Lib.hid (HO1.out.trans ho2)
          have HX2 := Lib.hid ((ho2.block _ (Array.getElem?_eq_some_iff.1 HX1.out).1 ngx).trans HX1.out)
          clear h2 ho2 c26 c32 c28 c29 x0 x1 x2 x3
          have x0 : w2.cell? ⟨gx, 0, none⟩ = some (.pointer (some ⟨bx, 0, none⟩)) := cells_of HX2.out 0
          have x1 : w2.cell? ⟨gx, 1, none⟩ = some (.int .i64 k) := cells_of HX2.out 1
          have x2 : w2.cell? ⟨gx, 2, none⟩ = some (.pointer (some ⟨g, k * 89, none⟩)) := cells_of HX2.out 2
          have x3 : w2.cell? ⟨gx, 3, none⟩ = some (.pointer (some ⟨g, k * 89 + 22, none⟩)) := cells_of HX2.out 3
          have c25 : w2.cell? ⟨g, k * 89 + 22 + 3, none⟩ = some (.bool ((p).b 25)) := (H2.out.p.cell hk (j := 25) (by omega)).trans (by rw [upd_same]; rfl)
          have c48 : w2.cell? ⟨g, k * 89 + 22 + 26, none⟩ = some (.bool ((p).b 48)) := (H2.out.p.cell hk (j := 48) (by omega)).trans (by rw [upd_same]; rfl)
          have c13 : w2.cell? ⟨g, k * 89 + 6 + 7, none⟩ = some (.int .i64 ((p).i 13)) := (H2.out.p.cell hk (j := 13) (by omega)).trans (by rw [upd_same]; rfl)
          have c21 : w2.cell? ⟨g, k * 89 + 15 + 6, none⟩ = some (.int .i64 ((p).i 21)) := (H2.out.p.cell hk (j := 21) (by omega)).trans (by rw [upd_same]; rfl)
          have f25 : w2.frozen? ⟨g, k * 89 + 22 + 3, none⟩ = false := H2.out.p.free _
          have f48 : w2.frozen? ⟨g, k * 89 + 22 + 26, none⟩ = false := H2.out.p.free _
          have f13 : w2.frozen? ⟨g, k * 89 + 6 + 7, none⟩ = false := H2.out.p.free _
          have f21 : w2.frozen? ⟨g, k * 89 + 15 + 6, none⟩ = false := H2.out.p.free _
          go_wp2_with fail
          go_ret
          rw [HE.out]
          exact ⟨rfl, ((((H2.out).put (j := 25) (by omega) (rowP_put_25 _ _)).put (j := 48) (by omega) (rowP_put_48 _ _)).put (j := 13) (by omega) (rowP_put_13 _ _)).put (j := 21) (by omega) (rowP_put_21 _ _), ((((HO2.out).setCell (Or.inl rfl) _).setCell (Or.inl rfl) _).setCell (Or.inl rfl) _).setCell (Or.inl rfl) _⟩
set_option maxRecDepth 100000 in
set_option maxHeartbeats 8000000 in
theorem active_any (w : World) (bx g k : Nat) (b : Bri) (ps ss : Nat → Rec) (fs : Nat → Int) (p : Rec) (h : Bst w bx g b (upd ps k p) ss fs) (hk : k < b.n) (hT : ∀ x, x < 3 → 0 ≤ b.r.i (3 + x) ∧ b.r.i (3 + x) ≤ 1000) (hn : b.n ≤ 1000) (c : Bool) : Calls Try.prog 20 #[.agg #[.pointer (some ⟨bx, 0, none⟩), .int .i64 k, .pointer (some ⟨g, k * 89, none⟩), .pointer (some ⟨g, k * 89 + 22, none⟩)], .bool c] w fun e w' => e = .returned (.bool (activeP (b.r.i 4) (b.r.i 3) (b.r.i 5) c p).2.2) ∧ Bst w' bx g b (upd (tellF (activeP (b.r.i 4) (b.r.i 3) (b.r.i 5) c p).2.1 k ps) k (activeP (b.r.i 4) (b.r.i 3) (b.r.i 5) c p).1) ss fs ∧ Only (· = g) w w' := by
  obtain ⟨vv, hvv⟩ : ∃ x, x = activeP (b.r.i 4) (b.r.i 3) (b.r.i 5) c p := ⟨_, rfl⟩
  rw [← hvv]
  have HV := Lib.hid hvv
  clear hvv
  go_enter Try.func20, Try.ntmps20
  go_upto_region 1 with (fail)
  refine ((?_ : ∀ x, x = w.alloc (.cells #[.pointer (some ⟨bx, 0, none⟩), .int .i64 k, .pointer (some ⟨g, k * 89, none⟩), .pointer (some ⟨g, k * 89 + 22, none⟩)] 57) → Code.wp _ _ _ _ x) _ rfl)
  intro w1 hw1
  obtain ⟨gx, hgx⟩ : ∃ x, x = w.heap.size := ⟨_, rfl⟩
  rw [← hgx]
  have hX1 : w1.heap[gx]? = some (.cells #[.pointer (some ⟨bx, 0, none⟩), .int .i64 k, .pointer (some ⟨g, k * 89, none⟩), .pointer (some ⟨g, k * 89 + 22, none⟩)] 57 (0, 0)) := by rw [hw1, hgx]; exact heap_alloc_new _ _
  have h1 : Bst w1 bx g b (upd ps k p) ss fs := by rw [hw1]; exact h.below (more (Below.refl _ _) _)
  have ho1 : Only (· = g) w w1 := by rw [hw1]; exact (Only.refl _ _).alloc _
  have ngx : ¬ gx = g := by have := h.p.lt; omega
  have nxg : ¬ g = gx := by have := h.p.lt; omega
  have nxb : ¬ gx = bx := by have := h.lt; omega
  have H1 := Lib.hid h1
  have HO1 := Lib.hid ho1
  have lx := (Array.getElem?_eq_some_iff.1 hX1).1
  have HX1 := Lib.hid hX1
  clear hw1 hgx hX1 h1 ho1 h
  have x0 : w1.cell? ⟨gx, 0, none⟩ = some (.pointer (some ⟨bx, 0, none⟩)) := cells_of HX1.out 0
  have x1 : w1.cell? ⟨gx, 1, none⟩ = some (.int .i64 k) := cells_of HX1.out 1
  have x2 : w1.cell? ⟨gx, 2, none⟩ = some (.pointer (some ⟨g, k * 89, none⟩)) := cells_of HX1.out 2
  have x3 : w1.cell? ⟨gx, 3, none⟩ = some (.pointer (some ⟨g, k * 89 + 22, none⟩)) := cells_of HX1.out 3
  have c32 : w1.cell? ⟨g, k * 89 + 22 + 10, none⟩ = some (.bool (p.b 32)) := (H1.out.p.cell hk (j := 32) (by omega)).trans (by rw [upd_same]; rfl)
  have c41 : w1.cell? ⟨g, k * 89 + 22 + 19, none⟩ = some (.bool (p.b 41)) := (H1.out.p.cell hk (j := 41) (by omega)).trans (by rw [upd_same]; rfl)
  have c39 : w1.cell? ⟨g, k * 89 + 22 + 17, none⟩ = some (.bool (p.b 39)) := (H1.out.p.cell hk (j := 39) (by omega)).trans (by rw [upd_same]; rfl)
  have c49 : w1.cell? ⟨g, k * 89 + 22 + 27, none⟩ = some (.bool (p.b 49)) := (H1.out.p.cell hk (j := 49) (by omega)).trans (by rw [upd_same]; rfl)
  have c40 : w1.cell? ⟨g, k * 89 + 22 + 18, none⟩ = some (.bool (p.b 40)) := (H1.out.p.cell hk (j := 40) (by omega)).trans (by rw [upd_same]; rfl)
  have c13 : w1.cell? ⟨g, k * 89 + 6 + 7, none⟩ = some (.int .i64 (p.i 13)) := (H1.out.p.cell hk (j := 13) (by omega)).trans (by rw [upd_same]; rfl)
  have f13 : w1.frozen? ⟨g, k * 89 + 6 + 7, none⟩ = false := H1.out.p.free _
  have f40 : w1.frozen? ⟨g, k * 89 + 22 + 18, none⟩ = false := H1.out.p.free _
  cases c with
  | false =>
    have HE := Lib.hid (show vv = ((clear4 p).setI 21 1, false, true) by rw [HV.out]; unfold activeP; simp [])
    clear HV
    go_wp2_with fail
    refine (clears_any w1 bx g k b ps ss fs p H1.out hk).mono ?_
    rintro e w2 ⟨rfl, h2, ho2⟩
    have H2 := Lib.hid h2
    have HO2 := Lib.hid (HO1.out.trans ho2)
    have HX2 := Lib.hid ((ho2.block _ (Array.getElem?_eq_some_iff.1 HX1.out).1 ngx).trans HX1.out)
    clear h2 ho2 c32 c41 c39 c49 c40 c13 f13 f40 x0 x1 x2 x3
    have x0 : w2.cell? ⟨gx, 0, none⟩ = some (.pointer (some ⟨bx, 0, none⟩)) := cells_of HX2.out 0
    have x1 : w2.cell? ⟨gx, 1, none⟩ = some (.int .i64 k) := cells_of HX2.out 1
    have x2 : w2.cell? ⟨gx, 2, none⟩ = some (.pointer (some ⟨g, k * 89, none⟩)) := cells_of HX2.out 2
    have x3 : w2.cell? ⟨gx, 3, none⟩ = some (.pointer (some ⟨g, k * 89 + 22, none⟩)) := cells_of HX2.out 3
    go_wp2_with fail
    go_ret
    rw [HE.out]
    exact ⟨rfl, H2.out, HO2.out⟩
  | true =>
    cases e32 : p.b 32 with
    | true =>
      rw [e32] at c32
      have HE := Lib.hid (show vv = ((clear4 p).setI 21 1, false, true) by rw [HV.out]; unfold activeP; simp [e32])
      clear HV
      go_wp2_with fail
      refine (clears_any w1 bx g k b ps ss fs p H1.out hk).mono ?_
      rintro e w2 ⟨rfl, h2, ho2⟩
      have H2 := Lib.hid h2
      have HO2 := Lib.hid (HO1.out.trans ho2)
      have HX2 := Lib.hid ((ho2.block _ (Array.getElem?_eq_some_iff.1 HX1.out).1 ngx).trans HX1.out)
      clear h2 ho2 c32 c41 c39 c49 c40 c13 f13 f40 x0 x1 x2 x3
      have x0 : w2.cell? ⟨gx, 0, none⟩ = some (.pointer (some ⟨bx, 0, none⟩)) := cells_of HX2.out 0
      have x1 : w2.cell? ⟨gx, 1, none⟩ = some (.int .i64 k) := cells_of HX2.out 1
      have x2 : w2.cell? ⟨gx, 2, none⟩ = some (.pointer (some ⟨g, k * 89, none⟩)) := cells_of HX2.out 2
      have x3 : w2.cell? ⟨gx, 3, none⟩ = some (.pointer (some ⟨g, k * 89 + 22, none⟩)) := cells_of HX2.out 3
      go_wp2_with fail
      go_ret
      rw [HE.out]
      exact ⟨rfl, H2.out, HO2.out⟩
    | false =>
      rw [e32] at c32
      cases e41 : p.b 41 with
      | true =>
        rw [e41] at c41
        have HE := Lib.hid (show vv = (noteF (beginF (b.r.i 4) (b.r.i 3) (b.r.i 5) p), true, true) by rw [HV.out]; unfold activeP; simp [e32, e41])
        clear HV
        go_wp2_with fail
        refine (begins_any w1 bx g k b ps ss fs p H1.out hk hT).mono ?_
        rintro e w2 ⟨rfl, h2, ho2⟩
        have H2 := Lib.hid h2
        have HO2 := Lib.hid (HO1.out.trans ho2)
        have HX2 := Lib.hid ((ho2.block _ (Array.getElem?_eq_some_iff.1 HX1.out).1 ngx).trans HX1.out)
        clear h2 ho2 c32 c41 c39 c49 c40 c13 f13 f40 x0 x1 x2 x3
        have x0 : w2.cell? ⟨gx, 0, none⟩ = some (.pointer (some ⟨bx, 0, none⟩)) := cells_of HX2.out 0
        have x1 : w2.cell? ⟨gx, 1, none⟩ = some (.int .i64 k) := cells_of HX2.out 1
        have x2 : w2.cell? ⟨gx, 2, none⟩ = some (.pointer (some ⟨g, k * 89, none⟩)) := cells_of HX2.out 2
        have x3 : w2.cell? ⟨gx, 3, none⟩ = some (.pointer (some ⟨g, k * 89 + 22, none⟩)) := cells_of HX2.out 3
        go_wp2_with fail
        refine (notes_any w2 bx g k b ps ss fs (beginF (b.r.i 4) (b.r.i 3) (b.r.i 5) p) H2.out hk hn).mono ?_
        rintro e w3 ⟨rfl, h3, ho3⟩
        have H3 := Lib.hid h3
        have HO3 := Lib.hid (HO2.out.trans ho3)
        have HX3 := Lib.hid ((ho3.block _ (Array.getElem?_eq_some_iff.1 HX2.out).1 ngx).trans HX2.out)
        clear h3 ho3 x0 x1 x2 x3
        have x0 : w3.cell? ⟨gx, 0, none⟩ = some (.pointer (some ⟨bx, 0, none⟩)) := cells_of HX3.out 0
        have x1 : w3.cell? ⟨gx, 1, none⟩ = some (.int .i64 k) := cells_of HX3.out 1
        have x2 : w3.cell? ⟨gx, 2, none⟩ = some (.pointer (some ⟨g, k * 89, none⟩)) := cells_of HX3.out 2
        have x3 : w3.cell? ⟨gx, 3, none⟩ = some (.pointer (some ⟨g, k * 89 + 22, none⟩)) := cells_of HX3.out 3
        go_wp2_with fail
        go_ret
        rw [HE.out]
        exact ⟨rfl, H3.out, HO3.out⟩
      | false =>
        rw [e41] at c41
        cases e39 : p.b 39 with
        | true =>
          rw [e39] at c39
          have HE := Lib.hid (show vv = (noteF p, true, true) by rw [HV.out]; unfold activeP; simp [e32, e41, e39])
          clear HV
          go_wp2_with fail
          refine (notes_any w1 bx g k b ps ss fs (p) H1.out hk hn).mono ?_
          rintro e w2 ⟨rfl, h2, ho2⟩
          have H2 := Lib.hid h2
          have HO2 := Lib.hid (HO1.out.trans ho2)
          have HX2 := Lib.hid ((ho2.block _ (Array.getElem?_eq_some_iff.1 HX1.out).1 ngx).trans HX1.out)
          clear h2 ho2 c32 c41 c39 c49 c40 c13 f13 f40 x0 x1 x2 x3
          have x0 : w2.cell? ⟨gx, 0, none⟩ = some (.pointer (some ⟨bx, 0, none⟩)) := cells_of HX2.out 0
          have x1 : w2.cell? ⟨gx, 1, none⟩ = some (.int .i64 k) := cells_of HX2.out 1
          have x2 : w2.cell? ⟨gx, 2, none⟩ = some (.pointer (some ⟨g, k * 89, none⟩)) := cells_of HX2.out 2
          have x3 : w2.cell? ⟨gx, 3, none⟩ = some (.pointer (some ⟨g, k * 89 + 22, none⟩)) := cells_of HX2.out 3
          go_wp2_with fail
          go_ret
          rw [HE.out]
          exact ⟨rfl, H2.out, HO2.out⟩
        | false =>
          rw [e39] at c39
          cases e49 : p.b 49 with
          | true =>
            rw [e49] at c49
            have HE := Lib.hid (show vv = (((beginF (b.r.i 4) (b.r.i 3) (b.r.i 5) p).setB 25 true).setB 49 false, false, true) by rw [HV.out]; unfold activeP; simp [e32, e41, e39, e49])
            clear HV
            go_wp2_with fail
            refine (begins_any w1 bx g k b ps ss fs p H1.out hk hT).mono ?_
            rintro e w2 ⟨rfl, h2, ho2⟩
            have H2 := Lib.hid h2
            have HO2 := Lib.hid (HO1.out.trans ho2)
            have HX2 := Lib.hid ((ho2.block _ (Array.getElem?_eq_some_iff.1 HX1.out).1 ngx).trans HX1.out)
            clear h2 ho2 c32 c41 c39 c49 c40 c13 f13 f40 x0 x1 x2 x3
            have x0 : w2.cell? ⟨gx, 0, none⟩ = some (.pointer (some ⟨bx, 0, none⟩)) := cells_of HX2.out 0
            have x1 : w2.cell? ⟨gx, 1, none⟩ = some (.int .i64 k) := cells_of HX2.out 1
            have x2 : w2.cell? ⟨gx, 2, none⟩ = some (.pointer (some ⟨g, k * 89, none⟩)) := cells_of HX2.out 2
            have x3 : w2.cell? ⟨gx, 3, none⟩ = some (.pointer (some ⟨g, k * 89 + 22, none⟩)) := cells_of HX2.out 3
            have c25 : w2.cell? ⟨g, k * 89 + 22 + 3, none⟩ = some (.bool ((beginF (b.r.i 4) (b.r.i 3) (b.r.i 5) p).b 25)) := (H2.out.p.cell hk (j := 25) (by omega)).trans (by rw [upd_same]; rfl)
            have c49 : w2.cell? ⟨g, k * 89 + 22 + 27, none⟩ = some (.bool ((beginF (b.r.i 4) (b.r.i 3) (b.r.i 5) p).b 49)) := (H2.out.p.cell hk (j := 49) (by omega)).trans (by rw [upd_same]; rfl)
            have f25 : w2.frozen? ⟨g, k * 89 + 22 + 3, none⟩ = false := H2.out.p.free _
            have f49 : w2.frozen? ⟨g, k * 89 + 22 + 27, none⟩ = false := H2.out.p.free _
            go_wp2_with fail
            go_ret
            rw [HE.out]
            exact ⟨rfl, ((H2.out).put (j := 25) (by omega) (rowP_put_25 _ _)).put (j := 49) (by omega) (rowP_put_49 _ _), ((HO2.out).setCell (Or.inl rfl) _).setCell (Or.inl rfl) _⟩
          | false =>
            rw [e49] at c49
            cases e40 : p.b 40 with
            | true =>
              rw [e40] at c40
              have HE := Lib.hid (show vv = ((p.setI 13 0).setB 40 false, false, true) by rw [HV.out]; unfold activeP; simp [e32, e41, e39, e49, e40])
              clear HV
              go_wp2_with fail
              go_ret
              rw [HE.out]
              exact ⟨rfl, ((H1.out).put (j := 13) (by omega) (rowP_put_13 _ _)).put (j := 40) (by omega) (rowP_put_40 _ _), ((HO1.out).setCell (Or.inl rfl) _).setCell (Or.inl rfl) _⟩
            | false =>
              rw [e40] at c40
              have HE := Lib.hid (show vv = (p, false, false) by rw [HV.out]; unfold activeP; simp [e32, e41, e39, e49, e40])
              clear HV
              go_wp2_with fail
              go_ret
              rw [HE.out]
              exact ⟨rfl, H1.out, HO1.out⟩
end Go.Proofs.Ytbbjoelcbppfoaa.Br
