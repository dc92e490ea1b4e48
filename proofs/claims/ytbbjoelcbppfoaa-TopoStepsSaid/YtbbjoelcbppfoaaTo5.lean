/- Chapter 17: a step of the topology change machine (ford/topo.Step) as a plain function of the port. Conditions: the bridge lies in memory; there aren't very many ports; its times aren't very much; where something is to be flushed, the list of what is to be flushed isn't nil. -/
import Derived.Test.YtbbjoelcbppfoaaTo3
import Derived.Test.YtbbjoelcbppfoaaTo4
set_option linter.unusedSimpArgs false
set_option linter.unusedVariables false
namespace Go.Proofs.Ytbbjoelcbppfoaa.Br
open Go.RowKit
/-- Does a port count? -/
def countsF (p : Rec) : Bool := p.i 87 == 3 || p.i 87 == 4
/-- A step: the port, whether the others are told, whether its entries are to be flushed, whether it was a step. -/
def topoP (hl mx dl : Int) (p : Rec) : Rec × Bool × Bool × Bool :=
  if p.b 25 = true then (p.setB 25 false, false, true, true)
  else if p.i 21 = 0 ∧ p.b 28 = true then ((clear4 p).setI 21 1, false, false, true)
  else if p.i 21 = 1 then ((learnP hl mx dl (countsF p) p).1, (learnP hl mx dl (countsF p) p).2.1, false, (learnP hl mx dl (countsF p) p).2.2)
  else if p.i 21 = 2 then ((activeP hl mx dl (countsF p) p).1, (activeP hl mx dl (countsF p) p).2.1, false, (activeP hl mx dl (countsF p) p).2.2)
  else (p, false, false, false)
def topoB (b : Bri) (p : Rec) : Rec × Bool × Bool × Bool := topoP (b.r.i 4) (b.r.i 3) (b.r.i 5) p
def flN (f : Bool) (n : Nat) : Nat := if f = true then n + 1 else n
def flF (f : Bool) (n : Nat) (fs : Nat → Int) (k : Nat) : Nat → Int := if f = true then snocI n fs k else fs
/-- What is told of a step. -/
def Stepped (b : Bri) (ps ss : Nat → Rec) (fs : Nat → Int) (bx g k : Nat) (p : Rec) (w : World) (e : Ending) (w' : World) : Prop :=
  ∃ af cf, e = .returned (.bool (topoB b p).2.2.2) ∧ Bst w' bx g { b with af := af, nf := flN (topoB b p).2.2.1 b.nf, cf := cf } (upd (tellF (topoB b p).2.1 k ps) k (topoB b p).1) ss (flF (topoB b p).2.2.1 b.nf fs k) ∧
    Only (fun x => x = g ∨ x = bx) w w' ∧ (af = b.af ∨ ∃ g', af = some ⟨g', 0, none⟩ ∧ w.heap.size ≤ g')
theorem Stepped.mk {b : Bri} {ps ss : Nat → Rec} {fs : Nat → Int} {bx g k : Nat} {p : Rec} {w w' : World} (q : Rec) (t d : Bool) (h : topoB b p = (q, t, false, d)) (hb : Bst w' bx g b (upd (tellF t k ps) k q) ss fs) (ho : Only (· = g) w w') : Stepped b ps ss fs bx g k p w (.returned (.bool d)) w' := by
  refine ⟨b.af, b.cf, by rw [h], ?_, ho.mono (fun _ h => .inl h), .inl rfl⟩
  rw [h]
  exact hb
theorem free_block {w : World} {g : Nat} {C : Array Value} {T : TypeId} (h : w.heap[g]? = some (.cells C T (0, 0))) (j : Nat) : w.frozen? ⟨g, j, none⟩ = false := by
  simp [World.frozen?, h]
attribute [local go_sem] rowB_17 rowB_19
theorem newI (w : World) (k : Nat) (j : Nat) (u : Value) (hj : ([.int .i64 (k : Int)] : List Value)[j]? = some u) : (w.alloc (.cells #[.int .i64 k] 3)).cell? ((⟨w.heap.size, 0, none⟩ : Addr).add j) = some u := by
  match j, hj with
  | 0, hj =>
    rw [Addr.add_mid, Nat.zero_add, cells_of (heap_alloc_new _ _), ← hj]
    rfl
set_option maxRecDepth 100000 in
set_option maxHeartbeats 8000000 in
theorem step_any (w : World) (bx g k : Nat) (b : Bri) (ps ss : Nat → Rec) (fs : Nat → Int) (p : Rec) (h : Bst w bx g b (upd ps k p) ss fs) (hk : k < b.n) (hT : ∀ x, x < 3 → 0 ≤ b.r.i (3 + x) ∧ b.r.i (3 + x) ≤ 1000) (hn : b.n ≤ 1000) (hnf : b.nf ≤ 100000) (hF : p.b 25 = true → ∃ ga oa, b.af = some ⟨ga, oa, none⟩) : Calls Try.prog 13 #[.pointer (some ⟨bx, 0, none⟩), .int .i64 k] w (Stepped b ps ss fs bx g k p w) := by
  have b17 : w.cell? ⟨bx, 17, none⟩ = some (.slice (some ⟨g, 0, none⟩) b.n b.cp) := h.c17
  have hk0 : (0 : Int) ≤ k := by omega
  have hk1 : (k : Int) < b.n := by omega
  have HF := Lib.hid hF
  obtain ⟨iI, hiI, hzI, hsI, hbI⟩ := info_I
  have HI := Lib.hid (And.intro hiI (And.intro hzI (And.intro hsI hbI)))
  clear hF hiI hzI hsI hbI
  go_enter Try.func13, Try.ntmps13
  go_upto_region 3 with (fail)
  refine ((?_ : ∀ x, x = w.alloc (.cells #[.pointer (some ⟨bx, 0, none⟩), .int .i64 k, .pointer (some ⟨g, k * 89, none⟩), .pointer (some ⟨g, k * 89 + 22, none⟩)] 57) → Code.wp _ _ _ _ x) _ rfl)
  intro w1 hw1
  obtain ⟨gx, hgx⟩ : ∃ x, x = w.heap.size := ⟨_, rfl⟩
  rw [← hgx]
  have hX1 : w1.heap[gx]? = some (.cells #[.pointer (some ⟨bx, 0, none⟩), .int .i64 k, .pointer (some ⟨g, k * 89, none⟩), .pointer (some ⟨g, k * 89 + 22, none⟩)] 57 (0, 0)) := by rw [hw1, hgx]; exact heap_alloc_new _ _
  have h1 : Bst w1 bx g b (upd ps k p) ss fs := by rw [hw1]; exact h.below (more (Below.refl _ _) _)
  have ho1 : Only (· = g) w w1 := by rw [hw1]; exact (Only.refl _ _).alloc _
  have ngx : ¬ gx = g := by have := h.p.lt; omega
  have nxg : ¬ g = gx := by have := h.p.lt; omega
  have nxb : ¬ gx = bx := by have := h.lt; omega
  have H1 := Lib.hid h1
  have HO1 := Lib.hid ho1
  have lx := (Array.getElem?_eq_some_iff.1 hX1).1
  have HX1 := Lib.hid hX1
  clear hw1 hgx hX1 h1 ho1 h
  have x0 : w1.cell? ⟨gx, 0, none⟩ = some (.pointer (some ⟨bx, 0, none⟩)) := cells_of HX1.out 0
  have x1 : w1.cell? ⟨gx, 1, none⟩ = some (.int .i64 k) := cells_of HX1.out 1
  have x2 : w1.cell? ⟨gx, 2, none⟩ = some (.pointer (some ⟨g, k * 89, none⟩)) := cells_of HX1.out 2
  have x3 : w1.cell? ⟨gx, 3, none⟩ = some (.pointer (some ⟨g, k * 89 + 22, none⟩)) := cells_of HX1.out 3
  clear b17
  have c87 : w1.cell? ⟨g, k * 89 + 87, none⟩ = some (.int .i64 (p.i 87)) := (H1.out.p.cell hk (j := 87) (by omega)).trans (by rw [upd_same]; rfl)
  have c25 : w1.cell? ⟨g, k * 89 + 22 + 3, none⟩ = some (.bool (p.b 25)) := (H1.out.p.cell hk (j := 25) (by omega)).trans (by rw [upd_same]; rfl)
  have c21 : w1.cell? ⟨g, k * 89 + 15 + 6, none⟩ = some (.int .i64 (p.i 21)) := (H1.out.p.cell hk (j := 21) (by omega)).trans (by rw [upd_same]; rfl)
  have c28 : w1.cell? ⟨g, k * 89 + 22 + 6, none⟩ = some (.bool (p.b 28)) := (H1.out.p.cell hk (j := 28) (by omega)).trans (by rw [upd_same]; rfl)
  have f25 : w1.frozen? ⟨g, k * 89 + 22 + 3, none⟩ = false := H1.out.p.free _
  cases e3 : (p.i 87 == 3) with
  | true =>
    have e87 : p.i 87 = 3 := by simpa using e3
    rw [e87] at c87
    go_upto_region 4 with (fail)
    clear c87
    cases e25 : p.b 25 with
    | true =>
      rw [e25] at c25
      obtain ⟨ga, oa, haf⟩ := HF.out e25
      have d19 : w1.cell? ⟨bx, 19, none⟩ = some (.slice (some ⟨ga, oa, none⟩) b.nf b.cf) := by rw [← haf]; exact cells_of H1.out.h 19
      have hvf : View w1 (some ⟨ga, oa, none⟩) 1 b.nf (fun k _ => .int .i64 (fs k)) := by rw [← haf]; exact H1.out.f
      have Haf := Lib.hid haf
      have Hvf := Lib.hid hvf
      clear haf hvf
      go_wp2_with fail
      refine (sclone_any w1 ga oa b.nf b.cf fs Hvf.out hnf).mono ?_
      rintro e w2 ⟨g2, c2, rfl, hg2, ho2, hb2⟩
      have HOwn2 := Lib.hid ho2
      have Hb2 := Lib.hid hb2
      have hbl := H1.out.lt
      have hgl1 := H1.out.p.lt
      have hs2 := hb2.size
      clear ho2 hb2 d19
      go_upto_region 6 with (first | (at_builtin; refine wpList_onto rfl (.tmp 44) (.tmp 46) 31 rfl 3 iI _ 1 8 Try.underlying31 HI.out.1 HI.out.2.1 HI.out.2.2.1 HI.out.2.2.2 rfl (by decide) g2 b.nf c2 (b.nf + 1) (fun j _ => .int .i64 (fs j)) (fun j _ => .int .i64 (snocI b.nf fs k j)) rfl (HOwn2.out.of_block (Below.heap_alloc _ _ _ HOwn2.out.lt)) ⟨w2.heap.size, 0, none⟩ 1 1 [.int .i64 k] rfl rfl (newI w2 k) (by simp [Value.oneCell']) rfl (snocI_grid _ _ _) (by unfold maxLen; omega) (by omega) ?_; intro g4 c4 w4 hg4 ho4 hq4; simp only [Act.put, List.setIfInBounds_toArray, List.set_cons_zero, List.set_cons_succ]; have hb4 : Below w1.heap.size w1 w4 := (Hb2.out.alloc Hb2.out.size _).trans (hq4.below (by simp <;> omega) (fun k hk => by omega)); have b19 : w4.cell? ⟨bx, 19, none⟩ = some (.slice b.af b.nf b.cf) := cells_of (H1.out.below hb4).h 19; have bf19 : w4.frozen? ⟨bx, 19, none⟩ = false := free_block (H1.out.below hb4).h 19; have Hq4 := Lib.hid hq4; have HOwn4 := Lib.hid ho4; have Hb4 := Lib.hid hb4; clear hq4 ho4 hb4) | fail)
      refine ((?_ : ∀ x, x = w4.setCell ⟨bx, 19, none⟩ (.slice (some ⟨g4, 0, none⟩) (b.nf + 1) c4) → Code.wp _ _ _ _ x) _ rfl)
      intro w5 hw5
      have H5 := Lib.hid (show Bst w5 bx g { b with af := some ⟨g4, 0, none⟩, nf := b.nf + 1, cf := c4 } (upd ps k p) ss (snocI b.nf fs k) by rw [hw5]; exact (H1.out.below Hb4.out).flushed HOwn4.out (by omega) (by omega))
      have HO5 := Lib.hid (show Only (fun x => x = g ∨ x = bx) w w5 by rw [hw5]; exact ((HO1.out.mono (T := fun x => x = g ∨ x = bx) (fun _ h => Or.inl h)).trans (Only.of_below Hb4.out)).setCell (Or.inl (.inr rfl)) _)
      clear hw5 b19 bf19 c25 c21 c28 f25
      have hs1 := HO1.out.size
      have c25 : w5.cell? ⟨g, k * 89 + 22 + 3, none⟩ = some (.bool (p.b 25)) := (H5.out.p.cell hk (j := 25) (by omega)).trans (by rw [upd_same]; rfl)
      have f25 : w5.frozen? ⟨g, k * 89 + 22 + 3, none⟩ = false := H5.out.p.free _
      go_wp2_with fail
      go_ret
      refine ⟨some ⟨g4, 0, none⟩, c4, ?_, ?_, HO5.out.setCell (Or.inl (.inl rfl)) _, .inr ⟨g4, rfl, by omega⟩⟩
      · unfold topoB topoP
        simp [e25]
      · have e : topoB b p = (p.setB 25 false, false, true, true) := by unfold topoB topoP; simp [e25]
        rw [e]
        exact (H5.out).put (j := 25) (by omega) (rowP_put_25 _ _)
    | false =>
      rw [e25] at c25
      by_cases h0 : p.i 21 = 0
      · rw [h0] at c21
        cases e28 : p.b 28 with
        | true =>
          rw [e28] at c28
          go_wp2_with fail
          refine (clears_any w1 bx g k b ps ss fs p H1.out hk).mono ?_
          rintro e w2 ⟨rfl, h2, ho2⟩
          have H2 := Lib.hid h2
          have HO2 := Lib.hid (HO1.out.trans ho2)
          have HX2 := Lib.hid ((ho2.block _ (Array.getElem?_eq_some_iff.1 HX1.out).1 ngx).trans HX1.out)
          clear h2 ho2 c25 c21 c28 x0 x1 x2 x3
          have x0 : w2.cell? ⟨gx, 0, none⟩ = some (.pointer (some ⟨bx, 0, none⟩)) := cells_of HX2.out 0
          have x1 : w2.cell? ⟨gx, 1, none⟩ = some (.int .i64 k) := cells_of HX2.out 1
          have x2 : w2.cell? ⟨gx, 2, none⟩ = some (.pointer (some ⟨g, k * 89, none⟩)) := cells_of HX2.out 2
          have x3 : w2.cell? ⟨gx, 3, none⟩ = some (.pointer (some ⟨g, k * 89 + 22, none⟩)) := cells_of HX2.out 3
          go_wp2_with fail
          go_ret
          exact Stepped.mk ((clear4 p).setI 21 1) false true (by unfold topoB topoP; simp [countsF, e25, h0, e28, e87]) (H2.out) (HO2.out)
        | false =>
          rw [e28] at c28
          go_wp2_with fail
          go_ret
          exact Stepped.mk (p) false false (by unfold topoB topoP; simp [countsF, e25, h0, e28, e87]) (H1.out) (HO1.out)
      by_cases h1 : p.i 21 = 1
      · rw [h1] at c21
        go_wp2_with fail
        refine (learning_any w1 bx g k b ps ss fs p H1.out hk hT hn true).mono ?_
        rintro e w2 ⟨rfl, h2, ho2⟩
        have H2 := Lib.hid h2
        have HO2 := Lib.hid (HO1.out.trans ho2)
        have HX2 := Lib.hid ((ho2.block _ (Array.getElem?_eq_some_iff.1 HX1.out).1 ngx).trans HX1.out)
        clear h2 ho2 c25 c21 c28 x0 x1 x2 x3
        have x0 : w2.cell? ⟨gx, 0, none⟩ = some (.pointer (some ⟨bx, 0, none⟩)) := cells_of HX2.out 0
        have x1 : w2.cell? ⟨gx, 1, none⟩ = some (.int .i64 k) := cells_of HX2.out 1
        have x2 : w2.cell? ⟨gx, 2, none⟩ = some (.pointer (some ⟨g, k * 89, none⟩)) := cells_of HX2.out 2
        have x3 : w2.cell? ⟨gx, 3, none⟩ = some (.pointer (some ⟨g, k * 89 + 22, none⟩)) := cells_of HX2.out 3
        go_wp2_with fail
        go_ret
        exact Stepped.mk ((learnP (b.r.i 4) (b.r.i 3) (b.r.i 5) true p).1) (learnP (b.r.i 4) (b.r.i 3) (b.r.i 5) true p).2.1 (learnP (b.r.i 4) (b.r.i 3) (b.r.i 5) true p).2.2 (by unfold topoB topoP; simp [countsF, e25, h1, e87]) (H2.out) (HO2.out)
      by_cases h2 : p.i 21 = 2
      · rw [h2] at c21
        go_wp2_with fail
        refine (active_any w1 bx g k b ps ss fs p H1.out hk hT hn true).mono ?_
        rintro e w2 ⟨rfl, h2, ho2⟩
        have H2 := Lib.hid h2
        have HO2 := Lib.hid (HO1.out.trans ho2)
        have HX2 := Lib.hid ((ho2.block _ (Array.getElem?_eq_some_iff.1 HX1.out).1 ngx).trans HX1.out)
        clear h2 ho2 c25 c21 c28 x0 x1 x2 x3
        have x0 : w2.cell? ⟨gx, 0, none⟩ = some (.pointer (some ⟨bx, 0, none⟩)) := cells_of HX2.out 0
        have x1 : w2.cell? ⟨gx, 1, none⟩ = some (.int .i64 k) := cells_of HX2.out 1
        have x2 : w2.cell? ⟨gx, 2, none⟩ = some (.pointer (some ⟨g, k * 89, none⟩)) := cells_of HX2.out 2
        have x3 : w2.cell? ⟨gx, 3, none⟩ = some (.pointer (some ⟨g, k * 89 + 22, none⟩)) := cells_of HX2.out 3
        go_wp2_with fail
        go_ret
        exact Stepped.mk ((activeP (b.r.i 4) (b.r.i 3) (b.r.i 5) true p).1) (activeP (b.r.i 4) (b.r.i 3) (b.r.i 5) true p).2.1 (activeP (b.r.i 4) (b.r.i 3) (b.r.i 5) true p).2.2 (by unfold topoB topoP; simp [countsF, e25, h2, e87]) (H2.out) (HO2.out)
      have d0 : (p.i 21 == 0) = false := by simp [h0]
      have d1 : (p.i 21 == 1) = false := by simp [h1]
      have d2 : (p.i 21 == 2) = false := by simp [h2]
      go_wp2_with fail
      go_ret
      exact Stepped.mk (p) false false (by unfold topoB topoP; simp [countsF, e25, h0, h1, h2, e87]) (H1.out) (HO1.out)
  | false =>
    cases e4 : (p.i 87 == 4) with
    | true =>
      have e87 : p.i 87 = 4 := by simpa using e4
      rw [e87] at c87
      go_upto_region 4 with (fail)
      clear c87
      cases e25 : p.b 25 with
      | true =>
        rw [e25] at c25
        obtain ⟨ga, oa, haf⟩ := HF.out e25
        have d19 : w1.cell? ⟨bx, 19, none⟩ = some (.slice (some ⟨ga, oa, none⟩) b.nf b.cf) := by rw [← haf]; exact cells_of H1.out.h 19
        have hvf : View w1 (some ⟨ga, oa, none⟩) 1 b.nf (fun k _ => .int .i64 (fs k)) := by rw [← haf]; exact H1.out.f
        have Haf := Lib.hid haf
        have Hvf := Lib.hid hvf
        clear haf hvf
        go_wp2_with fail
        refine (sclone_any w1 ga oa b.nf b.cf fs Hvf.out hnf).mono ?_
        rintro e w2 ⟨g2, c2, rfl, hg2, ho2, hb2⟩
        have HOwn2 := Lib.hid ho2
        have Hb2 := Lib.hid hb2
        have hbl := H1.out.lt
        have hgl1 := H1.out.p.lt
        have hs2 := hb2.size
        clear ho2 hb2 d19
        go_upto_region 6 with (first | (at_builtin; refine wpList_onto rfl (.tmp 44) (.tmp 46) 31 rfl 3 iI _ 1 8 Try.underlying31 HI.out.1 HI.out.2.1 HI.out.2.2.1 HI.out.2.2.2 rfl (by decide) g2 b.nf c2 (b.nf + 1) (fun j _ => .int .i64 (fs j)) (fun j _ => .int .i64 (snocI b.nf fs k j)) rfl (HOwn2.out.of_block (Below.heap_alloc _ _ _ HOwn2.out.lt)) ⟨w2.heap.size, 0, none⟩ 1 1 [.int .i64 k] rfl rfl (newI w2 k) (by simp [Value.oneCell']) rfl (snocI_grid _ _ _) (by unfold maxLen; omega) (by omega) ?_; intro g4 c4 w4 hg4 ho4 hq4; simp only [Act.put, List.setIfInBounds_toArray, List.set_cons_zero, List.set_cons_succ]; have hb4 : Below w1.heap.size w1 w4 := (Hb2.out.alloc Hb2.out.size _).trans (hq4.below (by simp <;> omega) (fun k hk => by omega)); have b19 : w4.cell? ⟨bx, 19, none⟩ = some (.slice b.af b.nf b.cf) := cells_of (H1.out.below hb4).h 19; have bf19 : w4.frozen? ⟨bx, 19, none⟩ = false := free_block (H1.out.below hb4).h 19; have Hq4 := Lib.hid hq4; have HOwn4 := Lib.hid ho4; have Hb4 := Lib.hid hb4; clear hq4 ho4 hb4) | fail)
        refine ((?_ : ∀ x, x = w4.setCell ⟨bx, 19, none⟩ (.slice (some ⟨g4, 0, none⟩) (b.nf + 1) c4) → Code.wp _ _ _ _ x) _ rfl)
        intro w5 hw5
        have H5 := Lib.hid (show Bst w5 bx g { b with af := some ⟨g4, 0, none⟩, nf := b.nf + 1, cf := c4 } (upd ps k p) ss (snocI b.nf fs k) by rw [hw5]; exact (H1.out.below Hb4.out).flushed HOwn4.out (by omega) (by omega))
        have HO5 := Lib.hid (show Only (fun x => x = g ∨ x = bx) w w5 by rw [hw5]; exact ((HO1.out.mono (T := fun x => x = g ∨ x = bx) (fun _ h => Or.inl h)).trans (Only.of_below Hb4.out)).setCell (Or.inl (.inr rfl)) _)
        clear hw5 b19 bf19 c25 c21 c28 f25
        have hs1 := HO1.out.size
        have c25 : w5.cell? ⟨g, k * 89 + 22 + 3, none⟩ = some (.bool (p.b 25)) := (H5.out.p.cell hk (j := 25) (by omega)).trans (by rw [upd_same]; rfl)
        have f25 : w5.frozen? ⟨g, k * 89 + 22 + 3, none⟩ = false := H5.out.p.free _
        go_wp2_with fail
        go_ret
        refine ⟨some ⟨g4, 0, none⟩, c4, ?_, ?_, HO5.out.setCell (Or.inl (.inl rfl)) _, .inr ⟨g4, rfl, by omega⟩⟩
        · unfold topoB topoP
          simp [e25]
        · have e : topoB b p = (p.setB 25 false, false, true, true) := by unfold topoB topoP; simp [e25]
          rw [e]
          exact (H5.out).put (j := 25) (by omega) (rowP_put_25 _ _)
      | false =>
        rw [e25] at c25
        by_cases h0 : p.i 21 = 0
        · rw [h0] at c21
          cases e28 : p.b 28 with
          | true =>
            rw [e28] at c28
            go_wp2_with fail
            refine (clears_any w1 bx g k b ps ss fs p H1.out hk).mono ?_
            rintro e w2 ⟨rfl, h2, ho2⟩
            have H2 := Lib.hid h2
            have HO2 := Lib.hid (HO1.out.trans ho2)
            have HX2 := Lib.hid ((ho2.block _ (Array.getElem?_eq_some_iff.1 HX1.out).1 ngx).trans HX1.out)
            clear h2 ho2 c25 c21 c28 x0 x1 x2 x3
            have x0 : w2.cell? ⟨gx, 0, none⟩ = some (.pointer (some ⟨bx, 0, none⟩)) := cells_of HX2.out 0
            have x1 : w2.cell? ⟨gx, 1, none⟩ = some (.int .i64 k) := cells_of HX2.out 1
            have x2 : w2.cell? ⟨gx, 2, none⟩ = some (.pointer (some ⟨g, k * 89, none⟩)) := cells_of HX2.out 2
            have x3 : w2.cell? ⟨gx, 3, none⟩ = some (.pointer (some ⟨g, k * 89 + 22, none⟩)) := cells_of HX2.out 3
            go_wp2_with fail
            go_ret
            exact Stepped.mk ((clear4 p).setI 21 1) false true (by unfold topoB topoP; simp [countsF, e25, h0, e28, e87]) (H2.out) (HO2.out)
          | false =>
            rw [e28] at c28
            go_wp2_with fail
            go_ret
            exact Stepped.mk (p) false false (by unfold topoB topoP; simp [countsF, e25, h0, e28, e87]) (H1.out) (HO1.out)
        by_cases h1 : p.i 21 = 1
        · rw [h1] at c21
          go_wp2_with fail
          refine (learning_any w1 bx g k b ps ss fs p H1.out hk hT hn true).mono ?_
          rintro e w2 ⟨rfl, h2, ho2⟩
          have H2 := Lib.hid h2
          have HO2 := Lib.hid (HO1.out.trans ho2)
          have HX2 := Lib.hid ((ho2.block _ (Array.getElem?_eq_some_iff.1 HX1.out).1 ngx).trans HX1.out)
          clear h2 ho2 c25 c21 c28 x0 x1 x2 x3
          have x0 : w2.cell? ⟨gx, 0, none⟩ = some (.pointer (some ⟨bx, 0, none⟩)) := cells_of HX2.out 0
          have x1 : w2.cell? ⟨gx, 1, none⟩ = some (.int .i64 k) := cells_of HX2.out 1
          have x2 : w2.cell? ⟨gx, 2, none⟩ = some (.pointer (some ⟨g, k * 89, none⟩)) := cells_of HX2.out 2
          have x3 : w2.cell? ⟨gx, 3, none⟩ = some (.pointer (some ⟨g, k * 89 + 22, none⟩)) := cells_of HX2.out 3
          go_wp2_with fail
          go_ret
          exact Stepped.mk ((learnP (b.r.i 4) (b.r.i 3) (b.r.i 5) true p).1) (learnP (b.r.i 4) (b.r.i 3) (b.r.i 5) true p).2.1 (learnP (b.r.i 4) (b.r.i 3) (b.r.i 5) true p).2.2 (by unfold topoB topoP; simp [countsF, e25, h1, e87]) (H2.out) (HO2.out)
        by_cases h2 : p.i 21 = 2
        · rw [h2] at c21
          go_wp2_with fail
          refine (active_any w1 bx g k b ps ss fs p H1.out hk hT hn true).mono ?_
          rintro e w2 ⟨rfl, h2, ho2⟩
          have H2 := Lib.hid h2
          have HO2 := Lib.hid (HO1.out.trans ho2)
          have HX2 := Lib.hid ((ho2.block _ (Array.getElem?_eq_some_iff.1 HX1.out).1 ngx).trans HX1.out)
          clear h2 ho2 c25 c21 c28 x0 x1 x2 x3
          have x0 : w2.cell? ⟨gx, 0, none⟩ = some (.pointer (some ⟨bx, 0, none⟩)) := cells_of HX2.out 0
          have x1 : w2.cell? ⟨gx, 1, none⟩ = some (.int .i64 k) := cells_of HX2.out 1
          have x2 : w2.cell? ⟨gx, 2, none⟩ = some (.pointer (some ⟨g, k * 89, none⟩)) := cells_of HX2.out 2
          have x3 : w2.cell? ⟨gx, 3, none⟩ = some (.pointer (some ⟨g, k * 89 + 22, none⟩)) := cells_of HX2.out 3
          go_wp2_with fail
          go_ret
          exact Stepped.mk ((activeP (b.r.i 4) (b.r.i 3) (b.r.i 5) true p).1) (activeP (b.r.i 4) (b.r.i 3) (b.r.i 5) true p).2.1 (activeP (b.r.i 4) (b.r.i 3) (b.r.i 5) true p).2.2 (by unfold topoB topoP; simp [countsF, e25, h2, e87]) (H2.out) (HO2.out)
        have d0 : (p.i 21 == 0) = false := by simp [h0]
        have d1 : (p.i 21 == 1) = false := by simp [h1]
        have d2 : (p.i 21 == 2) = false := by simp [h2]
        go_wp2_with fail
        go_ret
        exact Stepped.mk (p) false false (by unfold topoB topoP; simp [countsF, e25, h0, h1, h2, e87]) (H1.out) (HO1.out)
    | false =>
      go_upto_region 4 with (fail)
      clear c87
      cases e25 : p.b 25 with
      | true =>
        rw [e25] at c25
        obtain ⟨ga, oa, haf⟩ := HF.out e25
        have d19 : w1.cell? ⟨bx, 19, none⟩ = some (.slice (some ⟨ga, oa, none⟩) b.nf b.cf) := by rw [← haf]; exact cells_of H1.out.h 19
        have hvf : View w1 (some ⟨ga, oa, none⟩) 1 b.nf (fun k _ => .int .i64 (fs k)) := by rw [← haf]; exact H1.out.f
        have Haf := Lib.hid haf
        have Hvf := Lib.hid hvf
        clear haf hvf
        go_wp2_with fail
        refine (sclone_any w1 ga oa b.nf b.cf fs Hvf.out hnf).mono ?_
        rintro e w2 ⟨g2, c2, rfl, hg2, ho2, hb2⟩
        have HOwn2 := Lib.hid ho2
        have Hb2 := Lib.hid hb2
        have hbl := H1.out.lt
        have hgl1 := H1.out.p.lt
        have hs2 := hb2.size
        clear ho2 hb2 d19
        go_upto_region 6 with (first | (at_builtin; refine wpList_onto rfl (.tmp 44) (.tmp 46) 31 rfl 3 iI _ 1 8 Try.underlying31 HI.out.1 HI.out.2.1 HI.out.2.2.1 HI.out.2.2.2 rfl (by decide) g2 b.nf c2 (b.nf + 1) (fun j _ => .int .i64 (fs j)) (fun j _ => .int .i64 (snocI b.nf fs k j)) rfl (HOwn2.out.of_block (Below.heap_alloc _ _ _ HOwn2.out.lt)) ⟨w2.heap.size, 0, none⟩ 1 1 [.int .i64 k] rfl rfl (newI w2 k) (by simp [Value.oneCell']) rfl (snocI_grid _ _ _) (by unfold maxLen; omega) (by omega) ?_; intro g4 c4 w4 hg4 ho4 hq4; simp only [Act.put, List.setIfInBounds_toArray, List.set_cons_zero, List.set_cons_succ]; have hb4 : Below w1.heap.size w1 w4 := (Hb2.out.alloc Hb2.out.size _).trans (hq4.below (by simp <;> omega) (fun k hk => by omega)); have b19 : w4.cell? ⟨bx, 19, none⟩ = some (.slice b.af b.nf b.cf) := cells_of (H1.out.below hb4).h 19; have bf19 : w4.frozen? ⟨bx, 19, none⟩ = false := free_block (H1.out.below hb4).h 19; have Hq4 := Lib.hid hq4; have HOwn4 := Lib.hid ho4; have Hb4 := Lib.hid hb4; clear hq4 ho4 hb4) | fail)
        refine ((?_ : ∀ x, x = w4.setCell ⟨bx, 19, none⟩ (.slice (some ⟨g4, 0, none⟩) (b.nf + 1) c4) → Code.wp _ _ _ _ x) _ rfl)
        intro w5 hw5
        have H5 := Lib.hid (show Bst w5 bx g { b with af := some ⟨g4, 0, none⟩, nf := b.nf + 1, cf := c4 } (upd ps k p) ss (snocI b.nf fs k) by rw [hw5]; exact (H1.out.below Hb4.out).flushed HOwn4.out (by omega) (by omega))
        have HO5 := Lib.hid (show Only (fun x => x = g ∨ x = bx) w w5 by rw [hw5]; exact ((HO1.out.mono (T := fun x => x = g ∨ x = bx) (fun _ h => Or.inl h)).trans (Only.of_below Hb4.out)).setCell (Or.inl (.inr rfl)) _)
        clear hw5 b19 bf19 c25 c21 c28 f25
        have hs1 := HO1.out.size
        have c25 : w5.cell? ⟨g, k * 89 + 22 + 3, none⟩ = some (.bool (p.b 25)) := (H5.out.p.cell hk (j := 25) (by omega)).trans (by rw [upd_same]; rfl)
        have f25 : w5.frozen? ⟨g, k * 89 + 22 + 3, none⟩ = false := H5.out.p.free _
        go_wp2_with fail
        go_ret
        refine ⟨some ⟨g4, 0, none⟩, c4, ?_, ?_, HO5.out.setCell (Or.inl (.inl rfl)) _, .inr ⟨g4, rfl, by omega⟩⟩
        · unfold topoB topoP
          simp [e25]
        · have e : topoB b p = (p.setB 25 false, false, true, true) := by unfold topoB topoP; simp [e25]
          rw [e]
          exact (H5.out).put (j := 25) (by omega) (rowP_put_25 _ _)
      | false =>
        rw [e25] at c25
        by_cases h0 : p.i 21 = 0
        · rw [h0] at c21
          cases e28 : p.b 28 with
          | true =>
            rw [e28] at c28
            go_wp2_with fail
            refine (clears_any w1 bx g k b ps ss fs p H1.out hk).mono ?_
            rintro e w2 ⟨rfl, h2, ho2⟩
            have H2 := Lib.hid h2
            have HO2 := Lib.hid (HO1.out.trans ho2)
            have HX2 := Lib.hid ((ho2.block _ (Array.getElem?_eq_some_iff.1 HX1.out).1 ngx).trans HX1.out)
            clear h2 ho2 c25 c21 c28 x0 x1 x2 x3
            have x0 : w2.cell? ⟨gx, 0, none⟩ = some (.pointer (some ⟨bx, 0, none⟩)) := cells_of HX2.out 0
            have x1 : w2.cell? ⟨gx, 1, none⟩ = some (.int .i64 k) := cells_of HX2.out 1
            have x2 : w2.cell? ⟨gx, 2, none⟩ = some (.pointer (some ⟨g, k * 89, none⟩)) := cells_of HX2.out 2
            have x3 : w2.cell? ⟨gx, 3, none⟩ = some (.pointer (some ⟨g, k * 89 + 22, none⟩)) := cells_of HX2.out 3
            go_wp2_with fail
            go_ret
            exact Stepped.mk ((clear4 p).setI 21 1) false true (by unfold topoB topoP; simp [countsF, e25, h0, e28, e3, e4]) (H2.out) (HO2.out)
          | false =>
            rw [e28] at c28
            go_wp2_with fail
            go_ret
            exact Stepped.mk (p) false false (by unfold topoB topoP; simp [countsF, e25, h0, e28, e3, e4]) (H1.out) (HO1.out)
        by_cases h1 : p.i 21 = 1
        · rw [h1] at c21
          go_wp2_with fail
          refine (learning_any w1 bx g k b ps ss fs p H1.out hk hT hn false).mono ?_
          rintro e w2 ⟨rfl, h2, ho2⟩
          have H2 := Lib.hid h2
          have HO2 := Lib.hid (HO1.out.trans ho2)
          have HX2 := Lib.hid ((ho2.block _ (Array.getElem?_eq_some_iff.1 HX1.out).1 ngx).trans HX1.out)
          clear h2 ho2 c25 c21 c28 x0 x1 x2 x3
          have x0 : w2.cell? ⟨gx, 0, none⟩ = some (.pointer (some ⟨bx, 0, none⟩)) := cells_of HX2.out 0
          have x1 : w2.cell? ⟨gx, 1, none⟩ = some (.int .i64 k) := cells_of HX2.out 1
          have x2 : w2.cell? ⟨gx, 2, none⟩ = some (.pointer (some ⟨g, k * 89, none⟩)) := cells_of HX2.out 2
          have x3 : w2.cell? ⟨gx, 3, none⟩ = some (.pointer (some ⟨g, k * 89 + 22, none⟩)) := cells_of HX2.out 3
          go_wp2_with fail
          go_ret
          exact Stepped.mk ((learnP (b.r.i 4) (b.r.i 3) (b.r.i 5) false p).1) (learnP (b.r.i 4) (b.r.i 3) (b.r.i 5) false p).2.1 (learnP (b.r.i 4) (b.r.i 3) (b.r.i 5) false p).2.2 (by unfold topoB topoP; simp [countsF, e25, h1, e3, e4]) (H2.out) (HO2.out)
        by_cases h2 : p.i 21 = 2
        · rw [h2] at c21
          go_wp2_with fail
          refine (active_any w1 bx g k b ps ss fs p H1.out hk hT hn false).mono ?_
          rintro e w2 ⟨rfl, h2, ho2⟩
          have H2 := Lib.hid h2
          have HO2 := Lib.hid (HO1.out.trans ho2)
          have HX2 := Lib.hid ((ho2.block _ (Array.getElem?_eq_some_iff.1 HX1.out).1 ngx).trans HX1.out)
          clear h2 ho2 c25 c21 c28 x0 x1 x2 x3
          have x0 : w2.cell? ⟨gx, 0, none⟩ = some (.pointer (some ⟨bx, 0, none⟩)) := cells_of HX2.out 0
          have x1 : w2.cell? ⟨gx, 1, none⟩ = some (.int .i64 k) := cells_of HX2.out 1
          have x2 : w2.cell? ⟨gx, 2, none⟩ = some (.pointer (some ⟨g, k * 89, none⟩)) := cells_of HX2.out 2
          have x3 : w2.cell? ⟨gx, 3, none⟩ = some (.pointer (some ⟨g, k * 89 + 22, none⟩)) := cells_of HX2.out 3
          go_wp2_with fail
          go_ret
          exact Stepped.mk ((activeP (b.r.i 4) (b.r.i 3) (b.r.i 5) false p).1) (activeP (b.r.i 4) (b.r.i 3) (b.r.i 5) false p).2.1 (activeP (b.r.i 4) (b.r.i 3) (b.r.i 5) false p).2.2 (by unfold topoB topoP; simp [countsF, e25, h2, e3, e4]) (H2.out) (HO2.out)
        have d0 : (p.i 21 == 0) = false := by simp [h0]
        have d1 : (p.i 21 == 1) = false := by simp [h1]
        have d2 : (p.i 21 == 2) = false := by simp [h2]
        go_wp2_with fail
        go_ret
        exact Stepped.mk (p) false false (by unfold topoB topoP; simp [countsF, e25, h0, h1, h2, e3, e4]) (H1.out) (HO1.out)
end Go.Proofs.Ytbbjoelcbppfoaa.Br
