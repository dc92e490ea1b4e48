/- Chapter 17: the document's step (ford/fordref17.Step): the same plain function of the port. Conditions: as the program's step's. -/
import Derived.Test.YtbbjoelcbppfoaaTo5
set_option linter.unusedSimpArgs false
set_option linter.unusedVariables false
namespace Go.Proofs.Ytbbjoelcbppfoaa.Br
open Go.RowKit
theorem begin_87 (h m d : Int) (p : Rec) : (beginF h m d p).i 87 = p.i 87 := by
  unfold beginF
  split
  · rfl
  · split <;> rfl
theorem begin_48 (h m d : Int) (p : Rec) : (beginF h m d p).b 48 = p.b 48 := by
  unfold beginF
  split
  · rfl
  · split <;> rfl
theorem note_yes (q : Rec) (h : (q.i 87 == 4) = true) : noteF q = ((q.setB 39 false).setB 41 false).setB 48 true := by
  unfold noteF
  rw [h, Bool.or_true]
theorem note_no (q : Rec) (h : (q.i 87 == 4) = false) : noteF q = (q.setB 39 false).setB 41 false := by
  unfold noteF
  rw [h, Bool.or_false]
  exact Rec.setB_self ((q.setB 39 false).setB 41 false) 48
theorem clear_self (p : Rec) (h : p.i 21 = 1) : (clear4 p).setI 21 1 = clear4 p := by
  have e : (clear4 p).i 21 = 1 := h
  have := Rec.setI_self (clear4 p) 21
  rw [e] at this
  exact this
attribute [local go_sem] rowB_17 rowB_19
set_option maxRecDepth 100000 in
set_option maxHeartbeats 16000000 in
theorem refstep_any (w : World) (bx g k : Nat) (b : Bri) (ps ss : Nat → Rec) (fs : Nat → Int) (p : Rec) (h : Bst w bx g b (upd ps k p) ss fs) (hk : k < b.n) (hT : ∀ x, x < 3 → 0 ≤ b.r.i (3 + x) ∧ b.r.i (3 + x) ≤ 1000) (hn : b.n ≤ 1000) (hnf : b.nf ≤ 100000) (hF : p.b 25 = true → ∃ ga oa, b.af = some ⟨ga, oa, none⟩) : Calls Try.prog 14 #[.pointer (some ⟨bx, 0, none⟩), .int .i64 k] w (Stepped b ps ss fs bx g k p w) := by
  have b17 : w.cell? ⟨bx, 17, none⟩ = some (.slice (some ⟨g, 0, none⟩) b.n b.cp) := h.c17
  have hk0 : (0 : Int) ≤ k := by omega
  have hk1 : (k : Int) < b.n := by omega
  have nbg : ¬ bx = g := h.ne
  have ngb : ¬ g = bx := fun e => h.ne e.symm
  have HF := Lib.hid hF
  obtain ⟨iI, hiI, hzI, hsI, hbI⟩ := info_I
  have HI := Lib.hid (And.intro hiI (And.intro hzI (And.intro hsI hbI)))
  have H1 := Lib.hid h
  clear hF hiI hzI hsI hbI h
  have c25 : w.cell? ⟨g, k * 89 + 22 + 3, none⟩ = some (.bool (p.b 25)) := (H1.out.p.cell hk (j := 25) (by omega)).trans (by rw [upd_same]; rfl)
  have c21 : w.cell? ⟨g, k * 89 + 15 + 6, none⟩ = some (.int .i64 (p.i 21)) := (H1.out.p.cell hk (j := 21) (by omega)).trans (by rw [upd_same]; rfl)
  have c28 : w.cell? ⟨g, k * 89 + 22 + 6, none⟩ = some (.bool (p.b 28)) := (H1.out.p.cell hk (j := 28) (by omega)).trans (by rw [upd_same]; rfl)
  have c26 : w.cell? ⟨g, k * 89 + 22 + 4, none⟩ = some (.bool (p.b 26)) := (H1.out.p.cell hk (j := 26) (by omega)).trans (by rw [upd_same]; rfl)
  have c32 : w.cell? ⟨g, k * 89 + 22 + 10, none⟩ = some (.bool (p.b 32)) := (H1.out.p.cell hk (j := 32) (by omega)).trans (by rw [upd_same]; rfl)
  have c29 : w.cell? ⟨g, k * 89 + 22 + 7, none⟩ = some (.bool (p.b 29)) := (H1.out.p.cell hk (j := 29) (by omega)).trans (by rw [upd_same]; rfl)
  have c41 : w.cell? ⟨g, k * 89 + 22 + 19, none⟩ = some (.bool (p.b 41)) := (H1.out.p.cell hk (j := 41) (by omega)).trans (by rw [upd_same]; rfl)
  have c39 : w.cell? ⟨g, k * 89 + 22 + 17, none⟩ = some (.bool (p.b 39)) := (H1.out.p.cell hk (j := 39) (by omega)).trans (by rw [upd_same]; rfl)
  have c49 : w.cell? ⟨g, k * 89 + 22 + 27, none⟩ = some (.bool (p.b 49)) := (H1.out.p.cell hk (j := 49) (by omega)).trans (by rw [upd_same]; rfl)
  have c40 : w.cell? ⟨g, k * 89 + 22 + 18, none⟩ = some (.bool (p.b 40)) := (H1.out.p.cell hk (j := 40) (by omega)).trans (by rw [upd_same]; rfl)
  have c13 : w.cell? ⟨g, k * 89 + 6 + 7, none⟩ = some (.int .i64 (p.i 13)) := (H1.out.p.cell hk (j := 13) (by omega)).trans (by rw [upd_same]; rfl)
  have c31 : w.cell? ⟨g, k * 89 + 22 + 9, none⟩ = some (.bool (p.b 31)) := (H1.out.p.cell hk (j := 31) (by omega)).trans (by rw [upd_same]; rfl)
  have c48 : w.cell? ⟨g, k * 89 + 22 + 26, none⟩ = some (.bool (p.b 48)) := (H1.out.p.cell hk (j := 48) (by omega)).trans (by rw [upd_same]; rfl)
  have c87 : w.cell? ⟨g, k * 89 + 87, none⟩ = some (.int .i64 (p.i 87)) := (H1.out.p.cell hk (j := 87) (by omega)).trans (by rw [upd_same]; rfl)
  have f25 : w.frozen? ⟨g, k * 89 + 22 + 3, none⟩ = false := H1.out.p.free _
  have f21 : w.frozen? ⟨g, k * 89 + 15 + 6, none⟩ = false := H1.out.p.free _
  have f28 : w.frozen? ⟨g, k * 89 + 22 + 6, none⟩ = false := H1.out.p.free _
  have f26 : w.frozen? ⟨g, k * 89 + 22 + 4, none⟩ = false := H1.out.p.free _
  have f32 : w.frozen? ⟨g, k * 89 + 22 + 10, none⟩ = false := H1.out.p.free _
  have f29 : w.frozen? ⟨g, k * 89 + 22 + 7, none⟩ = false := H1.out.p.free _
  have f41 : w.frozen? ⟨g, k * 89 + 22 + 19, none⟩ = false := H1.out.p.free _
  have f39 : w.frozen? ⟨g, k * 89 + 22 + 17, none⟩ = false := H1.out.p.free _
  have f49 : w.frozen? ⟨g, k * 89 + 22 + 27, none⟩ = false := H1.out.p.free _
  have f40 : w.frozen? ⟨g, k * 89 + 22 + 18, none⟩ = false := H1.out.p.free _
  have f13 : w.frozen? ⟨g, k * 89 + 6 + 7, none⟩ = false := H1.out.p.free _
  have f31 : w.frozen? ⟨g, k * 89 + 22 + 9, none⟩ = false := H1.out.p.free _
  have f48 : w.frozen? ⟨g, k * 89 + 22 + 26, none⟩ = false := H1.out.p.free _
  have f87 : w.frozen? ⟨g, k * 89 + 87, none⟩ = false := H1.out.p.free _
  go_enter Try.func14, Try.ntmps14
  go_upto_region 2 with (fail)
  clear b17
  go_cut [6] from 15 to 26 (fun c w' => c = .bool (countsF p) ∧ w = w')
  case first =>
    cases e3 : (p.i 87 == 3) with
    | true =>
      have HE := Lib.hid (show countsF p = true by unfold countsF; rw [e3]; rfl)
      go_wp2_with fail
      go_meet
      exact ⟨by rw [HE.out], rfl⟩
    | false =>
      have HE := Lib.hid (show countsF p = (p.i 87 == 4) by unfold countsF; rw [e3]; rfl)
      go_wp2_with fail
      go_meet
      exact ⟨by rw [HE.out], rfl⟩
  case rest =>
  obtain ⟨rfl, rfl⟩ := hcut
  obtain ⟨c, hc⟩ : ∃ c, c = countsF p := ⟨_, rfl⟩
  rw [← hc]
  have Hc := Lib.hid hc.symm
  clear hc
  go_upto_region 3 with (fail)
  go_cut [7] from 27 to 52 (fun c w' => c = .bool (four4 p) ∧ w = w')
  case first =>
    cases e1 : p.b 39 <;> cases e2 : p.b 41 <;> cases e3 : p.b 40 <;> cases e4 : p.b 49
    all_goals
      have hE : four4 p = four4 p := rfl
      conv at hE => rhs; unfold four4
      rw [e1, e2, e3, e4] at hE
      rw [e1] at c39
      rw [e2] at c41
      rw [e3] at c40
      rw [e4] at c49
      have HE := Lib.hid hE
      clear hE e1 e2 e3 e4
      go_wp2_with fail
      go_meet
      exact ⟨by rw [HE.out]; rfl, rfl⟩
  case rest =>
  obtain ⟨rfl, rfl⟩ := hcut
  obtain ⟨f, hf⟩ : ∃ f, f = four4 p := ⟨_, rfl⟩
  rw [← hf]
  have Hf := Lib.hid hf.symm
  clear hf
  have HO1 := Lib.hid (Only.refl (· = g) w)
  cases e25 : p.b 25 with
  | true =>
    rw [e25] at c25
    have hbl := H1.out.lt
    have hgl1 := H1.out.p.lt
    obtain ⟨ga, oa, haf⟩ := HF.out e25
    have d19 : w.cell? ⟨bx, 19, none⟩ = some (.slice (some ⟨ga, oa, none⟩) b.nf b.cf) := by rw [← haf]; exact cells_of H1.out.h 19
    have hvf : View w (some ⟨ga, oa, none⟩) 1 b.nf (fun k _ => .int .i64 (fs k)) := by rw [← haf]; exact H1.out.f
    have Haf := Lib.hid haf
    have Hvf := Lib.hid hvf
    clear haf hvf
    go_upto_region 8 with (first
      | (at_builtin; refine wpList_clone rfl (.tmp 65) (.tmp 69) 31 rfl 3 iI _ 1 8 Try.underlying31 HI.out.1 HI.out.2.1 HI.out.2.2.1 HI.out.2.2.2 rfl (by decide) w.heap.size rfl (at_new rfl) (some ⟨ga, oa, none⟩) b.nf b.cf (fun j _ => .int .i64 (fs j)) rfl (fun e => by cases e) (Hvf.out.below (more (Below.refl _ _) _)) (grid_one (by decide) fun _ _ hj => rfl) (by unfold maxLen; omega) (by omega) ?_; intro g2 c2 w2 hg2 ho2 hb2; simp only [Act.put, List.setIfInBounds_toArray, List.set_cons_zero, List.set_cons_succ]; have hbl2 : Below w.heap.size w w2 := (more (Below.refl _ _) _).trans (hb2.below (by simp) (fun k hk => by omega)); have Hb2 := Lib.hid hbl2; have HOwn2 := Lib.hid ho2; have hs2 := hbl2.size; clear ho2 hb2 hbl2)
      | (at_builtin; refine wpList_onto rfl (.tmp 70) (.tmp 72) 31 rfl 3 iI _ 1 8 Try.underlying31 HI.out.1 HI.out.2.1 HI.out.2.2.1 HI.out.2.2.2 rfl (by decide) g2 b.nf c2 (b.nf + 1) (fun j _ => .int .i64 (fs j)) (fun j _ => .int .i64 (snocI b.nf fs k j)) rfl (HOwn2.out.of_block (Below.heap_alloc _ _ _ HOwn2.out.lt)) ⟨w2.heap.size, 0, none⟩ 1 1 [.int .i64 k] rfl rfl (newI w2 k) (by simp [Value.oneCell']) rfl (snocI_grid _ _ _) (by unfold maxLen; omega) (by omega) ?_; intro g4 c4 w4 hg4 ho4 hq4; simp only [Act.put, List.setIfInBounds_toArray, List.set_cons_zero, List.set_cons_succ]; have hb4 : Below w.heap.size w w4 := (Hb2.out.alloc Hb2.out.size _).trans (hq4.below (by simp <;> omega) (fun k hk => by omega)); have b19 : w4.cell? ⟨bx, 19, none⟩ = some (.slice b.af b.nf b.cf) := cells_of (H1.out.below hb4).h 19; have bf19 : w4.frozen? ⟨bx, 19, none⟩ = false := free_block (H1.out.below hb4).h 19; have Hq4 := Lib.hid hq4; have HOwn4 := Lib.hid ho4; have Hb4 := Lib.hid hb4; clear hq4 ho4 hb4) | fail)
    refine ((?_ : ∀ x, x = w4.setCell ⟨bx, 19, none⟩ (.slice (some ⟨g4, 0, none⟩) (b.nf + 1) c4) → Code.wp _ _ _ _ x) _ rfl)
    intro w5 hw5
    have H5 := Lib.hid (show Bst w5 bx g { b with af := some ⟨g4, 0, none⟩, nf := b.nf + 1, cf := c4 } (upd ps k p) ss (snocI b.nf fs k) by rw [hw5]; exact (H1.out.below Hb4.out).flushed HOwn4.out (by omega) (by omega))
    have HO5 := Lib.hid (show Only (fun x => x = g ∨ x = bx) w w5 by rw [hw5]; exact ((HO1.out.mono (T := fun x => x = g ∨ x = bx) (fun _ h => Or.inl h)).trans (Only.of_below Hb4.out)).setCell (Or.inl (.inr rfl)) _)
    clear hw5 b19 bf19 c25 f25 c21 f21 c28 f28 c26 f26 c32 f32 c29 f29 c41 f41 c39 f39 c49 f49 c40 f40 c13 f13 c31 f31 c48 f48 c87 f87
    have hs1 := HO1.out.size
    have c25 : w5.cell? ⟨g, k * 89 + 22 + 3, none⟩ = some (.bool (p.b 25)) := (H5.out.p.cell hk (j := 25) (by omega)).trans (by rw [upd_same]; rfl)
    have f25 : w5.frozen? ⟨g, k * 89 + 22 + 3, none⟩ = false := H5.out.p.free _
    go_wp2_with fail
    go_ret
    refine ⟨some ⟨g4, 0, none⟩, c4, ?_, ?_, HO5.out.setCell (Or.inl (.inl rfl)) _, .inr ⟨g4, rfl, by omega⟩⟩
    · unfold topoB topoP
      simp [e25]
    · have e : topoB b p = (p.setB 25 false, false, true, true) := by unfold topoB topoP; simp [e25]
      rw [e]
      exact (H5.out).put (j := 25) (by omega) (rowP_put_25 _ _)
  | false =>
  rw [e25] at c25
  by_cases h0 : p.i 21 = 0
  · rw [h0] at c21
    cases e28 : p.b 28 with
    | true =>
      rw [e28] at c28
      go_wp2_with fail
      refine (refclears_any w bx g k b ps ss fs p H1.out hk).mono ?_
      rintro e w2 ⟨rfl, h2, ho2⟩
      have H2 := Lib.hid h2
      have HO2 := Lib.hid (HO1.out.trans ho2)
      clear h2 ho2 c25 c21 c28 c26 c32 c29 c41 c39 c49 c40 c13 c31 c48 c87 f25 f21 f28 f26 f32 f29 f41 f39 f49 f40 f13 f31 f48 f87
      have c21 : w2.cell? ⟨g, k * 89 + 15 + 6, none⟩ = some (.int .i64 ((clear4 p).i 21)) := (H2.out.p.cell hk (j := 21) (by omega)).trans (by rw [upd_same]; rfl)
      have f21 : w2.frozen? ⟨g, k * 89 + 15 + 6, none⟩ = false := H2.out.p.free _
      go_wp2_with fail
      go_ret
      exact Stepped.mk ((clear4 p).setI 21 1) false true (by unfold topoB topoP; simp [e25, h0, e28]) ((H2.out).put (j := 21) (by omega) (rowP_put_21 _ _)) ((HO2.out).setCell (Or.inl rfl) _)
    | false =>
      rw [e28] at c28
      go_wp2_with fail
      go_ret
      exact Stepped.mk (p) false false (by unfold topoB topoP; simp [e25, h0, e28]) (H1.out) (HO1.out)
  by_cases h1 : p.i 21 = 1
  · rw [h1] at c21
    cases c with
    | true =>
      cases e26 : p.b 26 with
      | true =>
        rw [e26] at c26
        cases e32 : p.b 32 with
        | true =>
          rw [e32] at c32
          cases f with
          | true =>
            go_wp2_with fail
            refine (refclears_any w bx g k b ps ss fs p H1.out hk).mono ?_
            rintro e w2 ⟨rfl, h2, ho2⟩
            have H2 := Lib.hid h2
            have HO2 := Lib.hid (HO1.out.trans ho2)
            clear h2 ho2 c25 c21 c28 c26 c32 c29 c41 c39 c49 c40 c13 c31 c48 c87 f25 f21 f28 f26 f32 f29 f41 f39 f49 f40 f13 f31 f48 f87
            go_wp2_with fail
            go_ret
            exact Stepped.mk (clear4 p) false true (by unfold topoB topoP learnP; simp [e25, h1, Hc.out, e26, e32, Hf.out]; exact clear_self p h1) (H2.out) (HO2.out)
          | false =>
            go_wp2_with fail
            go_ret
            exact Stepped.mk (p) false false (by unfold topoB topoP learnP; simp [e25, h1, Hc.out, e26, e32, Hf.out]) (H1.out) (HO1.out)
        | false =>
          rw [e32] at c32
          go_wp2_with fail
          refine (refbegins_any w bx g k b ps ss fs p H1.out hk hT).mono ?_
          rintro e w2 ⟨rfl, h2, ho2⟩
          have H2 := Lib.hid h2
          have HO2 := Lib.hid (HO1.out.trans ho2)
          clear h2 ho2 c25 c21 c28 c26 c32 c29 c41 c39 c49 c40 c13 c31 c48 c87 f25 f21 f28 f26 f32 f29 f41 f39 f49 f40 f13 f31 f48 f87
          go_wp2_with fail
          refine (refothers_any w2 bx g k b _ ss fs H2.out hn).mono ?_
          rw [told_upd]
          rintro e w3 ⟨rfl, h3, ho3⟩
          have H3 := Lib.hid h3
          have HO3 := Lib.hid (HO2.out.trans ho3)
          clear h3 ho3
          have c31 : w3.cell? ⟨g, k * 89 + 22 + 9, none⟩ = some (.bool ((beginF (b.r.i 4) (b.r.i 3) (b.r.i 5) p).b 31)) := (H3.out.p.cell hk (j := 31) (by omega)).trans (by rw [upd_same]; rfl)
          have c21 : w3.cell? ⟨g, k * 89 + 15 + 6, none⟩ = some (.int .i64 ((beginF (b.r.i 4) (b.r.i 3) (b.r.i 5) p).i 21)) := (H3.out.p.cell hk (j := 21) (by omega)).trans (by rw [upd_same]; rfl)
          have f31 : w3.frozen? ⟨g, k * 89 + 22 + 9, none⟩ = false := H3.out.p.free _
          have f21 : w3.frozen? ⟨g, k * 89 + 15 + 6, none⟩ = false := H3.out.p.free _
          go_wp2_with fail
          go_ret
          exact Stepped.mk (((beginF (b.r.i 4) (b.r.i 3) (b.r.i 5) p).setB 31 true).setI 21 2) true true (by unfold topoB topoP learnP; simp [e25, h1, Hc.out, e26, e32]) (((H3.out).put (j := 31) (by omega) (rowP_put_31 _ _)).put (j := 21) (by omega) (rowP_put_21 _ _)) (((HO3.out).setCell (Or.inl rfl) _).setCell (Or.inl rfl) _)
      | false =>
        rw [e26] at c26
        cases f with
        | true =>
          go_wp2_with fail
          refine (refclears_any w bx g k b ps ss fs p H1.out hk).mono ?_
          rintro e w2 ⟨rfl, h2, ho2⟩
          have H2 := Lib.hid h2
          have HO2 := Lib.hid (HO1.out.trans ho2)
          clear h2 ho2 c25 c21 c28 c26 c32 c29 c41 c39 c49 c40 c13 c31 c48 c87 f25 f21 f28 f26 f32 f29 f41 f39 f49 f40 f13 f31 f48 f87
          go_wp2_with fail
          go_ret
          exact Stepped.mk (clear4 p) false true (by unfold topoB topoP learnP; simp [e25, h1, Hc.out, e26, Hf.out]; exact clear_self p h1) (H2.out) (HO2.out)
        | false =>
          go_wp2_with fail
          go_ret
          exact Stepped.mk (p) false false (by unfold topoB topoP learnP; simp [e25, h1, Hc.out, e26, Hf.out]) (H1.out) (HO1.out)
    | false =>
      cases e28 : p.b 28 with
      | true =>
        rw [e28] at c28
        cases f with
        | true =>
          go_wp2_with fail
          refine (refclears_any w bx g k b ps ss fs p H1.out hk).mono ?_
          rintro e w2 ⟨rfl, h2, ho2⟩
          have H2 := Lib.hid h2
          have HO2 := Lib.hid (HO1.out.trans ho2)
          clear h2 ho2 c25 c21 c28 c26 c32 c29 c41 c39 c49 c40 c13 c31 c48 c87 f25 f21 f28 f26 f32 f29 f41 f39 f49 f40 f13 f31 f48 f87
          go_wp2_with fail
          go_ret
          exact Stepped.mk (clear4 p) false true (by unfold topoB topoP learnP; simp [e25, h1, Hc.out, e28, Hf.out]; exact clear_self p h1) (H2.out) (HO2.out)
        | false =>
          go_wp2_with fail
          go_ret
          exact Stepped.mk (p) false false (by unfold topoB topoP learnP; simp [e25, h1, Hc.out, e28, Hf.out]) (H1.out) (HO1.out)
      | false =>
        rw [e28] at c28
        cases e29 : p.b 29 with
        | true =>
          rw [e29] at c29
          cases f with
          | true =>
            go_wp2_with fail
            refine (refclears_any w bx g k b ps ss fs p H1.out hk).mono ?_
            rintro e w2 ⟨rfl, h2, ho2⟩
            have H2 := Lib.hid h2
            have HO2 := Lib.hid (HO1.out.trans ho2)
            clear h2 ho2 c25 c21 c28 c26 c32 c29 c41 c39 c49 c40 c13 c31 c48 c87 f25 f21 f28 f26 f32 f29 f41 f39 f49 f40 f13 f31 f48 f87
            go_wp2_with fail
            go_ret
            exact Stepped.mk (clear4 p) false true (by unfold topoB topoP learnP; simp [e25, h1, Hc.out, e28, e29, Hf.out]; exact clear_self p h1) (H2.out) (HO2.out)
          | false =>
            go_wp2_with fail
            go_ret
            exact Stepped.mk (p) false false (by unfold topoB topoP learnP; simp [e25, h1, Hc.out, e28, e29, Hf.out]) (H1.out) (HO1.out)
        | false =>
          rw [e29] at c29
          cases f with
          | true =>
            go_wp2_with fail
            refine (refclears_any w bx g k b ps ss fs p H1.out hk).mono ?_
            rintro e w2 ⟨rfl, h2, ho2⟩
            have H2 := Lib.hid h2
            have HO2 := Lib.hid (HO1.out.trans ho2)
            clear h2 ho2 c25 c21 c28 c26 c32 c29 c41 c39 c49 c40 c13 c31 c48 c87 f25 f21 f28 f26 f32 f29 f41 f39 f49 f40 f13 f31 f48 f87
            go_wp2_with fail
            go_ret
            exact Stepped.mk (clear4 p) false true (by unfold topoB topoP learnP; simp [e25, h1, Hc.out, e28, e29, Hf.out]; exact clear_self p h1) (H2.out) (HO2.out)
          | false =>
            go_wp2_with fail
            go_ret
            exact Stepped.mk ((((p.setB 25 true).setI 13 0).setB 48 false).setI 21 0) false true (by unfold topoB topoP learnP; simp [e25, h1, Hc.out, e28, e29, Hf.out]; rfl) (((((H1.out).put (j := 25) (by omega) (rowP_put_25 _ _)).put (j := 13) (by omega) (rowP_put_13 _ _)).put (j := 48) (by omega) (rowP_put_48 _ _)).put (j := 21) (by omega) (rowP_put_21 _ _)) (((((HO1.out).setCell (Or.inl rfl) _).setCell (Or.inl rfl) _).setCell (Or.inl rfl) _).setCell (Or.inl rfl) _)
  by_cases h2 : p.i 21 = 2
  · rw [h2] at c21
    cases c with
    | false =>
      go_wp2_with fail
      refine (refclears_any w bx g k b ps ss fs p H1.out hk).mono ?_
      rintro e w2 ⟨rfl, h2, ho2⟩
      have H2 := Lib.hid h2
      have HO2 := Lib.hid (HO1.out.trans ho2)
      clear h2 ho2 c25 c21 c28 c26 c32 c29 c41 c39 c49 c40 c13 c31 c48 c87 f25 f21 f28 f26 f32 f29 f41 f39 f49 f40 f13 f31 f48 f87
      have c21 : w2.cell? ⟨g, k * 89 + 15 + 6, none⟩ = some (.int .i64 ((clear4 p).i 21)) := (H2.out.p.cell hk (j := 21) (by omega)).trans (by rw [upd_same]; rfl)
      have f21 : w2.frozen? ⟨g, k * 89 + 15 + 6, none⟩ = false := H2.out.p.free _
      go_wp2_with fail
      go_ret
      exact Stepped.mk ((clear4 p).setI 21 1) false true (by unfold topoB topoP activeP; simp [e25, h2, Hc.out]) ((H2.out).put (j := 21) (by omega) (rowP_put_21 _ _)) ((HO2.out).setCell (Or.inl rfl) _)
    | true =>
      cases e32 : p.b 32 with
      | true =>
        rw [e32] at c32
        go_wp2_with fail
        refine (refclears_any w bx g k b ps ss fs p H1.out hk).mono ?_
        rintro e w2 ⟨rfl, h2, ho2⟩
        have H2 := Lib.hid h2
        have HO2 := Lib.hid (HO1.out.trans ho2)
        clear h2 ho2 c25 c21 c28 c26 c32 c29 c41 c39 c49 c40 c13 c31 c48 c87 f25 f21 f28 f26 f32 f29 f41 f39 f49 f40 f13 f31 f48 f87
        have c21 : w2.cell? ⟨g, k * 89 + 15 + 6, none⟩ = some (.int .i64 ((clear4 p).i 21)) := (H2.out.p.cell hk (j := 21) (by omega)).trans (by rw [upd_same]; rfl)
        have f21 : w2.frozen? ⟨g, k * 89 + 15 + 6, none⟩ = false := H2.out.p.free _
        go_wp2_with fail
        go_ret
        exact Stepped.mk ((clear4 p).setI 21 1) false true (by unfold topoB topoP activeP; simp [e25, h2, Hc.out, e32]) ((H2.out).put (j := 21) (by omega) (rowP_put_21 _ _)) ((HO2.out).setCell (Or.inl rfl) _)
      | false =>
        rw [e32] at c32
        cases e41 : p.b 41 with
        | true =>
          rw [e41] at c41
          go_wp2_with fail
          refine (refbegins_any w bx g k b ps ss fs p H1.out hk hT).mono ?_
          rintro e w2 ⟨rfl, h2, ho2⟩
          have H2 := Lib.hid h2
          have HO2 := Lib.hid (HO1.out.trans ho2)
          clear h2 ho2 c25 c21 c28 c26 c32 c29 c41 c39 c49 c40 c13 c31 c48 c87 f25 f21 f28 f26 f32 f29 f41 f39 f49 f40 f13 f31 f48 f87
          have c39 : w2.cell? ⟨g, k * 89 + 22 + 17, none⟩ = some (.bool ((beginF (b.r.i 4) (b.r.i 3) (b.r.i 5) p).b 39)) := (H2.out.p.cell hk (j := 39) (by omega)).trans (by rw [upd_same]; rfl)
          have c41 : w2.cell? ⟨g, k * 89 + 22 + 19, none⟩ = some (.bool ((beginF (b.r.i 4) (b.r.i 3) (b.r.i 5) p).b 41)) := (H2.out.p.cell hk (j := 41) (by omega)).trans (by rw [upd_same]; rfl)
          have c48 : w2.cell? ⟨g, k * 89 + 22 + 26, none⟩ = some (.bool ((beginF (b.r.i 4) (b.r.i 3) (b.r.i 5) p).b 48)) := (H2.out.p.cell hk (j := 48) (by omega)).trans (by rw [upd_same]; rfl)
          have c87 : w2.cell? ⟨g, k * 89 + 87, none⟩ = some (.int .i64 ((beginF (b.r.i 4) (b.r.i 3) (b.r.i 5) p).i 87)) := (H2.out.p.cell hk (j := 87) (by omega)).trans (by rw [upd_same]; rfl)
          have f39 : w2.frozen? ⟨g, k * 89 + 22 + 17, none⟩ = false := H2.out.p.free _
          have f41 : w2.frozen? ⟨g, k * 89 + 22 + 19, none⟩ = false := H2.out.p.free _
          have f48 : w2.frozen? ⟨g, k * 89 + 22 + 26, none⟩ = false := H2.out.p.free _
          have f87 : w2.frozen? ⟨g, k * 89 + 87, none⟩ = false := H2.out.p.free _
          cases e4 : (p.i 87 == 4) with
          | true =>
            have e4 := e4
            rw [begin_87] at c87
            go_upto_region 34 with (fail)
            refine ((?_ : ∀ x, x = (((w2.setCell ⟨g, k * 89 + 22 + 17, none⟩ (.bool false)).setCell ⟨g, k * 89 + 22 + 19, none⟩ (.bool false)).setCell ⟨g, k * 89 + 22 + 26, none⟩ (.bool true)) → Code.wp _ _ _ _ x) _ rfl)
            intro w3 hw3w
            have H3 := Lib.hid (show Bst w3 bx g b (upd ps k ((((beginF (b.r.i 4) (b.r.i 3) (b.r.i 5) p).setB 39 false).setB 41 false).setB 48 true)) ss fs by rw [hw3w]; exact (((H2.out).put (j := 39) (by omega) (rowP_put_39 _ _)).put (j := 41) (by omega) (rowP_put_41 _ _)).put (j := 48) (by omega) (rowP_put_48 _ _))
            have HO3 := Lib.hid (show Only (· = g) w w3 by rw [hw3w]; exact (((HO2.out).setCell (Or.inl rfl) _).setCell (Or.inl rfl) _).setCell (Or.inl rfl) _)
            clear hw3w c39 f39 c41 f41 c48 f48 c87 f87
            go_wp2_with fail
            refine (refothers_any w3 bx g k b _ ss fs H3.out hn).mono ?_
            rw [told_upd]
            rintro e w4 ⟨rfl, h4, ho4⟩
            have H4 := Lib.hid h4
            have HO4 := Lib.hid (HO3.out.trans ho4)
            clear h4 ho4
            go_wp2_with fail
            go_ret
            exact Stepped.mk ((((beginF (b.r.i 4) (b.r.i 3) (b.r.i 5) p).setB 39 false).setB 41 false).setB 48 true) true true (by unfold topoB topoP activeP; simp [e25, h2, Hc.out, e32, e41]; exact note_yes _ (by rw [begin_87]; exact e4)) (H4.out) (HO4.out)
          | false =>
            have e4 := e4
            rw [begin_87] at c87
            go_upto_region 34 with (fail)
            refine ((?_ : ∀ x, x = ((w2.setCell ⟨g, k * 89 + 22 + 17, none⟩ (.bool false)).setCell ⟨g, k * 89 + 22 + 19, none⟩ (.bool false)) → Code.wp _ _ _ _ x) _ rfl)
            intro w3 hw3w
            have H3 := Lib.hid (show Bst w3 bx g b (upd ps k ((((beginF (b.r.i 4) (b.r.i 3) (b.r.i 5) p).setB 39 false).setB 41 false))) ss fs by rw [hw3w]; exact ((H2.out).put (j := 39) (by omega) (rowP_put_39 _ _)).put (j := 41) (by omega) (rowP_put_41 _ _))
            have HO3 := Lib.hid (show Only (· = g) w w3 by rw [hw3w]; exact ((HO2.out).setCell (Or.inl rfl) _).setCell (Or.inl rfl) _)
            clear hw3w c39 f39 c41 f41 c48 f48 c87 f87
            go_wp2_with fail
            refine (refothers_any w3 bx g k b _ ss fs H3.out hn).mono ?_
            rw [told_upd]
            rintro e w4 ⟨rfl, h4, ho4⟩
            have H4 := Lib.hid h4
            have HO4 := Lib.hid (HO3.out.trans ho4)
            clear h4 ho4
            go_wp2_with fail
            go_ret
            exact Stepped.mk ((((beginF (b.r.i 4) (b.r.i 3) (b.r.i 5) p).setB 39 false).setB 41 false)) true true (by unfold topoB topoP activeP; simp [e25, h2, Hc.out, e32, e41]; exact note_no _ (by rw [begin_87]; exact e4)) (H4.out) (HO4.out)
        | false =>
          rw [e41] at c41
          cases e39 : p.b 39 with
          | true =>
            rw [e39] at c39
            cases e4 : (p.i 87 == 4) with
            | true =>
              have e4 := e4
              go_upto_region 34 with (fail)
              refine ((?_ : ∀ x, x = (((w.setCell ⟨g, k * 89 + 22 + 17, none⟩ (.bool false)).setCell ⟨g, k * 89 + 22 + 19, none⟩ (.bool false)).setCell ⟨g, k * 89 + 22 + 26, none⟩ (.bool true)) → Code.wp _ _ _ _ x) _ rfl)
              intro w2 hw2w
              have H2 := Lib.hid (show Bst w2 bx g b (upd ps k ((((p).setB 39 false).setB 41 false).setB 48 true)) ss fs by rw [hw2w]; exact (((H1.out).put (j := 39) (by omega) (rowP_put_39 _ _)).put (j := 41) (by omega) (rowP_put_41 _ _)).put (j := 48) (by omega) (rowP_put_48 _ _))
              have HO2 := Lib.hid (show Only (· = g) w w2 by rw [hw2w]; exact (((HO1.out).setCell (Or.inl rfl) _).setCell (Or.inl rfl) _).setCell (Or.inl rfl) _)
              clear hw2w c25 f25 c21 f21 c28 f28 c26 f26 c32 f32 c29 f29 c41 f41 c39 f39 c49 f49 c40 f40 c13 f13 c31 f31 c48 f48 c87 f87
              go_wp2_with fail
              refine (refothers_any w2 bx g k b _ ss fs H2.out hn).mono ?_
              rw [told_upd]
              rintro e w3 ⟨rfl, h3, ho3⟩
              have H3 := Lib.hid h3
              have HO3 := Lib.hid (HO2.out.trans ho3)
              clear h3 ho3
              go_wp2_with fail
              go_ret
              exact Stepped.mk ((((p).setB 39 false).setB 41 false).setB 48 true) true true (by unfold topoB topoP activeP; simp [e25, h2, Hc.out, e32, e41, e39]; exact note_yes _ (e4)) (H3.out) (HO3.out)
            | false =>
              have e4 := e4
              go_upto_region 34 with (fail)
              refine ((?_ : ∀ x, x = ((w.setCell ⟨g, k * 89 + 22 + 17, none⟩ (.bool false)).setCell ⟨g, k * 89 + 22 + 19, none⟩ (.bool false)) → Code.wp _ _ _ _ x) _ rfl)
              intro w2 hw2w
              have H2 := Lib.hid (show Bst w2 bx g b (upd ps k ((((p).setB 39 false).setB 41 false))) ss fs by rw [hw2w]; exact ((H1.out).put (j := 39) (by omega) (rowP_put_39 _ _)).put (j := 41) (by omega) (rowP_put_41 _ _))
              have HO2 := Lib.hid (show Only (· = g) w w2 by rw [hw2w]; exact ((HO1.out).setCell (Or.inl rfl) _).setCell (Or.inl rfl) _)
              clear hw2w c25 f25 c21 f21 c28 f28 c26 f26 c32 f32 c29 f29 c41 f41 c39 f39 c49 f49 c40 f40 c13 f13 c31 f31 c48 f48 c87 f87
              go_wp2_with fail
              refine (refothers_any w2 bx g k b _ ss fs H2.out hn).mono ?_
              rw [told_upd]
              rintro e w3 ⟨rfl, h3, ho3⟩
              have H3 := Lib.hid h3
              have HO3 := Lib.hid (HO2.out.trans ho3)
              clear h3 ho3
              go_wp2_with fail
              go_ret
              exact Stepped.mk ((((p).setB 39 false).setB 41 false)) true true (by unfold topoB topoP activeP; simp [e25, h2, Hc.out, e32, e41, e39]; exact note_no _ (e4)) (H3.out) (HO3.out)
          | false =>
            rw [e39] at c39
            cases e49 : p.b 49 with
            | true =>
              rw [e49] at c49
              go_wp2_with fail
              refine (refbegins_any w bx g k b ps ss fs p H1.out hk hT).mono ?_
              rintro e w2 ⟨rfl, h2, ho2⟩
              have H2 := Lib.hid h2
              have HO2 := Lib.hid (HO1.out.trans ho2)
              clear h2 ho2 c25 c21 c28 c26 c32 c29 c41 c39 c49 c40 c13 c31 c48 c87 f25 f21 f28 f26 f32 f29 f41 f39 f49 f40 f13 f31 f48 f87
              have c25 : w2.cell? ⟨g, k * 89 + 22 + 3, none⟩ = some (.bool ((beginF (b.r.i 4) (b.r.i 3) (b.r.i 5) p).b 25)) := (H2.out.p.cell hk (j := 25) (by omega)).trans (by rw [upd_same]; rfl)
              have c49 : w2.cell? ⟨g, k * 89 + 22 + 27, none⟩ = some (.bool ((beginF (b.r.i 4) (b.r.i 3) (b.r.i 5) p).b 49)) := (H2.out.p.cell hk (j := 49) (by omega)).trans (by rw [upd_same]; rfl)
              have f25 : w2.frozen? ⟨g, k * 89 + 22 + 3, none⟩ = false := H2.out.p.free _
              have f49 : w2.frozen? ⟨g, k * 89 + 22 + 27, none⟩ = false := H2.out.p.free _
              go_wp2_with fail
              go_ret
              exact Stepped.mk (((beginF (b.r.i 4) (b.r.i 3) (b.r.i 5) p).setB 25 true).setB 49 false) false true (by unfold topoB topoP activeP; simp [e25, h2, Hc.out, e32, e41, e39, e49]) (((H2.out).put (j := 25) (by omega) (rowP_put_25 _ _)).put (j := 49) (by omega) (rowP_put_49 _ _)) (((HO2.out).setCell (Or.inl rfl) _).setCell (Or.inl rfl) _)
            | false =>
              rw [e49] at c49
              cases e40 : p.b 40 with
              | true =>
                rw [e40] at c40
                go_wp2_with fail
                go_ret
                exact Stepped.mk ((p.setI 13 0).setB 40 false) false true (by unfold topoB topoP activeP; simp [e25, h2, Hc.out, e32, e41, e39, e49, e40]) (((H1.out).put (j := 13) (by omega) (rowP_put_13 _ _)).put (j := 40) (by omega) (rowP_put_40 _ _)) (((HO1.out).setCell (Or.inl rfl) _).setCell (Or.inl rfl) _)
              | false =>
                rw [e40] at c40
                go_wp2_with fail
                go_ret
                exact Stepped.mk (p) false false (by unfold topoB topoP activeP; simp [e25, h2, Hc.out, e32, e41, e39, e49, e40]) (H1.out) (HO1.out)
  have d0 : (p.i 21 == 0) = false := by simp [h0]
  have d1 : (p.i 21 == 1) = false := by simp [h1]
  have d2 : (p.i 21 == 2) = false := by simp [h2]
  go_wp2_with fail
  go_ret
  exact Stepped.mk (p) false false (by unfold topoB topoP; simp [e25, h0, h1, h2]) (H1.out) (HO1.out)
end Go.Proofs.Ytbbjoelcbppfoaa.Br
