/- What the document's own step of the sending machine does to a bridge in memory (ford/fordref12.Step): the same as the program's step. Conditions: there is such a port, which hasn't sent very much, whose change clock isn't below 0; the bridge's messages lie in a block. -/
import Derived.Test.YtmlhbfkmnbhoeaaTxStep
import Derived.Test.YtmlhbfkmnbhoeaaTxRefMsg
import Derived.Test.YtmlhbfkmnbhoeaaWhole
set_option linter.unusedSimpArgs false
namespace Go.Proofs.Ytmlhbfkmnbhoeaa.Br
open Go.RowKit
theorem setB_self (r : Rec) (j : Nat) : r.setB j (r.b j) = r := by
  cases r with
  | mk i b =>
    unfold Rec.setB
    simp only [Rec.mk.injEq, true_and]
    funext x
    by_cases h : x = j
    · rw [if_pos h, h]
    · rw [if_neg h]
theorem Bst.row {w : World} {bx g k : Nat} {b : Bri} {ps ss : Nat → Rec} {fs : Nat → Int} (h : Bst w bx g b ps ss fs) (hk : k < b.n) (p : Rec) : Bst (w.setCells g (k * 89) (rowP p).toList) bx g b (upd ps k p) ss fs := by
  have ho : Only (· = g) w (w.setCells g (k * 89) (rowP p).toList) := Only.setCells (S := (· = g)) rfl _ _ _
  exact ⟨(ho.block _ h.lt h.ne).trans h.h, h.ap, h.p.row hk p, h.s.keep (fun g' o e hg => ho.block _ hg (h.sn g' o e).1), h.f.keep (fun g' o e hg => ho.block _ hg (h.fn g' o e).1), h.ne, h.sn, h.fn, h.so, h.fo, h.sc, h.fc⟩
/-- A block aside is written. -/
theorem Bst.aside {w w' : World} {bx g gq : Nat} {b : Bri} {ps ss : Nat → Rec} {fs : Nat → Int} (h : Bst w bx g b ps ss fs) (ho : Only (· = gq) w w') (h1 : bx ≠ gq) (h2 : g ≠ gq) (hs : b.no = 0 ∨ ∀ g' o, b.ao = some ⟨g', o, none⟩ → g' ≠ gq) (hf : b.nf = 0 ∨ ∀ g' o, b.af = some ⟨g', o, none⟩ → g' ≠ gq) : Bst w' bx g b ps ss fs := by
  refine ⟨(ho.block _ h.lt h1).trans h.h, h.ap, h.p.only ho h2, ?_, ?_, h.ne, h.sn, h.fn, h.so, h.fo, h.sc, h.fc⟩
  · rcases hs with h0 | h0
    · exact .inl h0
    · exact h.s.keep (fun g' o e hg => ho.block _ hg (h0 g' o e))
  · rcases hf with h0 | h0
    · exact .inl h0
    · exact h.f.keep (fun g' o e hg => ho.block _ hg (h0 g' o e))
/-- Onto a slice of one's own. -/
theorem wp_onto {P : Program} {w : World} {o : Oper} {a : Act} {K : Act → World → Prop} {Q : Exit → Act → World → Prop} (s x : Operand) (t : TypeId)
    (ho : o.op = .call { callee := .builtin .append, args := #[s, x], argTypes := #[t, t] })
    (e : TypeId) (i : TypeInfo) (z : Value) (size bytes : Nat) (ht : P.underlying t = some (.slice e)) (hi : P.info? e = some i) (hz : i.zero = some z)
    (hsize : i.size = size) (hby : i.bytes = bytes) (hzs : z.cells.size = size) (hsz : 0 < size)
    (g n cap N : Nat) (f f' : Nat → Nat → Value) (hs : a.eval s = .slice (some ⟨g, 0, none⟩) n cap) (hO : Own w g e size n cap f)
    (ad : Addr) (m c : Nat) (news : List Value) (hx : a.eval x = .slice (some ad) m c) (hl : news.length = m * size) (hnews : ∀ j u, news[j]? = some u → w.cell? (ad.add j) = some u) (h1 : ∀ u ∈ news, u.oneCell' = true)
    (hN : n + m = N) (hf : grid size n f ++ news = grid size N f') (h63 : N ≤ maxLen) (hbytes : N * bytes ≤ 140737488355328)
    (h : ∀ g' cap' w', g ≤ g' → Own w' g' e size N cap' f' → Only (· = g) w w' → K (a.put o.dst (.slice (some ⟨g', 0, none⟩) N cap')) w') : o.wp P a w K Q := by
  subst hN
  obtain ⟨cur, hg, q1, q2, q3, q4⟩ := id hO
  have hgl : g < w.heap.size := (Array.getElem?_eq_some_iff.1 hg).1
  have hown : w.ownsRow g e size (.slice (some ⟨g, 0, none⟩) n cap) n (grid size n f) := ⟨grid_length _ _ _, .inr ⟨g, cap, cur, rfl, Nat.le_refl _, hg, q1, q2, q3, q4⟩⟩
  refine wp_append_own w s x t ho g e i z size bytes ht hi hz hsize hby hzs hsz _ n _ hs hown ad m c news hx hl hnews h1 h63 hbytes (Nat.le_of_lt hgl) ?_
  intro v' w' hown' hgrow hnn
  obtain ⟨hl', ⟨rfl, _⟩ | ⟨g', cap', cur', rfl, hg', hh, hc1, hc2, hc3, hc4⟩⟩ := hown'
  · exact absurd (hnn.1 rfl).1 (by simp)
  · exact h g' cap' w' hg' ⟨cur', hh, hc1, hc2, hc3, by rw [← hf]; exact hc4⟩ ⟨hgrow.os, hgrow.tape, hgrow.output, hgrow.size, fun k hk hn => hgrow.block k hk (fun e => hn (by simpa [Value.ownBlock] using e))⟩
theorem mkS0 (w : World) : Sem.run Try.prog (Instr.buildSlice 30 0 #[]) w = .ok (.slice (some ⟨w.heap.size, 0, none⟩) 0 0) (w.alloc (.cells #[] 56)) := by kernel_rfl
attribute [local go_sem] zeroP rowB_17 rowB_18
set_option maxRecDepth 100000 in
set_option maxHeartbeats 8000000 in
theorem refstep_any (w : World) (bx g k : Nat) (b : Bri) (ps ss : Nat → Rec) (fs : Nat → Int) (h : Bst w bx g b ps ss fs) (hk : k < b.n) (hT : 0 ≤ (ps k).i 14 ∧ (ps k).i 14 ≤ 1000000) (hT0 : 0 ≤ (ps k).i 13) (hno : b.no ≤ 100000) (ga oa : Nat) (hao : b.ao = some ⟨ga, oa, none⟩) :
    Calls Try.prog 14 #[.pointer (some ⟨bx, 0, none⟩), .int .i64 k] w (TxStep b ps ss fs bx g k w) := by
  have hk0 : (0 : Int) ≤ k := by omega
  have hk1 : (k : Int) < b.n := by omega
  have b17 : w.cell? ⟨bx, 17, none⟩ = some (.slice (some ⟨g, 0, none⟩) b.n b.cp) := by rw [← h.ap]; exact cells_of h.h 17
  have hr := h.p.range hk
  have Hs := Lib.hid h
  have hT1 := hT.1
  have hT2 := hT.2
  have Hao := Lib.hid hao
  clear h hT hao
  go_enter Try.func14, Try.ntmps14
  go_upto_region 2 with (first | (refine wpList_row rfl 53 _ rfl g (k * 89) rfl _ _ hr Try.underlying53 rfl (sizeP _) ?_; simp only [Act.put, List.setIfInBounds_toArray, List.set_cons_zero, List.set_cons_succ]) | (refine wpList_store_new rfl 53 _ _ rfl w (rowP zeroR) 53 _ rfl rfl rfl (sizeP _) rfl (rowP_one _) ?_; simp only [Act.put]) | fail)
  refine ((?_ : ∀ x, x = w.alloc (.cells (rowP (ps k)) 53) → Code.wp _ _ _ _ x) _ rfl)
  intro w1 hw1
  obtain ⟨gq, hgq⟩ : ∃ x, x = w.heap.size := ⟨_, rfl⟩
  rw [← hgq]
  have hP1 : w1.heap[gq]? = some (.cells (rowP (ps k)) 53 (0, 0)) := by rw [hw1, hgq]; exact heap_alloc_new _ _
  have hb1 : Below w.heap.size w w1 := by rw [hw1]; exact more (Below.refl _ _) _
  have H1 := Lib.hid (Hs.out.below hb1)
  have HO1 := Lib.hid (show Only (fun x => x = g ∨ x = bx) w w1 from Only.of_below hb1)
  have hqg : g < gq := by rw [hgq]; exact Hs.out.p.lt
  have hqb : bx < gq := by rw [hgq]; exact Hs.out.lt
  have hq0 : w.heap.size ≤ gq := by omega
  have HB1 := Lib.hid hb1
  have hfq : b.nf = 0 ∨ ∀ g' o, b.af = some ⟨g', o, none⟩ → g' ≠ gq := by
    rcases Hs.out.f with h0 | ⟨g1, o1, h1, hc⟩
    · exact .inl h0
    · by_cases hn : b.nf = 0
      · exact .inl hn
      · refine .inr (fun g' o e => ?_)
        rw [h1] at e
        cases e
        have := cell_lt (hc 0 (by omega) 0 (by omega))
        omega
  have Hfq := Lib.hid hfq
  clear hb1 hr b17 hw1 hgq hfq
  have HP1 := Lib.hid hP1
  clear hP1
  have c44 : w1.cell? ⟨gq, 22 + 22, none⟩ = some (.bool ((ps k).b 44)) := cells_of HP1.out 44
  have c45 : w1.cell? ⟨gq, 22 + 23, none⟩ = some (.bool ((ps k).b 45)) := cells_of HP1.out 45
  have c50 : w1.cell? ⟨gq, 22 + 28, none⟩ = some (.bool ((ps k).b 50)) := cells_of HP1.out 50
  have c8 : w1.cell? ⟨gq, 6 + 2, none⟩ = some (.int .i64 ((ps k).i 8)) := cells_of HP1.out 8
  have c31 : w1.cell? ⟨gq, 22 + 9, none⟩ = some (.bool ((ps k).b 31)) := cells_of HP1.out 31
  have c87 : w1.cell? ⟨gq, 87, none⟩ = some (.int .i64 ((ps k).i 87)) := cells_of HP1.out 87
  have c13 : w1.cell? ⟨gq, 6 + 7, none⟩ = some (.int .i64 ((ps k).i 13)) := cells_of HP1.out 13
  have c14 : w1.cell? ⟨gq, 6 + 8, none⟩ = some (.int .i64 ((ps k).i 14)) := cells_of HP1.out 14
  have c48 : w1.cell? ⟨gq, 22 + 26, none⟩ = some (.bool ((ps k).b 48)) := cells_of HP1.out 48
  have f31 : w1.frozen? ⟨gq, 22 + 9, none⟩ = false := free_block HP1.out 31
  have f8 : w1.frozen? ⟨gq, 6 + 2, none⟩ = false := free_block HP1.out 8
  have b4 : w1.cell? ⟨bx, 2 + 2, none⟩ = some (.int .i64 (b.r.i 4)) := cells_of H1.out.h 4
  have b6 : w1.cell? ⟨bx, 6, none⟩ = some (.int .i64 (b.r.i 6)) := cells_of H1.out.h 6
  have hql : gq < w1.heap.size := cell_lt c44
  have hbl := H1.out.lt
  by_cases ha : (!(ps k).b 44 || (ps k).b 50) = true
  · have He := Lib.hid (show txF b (ps k) = (ps k, false, none) by unfold txF; rw [if_pos ha])
    rcases (show (ps k).b 44 = false ∨ ((ps k).b 44 = true ∧ (ps k).b 50 = true) by cases h44 : (ps k).b 44 <;> simp_all) with h44 | ⟨h44, h50⟩
    · rw [h44] at c44
      clear ha
      go_wp2_with fail
      go_ret
      exact still_step' He.out H1.out HO1.out
    · rw [h44] at c44
      rw [h50] at c50
      clear ha
      go_wp2_with fail
      go_ret
      exact still_step' He.out H1.out HO1.out
  have h44 : (ps k).b 44 = true := by cases h : (ps k).b 44 <;> simp_all
  have h50 : (ps k).b 50 = false := by cases h : (ps k).b 50 <;> simp_all
  have Ha := Lib.hid ha
  rw [h44] at c44
  rw [h50] at c50
  clear ha h44 h50
  by_cases h8 : (ps k).i 8 = 0
  · have He := Lib.hid (show txF b (ps k) = (((ps k).setB 31 ((ps k).b 31 || (ps k).i 87 == 4 || ((ps k).i 87 == 3 && (ps k).i 13 != 0))).setI 8 (b.r.i 4), true, none) by unfold txF; rw [if_neg Ha.out, if_pos h8])
    rw [h8] at c8
    clear h8
    rcases (show (ps k).i 87 = 4 ∨ (¬ (ps k).i 87 = 4 ∧ (ps k).i 87 = 3 ∧ ((ps k).i 13 != 0) = true) ∨ (¬ (ps k).i 87 = 4 ∧ (ps k).i 87 = 3 ∧ ((ps k).i 13 != 0) = false) ∨ (¬ (ps k).i 87 = 4 ∧ ¬ (ps k).i 87 = 3) by by_cases h4 : (ps k).i 87 = 4 <;> by_cases h3 : (ps k).i 87 = 3 <;> cases h13 : ((ps k).i 13 != 0) <;> simp_all) with h4 | ⟨h4, h3, h13⟩ | ⟨h4, h3, h13⟩ | ⟨h4, h3⟩
    · have hv : (ps k).setB 31 ((ps k).b 31 || (ps k).i 87 == 4 || ((ps k).i 87 == 3 && (ps k).i 13 != 0)) = (ps k).setB 31 true := by
        rw [show ((ps k).b 31 || (ps k).i 87 == 4 || ((ps k).i 87 == 3 && (ps k).i 13 != 0)) = true by simp [h4]]
      obtain ⟨pp, hpp⟩ : ∃ x, x = ((ps k).setB 31 true).setI 8 (b.r.i 4) := ⟨_, rfl⟩
      have He' := Lib.hid (show txF b (ps k) = (pp, true, none) by rw [He.out, hv, hpp])
      have d4 : ((ps k).i 87 == 4) = true := by simp [h4]
      clear hv h4
      have HPP := Lib.hid hpp
      clear hpp
      go_upto_region 8 with (fail)
      refine ((?_ : ∀ x, x = (w1.setCell ⟨gq, 22 + 9, none⟩ (.bool true)).setCell ⟨gq, 6 + 2, none⟩ (.int .i64 (b.r.i 4)) → Code.wp _ _ _ _ x) _ rfl)
      intro wn hwn
      have HPn := Lib.hid (show wn.heap[gq]? = some (.cells (rowP pp) 53 (0, 0)) by rw [hwn, HPP.out]; exact at_set (i := 8) (at_set (i := 31) HP1.out (rowP_put_31 _ _)) (rowP_put_8 _ _))
      have hbn : Below w.heap.size w wn := by rw [hwn]; exact ((HB1.out.setCell hq0 _).setCell hq0 _)
      have Hn := Lib.hid (Hs.out.below hbn)
      have HOn := Lib.hid (show Only (fun x => x = g ∨ x = bx) w wn from Only.of_below hbn)
      clear hwn hbn c44 c45 c50 c8 c31 c87 c13 c14 c48
      have hloc : wn.drew.rangeAt gq 0 (rowP pp).toList := fun j v hv => by
        rw [Nat.zero_add]
        refine (cells_of HPn.out j).trans ?_
        simpa using hv
      have bb17 : wn.cell? ⟨bx, 17, none⟩ = some (.slice (some ⟨g, 0, none⟩) b.n b.cp) := by
        have h := cells_of Hn.out.h 17
        have e := Hn.out.ap
        exact h.trans (by show some (Value.slice b.ap b.n b.cp) = _; rw [show b.ap = some ⟨g, 0, none⟩ from e])
      have Hd := Lib.hid (Hn.out.below (Below.refl _ _).drew)
      refine wp_region_still_tail 7 (by kernel_rfl) (by kernel_rfl) ?_
      simp only [List.take_succ_cons, List.take_zero, List.drop_succ_cons, List.drop_zero]
      repeat (first | (refine wpStill_row rfl 53 _ rfl gq 0 rfl (rowP pp) _ hloc Try.underlying53 rfl (sizeP _) ?_; simp only [Act.put, List.setIfInBounds_toArray, List.set_cons_zero, List.set_cons_succ]) | still_step)
      refine wpStill_nil ?_
      change wpList _ _ _ _ _ wn.drew
      go_wp2_with (first | (refine wpList_store_mid rfl 53 _ _ rfl g (k * 89) (rowP pp) rfl rfl (Hd.out.p.room hk pp) (sizeP _) (rowP_one _) ?_; simp only [Act.put]) | fail)
      go_ret
      exact ⟨b.ao, b.co, .inl rfl, by rw [He'.out]; rfl, by unfold sentN sentS; rw [He'.out]; exact Hd.out.row hk _, HOn.out.drew.trans (Only.setCells (S := fun x => x = g ∨ x = bx) (.inl rfl) _ _ _)⟩
    · have hv : (ps k).setB 31 ((ps k).b 31 || (ps k).i 87 == 4 || ((ps k).i 87 == 3 && (ps k).i 13 != 0)) = (ps k).setB 31 true := by
        rw [show ((ps k).b 31 || (ps k).i 87 == 4 || ((ps k).i 87 == 3 && (ps k).i 13 != 0)) = true by simp [h4, h3, h13]]
      obtain ⟨pp, hpp⟩ : ∃ x, x = ((ps k).setB 31 true).setI 8 (b.r.i 4) := ⟨_, rfl⟩
      have He' := Lib.hid (show txF b (ps k) = (pp, true, none) by rw [He.out, hv, hpp])
      have d4 : ((ps k).i 87 == 4) = false := by simp [h4]
      have d3 : ((ps k).i 87 == 3) = true := by simp [h3]
      have d13 := h13
      clear hv h4 h3 h13
      have HPP := Lib.hid hpp
      clear hpp
      go_upto_region 8 with (fail)
      refine ((?_ : ∀ x, x = (w1.setCell ⟨gq, 22 + 9, none⟩ (.bool true)).setCell ⟨gq, 6 + 2, none⟩ (.int .i64 (b.r.i 4)) → Code.wp _ _ _ _ x) _ rfl)
      intro wn hwn
      have HPn := Lib.hid (show wn.heap[gq]? = some (.cells (rowP pp) 53 (0, 0)) by rw [hwn, HPP.out]; exact at_set (i := 8) (at_set (i := 31) HP1.out (rowP_put_31 _ _)) (rowP_put_8 _ _))
      have hbn : Below w.heap.size w wn := by rw [hwn]; exact ((HB1.out.setCell hq0 _).setCell hq0 _)
      have Hn := Lib.hid (Hs.out.below hbn)
      have HOn := Lib.hid (show Only (fun x => x = g ∨ x = bx) w wn from Only.of_below hbn)
      clear hwn hbn c44 c45 c50 c8 c31 c87 c13 c14 c48
      have hloc : wn.drew.rangeAt gq 0 (rowP pp).toList := fun j v hv => by
        rw [Nat.zero_add]
        refine (cells_of HPn.out j).trans ?_
        simpa using hv
      have bb17 : wn.cell? ⟨bx, 17, none⟩ = some (.slice (some ⟨g, 0, none⟩) b.n b.cp) := by
        have h := cells_of Hn.out.h 17
        have e := Hn.out.ap
        exact h.trans (by show some (Value.slice b.ap b.n b.cp) = _; rw [show b.ap = some ⟨g, 0, none⟩ from e])
      have Hd := Lib.hid (Hn.out.below (Below.refl _ _).drew)
      refine wp_region_still_tail 7 (by kernel_rfl) (by kernel_rfl) ?_
      simp only [List.take_succ_cons, List.take_zero, List.drop_succ_cons, List.drop_zero]
      repeat (first | (refine wpStill_row rfl 53 _ rfl gq 0 rfl (rowP pp) _ hloc Try.underlying53 rfl (sizeP _) ?_; simp only [Act.put, List.setIfInBounds_toArray, List.set_cons_zero, List.set_cons_succ]) | still_step)
      refine wpStill_nil ?_
      change wpList _ _ _ _ _ wn.drew
      go_wp2_with (first | (refine wpList_store_mid rfl 53 _ _ rfl g (k * 89) (rowP pp) rfl rfl (Hd.out.p.room hk pp) (sizeP _) (rowP_one _) ?_; simp only [Act.put]) | fail)
      go_ret
      exact ⟨b.ao, b.co, .inl rfl, by rw [He'.out]; rfl, by unfold sentN sentS; rw [He'.out]; exact Hd.out.row hk _, HOn.out.drew.trans (Only.setCells (S := fun x => x = g ∨ x = bx) (.inl rfl) _ _ _)⟩
    · have hv : (ps k).setB 31 ((ps k).b 31 || (ps k).i 87 == 4 || ((ps k).i 87 == 3 && (ps k).i 13 != 0)) = ps k := by
        have e4 : ((ps k).i 87 == 4) = false := by simp [h4]
        have e3 : ((ps k).i 13 != 0) = false := h13
        rw [e4, e3]
        simp only [Bool.or_false, Bool.false_and, Bool.and_false]
        exact setB_self _ _
      obtain ⟨pp, hpp⟩ : ∃ x, x = (ps k).setI 8 (b.r.i 4) := ⟨_, rfl⟩
      have He' := Lib.hid (show txF b (ps k) = (pp, true, none) by rw [He.out, hv, hpp])
      have d4 : ((ps k).i 87 == 4) = false := by simp [h4]
      have d3 : ((ps k).i 87 == 3) = true := by simp [h3]
      have d13 := h13
      clear hv h4 h3 h13
      have HPP := Lib.hid hpp
      clear hpp
      go_upto_region 8 with (fail)
      refine ((?_ : ∀ x, x = w1.setCell ⟨gq, 6 + 2, none⟩ (.int .i64 (b.r.i 4)) → Code.wp _ _ _ _ x) _ rfl)
      intro wn hwn
      have HPn := Lib.hid (show wn.heap[gq]? = some (.cells (rowP pp) 53 (0, 0)) by rw [hwn, HPP.out]; exact at_set (i := 8) HP1.out (rowP_put_8 _ _))
      have hbn : Below w.heap.size w wn := by rw [hwn]; exact (HB1.out.setCell hq0 _)
      have Hn := Lib.hid (Hs.out.below hbn)
      have HOn := Lib.hid (show Only (fun x => x = g ∨ x = bx) w wn from Only.of_below hbn)
      clear hwn hbn c44 c45 c50 c8 c31 c87 c13 c14 c48
      have hloc : wn.drew.rangeAt gq 0 (rowP pp).toList := fun j v hv => by
        rw [Nat.zero_add]
        refine (cells_of HPn.out j).trans ?_
        simpa using hv
      have bb17 : wn.cell? ⟨bx, 17, none⟩ = some (.slice (some ⟨g, 0, none⟩) b.n b.cp) := by
        have h := cells_of Hn.out.h 17
        have e := Hn.out.ap
        exact h.trans (by show some (Value.slice b.ap b.n b.cp) = _; rw [show b.ap = some ⟨g, 0, none⟩ from e])
      have Hd := Lib.hid (Hn.out.below (Below.refl _ _).drew)
      refine wp_region_still_tail 7 (by kernel_rfl) (by kernel_rfl) ?_
      simp only [List.take_succ_cons, List.take_zero, List.drop_succ_cons, List.drop_zero]
      repeat (first | (refine wpStill_row rfl 53 _ rfl gq 0 rfl (rowP pp) _ hloc Try.underlying53 rfl (sizeP _) ?_; simp only [Act.put, List.setIfInBounds_toArray, List.set_cons_zero, List.set_cons_succ]) | still_step)
      refine wpStill_nil ?_
      change wpList _ _ _ _ _ wn.drew
      go_wp2_with (first | (refine wpList_store_mid rfl 53 _ _ rfl g (k * 89) (rowP pp) rfl rfl (Hd.out.p.room hk pp) (sizeP _) (rowP_one _) ?_; simp only [Act.put]) | fail)
      go_ret
      exact ⟨b.ao, b.co, .inl rfl, by rw [He'.out]; rfl, by unfold sentN sentS; rw [He'.out]; exact Hd.out.row hk _, HOn.out.drew.trans (Only.setCells (S := fun x => x = g ∨ x = bx) (.inl rfl) _ _ _)⟩
    · have hv : (ps k).setB 31 ((ps k).b 31 || (ps k).i 87 == 4 || ((ps k).i 87 == 3 && (ps k).i 13 != 0)) = ps k := by
        have e4 : ((ps k).i 87 == 4) = false := by simp [h4]
        have e3 : ((ps k).i 87 == 3) = false := by simp [h3]
        rw [e4, e3]
        simp only [Bool.or_false, Bool.false_and, Bool.and_false]
        exact setB_self _ _
      obtain ⟨pp, hpp⟩ : ∃ x, x = (ps k).setI 8 (b.r.i 4) := ⟨_, rfl⟩
      have He' := Lib.hid (show txF b (ps k) = (pp, true, none) by rw [He.out, hv, hpp])
      have d4 : ((ps k).i 87 == 4) = false := by simp [h4]
      have d3 : ((ps k).i 87 == 3) = false := by simp [h3]
      clear hv h4 h3
      have HPP := Lib.hid hpp
      clear hpp
      go_upto_region 8 with (fail)
      refine ((?_ : ∀ x, x = w1.setCell ⟨gq, 6 + 2, none⟩ (.int .i64 (b.r.i 4)) → Code.wp _ _ _ _ x) _ rfl)
      intro wn hwn
      have HPn := Lib.hid (show wn.heap[gq]? = some (.cells (rowP pp) 53 (0, 0)) by rw [hwn, HPP.out]; exact at_set (i := 8) HP1.out (rowP_put_8 _ _))
      have hbn : Below w.heap.size w wn := by rw [hwn]; exact (HB1.out.setCell hq0 _)
      have Hn := Lib.hid (Hs.out.below hbn)
      have HOn := Lib.hid (show Only (fun x => x = g ∨ x = bx) w wn from Only.of_below hbn)
      clear hwn hbn c44 c45 c50 c8 c31 c87 c13 c14 c48
      have hloc : wn.drew.rangeAt gq 0 (rowP pp).toList := fun j v hv => by
        rw [Nat.zero_add]
        refine (cells_of HPn.out j).trans ?_
        simpa using hv
      have bb17 : wn.cell? ⟨bx, 17, none⟩ = some (.slice (some ⟨g, 0, none⟩) b.n b.cp) := by
        have h := cells_of Hn.out.h 17
        have e := Hn.out.ap
        exact h.trans (by show some (Value.slice b.ap b.n b.cp) = _; rw [show b.ap = some ⟨g, 0, none⟩ from e])
      have Hd := Lib.hid (Hn.out.below (Below.refl _ _).drew)
      refine wp_region_still_tail 7 (by kernel_rfl) (by kernel_rfl) ?_
      simp only [List.take_succ_cons, List.take_zero, List.drop_succ_cons, List.drop_zero]
      repeat (first | (refine wpStill_row rfl 53 _ rfl gq 0 rfl (rowP pp) _ hloc Try.underlying53 rfl (sizeP _) ?_; simp only [Act.put, List.setIfInBounds_toArray, List.set_cons_zero, List.set_cons_succ]) | still_step)
      refine wpStill_nil ?_
      change wpList _ _ _ _ _ wn.drew
      go_wp2_with (first | (refine wpList_store_mid rfl 53 _ _ rfl g (k * 89) (rowP pp) rfl rfl (Hd.out.p.room hk pp) (sizeP _) (rowP_one _) ?_; simp only [Act.put]) | fail)
      go_ret
      exact ⟨b.ao, b.co, .inl rfl, by rw [He'.out]; rfl, by unfold sentN sentS; rw [He'.out]; exact Hd.out.row hk _, HOn.out.drew.trans (Only.setCells (S := fun x => x = g ∨ x = bx) (.inl rfl) _ _ _)⟩
  have He8 := Lib.hid h8
  have h8' : ((ps k).i 8 == 0) = false := beq_eq_false_iff_ne.2 h8
  clear h8
  by_cases hn : (!(ps k).b 31 || decide (b.r.i 6 ≤ (ps k).i 14) || !(kindF (ps k)).2) = true
  · have He := Lib.hid (show txF b (ps k) = (ps k, false, none) by unfold txF; rw [if_neg Ha.out, if_neg He8.out, if_pos hn])
    rcases (show (ps k).b 31 = false ∨ ((ps k).b 31 = true ∧ decide (b.r.i 6 ≤ (ps k).i 14) = true) ∨ ((ps k).b 31 = true ∧ decide (b.r.i 6 ≤ (ps k).i 14) = false ∧ (kindF (ps k)).2 = false) by revert hn; generalize decide (b.r.i 6 ≤ (ps k).i 14) = d; generalize (ps k).b 31 = c; generalize (kindF (ps k)).2 = e; cases c <;> cases d <;> cases e <;> simp) with h31 | ⟨h31, d6⟩ | ⟨h31, d6, hk2⟩
    · rw [h31] at c31
      clear hn h31
      go_upto_region 10 with (fail)
      refine wp_region_held_drew (S := fun w' => Below w1.heap.size w1 w') (by kernel_rfl) (Below.refl _ _).drew (fun hH => ?_)
      refine wpAnyH_take (i := 0) (v := .pointer (some ⟨gq, 22, none⟩)) rfl (by kernel_rfl) (by kernel_rfl) (by kernel_rfl) (fun _ _ _ h => h) (Or.inl ⟨by rfl, fun z _ => by simp [go_sem, execOp]⟩) hH ?_
      simp only [List.getElem_toArray, List.getElem_cons_succ, List.getElem_cons_zero, Act.put, List.setIfInBounds_toArray, List.set_cons_zero, List.set_cons_succ]
      refine wpAnyH_take (i := 1) (v := .pointer (some ⟨gq, 22 + 9, none⟩)) rfl (by kernel_rfl) (by kernel_rfl) (by kernel_rfl) (fun _ _ _ h => h) (Or.inl ⟨by rfl, fun z _ => by simp [go_sem, execOp]⟩) hH ?_
      simp only [List.getElem_toArray, List.getElem_cons_succ, List.getElem_cons_zero, Act.put, List.setIfInBounds_toArray, List.set_cons_zero, List.set_cons_succ]
      refine wpAnyH_take (i := 2) (v := .bool false) rfl (by kernel_rfl) (by kernel_rfl) (by kernel_rfl) (fun _ _ _ h => h) (Or.inl ⟨by rfl, fun z hz => by simp [go_sem, execOp, (show z.cell? ⟨gq, 22 + 9, none⟩ = some (.bool false) from (hz.cell (p := ⟨gq, 22 + 9, none⟩) hql).trans c31)]⟩) hH ?_
      simp only [List.getElem_toArray, List.getElem_cons_succ, List.getElem_cons_zero, Act.put, List.setIfInBounds_toArray, List.set_cons_zero, List.set_cons_succ]
      refine wpAnyH_take (i := 3) (v := .bool true) rfl (by kernel_rfl) (by kernel_rfl) (by kernel_rfl) (fun _ _ _ h => h) (Or.inl ⟨by rfl, fun z _ => by simp [go_sem, execOp]⟩) hH ?_
      simp only [List.getElem_toArray, List.getElem_cons_succ, List.getElem_cons_zero, Act.put, List.setIfInBounds_toArray, List.set_cons_zero, List.set_cons_succ]
      refine wpAnyH_take (i := 4) (v := .bool true) rfl (by kernel_rfl) (by kernel_rfl) (by kernel_rfl) (fun _ _ _ h => h) (Or.inl ⟨by rfl, fun z _ => rfl⟩) hH ?_
      simp only [List.getElem_toArray, List.getElem_cons_succ, List.getElem_cons_zero, Act.put, List.setIfInBounds_toArray, List.set_cons_zero, List.set_cons_succ]
      refine wpAnyH_take (i := 5) (v := undef) rfl (by kernel_rfl) (by kernel_rfl) (by kernel_rfl) (fun _ _ _ h => h) (Or.inr ⟨by rfl, rfl⟩) hH ?_
      simp only [List.getElem_toArray, List.getElem_cons_succ, List.getElem_cons_zero, Act.put, List.setIfInBounds_toArray, List.set_cons_zero, List.set_cons_succ]
      refine wpAnyH_take (i := 6) (v := undef) rfl (by kernel_rfl) (by kernel_rfl) (by kernel_rfl) (fun _ _ _ h => h) (Or.inr ⟨by rfl, rfl⟩) hH ?_
      simp only [List.getElem_toArray, List.getElem_cons_succ, List.getElem_cons_zero, Act.put, List.setIfInBounds_toArray, List.set_cons_zero, List.set_cons_succ]
      refine wpAnyH_take (i := 7) (v := undef) rfl (by kernel_rfl) (by kernel_rfl) (by kernel_rfl) (fun _ _ _ h => h) (Or.inr ⟨by rfl, rfl⟩) hH ?_
      simp only [List.getElem_toArray, List.getElem_cons_succ, List.getElem_cons_zero, Act.put, List.setIfInBounds_toArray, List.set_cons_zero, List.set_cons_succ]
      refine wpAnyH_take (i := 8) (v := undef) rfl (by kernel_rfl) (by kernel_rfl) (by kernel_rfl) (fun _ _ _ h => h) (Or.inr ⟨by rfl, rfl⟩) hH ?_
      simp only [List.getElem_toArray, List.getElem_cons_succ, List.getElem_cons_zero, Act.put, List.setIfInBounds_toArray, List.set_cons_zero, List.set_cons_succ]
      refine wpAnyH_take (i := 9) (v := undef) rfl (by kernel_rfl) (by kernel_rfl) (by kernel_rfl) (fun _ _ _ h => h) (Or.inr ⟨by rfl, rfl⟩) hH ?_
      simp only [List.getElem_toArray, List.getElem_cons_succ, List.getElem_cons_zero, Act.put, List.setIfInBounds_toArray, List.set_cons_zero, List.set_cons_succ]
      refine wpAnyH_take (i := 10) (v := undef) rfl (by kernel_rfl) (by kernel_rfl) (by kernel_rfl) (fun _ _ _ h => h) (Or.inr ⟨by rfl, rfl⟩) hH ?_
      simp only [List.getElem_toArray, List.getElem_cons_succ, List.getElem_cons_zero, Act.put, List.setIfInBounds_toArray, List.set_cons_zero, List.set_cons_succ]
      refine wpAnyH_take (i := 11) (v := undef) rfl (by kernel_rfl) (by kernel_rfl) (by kernel_rfl) (fun _ _ _ h => h) (Or.inr ⟨by rfl, rfl⟩) hH ?_
      simp only [List.getElem_toArray, List.getElem_cons_succ, List.getElem_cons_zero, Act.put, List.setIfInBounds_toArray, List.set_cons_zero, List.set_cons_succ]
      refine wpAnyH_take (i := 12) (v := undef) rfl (by kernel_rfl) (by kernel_rfl) (by kernel_rfl) (fun _ _ _ h => h) (Or.inr ⟨by rfl, rfl⟩) hH ?_
      simp only [List.getElem_toArray, List.getElem_cons_succ, List.getElem_cons_zero, Act.put, List.setIfInBounds_toArray, List.set_cons_zero, List.set_cons_succ]
      refine wpAnyH_take (i := 13) (v := .bool true) rfl (by kernel_rfl) (by kernel_rfl) (by kernel_rfl) (fun _ _ _ h => h) (Or.inl ⟨by rfl, fun z _ => rfl⟩) hH ?_
      simp only [List.getElem_toArray, List.getElem_cons_succ, List.getElem_cons_zero, Act.put, List.setIfInBounds_toArray, List.set_cons_zero, List.set_cons_succ]
      refine wpAnyH_done (by kernel_rfl) ?_ _
      clear hH
      go_wp2_with fail
      go_ret
      exact still_step' He.out (H1.out.below (Below.refl _ _).drew) HO1.out.drew
    · rw [h31] at c31
      clear hn h31
      go_upto_region 10 with (fail)
      refine wp_region_held_drew (S := fun w' => Below w1.heap.size w1 w') (by kernel_rfl) (Below.refl _ _).drew (fun hH => ?_)
      refine wpAnyH_take (i := 0) (v := .pointer (some ⟨gq, 22, none⟩)) rfl (by kernel_rfl) (by kernel_rfl) (by kernel_rfl) (fun _ _ _ h => h) (Or.inl ⟨by rfl, fun z _ => by simp [go_sem, execOp]⟩) hH ?_
      simp only [List.getElem_toArray, List.getElem_cons_succ, List.getElem_cons_zero, Act.put, List.setIfInBounds_toArray, List.set_cons_zero, List.set_cons_succ]
      refine wpAnyH_take (i := 1) (v := .pointer (some ⟨gq, 22 + 9, none⟩)) rfl (by kernel_rfl) (by kernel_rfl) (by kernel_rfl) (fun _ _ _ h => h) (Or.inl ⟨by rfl, fun z _ => by simp [go_sem, execOp]⟩) hH ?_
      simp only [List.getElem_toArray, List.getElem_cons_succ, List.getElem_cons_zero, Act.put, List.setIfInBounds_toArray, List.set_cons_zero, List.set_cons_succ]
      refine wpAnyH_take (i := 2) (v := .bool true) rfl (by kernel_rfl) (by kernel_rfl) (by kernel_rfl) (fun _ _ _ h => h) (Or.inl ⟨by rfl, fun z hz => by simp [go_sem, execOp, (show z.cell? ⟨gq, 22 + 9, none⟩ = some (.bool true) from (hz.cell (p := ⟨gq, 22 + 9, none⟩) hql).trans c31)]⟩) hH ?_
      simp only [List.getElem_toArray, List.getElem_cons_succ, List.getElem_cons_zero, Act.put, List.setIfInBounds_toArray, List.set_cons_zero, List.set_cons_succ]
      refine wpAnyH_take (i := 3) (v := .bool false) rfl (by kernel_rfl) (by kernel_rfl) (by kernel_rfl) (fun _ _ _ h => h) (Or.inl ⟨by rfl, fun z _ => by simp [go_sem, execOp]⟩) hH ?_
      simp only [List.getElem_toArray, List.getElem_cons_succ, List.getElem_cons_zero, Act.put, List.setIfInBounds_toArray, List.set_cons_zero, List.set_cons_succ]
      refine wpAnyH_take (i := 4) (v := .bool false) rfl (by kernel_rfl) (by kernel_rfl) (by kernel_rfl) (fun _ _ _ h => h) (Or.inl ⟨by rfl, fun z _ => rfl⟩) hH ?_
      simp only [List.getElem_toArray, List.getElem_cons_succ, List.getElem_cons_zero, Act.put, List.setIfInBounds_toArray, List.set_cons_zero, List.set_cons_succ]
      refine wpAnyH_take (i := 5) (v := .pointer (some ⟨gq, 6, none⟩)) rfl (by kernel_rfl) (by kernel_rfl) (by kernel_rfl) (fun _ _ _ h => h) (Or.inl ⟨by rfl, fun z _ => by simp [go_sem, execOp]⟩) hH ?_
      simp only [List.getElem_toArray, List.getElem_cons_succ, List.getElem_cons_zero, Act.put, List.setIfInBounds_toArray, List.set_cons_zero, List.set_cons_succ]
      refine wpAnyH_take (i := 6) (v := .pointer (some ⟨gq, 6 + 8, none⟩)) rfl (by kernel_rfl) (by kernel_rfl) (by kernel_rfl) (fun _ _ _ h => h) (Or.inl ⟨by rfl, fun z _ => by simp [go_sem, execOp]⟩) hH ?_
      simp only [List.getElem_toArray, List.getElem_cons_succ, List.getElem_cons_zero, Act.put, List.setIfInBounds_toArray, List.set_cons_zero, List.set_cons_succ]
      refine wpAnyH_take (i := 7) (v := .int .i64 ((ps k).i 14)) rfl (by kernel_rfl) (by kernel_rfl) (by kernel_rfl) (fun _ _ _ h => h) (Or.inl ⟨by rfl, fun z hz => by simp [go_sem, execOp, (show z.cell? ⟨gq, 6 + 8, none⟩ = some (.int .i64 ((ps k).i 14)) from (hz.cell (p := ⟨gq, 6 + 8, none⟩) hql).trans c14)]⟩) hH ?_
      simp only [List.getElem_toArray, List.getElem_cons_succ, List.getElem_cons_zero, Act.put, List.setIfInBounds_toArray, List.set_cons_zero, List.set_cons_succ]
      refine wpAnyH_take (i := 8) (v := .pointer (some ⟨bx, 0, none⟩)) rfl (by kernel_rfl) (by kernel_rfl) (by kernel_rfl) (fun _ _ _ h => h) (Or.inl ⟨by rfl, fun z _ => rfl⟩) hH ?_
      simp only [List.getElem_toArray, List.getElem_cons_succ, List.getElem_cons_zero, Act.put, List.setIfInBounds_toArray, List.set_cons_zero, List.set_cons_succ]
      refine wpAnyH_take (i := 9) (v := .pointer (some ⟨bx, 0, none⟩)) rfl (by kernel_rfl) (by kernel_rfl) (by kernel_rfl) (fun _ _ _ h => h) (Or.inl ⟨by rfl, fun z _ => by simp [go_sem, execOp]⟩) hH ?_
      simp only [List.getElem_toArray, List.getElem_cons_succ, List.getElem_cons_zero, Act.put, List.setIfInBounds_toArray, List.set_cons_zero, List.set_cons_succ]
      refine wpAnyH_take (i := 10) (v := .pointer (some ⟨bx, 6, none⟩)) rfl (by kernel_rfl) (by kernel_rfl) (by kernel_rfl) (fun _ _ _ h => h) (Or.inl ⟨by rfl, fun z _ => by simp [go_sem, execOp]⟩) hH ?_
      simp only [List.getElem_toArray, List.getElem_cons_succ, List.getElem_cons_zero, Act.put, List.setIfInBounds_toArray, List.set_cons_zero, List.set_cons_succ]
      refine wpAnyH_take (i := 11) (v := .int .i64 (b.r.i 6)) rfl (by kernel_rfl) (by kernel_rfl) (by kernel_rfl) (fun _ _ _ h => h) (Or.inl ⟨by rfl, fun z hz => by simp [go_sem, execOp, (show z.cell? ⟨bx, 6, none⟩ = some (.int .i64 (b.r.i 6)) from (hz.cell (p := ⟨bx, 6, none⟩) hbl).trans b6)]⟩) hH ?_
      simp only [List.getElem_toArray, List.getElem_cons_succ, List.getElem_cons_zero, Act.put, List.setIfInBounds_toArray, List.set_cons_zero, List.set_cons_succ]
      refine wpAnyH_take (i := 12) (v := .bool true) rfl (by kernel_rfl) (by kernel_rfl) (by kernel_rfl) (fun _ _ _ h => h) (Or.inl ⟨by rfl, fun z _ => by simp [go_sem, execOp, d6]⟩) hH ?_
      simp only [List.getElem_toArray, List.getElem_cons_succ, List.getElem_cons_zero, Act.put, List.setIfInBounds_toArray, List.set_cons_zero, List.set_cons_succ]
      refine wpAnyH_take (i := 13) (v := .bool true) rfl (by kernel_rfl) (by kernel_rfl) (by kernel_rfl) (fun _ _ _ h => h) (Or.inl ⟨by rfl, fun z _ => rfl⟩) hH ?_
      simp only [List.getElem_toArray, List.getElem_cons_succ, List.getElem_cons_zero, Act.put, List.setIfInBounds_toArray, List.set_cons_zero, List.set_cons_succ]
      refine wpAnyH_done (by kernel_rfl) ?_ _
      clear hH
      go_wp2_with fail
      go_ret
      exact still_step' He.out (H1.out.below (Below.refl _ _).drew) HO1.out.drew
    · rw [h31] at c31
      clear hn h31
      go_upto_region 10 with (fail)
      refine wp_region_held_drew (S := fun w' => Below w1.heap.size w1 w') (by kernel_rfl) (Below.refl _ _).drew (fun hH => ?_)
      refine wpAnyH_take (i := 0) (v := .pointer (some ⟨gq, 22, none⟩)) rfl (by kernel_rfl) (by kernel_rfl) (by kernel_rfl) (fun _ _ _ h => h) (Or.inl ⟨by rfl, fun z _ => by simp [go_sem, execOp]⟩) hH ?_
      simp only [List.getElem_toArray, List.getElem_cons_succ, List.getElem_cons_zero, Act.put, List.setIfInBounds_toArray, List.set_cons_zero, List.set_cons_succ]
      refine wpAnyH_take (i := 1) (v := .pointer (some ⟨gq, 22 + 9, none⟩)) rfl (by kernel_rfl) (by kernel_rfl) (by kernel_rfl) (fun _ _ _ h => h) (Or.inl ⟨by rfl, fun z _ => by simp [go_sem, execOp]⟩) hH ?_
      simp only [List.getElem_toArray, List.getElem_cons_succ, List.getElem_cons_zero, Act.put, List.setIfInBounds_toArray, List.set_cons_zero, List.set_cons_succ]
      refine wpAnyH_take (i := 2) (v := .bool true) rfl (by kernel_rfl) (by kernel_rfl) (by kernel_rfl) (fun _ _ _ h => h) (Or.inl ⟨by rfl, fun z hz => by simp [go_sem, execOp, (show z.cell? ⟨gq, 22 + 9, none⟩ = some (.bool true) from (hz.cell (p := ⟨gq, 22 + 9, none⟩) hql).trans c31)]⟩) hH ?_
      simp only [List.getElem_toArray, List.getElem_cons_succ, List.getElem_cons_zero, Act.put, List.setIfInBounds_toArray, List.set_cons_zero, List.set_cons_succ]
      refine wpAnyH_take (i := 3) (v := .bool false) rfl (by kernel_rfl) (by kernel_rfl) (by kernel_rfl) (fun _ _ _ h => h) (Or.inl ⟨by rfl, fun z _ => by simp [go_sem, execOp]⟩) hH ?_
      simp only [List.getElem_toArray, List.getElem_cons_succ, List.getElem_cons_zero, Act.put, List.setIfInBounds_toArray, List.set_cons_zero, List.set_cons_succ]
      refine wpAnyH_take (i := 4) (v := .bool false) rfl (by kernel_rfl) (by kernel_rfl) (by kernel_rfl) (fun _ _ _ h => h) (Or.inl ⟨by rfl, fun z _ => rfl⟩) hH ?_
      simp only [List.getElem_toArray, List.getElem_cons_succ, List.getElem_cons_zero, Act.put, List.setIfInBounds_toArray, List.set_cons_zero, List.set_cons_succ]
      refine wpAnyH_take (i := 5) (v := .pointer (some ⟨gq, 6, none⟩)) rfl (by kernel_rfl) (by kernel_rfl) (by kernel_rfl) (fun _ _ _ h => h) (Or.inl ⟨by rfl, fun z _ => by simp [go_sem, execOp]⟩) hH ?_
      simp only [List.getElem_toArray, List.getElem_cons_succ, List.getElem_cons_zero, Act.put, List.setIfInBounds_toArray, List.set_cons_zero, List.set_cons_succ]
      refine wpAnyH_take (i := 6) (v := .pointer (some ⟨gq, 6 + 8, none⟩)) rfl (by kernel_rfl) (by kernel_rfl) (by kernel_rfl) (fun _ _ _ h => h) (Or.inl ⟨by rfl, fun z _ => by simp [go_sem, execOp]⟩) hH ?_
      simp only [List.getElem_toArray, List.getElem_cons_succ, List.getElem_cons_zero, Act.put, List.setIfInBounds_toArray, List.set_cons_zero, List.set_cons_succ]
      refine wpAnyH_take (i := 7) (v := .int .i64 ((ps k).i 14)) rfl (by kernel_rfl) (by kernel_rfl) (by kernel_rfl) (fun _ _ _ h => h) (Or.inl ⟨by rfl, fun z hz => by simp [go_sem, execOp, (show z.cell? ⟨gq, 6 + 8, none⟩ = some (.int .i64 ((ps k).i 14)) from (hz.cell (p := ⟨gq, 6 + 8, none⟩) hql).trans c14)]⟩) hH ?_
      simp only [List.getElem_toArray, List.getElem_cons_succ, List.getElem_cons_zero, Act.put, List.setIfInBounds_toArray, List.set_cons_zero, List.set_cons_succ]
      refine wpAnyH_take (i := 8) (v := .pointer (some ⟨bx, 0, none⟩)) rfl (by kernel_rfl) (by kernel_rfl) (by kernel_rfl) (fun _ _ _ h => h) (Or.inl ⟨by rfl, fun z _ => rfl⟩) hH ?_
      simp only [List.getElem_toArray, List.getElem_cons_succ, List.getElem_cons_zero, Act.put, List.setIfInBounds_toArray, List.set_cons_zero, List.set_cons_succ]
      refine wpAnyH_take (i := 9) (v := .pointer (some ⟨bx, 0, none⟩)) rfl (by kernel_rfl) (by kernel_rfl) (by kernel_rfl) (fun _ _ _ h => h) (Or.inl ⟨by rfl, fun z _ => by simp [go_sem, execOp]⟩) hH ?_
      simp only [List.getElem_toArray, List.getElem_cons_succ, List.getElem_cons_zero, Act.put, List.setIfInBounds_toArray, List.set_cons_zero, List.set_cons_succ]
      refine wpAnyH_take (i := 10) (v := .pointer (some ⟨bx, 6, none⟩)) rfl (by kernel_rfl) (by kernel_rfl) (by kernel_rfl) (fun _ _ _ h => h) (Or.inl ⟨by rfl, fun z _ => by simp [go_sem, execOp]⟩) hH ?_
      simp only [List.getElem_toArray, List.getElem_cons_succ, List.getElem_cons_zero, Act.put, List.setIfInBounds_toArray, List.set_cons_zero, List.set_cons_succ]
      refine wpAnyH_take (i := 11) (v := .int .i64 (b.r.i 6)) rfl (by kernel_rfl) (by kernel_rfl) (by kernel_rfl) (fun _ _ _ h => h) (Or.inl ⟨by rfl, fun z hz => by simp [go_sem, execOp, (show z.cell? ⟨bx, 6, none⟩ = some (.int .i64 (b.r.i 6)) from (hz.cell (p := ⟨bx, 6, none⟩) hbl).trans b6)]⟩) hH ?_
      simp only [List.getElem_toArray, List.getElem_cons_succ, List.getElem_cons_zero, Act.put, List.setIfInBounds_toArray, List.set_cons_zero, List.set_cons_succ]
      refine wpAnyH_take (i := 12) (v := .bool false) rfl (by kernel_rfl) (by kernel_rfl) (by kernel_rfl) (fun _ _ _ h => h) (Or.inl ⟨by rfl, fun z _ => by simp [go_sem, execOp, d6]⟩) hH ?_
      simp only [List.getElem_toArray, List.getElem_cons_succ, List.getElem_cons_zero, Act.put, List.setIfInBounds_toArray, List.set_cons_zero, List.set_cons_succ]
      refine wpAnyH_take (i := 13) (v := .bool false) rfl (by kernel_rfl) (by kernel_rfl) (by kernel_rfl) (fun _ _ _ h => h) (Or.inl ⟨by rfl, fun z _ => rfl⟩) hH ?_
      simp only [List.getElem_toArray, List.getElem_cons_succ, List.getElem_cons_zero, Act.put, List.setIfInBounds_toArray, List.set_cons_zero, List.set_cons_succ]
      refine wpAnyH_done (by kernel_rfl) ?_ _
      clear hH
      have c45' : w1.drew.cell? ⟨gq, 22 + 23, none⟩ = some (.bool ((ps k).b 45)) := c45
      cases h45 : (ps k).b 45 with
      | true =>
        have h87 : (ps k).i 87 = 0 := by unfold kindF at hk2; rw [h45, if_pos rfl] at hk2; simpa using hk2
        rw [h45] at c45
        rw [h87] at c87
        clear hk2 h45 h87 c45'
        go_wp2_with fail
        go_ret
        exact still_step' He.out (H1.out.below (Below.refl _ _).drew) HO1.out.drew
      | false =>
        have h4 : ¬ (ps k).i 87 = 4 := by
          intro e
          unfold kindF at hk2
          rw [h45, if_neg (by simp), if_pos e] at hk2
          cases hk2
        have h3 : ¬ (ps k).i 87 = 3 := by
          intro e
          unfold kindF at hk2
          rw [h45, if_neg (by simp), if_neg h4, e] at hk2
          cases hk2
        have d4 : ((ps k).i 87 == 4) = false := by simp [h4]
        have d3 : ((ps k).i 87 == 3) = false := by simp [h3]
        rw [h45] at c45
        clear hk2 h45 h4 h3 c45'
        go_wp2_with fail
        go_ret
        exact still_step' He.out (H1.out.below (Below.refl _ _).drew) HO1.out.drew
  have hk2 : (kindF (ps k)).2 = true := by cases h : (kindF (ps k)).2 <;> simp_all
  have He := Lib.hid (show txF b (ps k) = (((((ps k).setB 31 false).setI 14 ((ps k).i 14 + 1)).setB 48 ((ps k).b 48 && (kindF (ps k)).1 == 1)).setI 8 (b.r.i 4), true, some (kindF (ps k)).1) by unfold txF; rw [if_neg Ha.out, if_neg He8.out, if_neg hn])
  simp only [Bool.or_eq_true, not_or, Bool.not_eq_true', Bool.not_eq_false, Bool.not_eq_true, decide_eq_false_iff_not] at hn
  obtain ⟨⟨hn1, hn2⟩, hn3⟩ := hn
  rw [hn1] at c31
  have d6 : decide (b.r.i 6 ≤ (ps k).i 14) = false := decide_eq_false hn2
  clear hn1 hn2 hn3
  go_upto_region 10 with (fail)
  refine wp_region_held_drew (S := fun w' => Below w1.heap.size w1 w') (by kernel_rfl) (Below.refl _ _).drew (fun hH => ?_)
  refine wpAnyH_take (i := 0) (v := .pointer (some ⟨gq, 22, none⟩)) rfl (by kernel_rfl) (by kernel_rfl) (by kernel_rfl) (fun _ _ _ h => h) (Or.inl ⟨by rfl, fun z _ => by simp [go_sem, execOp]⟩) hH ?_
  simp only [List.getElem_toArray, List.getElem_cons_succ, List.getElem_cons_zero, Act.put, List.setIfInBounds_toArray, List.set_cons_zero, List.set_cons_succ]
  refine wpAnyH_take (i := 1) (v := .pointer (some ⟨gq, 22 + 9, none⟩)) rfl (by kernel_rfl) (by kernel_rfl) (by kernel_rfl) (fun _ _ _ h => h) (Or.inl ⟨by rfl, fun z _ => by simp [go_sem, execOp]⟩) hH ?_
  simp only [List.getElem_toArray, List.getElem_cons_succ, List.getElem_cons_zero, Act.put, List.setIfInBounds_toArray, List.set_cons_zero, List.set_cons_succ]
  refine wpAnyH_take (i := 2) (v := .bool true) rfl (by kernel_rfl) (by kernel_rfl) (by kernel_rfl) (fun _ _ _ h => h) (Or.inl ⟨by rfl, fun z hz => by simp [go_sem, execOp, (show z.cell? ⟨gq, 22 + 9, none⟩ = some (.bool true) from (hz.cell (p := ⟨gq, 22 + 9, none⟩) hql).trans c31)]⟩) hH ?_
  simp only [List.getElem_toArray, List.getElem_cons_succ, List.getElem_cons_zero, Act.put, List.setIfInBounds_toArray, List.set_cons_zero, List.set_cons_succ]
  refine wpAnyH_take (i := 3) (v := .bool false) rfl (by kernel_rfl) (by kernel_rfl) (by kernel_rfl) (fun _ _ _ h => h) (Or.inl ⟨by rfl, fun z _ => by simp [go_sem, execOp]⟩) hH ?_
  simp only [List.getElem_toArray, List.getElem_cons_succ, List.getElem_cons_zero, Act.put, List.setIfInBounds_toArray, List.set_cons_zero, List.set_cons_succ]
  refine wpAnyH_take (i := 4) (v := .bool false) rfl (by kernel_rfl) (by kernel_rfl) (by kernel_rfl) (fun _ _ _ h => h) (Or.inl ⟨by rfl, fun z _ => rfl⟩) hH ?_
  simp only [List.getElem_toArray, List.getElem_cons_succ, List.getElem_cons_zero, Act.put, List.setIfInBounds_toArray, List.set_cons_zero, List.set_cons_succ]
  refine wpAnyH_take (i := 5) (v := .pointer (some ⟨gq, 6, none⟩)) rfl (by kernel_rfl) (by kernel_rfl) (by kernel_rfl) (fun _ _ _ h => h) (Or.inl ⟨by rfl, fun z _ => by simp [go_sem, execOp]⟩) hH ?_
  simp only [List.getElem_toArray, List.getElem_cons_succ, List.getElem_cons_zero, Act.put, List.setIfInBounds_toArray, List.set_cons_zero, List.set_cons_succ]
  refine wpAnyH_take (i := 6) (v := .pointer (some ⟨gq, 6 + 8, none⟩)) rfl (by kernel_rfl) (by kernel_rfl) (by kernel_rfl) (fun _ _ _ h => h) (Or.inl ⟨by rfl, fun z _ => by simp [go_sem, execOp]⟩) hH ?_
  simp only [List.getElem_toArray, List.getElem_cons_succ, List.getElem_cons_zero, Act.put, List.setIfInBounds_toArray, List.set_cons_zero, List.set_cons_succ]
  refine wpAnyH_take (i := 7) (v := .int .i64 ((ps k).i 14)) rfl (by kernel_rfl) (by kernel_rfl) (by kernel_rfl) (fun _ _ _ h => h) (Or.inl ⟨by rfl, fun z hz => by simp [go_sem, execOp, (show z.cell? ⟨gq, 6 + 8, none⟩ = some (.int .i64 ((ps k).i 14)) from (hz.cell (p := ⟨gq, 6 + 8, none⟩) hql).trans c14)]⟩) hH ?_
  simp only [List.getElem_toArray, List.getElem_cons_succ, List.getElem_cons_zero, Act.put, List.setIfInBounds_toArray, List.set_cons_zero, List.set_cons_succ]
  refine wpAnyH_take (i := 8) (v := .pointer (some ⟨bx, 0, none⟩)) rfl (by kernel_rfl) (by kernel_rfl) (by kernel_rfl) (fun _ _ _ h => h) (Or.inl ⟨by rfl, fun z _ => rfl⟩) hH ?_
  simp only [List.getElem_toArray, List.getElem_cons_succ, List.getElem_cons_zero, Act.put, List.setIfInBounds_toArray, List.set_cons_zero, List.set_cons_succ]
  refine wpAnyH_take (i := 9) (v := .pointer (some ⟨bx, 0, none⟩)) rfl (by kernel_rfl) (by kernel_rfl) (by kernel_rfl) (fun _ _ _ h => h) (Or.inl ⟨by rfl, fun z _ => by simp [go_sem, execOp]⟩) hH ?_
  simp only [List.getElem_toArray, List.getElem_cons_succ, List.getElem_cons_zero, Act.put, List.setIfInBounds_toArray, List.set_cons_zero, List.set_cons_succ]
  refine wpAnyH_take (i := 10) (v := .pointer (some ⟨bx, 6, none⟩)) rfl (by kernel_rfl) (by kernel_rfl) (by kernel_rfl) (fun _ _ _ h => h) (Or.inl ⟨by rfl, fun z _ => by simp [go_sem, execOp]⟩) hH ?_
  simp only [List.getElem_toArray, List.getElem_cons_succ, List.getElem_cons_zero, Act.put, List.setIfInBounds_toArray, List.set_cons_zero, List.set_cons_succ]
  refine wpAnyH_take (i := 11) (v := .int .i64 (b.r.i 6)) rfl (by kernel_rfl) (by kernel_rfl) (by kernel_rfl) (fun _ _ _ h => h) (Or.inl ⟨by rfl, fun z hz => by simp [go_sem, execOp, (show z.cell? ⟨bx, 6, none⟩ = some (.int .i64 (b.r.i 6)) from (hz.cell (p := ⟨bx, 6, none⟩) hbl).trans b6)]⟩) hH ?_
  simp only [List.getElem_toArray, List.getElem_cons_succ, List.getElem_cons_zero, Act.put, List.setIfInBounds_toArray, List.set_cons_zero, List.set_cons_succ]
  refine wpAnyH_take (i := 12) (v := .bool false) rfl (by kernel_rfl) (by kernel_rfl) (by kernel_rfl) (fun _ _ _ h => h) (Or.inl ⟨by rfl, fun z _ => by simp [go_sem, execOp, d6]⟩) hH ?_
  simp only [List.getElem_toArray, List.getElem_cons_succ, List.getElem_cons_zero, Act.put, List.setIfInBounds_toArray, List.set_cons_zero, List.set_cons_succ]
  refine wpAnyH_take (i := 13) (v := .bool false) rfl (by kernel_rfl) (by kernel_rfl) (by kernel_rfl) (fun _ _ _ h => h) (Or.inl ⟨by rfl, fun z _ => rfl⟩) hH ?_
  simp only [List.getElem_toArray, List.getElem_cons_succ, List.getElem_cons_zero, Act.put, List.setIfInBounds_toArray, List.set_cons_zero, List.set_cons_succ]
  refine wpAnyH_done (by kernel_rfl) ?_ _
  clear hH
  clear d6
  cases h45 : (ps k).b 45 with
  | true =>
    have hk : kindF (ps k) = (2, (ps k).i 87 != 0) := by unfold kindF; rw [h45, if_pos rfl]
    have d0 : ((ps k).i 87 != 0) = true := by rw [hk] at hk2; exact hk2
    rw [h45] at c45
    obtain ⟨pp, hpp⟩ : ∃ x, x = ((((ps k).setB 31 false).setI 14 ((ps k).i 14 + 1)).setB 48 false).setI 8 (b.r.i 4) := ⟨_, rfl⟩
    have He' := Lib.hid (show txF b (ps k) = (pp, true, some 2) by
      rw [He.out, hk, show ((ps k).b 48 && ((2 : Int), (ps k).i 87 != 0).1 == 1) = false by simp, hpp])
    have HPP := Lib.hid hpp
    clear hpp hk hk2 h45
    go_upto_region 21 with (fail)
    obtain ⟨w2, hw2⟩ : ∃ x, x = w1.drew := ⟨_, rfl⟩
    rw [← hw2]
    have H2 := Lib.hid (show Bst w2 bx g b ps ss fs by rw [hw2]; exact H1.out.below (Below.refl _ _).drew)
    have HO2 := Lib.hid (show Only (fun x => x = g ∨ x = bx) w w2 by rw [hw2]; exact HO1.out.drew)
    have HP2 := Lib.hid (show w2.heap[gq]? = some (.cells (rowP (ps k)) 53 (0, 0)) by rw [hw2]; exact HP1.out)
    clear hw2 c44 c45 c50 c8 c31 c87 c13 c14 c48 f31 f8 b4 b6 hql hbl HO1 H1 HP1 HB1 Hs He
    have hql := (Array.getElem?_eq_some_iff.1 HP2.out).1
    have hbl := H2.out.lt
    have hgl := H2.out.p.lt
    have b18 : w2.cell? ⟨bx, 18, none⟩ = some (.slice (some ⟨ga, oa, none⟩) b.no b.co) := by rw [← Hao.out]; exact cells_of H2.out.h 18
    obtain ⟨iS, hiS, hzS, hsS, hbS⟩ := info_parts infoS'
    have HI := Lib.hid (And.intro hiS (And.intro hzS (And.intro hsS hbS)))
    clear hiS hzS hsS hbS
    refine wp_region_last 19 (S := fun w' => Below w2.heap.size w2 w') (by kernel_rfl) (Below.refl _ _).drew (fun hH => ?_)
    refine wpAnyE_take (i := 0) (v := .pointer (some ⟨bx, 0, none⟩)) rfl (by kernel_rfl) (by kernel_rfl) (by kernel_rfl) (by kernel_rfl) (fun _ _ _ h => h) (Or.inl ⟨by rfl, fun z _ => rfl⟩) hH ?_
    simp only [List.getElem_toArray, List.getElem_cons_succ, List.getElem_cons_zero, Act.put, List.setIfInBounds_toArray, List.set_cons_zero, List.set_cons_succ]
    refine wpAnyE_take (i := 2) (v := .pointer (some ⟨bx, 0, none⟩)) rfl (by kernel_rfl) (by kernel_rfl) (by kernel_rfl) (by kernel_rfl) (fun _ _ _ h => h) (Or.inl ⟨by rfl, fun z _ => rfl⟩) hH ?_
    simp only [List.getElem_toArray, List.getElem_cons_succ, List.getElem_cons_zero, Act.put, List.setIfInBounds_toArray, List.set_cons_zero, List.set_cons_succ]
    refine wpAnyE_take (i := 3) (v := .pointer (some ⟨bx, 0, none⟩)) rfl (by kernel_rfl) (by kernel_rfl) (by kernel_rfl) (by kernel_rfl) (fun _ _ _ h => h) (Or.inl ⟨by rfl, fun z _ => by simp [go_sem, execOp]⟩) hH ?_
    simp only [List.getElem_toArray, List.getElem_cons_succ, List.getElem_cons_zero, Act.put, List.setIfInBounds_toArray, List.set_cons_zero, List.set_cons_succ]
    refine wpAnyE_take (i := 4) (v := .pointer (some ⟨bx, 18, none⟩)) rfl (by kernel_rfl) (by kernel_rfl) (by kernel_rfl) (by kernel_rfl) (fun _ _ _ h => h) (Or.inl ⟨by rfl, fun z _ => by simp [go_sem, execOp]⟩) hH ?_
    simp only [List.getElem_toArray, List.getElem_cons_succ, List.getElem_cons_zero, Act.put, List.setIfInBounds_toArray, List.set_cons_zero, List.set_cons_succ]
    refine wpAnyE_take (i := 5) (v := .slice (some ⟨ga, oa, none⟩) b.no b.co) rfl (by kernel_rfl) (by kernel_rfl) (by kernel_rfl) (by kernel_rfl) (fun _ _ _ h => h) (Or.inl ⟨by rfl, fun z hz => by simp [go_sem, execOp, (show z.cell? ⟨bx, 18, none⟩ = some (.slice (some ⟨ga, oa, none⟩) b.no b.co) from (hz.cell (p := ⟨bx, 18, none⟩) hbl).trans b18)]⟩) hH ?_
    simp only [List.getElem_toArray, List.getElem_cons_succ, List.getElem_cons_zero, Act.put, List.setIfInBounds_toArray, List.set_cons_zero, List.set_cons_succ]
    refine wpAnyE_take (i := 7) (v := .int .i64 k) rfl (by kernel_rfl) (by kernel_rfl) (by kernel_rfl) (by kernel_rfl) (fun _ _ _ h => h) (Or.inl ⟨by rfl, fun z _ => rfl⟩) hH ?_
    simp only [List.getElem_toArray, List.getElem_cons_succ, List.getElem_cons_zero, Act.put, List.setIfInBounds_toArray, List.set_cons_zero, List.set_cons_succ]
    refine wpAnyE_take (i := 8) (v := .pointer (some ⟨bx, 0, none⟩)) rfl (by kernel_rfl) (by kernel_rfl) (by kernel_rfl) (by kernel_rfl) (fun _ _ _ h => h) (Or.inl ⟨by rfl, fun z _ => rfl⟩) hH ?_
    simp only [List.getElem_toArray, List.getElem_cons_succ, List.getElem_cons_zero, Act.put, List.setIfInBounds_toArray, List.set_cons_zero, List.set_cons_succ]
    refine wpAnyE_take (i := 9) (v := .pointer (some ⟨bx, 0, none⟩)) rfl (by kernel_rfl) (by kernel_rfl) (by kernel_rfl) (by kernel_rfl) (fun _ _ _ h => h) (Or.inl ⟨by rfl, fun z _ => by simp [go_sem, execOp]⟩) hH ?_
    simp only [List.getElem_toArray, List.getElem_cons_succ, List.getElem_cons_zero, Act.put, List.setIfInBounds_toArray, List.set_cons_zero, List.set_cons_succ]
    refine wpAnyE_take (i := 10) rfl (by kernel_rfl) (by kernel_rfl) (by kernel_rfl) (by kernel_rfl) (fun _ _ _ h => h) ((yieldsIf_load_mid (by rfl) 33 _ rfl bx (0) rfl (rowB b).toList _ (row_heldB H2.out.h hbl) Try.underlying33 rfl (sizeB _))) hH ?_
    simp only [List.getElem_toArray, List.getElem_cons_succ, List.getElem_cons_zero, Act.put, List.setIfInBounds_toArray, List.set_cons_zero, List.set_cons_succ]
    refine wpAnyE_take (i := 11) (v := .int .i64 k) rfl (by kernel_rfl) (by kernel_rfl) (by kernel_rfl) (by kernel_rfl) (fun _ _ _ h => h) (Or.inl ⟨by rfl, fun z _ => rfl⟩) hH ?_
    simp only [List.getElem_toArray, List.getElem_cons_succ, List.getElem_cons_zero, Act.put, List.setIfInBounds_toArray, List.set_cons_zero, List.set_cons_succ]
    refine wpAnyE_take (i := 12) (v := .int .i64 2) rfl (by kernel_rfl) (by kernel_rfl) (by kernel_rfl) (by kernel_rfl) (fun _ _ _ h => h) (Or.inl ⟨by rfl, fun z _ => rfl⟩) hH ?_
    simp only [List.getElem_toArray, List.getElem_cons_succ, List.getElem_cons_zero, Act.put, List.setIfInBounds_toArray, List.set_cons_zero, List.set_cons_succ]
    refine wpAnyE_ready (i := 1) (by kernel_rfl) rfl (by decide) (fun K hK => ?_)
    rw [if_pos (by rfl)]
    refine wp_buildSlice 30 0 _ rfl _ _ (mkS0 w2.drew) (by kernel_rfl) ?_
    refine ((?_ : ∀ x y, x = w2.drew.alloc (.cells #[] 56) → y = w2.drew.heap.size → K (Act.put _ _ (.slice (some ⟨y, 0, none⟩) 0 0)) x) _ _ rfl rfl)
    intro w3 ge hw3 hge
    have h23 : Below w2.heap.size w2 w3 := by rw [hw3]; exact hH.alloc hH.size _
    have hg3 : w3.heap[ge]? = some (.cells #[] 56 (0, 0)) := by rw [hw3, hge]; exact heap_alloc_new _ _
    have hge2 : w2.heap.size ≤ ge := by rw [hge]; exact hH.size
    refine hK.out _ _ h23 (fun hH3 => ?_)
    simp only [List.getElem_toArray, List.getElem_cons_succ, List.getElem_cons_zero, Act.put, List.setIfInBounds_toArray, List.set_cons_zero, List.set_cons_succ]
    clear hK K hw3 hge hH
    refine wpAnyE_ready (i := 6) (by kernel_rfl) rfl (by decide) (fun K hK => ?_)
    rw [if_pos (by rfl)]
    refine wp_onto (.tmp 103) (.tmp 107) 30 rfl 56 iS _ 18 96 Try.underlying30 HI.out.1 HI.out.2.1 HI.out.2.2.1 HI.out.2.2.2 rfl (by decide) ge 0 0 b.no (fun k j => cellS (ss k) j) (fun k j => cellS (ss k) j) rfl ⟨#[], hg3, Nat.le_refl _, by simp [maxLen], by simp, by simp [grid]⟩ ⟨ga, oa, none⟩ b.no b.co (grid 18 b.no fun k j => cellS (ss k) j) rfl (grid_length _ _ _) ((H2.out.s.keep (fun _ _ _ hg => h23.block _ hg)).news (by decide) ⟨ga, oa, none⟩ Hao.out) (grid_one (by decide) (fun k j hj => cellS_one _ _ hj)) (Nat.zero_add _) (by simp [grid]) (by unfold maxLen; omega) (by omega) ?_
    intro go1 cap1 w4 hgo1 hown1 hon4
    have h24 : Below w2.heap.size w2 w4 := h23.trans (hon4.below h23.size (fun k hk => by omega))
    have hgl4 := hown1.lt
    have Hown1 := Lib.hid hown1
    refine hK.out _ _ h24 (fun hH4 => ?_)
    simp only [List.getElem_toArray, List.getElem_cons_succ, List.getElem_cons_zero, Act.put, List.setIfInBounds_toArray, List.set_cons_zero, List.set_cons_succ]
    clear hK K hH3 hown1 hon4 hg3 h23
    refine wpAnyE_ready (i := 13) (by kernel_rfl) rfl (by decide) (fun K hK => ?_)
    go_simp
    refine (refmsg_any b ps k (2) w4 ?_ hk hT0).mono ?_
    · exact (H2.out.p.view.below h24).of_ap H2.out.ap
    rintro e w5 ⟨rfl, hb5⟩
    have h25 : Below w2.heap.size w2 w5 := h24.trans (hb5.mono h24.size)
    have h45w := hb5.size
    have Hb5 := Lib.hid hb5
    refine hK.out _ _ h25 (fun hH5 => ?_)
    clear hK K hH4 hb5
    refine wpAnyE_take (i := 14) (v := .agg (rowS ((msgF (ps k) 2).setI 0 k))) rfl (by kernel_rfl) (by kernel_rfl) (by kernel_rfl) (by kernel_rfl) (fun _ _ _ h => h) (Or.inl ⟨by rfl, fun z _ => by kernel_rfl⟩) hH5 ?_
    simp only [List.getElem_toArray, List.getElem_cons_succ, List.getElem_cons_zero, Act.put, List.setIfInBounds_toArray, List.set_cons_zero, List.set_cons_succ]
    refine wpAnyE_ready (i := 15) (by kernel_rfl) rfl (by decide) (fun K hK => ?_)
    rw [if_pos (by rfl)]
    refine wp_buildSlice 30 1 _ rfl _ _ (mkS ((msgF (ps k) 2).setI 0 k) w5) (by kernel_rfl) ?_
    obtain ⟨w6, hw6⟩ : ∃ x, x = w5.alloc (.cells (rowS ((msgF (ps k) 2).setI 0 k)) 56) := ⟨_, rfl⟩
    obtain ⟨gs, hgs⟩ : ∃ x, x = w5.heap.size := ⟨_, rfl⟩
    have h26 : Below w2.heap.size w2 w6 := by rw [hw6]; exact h25.alloc h25.size _
    have h56 : Below w4.heap.size w4 w6 := by rw [hw6]; exact Hb5.out.alloc h45w _
    have hg6 : w6.heap[gs]? = some (.cells (rowS ((msgF (ps k) 2).setI 0 k)) 56 (0, 0)) := by rw [hw6, hgs]; exact heap_alloc_new _ _
    rw [← hw6, ← hgs]
    have HG6 := Lib.hid hg6
    have hown6 : Own w6 go1 56 18 b.no cap1 (fun k j => cellS (ss k) j) := by
      obtain ⟨cur, hg, hr⟩ := Hown1.out
      exact ⟨cur, (h56.block _ hgl4).trans hg, hr⟩
    refine hK.out _ _ h26 (fun hH6 => ?_)
    simp only [List.getElem_toArray, List.getElem_cons_succ, List.getElem_cons_zero, Act.put, List.setIfInBounds_toArray, List.set_cons_zero, List.set_cons_succ]
    clear hK K hw6 hgs hg6 hH5 h56 h25 h24
    refine wpAnyE_ready (i := 16) (by kernel_rfl) rfl (by decide) (fun K hK => ?_)
    rw [if_pos (by rfl)]
    refine wp_onto (.tmp 108) (.tmp 117) 30 rfl 56 iS _ 18 96 Try.underlying30 HI.out.1 HI.out.2.1 HI.out.2.2.1 HI.out.2.2.2 rfl (by decide) go1 b.no cap1 (b.no + 1) (fun k j => cellS (ss k) j) (fun x j => cellS ((fun j => if j = b.no then ((msgF (ps k) 2).setI 0 k) else ss j) x) j) rfl hown6 ⟨gs, 0, none⟩ 1 1 ((List.range 18).map fun j => cellS ((msgF (ps k) 2).setI 0 k) j) rfl (by simp) (fun j u hj => by
      obtain ⟨hl, he⟩ := List.getElem?_eq_some_iff.1 hj
      simp at hl he
      rw [Addr.add_mid, Nat.zero_add, cells_of HG6.out, ← he]
      exact rowS_get hl) (fun u hu => by
      obtain ⟨x, hx, rfl⟩ := List.mem_map.1 hu
      exact cellS_one _ _ (List.mem_range.1 hx)) rfl (by
      rw [grid_snoc (by decide)]
      congr 1
      · exact grid_congr (by decide) (fun k j hk => by simp only [if_neg (show ¬ k = b.no by omega)])
      · simp only [if_true]) (by unfold maxLen; omega) (by omega) ?_
    intro go2 cap2 w7 hgo2 hown2 hon7
    have h27 : Below w2.heap.size w2 w7 := h26.trans (hon7.below h26.size (fun k hk => by omega))
    have Hown2 := Lib.hid hown2
    have H7 := Lib.hid (H2.out.below h27)
    have HO7 := Lib.hid (HO2.out.trans (Only.of_below h27))
    have HP7 := Lib.hid ((h27.block _ hql).trans HP2.out)
    refine hK.out _ _ h27 (fun hH7 => ?_)
    simp only [List.getElem_toArray, List.getElem_cons_succ, List.getElem_cons_zero, Act.put, List.setIfInBounds_toArray, List.set_cons_zero, List.set_cons_succ]
    clear hK K hown2 hown6 hon7 hH6 h26 Hown1 Hb5 HG6
    refine wpAnyE_take (i := 17) (v := .pointer (some ⟨bx, 0, none⟩)) rfl (by kernel_rfl) (by kernel_rfl) (by kernel_rfl) (by kernel_rfl) (fun _ _ _ h => h) (Or.inl ⟨by rfl, fun z _ => by simp [go_sem, execOp]⟩) hH7 ?_
    simp only [List.getElem_toArray, List.getElem_cons_succ, List.getElem_cons_zero, Act.put, List.setIfInBounds_toArray, List.set_cons_zero, List.set_cons_succ]
    refine wpAnyE_take (i := 18) (v := .pointer (some ⟨bx, 18, none⟩)) rfl (by kernel_rfl) (by kernel_rfl) (by kernel_rfl) (by kernel_rfl) (fun _ _ _ h => h) (Or.inl ⟨by rfl, fun z _ => by simp [go_sem, execOp]⟩) hH7 ?_
    simp only [List.getElem_toArray, List.getElem_cons_succ, List.getElem_cons_zero, Act.put, List.setIfInBounds_toArray, List.set_cons_zero, List.set_cons_succ]
    refine wpAnyE_last (by kernel_rfl) rfl (fun K hK => ?_)
    have hbl7 := H7.out.lt
    have b18' : w7.cell? ⟨bx, 18, none⟩ = some (.slice (some ⟨ga, oa, none⟩) b.no b.co) := by rw [← Hao.out]; exact cells_of H7.out.h 18
    have bf18 : w7.frozen? ⟨bx, 18, none⟩ = false := free_block H7.out.h 18
    clear hH7
    go_simp
    refine hK.out _ _ ?_
    clear hK K
    refine wpAnyE_done (by kernel_rfl) ?_ _
    obtain ⟨w8, hw8⟩ : ∃ x, x = w7.setCell ⟨bx, 18, none⟩ (.slice (some ⟨go2, 0, none⟩) (b.no + 1) cap2) := ⟨_, rfl⟩
    rw [← hw8]
    have H8 := Lib.hid (show Bst w8 bx g (outB b (some ⟨go2, 0, none⟩) (b.no + 1) cap2) ps (fun j => if j = b.no then ((msgF (ps k) 2).setI 0 k) else ss j) fs by rw [hw8]; exact H7.out.out Hown2.out (by omega) (by omega))
    have HO8 := Lib.hid (show Only (fun x => x = g ∨ x = bx) w w8 by rw [hw8]; exact HO7.out.setCell (Or.inl (.inr rfl)) _)
    have HP8 := Lib.hid (show w8.heap[gq]? = some (.cells (rowP (ps k)) 53 (0, 0)) by rw [hw8]; exact at_far (by show gq ≠ bx; omega) HP7.out)
    have hqo : go2 ≠ gq := by omega
    have hgoW : w.heap.size ≤ go2 := by omega
    clear hw8 hbl7 b18' bf18 H7 HO7 HP7 HI Hown2 hgl hbl hql b18 H2 HO2 HP2 h27
    have b4 : w8.cell? ⟨bx, 2 + 2, none⟩ = some (.int .i64 (b.r.i 4)) := cells_of H8.out.h 4
    have hn14 : IntKind.i64.wrap ((ps k).i 14 + 1) = (ps k).i 14 + 1 := by unfold IntKind.wrap; simp [IntKind.signed, IntKind.bits]; omega
    have c31 : w8.cell? ⟨gq, 22 + 9, none⟩ = some (.bool ((ps k).b 31)) := cells_of HP8.out 31
    have c14 : w8.cell? ⟨gq, 6 + 8, none⟩ = some (.int .i64 ((ps k).i 14)) := cells_of HP8.out 14
    have c48 : w8.cell? ⟨gq, 22 + 26, none⟩ = some (.bool ((ps k).b 48)) := cells_of HP8.out 48
    have c8 : w8.cell? ⟨gq, 6 + 2, none⟩ = some (.int .i64 ((ps k).i 8)) := cells_of HP8.out 8
    have f31 : w8.frozen? ⟨gq, 22 + 9, none⟩ = false := free_block HP8.out 31
    have f14 : w8.frozen? ⟨gq, 6 + 8, none⟩ = false := free_block HP8.out 14
    have f48 : w8.frozen? ⟨gq, 22 + 26, none⟩ = false := free_block HP8.out 48
    have f8 : w8.frozen? ⟨gq, 6 + 2, none⟩ = false := free_block HP8.out 8
    go_upto_region 27 with (fail)
    refine ((?_ : ∀ x, x = ((((w8.setCell ⟨gq, 22 + 9, none⟩ (.bool false)).setCell ⟨gq, 22 + 26, none⟩ (.bool false)).setCell ⟨gq, 6 + 8, none⟩ (.int .i64 ((ps k).i 14 + 1)))).setCell ⟨gq, 6 + 2, none⟩ (.int .i64 (b.r.i 4)) → Code.wp _ _ _ _ x) _ rfl)
    intro wn hwn
    have HPn := Lib.hid (show wn.heap[gq]? = some (.cells (rowP pp) 53 (0, 0)) by rw [hwn, HPP.out]; exact at_set (i := 8) (at_set (i := 14) (at_set (i := 48) (at_set (i := 31) HP8.out (rowP_put_31 _ _)) (rowP_put_48 _ _)) (rowP_put_14 _ _)) (rowP_put_8 _ _))
    have hon : Only (· = gq) w8 wn := by rw [hwn]; exact (((((Only.refl (· = gq) w8).setCell (Or.inl rfl) _).setCell (Or.inl rfl) _).setCell (Or.inl rfl) _).setCell (Or.inl rfl) _)
    have Hn := Lib.hid (H8.out.aside hon (by omega) (by omega) (.inr (fun g' o e => by cases e; exact hqo)) Hfq.out)
    have HOn := Lib.hid (show Only (fun x => x = g ∨ x = bx) w wn by rw [hwn]; exact ((((HO8.out.setCell (Or.inr hq0) _).setCell (Or.inr hq0) _).setCell (Or.inr hq0) _).setCell (Or.inr hq0) _))
    clear hwn hon hqo b4 hn14 c31 f31 c14 f14 c48 f48 c8 f8
    have hloc : wn.drew.rangeAt gq 0 (rowP pp).toList := fun j v hv => by
      rw [Nat.zero_add]
      refine (cells_of HPn.out j).trans ?_
      simpa using hv
    have bb17 : wn.cell? ⟨bx, 17, none⟩ = some (.slice (some ⟨g, 0, none⟩) b.n b.cp) := by
      have h := cells_of Hn.out.h 17
      have e := Hn.out.ap
      exact h.trans (by show some (Value.slice b.ap b.n b.cp) = _; rw [show b.ap = some ⟨g, 0, none⟩ from e])
    have Hd := Lib.hid (Hn.out.below (Below.refl _ _).drew)
    refine wp_region_still_tail 7 (by kernel_rfl) (by kernel_rfl) ?_
    simp only [List.take_succ_cons, List.take_zero, List.drop_succ_cons, List.drop_zero]
    repeat (first | (refine wpStill_row rfl 53 _ rfl gq 0 rfl (rowP pp) _ hloc Try.underlying53 rfl (sizeP _) ?_; simp only [Act.put, List.setIfInBounds_toArray, List.set_cons_zero, List.set_cons_succ]) | still_step)
    refine wpStill_nil ?_
    change wpList _ _ _ _ _ wn.drew
    go_wp2_with (first | (refine wpList_store_mid rfl 53 _ _ rfl g (k * 89) (rowP pp) rfl rfl (Hd.out.p.room hk pp) (sizeP _) (rowP_one _) ?_; simp only [Act.put]) | fail)
    go_ret
    exact ⟨some ⟨go2, 0, none⟩, cap2, .inr ⟨go2, rfl, hgoW⟩, by rw [He'.out]; rfl, by unfold sentN sentS; rw [He'.out]; exact Hd.out.row hk _, HOn.out.drew.trans (Only.setCells (S := fun x => x = g ∨ x = bx) (.inl rfl) _ _ _)⟩
  | false =>
    by_cases h4 : (ps k).i 87 = 4
    · have hk : kindF (ps k) = (0, true) := by unfold kindF; rw [h45, if_neg (by simp), if_pos h4]
      rw [h45] at c45
      rw [h4] at c87
      obtain ⟨pp, hpp⟩ : ∃ x, x = ((((ps k).setB 31 false).setI 14 ((ps k).i 14 + 1)).setB 48 false).setI 8 (b.r.i 4) := ⟨_, rfl⟩
      have He' := Lib.hid (show txF b (ps k) = (pp, true, some 0) by
        rw [He.out, hk, show ((ps k).b 48 && ((0 : Int), true).1 == 1) = false by simp, hpp])
      have HPP := Lib.hid hpp
      clear hpp hk hk2 h45 h4
      go_upto_region 21 with (fail)
      obtain ⟨w2, hw2⟩ : ∃ x, x = w1.drew := ⟨_, rfl⟩
      rw [← hw2]
      have H2 := Lib.hid (show Bst w2 bx g b ps ss fs by rw [hw2]; exact H1.out.below (Below.refl _ _).drew)
      have HO2 := Lib.hid (show Only (fun x => x = g ∨ x = bx) w w2 by rw [hw2]; exact HO1.out.drew)
      have HP2 := Lib.hid (show w2.heap[gq]? = some (.cells (rowP (ps k)) 53 (0, 0)) by rw [hw2]; exact HP1.out)
      clear hw2 c44 c45 c50 c8 c31 c87 c13 c14 c48 f31 f8 b4 b6 hql hbl HO1 H1 HP1 HB1 Hs He
      have hql := (Array.getElem?_eq_some_iff.1 HP2.out).1
      have hbl := H2.out.lt
      have hgl := H2.out.p.lt
      have b18 : w2.cell? ⟨bx, 18, none⟩ = some (.slice (some ⟨ga, oa, none⟩) b.no b.co) := by rw [← Hao.out]; exact cells_of H2.out.h 18
      obtain ⟨iS, hiS, hzS, hsS, hbS⟩ := info_parts infoS'
      have HI := Lib.hid (And.intro hiS (And.intro hzS (And.intro hsS hbS)))
      clear hiS hzS hsS hbS
      refine wp_region_last 19 (S := fun w' => Below w2.heap.size w2 w') (by kernel_rfl) (Below.refl _ _).drew (fun hH => ?_)
      refine wpAnyE_take (i := 0) (v := .pointer (some ⟨bx, 0, none⟩)) rfl (by kernel_rfl) (by kernel_rfl) (by kernel_rfl) (by kernel_rfl) (fun _ _ _ h => h) (Or.inl ⟨by rfl, fun z _ => rfl⟩) hH ?_
      simp only [List.getElem_toArray, List.getElem_cons_succ, List.getElem_cons_zero, Act.put, List.setIfInBounds_toArray, List.set_cons_zero, List.set_cons_succ]
      refine wpAnyE_take (i := 2) (v := .pointer (some ⟨bx, 0, none⟩)) rfl (by kernel_rfl) (by kernel_rfl) (by kernel_rfl) (by kernel_rfl) (fun _ _ _ h => h) (Or.inl ⟨by rfl, fun z _ => rfl⟩) hH ?_
      simp only [List.getElem_toArray, List.getElem_cons_succ, List.getElem_cons_zero, Act.put, List.setIfInBounds_toArray, List.set_cons_zero, List.set_cons_succ]
      refine wpAnyE_take (i := 3) (v := .pointer (some ⟨bx, 0, none⟩)) rfl (by kernel_rfl) (by kernel_rfl) (by kernel_rfl) (by kernel_rfl) (fun _ _ _ h => h) (Or.inl ⟨by rfl, fun z _ => by simp [go_sem, execOp]⟩) hH ?_
      simp only [List.getElem_toArray, List.getElem_cons_succ, List.getElem_cons_zero, Act.put, List.setIfInBounds_toArray, List.set_cons_zero, List.set_cons_succ]
      refine wpAnyE_take (i := 4) (v := .pointer (some ⟨bx, 18, none⟩)) rfl (by kernel_rfl) (by kernel_rfl) (by kernel_rfl) (by kernel_rfl) (fun _ _ _ h => h) (Or.inl ⟨by rfl, fun z _ => by simp [go_sem, execOp]⟩) hH ?_
      simp only [List.getElem_toArray, List.getElem_cons_succ, List.getElem_cons_zero, Act.put, List.setIfInBounds_toArray, List.set_cons_zero, List.set_cons_succ]
      refine wpAnyE_take (i := 5) (v := .slice (some ⟨ga, oa, none⟩) b.no b.co) rfl (by kernel_rfl) (by kernel_rfl) (by kernel_rfl) (by kernel_rfl) (fun _ _ _ h => h) (Or.inl ⟨by rfl, fun z hz => by simp [go_sem, execOp, (show z.cell? ⟨bx, 18, none⟩ = some (.slice (some ⟨ga, oa, none⟩) b.no b.co) from (hz.cell (p := ⟨bx, 18, none⟩) hbl).trans b18)]⟩) hH ?_
      simp only [List.getElem_toArray, List.getElem_cons_succ, List.getElem_cons_zero, Act.put, List.setIfInBounds_toArray, List.set_cons_zero, List.set_cons_succ]
      refine wpAnyE_take (i := 7) (v := .int .i64 k) rfl (by kernel_rfl) (by kernel_rfl) (by kernel_rfl) (by kernel_rfl) (fun _ _ _ h => h) (Or.inl ⟨by rfl, fun z _ => rfl⟩) hH ?_
      simp only [List.getElem_toArray, List.getElem_cons_succ, List.getElem_cons_zero, Act.put, List.setIfInBounds_toArray, List.set_cons_zero, List.set_cons_succ]
      refine wpAnyE_take (i := 8) (v := .pointer (some ⟨bx, 0, none⟩)) rfl (by kernel_rfl) (by kernel_rfl) (by kernel_rfl) (by kernel_rfl) (fun _ _ _ h => h) (Or.inl ⟨by rfl, fun z _ => rfl⟩) hH ?_
      simp only [List.getElem_toArray, List.getElem_cons_succ, List.getElem_cons_zero, Act.put, List.setIfInBounds_toArray, List.set_cons_zero, List.set_cons_succ]
      refine wpAnyE_take (i := 9) (v := .pointer (some ⟨bx, 0, none⟩)) rfl (by kernel_rfl) (by kernel_rfl) (by kernel_rfl) (by kernel_rfl) (fun _ _ _ h => h) (Or.inl ⟨by rfl, fun z _ => by simp [go_sem, execOp]⟩) hH ?_
      simp only [List.getElem_toArray, List.getElem_cons_succ, List.getElem_cons_zero, Act.put, List.setIfInBounds_toArray, List.set_cons_zero, List.set_cons_succ]
      refine wpAnyE_take (i := 10) rfl (by kernel_rfl) (by kernel_rfl) (by kernel_rfl) (by kernel_rfl) (fun _ _ _ h => h) ((yieldsIf_load_mid (by rfl) 33 _ rfl bx (0) rfl (rowB b).toList _ (row_heldB H2.out.h hbl) Try.underlying33 rfl (sizeB _))) hH ?_
      simp only [List.getElem_toArray, List.getElem_cons_succ, List.getElem_cons_zero, Act.put, List.setIfInBounds_toArray, List.set_cons_zero, List.set_cons_succ]
      refine wpAnyE_take (i := 11) (v := .int .i64 k) rfl (by kernel_rfl) (by kernel_rfl) (by kernel_rfl) (by kernel_rfl) (fun _ _ _ h => h) (Or.inl ⟨by rfl, fun z _ => rfl⟩) hH ?_
      simp only [List.getElem_toArray, List.getElem_cons_succ, List.getElem_cons_zero, Act.put, List.setIfInBounds_toArray, List.set_cons_zero, List.set_cons_succ]
      refine wpAnyE_take (i := 12) (v := .int .i64 0) rfl (by kernel_rfl) (by kernel_rfl) (by kernel_rfl) (by kernel_rfl) (fun _ _ _ h => h) (Or.inl ⟨by rfl, fun z _ => rfl⟩) hH ?_
      simp only [List.getElem_toArray, List.getElem_cons_succ, List.getElem_cons_zero, Act.put, List.setIfInBounds_toArray, List.set_cons_zero, List.set_cons_succ]
      refine wpAnyE_ready (i := 1) (by kernel_rfl) rfl (by decide) (fun K hK => ?_)
      rw [if_pos (by rfl)]
      refine wp_buildSlice 30 0 _ rfl _ _ (mkS0 w2.drew) (by kernel_rfl) ?_
      refine ((?_ : ∀ x y, x = w2.drew.alloc (.cells #[] 56) → y = w2.drew.heap.size → K (Act.put _ _ (.slice (some ⟨y, 0, none⟩) 0 0)) x) _ _ rfl rfl)
      intro w3 ge hw3 hge
      have h23 : Below w2.heap.size w2 w3 := by rw [hw3]; exact hH.alloc hH.size _
      have hg3 : w3.heap[ge]? = some (.cells #[] 56 (0, 0)) := by rw [hw3, hge]; exact heap_alloc_new _ _
      have hge2 : w2.heap.size ≤ ge := by rw [hge]; exact hH.size
      refine hK.out _ _ h23 (fun hH3 => ?_)
      simp only [List.getElem_toArray, List.getElem_cons_succ, List.getElem_cons_zero, Act.put, List.setIfInBounds_toArray, List.set_cons_zero, List.set_cons_succ]
      clear hK K hw3 hge hH
      refine wpAnyE_ready (i := 6) (by kernel_rfl) rfl (by decide) (fun K hK => ?_)
      rw [if_pos (by rfl)]
      refine wp_onto (.tmp 103) (.tmp 107) 30 rfl 56 iS _ 18 96 Try.underlying30 HI.out.1 HI.out.2.1 HI.out.2.2.1 HI.out.2.2.2 rfl (by decide) ge 0 0 b.no (fun k j => cellS (ss k) j) (fun k j => cellS (ss k) j) rfl ⟨#[], hg3, Nat.le_refl _, by simp [maxLen], by simp, by simp [grid]⟩ ⟨ga, oa, none⟩ b.no b.co (grid 18 b.no fun k j => cellS (ss k) j) rfl (grid_length _ _ _) ((H2.out.s.keep (fun _ _ _ hg => h23.block _ hg)).news (by decide) ⟨ga, oa, none⟩ Hao.out) (grid_one (by decide) (fun k j hj => cellS_one _ _ hj)) (Nat.zero_add _) (by simp [grid]) (by unfold maxLen; omega) (by omega) ?_
      intro go1 cap1 w4 hgo1 hown1 hon4
      have h24 : Below w2.heap.size w2 w4 := h23.trans (hon4.below h23.size (fun k hk => by omega))
      have hgl4 := hown1.lt
      have Hown1 := Lib.hid hown1
      refine hK.out _ _ h24 (fun hH4 => ?_)
      simp only [List.getElem_toArray, List.getElem_cons_succ, List.getElem_cons_zero, Act.put, List.setIfInBounds_toArray, List.set_cons_zero, List.set_cons_succ]
      clear hK K hH3 hown1 hon4 hg3 h23
      refine wpAnyE_ready (i := 13) (by kernel_rfl) rfl (by decide) (fun K hK => ?_)
      go_simp
      refine (refmsg_any b ps k (0) w4 ?_ hk hT0).mono ?_
      · exact (H2.out.p.view.below h24).of_ap H2.out.ap
      rintro e w5 ⟨rfl, hb5⟩
      have h25 : Below w2.heap.size w2 w5 := h24.trans (hb5.mono h24.size)
      have h45w := hb5.size
      have Hb5 := Lib.hid hb5
      refine hK.out _ _ h25 (fun hH5 => ?_)
      clear hK K hH4 hb5
      refine wpAnyE_take (i := 14) (v := .agg (rowS ((msgF (ps k) 0).setI 0 k))) rfl (by kernel_rfl) (by kernel_rfl) (by kernel_rfl) (by kernel_rfl) (fun _ _ _ h => h) (Or.inl ⟨by rfl, fun z _ => by kernel_rfl⟩) hH5 ?_
      simp only [List.getElem_toArray, List.getElem_cons_succ, List.getElem_cons_zero, Act.put, List.setIfInBounds_toArray, List.set_cons_zero, List.set_cons_succ]
      refine wpAnyE_ready (i := 15) (by kernel_rfl) rfl (by decide) (fun K hK => ?_)
      rw [if_pos (by rfl)]
      refine wp_buildSlice 30 1 _ rfl _ _ (mkS ((msgF (ps k) 0).setI 0 k) w5) (by kernel_rfl) ?_
      obtain ⟨w6, hw6⟩ : ∃ x, x = w5.alloc (.cells (rowS ((msgF (ps k) 0).setI 0 k)) 56) := ⟨_, rfl⟩
      obtain ⟨gs, hgs⟩ : ∃ x, x = w5.heap.size := ⟨_, rfl⟩
      have h26 : Below w2.heap.size w2 w6 := by rw [hw6]; exact h25.alloc h25.size _
      have h56 : Below w4.heap.size w4 w6 := by rw [hw6]; exact Hb5.out.alloc h45w _
      have hg6 : w6.heap[gs]? = some (.cells (rowS ((msgF (ps k) 0).setI 0 k)) 56 (0, 0)) := by rw [hw6, hgs]; exact heap_alloc_new _ _
      rw [← hw6, ← hgs]
      have HG6 := Lib.hid hg6
      have hown6 : Own w6 go1 56 18 b.no cap1 (fun k j => cellS (ss k) j) := by
        obtain ⟨cur, hg, hr⟩ := Hown1.out
        exact ⟨cur, (h56.block _ hgl4).trans hg, hr⟩
      refine hK.out _ _ h26 (fun hH6 => ?_)
      simp only [List.getElem_toArray, List.getElem_cons_succ, List.getElem_cons_zero, Act.put, List.setIfInBounds_toArray, List.set_cons_zero, List.set_cons_succ]
      clear hK K hw6 hgs hg6 hH5 h56 h25 h24
      refine wpAnyE_ready (i := 16) (by kernel_rfl) rfl (by decide) (fun K hK => ?_)
      rw [if_pos (by rfl)]
      refine wp_onto (.tmp 108) (.tmp 117) 30 rfl 56 iS _ 18 96 Try.underlying30 HI.out.1 HI.out.2.1 HI.out.2.2.1 HI.out.2.2.2 rfl (by decide) go1 b.no cap1 (b.no + 1) (fun k j => cellS (ss k) j) (fun x j => cellS ((fun j => if j = b.no then ((msgF (ps k) 0).setI 0 k) else ss j) x) j) rfl hown6 ⟨gs, 0, none⟩ 1 1 ((List.range 18).map fun j => cellS ((msgF (ps k) 0).setI 0 k) j) rfl (by simp) (fun j u hj => by
        obtain ⟨hl, he⟩ := List.getElem?_eq_some_iff.1 hj
        simp at hl he
        rw [Addr.add_mid, Nat.zero_add, cells_of HG6.out, ← he]
        exact rowS_get hl) (fun u hu => by
        obtain ⟨x, hx, rfl⟩ := List.mem_map.1 hu
        exact cellS_one _ _ (List.mem_range.1 hx)) rfl (by
        rw [grid_snoc (by decide)]
        congr 1
        · exact grid_congr (by decide) (fun k j hk => by simp only [if_neg (show ¬ k = b.no by omega)])
        · simp only [if_true]) (by unfold maxLen; omega) (by omega) ?_
      intro go2 cap2 w7 hgo2 hown2 hon7
      have h27 : Below w2.heap.size w2 w7 := h26.trans (hon7.below h26.size (fun k hk => by omega))
      have Hown2 := Lib.hid hown2
      have H7 := Lib.hid (H2.out.below h27)
      have HO7 := Lib.hid (HO2.out.trans (Only.of_below h27))
      have HP7 := Lib.hid ((h27.block _ hql).trans HP2.out)
      refine hK.out _ _ h27 (fun hH7 => ?_)
      simp only [List.getElem_toArray, List.getElem_cons_succ, List.getElem_cons_zero, Act.put, List.setIfInBounds_toArray, List.set_cons_zero, List.set_cons_succ]
      clear hK K hown2 hown6 hon7 hH6 h26 Hown1 Hb5 HG6
      refine wpAnyE_take (i := 17) (v := .pointer (some ⟨bx, 0, none⟩)) rfl (by kernel_rfl) (by kernel_rfl) (by kernel_rfl) (by kernel_rfl) (fun _ _ _ h => h) (Or.inl ⟨by rfl, fun z _ => by simp [go_sem, execOp]⟩) hH7 ?_
      simp only [List.getElem_toArray, List.getElem_cons_succ, List.getElem_cons_zero, Act.put, List.setIfInBounds_toArray, List.set_cons_zero, List.set_cons_succ]
      refine wpAnyE_take (i := 18) (v := .pointer (some ⟨bx, 18, none⟩)) rfl (by kernel_rfl) (by kernel_rfl) (by kernel_rfl) (by kernel_rfl) (fun _ _ _ h => h) (Or.inl ⟨by rfl, fun z _ => by simp [go_sem, execOp]⟩) hH7 ?_
      simp only [List.getElem_toArray, List.getElem_cons_succ, List.getElem_cons_zero, Act.put, List.setIfInBounds_toArray, List.set_cons_zero, List.set_cons_succ]
      refine wpAnyE_last (by kernel_rfl) rfl (fun K hK => ?_)
      have hbl7 := H7.out.lt
      have b18' : w7.cell? ⟨bx, 18, none⟩ = some (.slice (some ⟨ga, oa, none⟩) b.no b.co) := by rw [← Hao.out]; exact cells_of H7.out.h 18
      have bf18 : w7.frozen? ⟨bx, 18, none⟩ = false := free_block H7.out.h 18
      clear hH7
      go_simp
      refine hK.out _ _ ?_
      clear hK K
      refine wpAnyE_done (by kernel_rfl) ?_ _
      obtain ⟨w8, hw8⟩ : ∃ x, x = w7.setCell ⟨bx, 18, none⟩ (.slice (some ⟨go2, 0, none⟩) (b.no + 1) cap2) := ⟨_, rfl⟩
      rw [← hw8]
      have H8 := Lib.hid (show Bst w8 bx g (outB b (some ⟨go2, 0, none⟩) (b.no + 1) cap2) ps (fun j => if j = b.no then ((msgF (ps k) 0).setI 0 k) else ss j) fs by rw [hw8]; exact H7.out.out Hown2.out (by omega) (by omega))
      have HO8 := Lib.hid (show Only (fun x => x = g ∨ x = bx) w w8 by rw [hw8]; exact HO7.out.setCell (Or.inl (.inr rfl)) _)
      have HP8 := Lib.hid (show w8.heap[gq]? = some (.cells (rowP (ps k)) 53 (0, 0)) by rw [hw8]; exact at_far (by show gq ≠ bx; omega) HP7.out)
      have hqo : go2 ≠ gq := by omega
      have hgoW : w.heap.size ≤ go2 := by omega
      clear hw8 hbl7 b18' bf18 H7 HO7 HP7 HI Hown2 hgl hbl hql b18 H2 HO2 HP2 h27
      have b4 : w8.cell? ⟨bx, 2 + 2, none⟩ = some (.int .i64 (b.r.i 4)) := cells_of H8.out.h 4
      have hn14 : IntKind.i64.wrap ((ps k).i 14 + 1) = (ps k).i 14 + 1 := by unfold IntKind.wrap; simp [IntKind.signed, IntKind.bits]; omega
      have c31 : w8.cell? ⟨gq, 22 + 9, none⟩ = some (.bool ((ps k).b 31)) := cells_of HP8.out 31
      have c14 : w8.cell? ⟨gq, 6 + 8, none⟩ = some (.int .i64 ((ps k).i 14)) := cells_of HP8.out 14
      have c48 : w8.cell? ⟨gq, 22 + 26, none⟩ = some (.bool ((ps k).b 48)) := cells_of HP8.out 48
      have c8 : w8.cell? ⟨gq, 6 + 2, none⟩ = some (.int .i64 ((ps k).i 8)) := cells_of HP8.out 8
      have f31 : w8.frozen? ⟨gq, 22 + 9, none⟩ = false := free_block HP8.out 31
      have f14 : w8.frozen? ⟨gq, 6 + 8, none⟩ = false := free_block HP8.out 14
      have f48 : w8.frozen? ⟨gq, 22 + 26, none⟩ = false := free_block HP8.out 48
      have f8 : w8.frozen? ⟨gq, 6 + 2, none⟩ = false := free_block HP8.out 8
      go_upto_region 27 with (fail)
      refine ((?_ : ∀ x, x = ((((w8.setCell ⟨gq, 22 + 9, none⟩ (.bool false)).setCell ⟨gq, 22 + 26, none⟩ (.bool false)).setCell ⟨gq, 6 + 8, none⟩ (.int .i64 ((ps k).i 14 + 1)))).setCell ⟨gq, 6 + 2, none⟩ (.int .i64 (b.r.i 4)) → Code.wp _ _ _ _ x) _ rfl)
      intro wn hwn
      have HPn := Lib.hid (show wn.heap[gq]? = some (.cells (rowP pp) 53 (0, 0)) by rw [hwn, HPP.out]; exact at_set (i := 8) (at_set (i := 14) (at_set (i := 48) (at_set (i := 31) HP8.out (rowP_put_31 _ _)) (rowP_put_48 _ _)) (rowP_put_14 _ _)) (rowP_put_8 _ _))
      have hon : Only (· = gq) w8 wn := by rw [hwn]; exact (((((Only.refl (· = gq) w8).setCell (Or.inl rfl) _).setCell (Or.inl rfl) _).setCell (Or.inl rfl) _).setCell (Or.inl rfl) _)
      have Hn := Lib.hid (H8.out.aside hon (by omega) (by omega) (.inr (fun g' o e => by cases e; exact hqo)) Hfq.out)
      have HOn := Lib.hid (show Only (fun x => x = g ∨ x = bx) w wn by rw [hwn]; exact ((((HO8.out.setCell (Or.inr hq0) _).setCell (Or.inr hq0) _).setCell (Or.inr hq0) _).setCell (Or.inr hq0) _))
      clear hwn hon hqo b4 hn14 c31 f31 c14 f14 c48 f48 c8 f8
      have hloc : wn.drew.rangeAt gq 0 (rowP pp).toList := fun j v hv => by
        rw [Nat.zero_add]
        refine (cells_of HPn.out j).trans ?_
        simpa using hv
      have bb17 : wn.cell? ⟨bx, 17, none⟩ = some (.slice (some ⟨g, 0, none⟩) b.n b.cp) := by
        have h := cells_of Hn.out.h 17
        have e := Hn.out.ap
        exact h.trans (by show some (Value.slice b.ap b.n b.cp) = _; rw [show b.ap = some ⟨g, 0, none⟩ from e])
      have Hd := Lib.hid (Hn.out.below (Below.refl _ _).drew)
      refine wp_region_still_tail 7 (by kernel_rfl) (by kernel_rfl) ?_
      simp only [List.take_succ_cons, List.take_zero, List.drop_succ_cons, List.drop_zero]
      repeat (first | (refine wpStill_row rfl 53 _ rfl gq 0 rfl (rowP pp) _ hloc Try.underlying53 rfl (sizeP _) ?_; simp only [Act.put, List.setIfInBounds_toArray, List.set_cons_zero, List.set_cons_succ]) | still_step)
      refine wpStill_nil ?_
      change wpList _ _ _ _ _ wn.drew
      go_wp2_with (first | (refine wpList_store_mid rfl 53 _ _ rfl g (k * 89) (rowP pp) rfl rfl (Hd.out.p.room hk pp) (sizeP _) (rowP_one _) ?_; simp only [Act.put]) | fail)
      go_ret
      exact ⟨some ⟨go2, 0, none⟩, cap2, .inr ⟨go2, rfl, hgoW⟩, by rw [He'.out]; rfl, by unfold sentN sentS; rw [He'.out]; exact Hd.out.row hk _, HOn.out.drew.trans (Only.setCells (S := fun x => x = g ∨ x = bx) (.inl rfl) _ _ _)⟩
    · have hk : kindF (ps k) = (1, (ps k).i 87 == 3) := by unfold kindF; rw [h45, if_neg (by simp), if_neg h4]
      have h3 : (ps k).i 87 = 3 := by rw [hk] at hk2; simpa using hk2
      rw [h45] at c45
      rw [h3] at c87
      obtain ⟨pp, hpp⟩ : ∃ x, x = (((ps k).setB 31 false).setI 14 ((ps k).i 14 + 1)).setI 8 (b.r.i 4) := ⟨_, rfl⟩
      have He' := Lib.hid (show txF b (ps k) = (pp, true, some 1) by
        rw [He.out, hk, show ((ps k).b 48 && ((1 : Int), (ps k).i 87 == 3).1 == 1) = (ps k).b 48 by simp, hpp]
        rw [show (((ps k).setB 31 false).setI 14 ((ps k).i 14 + 1)).setB 48 ((ps k).b 48) = ((ps k).setB 31 false).setI 14 ((ps k).i 14 + 1) from setB_self (((ps k).setB 31 false).setI 14 ((ps k).i 14 + 1)) 48])
      have HPP := Lib.hid hpp
      clear hpp hk hk2 h45 h4 h3
      go_upto_region 21 with (fail)
      obtain ⟨w2, hw2⟩ : ∃ x, x = w1.drew := ⟨_, rfl⟩
      rw [← hw2]
      have H2 := Lib.hid (show Bst w2 bx g b ps ss fs by rw [hw2]; exact H1.out.below (Below.refl _ _).drew)
      have HO2 := Lib.hid (show Only (fun x => x = g ∨ x = bx) w w2 by rw [hw2]; exact HO1.out.drew)
      have HP2 := Lib.hid (show w2.heap[gq]? = some (.cells (rowP (ps k)) 53 (0, 0)) by rw [hw2]; exact HP1.out)
      clear hw2 c44 c45 c50 c8 c31 c87 c13 c14 c48 f31 f8 b4 b6 hql hbl HO1 H1 HP1 HB1 Hs He
      have hql := (Array.getElem?_eq_some_iff.1 HP2.out).1
      have hbl := H2.out.lt
      have hgl := H2.out.p.lt
      have b18 : w2.cell? ⟨bx, 18, none⟩ = some (.slice (some ⟨ga, oa, none⟩) b.no b.co) := by rw [← Hao.out]; exact cells_of H2.out.h 18
      obtain ⟨iS, hiS, hzS, hsS, hbS⟩ := info_parts infoS'
      have HI := Lib.hid (And.intro hiS (And.intro hzS (And.intro hsS hbS)))
      clear hiS hzS hsS hbS
      refine wp_region_last 19 (S := fun w' => Below w2.heap.size w2 w') (by kernel_rfl) (Below.refl _ _).drew (fun hH => ?_)
      refine wpAnyE_take (i := 0) (v := .pointer (some ⟨bx, 0, none⟩)) rfl (by kernel_rfl) (by kernel_rfl) (by kernel_rfl) (by kernel_rfl) (fun _ _ _ h => h) (Or.inl ⟨by rfl, fun z _ => rfl⟩) hH ?_
      simp only [List.getElem_toArray, List.getElem_cons_succ, List.getElem_cons_zero, Act.put, List.setIfInBounds_toArray, List.set_cons_zero, List.set_cons_succ]
      refine wpAnyE_take (i := 2) (v := .pointer (some ⟨bx, 0, none⟩)) rfl (by kernel_rfl) (by kernel_rfl) (by kernel_rfl) (by kernel_rfl) (fun _ _ _ h => h) (Or.inl ⟨by rfl, fun z _ => rfl⟩) hH ?_
      simp only [List.getElem_toArray, List.getElem_cons_succ, List.getElem_cons_zero, Act.put, List.setIfInBounds_toArray, List.set_cons_zero, List.set_cons_succ]
      refine wpAnyE_take (i := 3) (v := .pointer (some ⟨bx, 0, none⟩)) rfl (by kernel_rfl) (by kernel_rfl) (by kernel_rfl) (by kernel_rfl) (fun _ _ _ h => h) (Or.inl ⟨by rfl, fun z _ => by simp [go_sem, execOp]⟩) hH ?_
      simp only [List.getElem_toArray, List.getElem_cons_succ, List.getElem_cons_zero, Act.put, List.setIfInBounds_toArray, List.set_cons_zero, List.set_cons_succ]
      refine wpAnyE_take (i := 4) (v := .pointer (some ⟨bx, 18, none⟩)) rfl (by kernel_rfl) (by kernel_rfl) (by kernel_rfl) (by kernel_rfl) (fun _ _ _ h => h) (Or.inl ⟨by rfl, fun z _ => by simp [go_sem, execOp]⟩) hH ?_
      simp only [List.getElem_toArray, List.getElem_cons_succ, List.getElem_cons_zero, Act.put, List.setIfInBounds_toArray, List.set_cons_zero, List.set_cons_succ]
      refine wpAnyE_take (i := 5) (v := .slice (some ⟨ga, oa, none⟩) b.no b.co) rfl (by kernel_rfl) (by kernel_rfl) (by kernel_rfl) (by kernel_rfl) (fun _ _ _ h => h) (Or.inl ⟨by rfl, fun z hz => by simp [go_sem, execOp, (show z.cell? ⟨bx, 18, none⟩ = some (.slice (some ⟨ga, oa, none⟩) b.no b.co) from (hz.cell (p := ⟨bx, 18, none⟩) hbl).trans b18)]⟩) hH ?_
      simp only [List.getElem_toArray, List.getElem_cons_succ, List.getElem_cons_zero, Act.put, List.setIfInBounds_toArray, List.set_cons_zero, List.set_cons_succ]
      refine wpAnyE_take (i := 7) (v := .int .i64 k) rfl (by kernel_rfl) (by kernel_rfl) (by kernel_rfl) (by kernel_rfl) (fun _ _ _ h => h) (Or.inl ⟨by rfl, fun z _ => rfl⟩) hH ?_
      simp only [List.getElem_toArray, List.getElem_cons_succ, List.getElem_cons_zero, Act.put, List.setIfInBounds_toArray, List.set_cons_zero, List.set_cons_succ]
      refine wpAnyE_take (i := 8) (v := .pointer (some ⟨bx, 0, none⟩)) rfl (by kernel_rfl) (by kernel_rfl) (by kernel_rfl) (by kernel_rfl) (fun _ _ _ h => h) (Or.inl ⟨by rfl, fun z _ => rfl⟩) hH ?_
      simp only [List.getElem_toArray, List.getElem_cons_succ, List.getElem_cons_zero, Act.put, List.setIfInBounds_toArray, List.set_cons_zero, List.set_cons_succ]
      refine wpAnyE_take (i := 9) (v := .pointer (some ⟨bx, 0, none⟩)) rfl (by kernel_rfl) (by kernel_rfl) (by kernel_rfl) (by kernel_rfl) (fun _ _ _ h => h) (Or.inl ⟨by rfl, fun z _ => by simp [go_sem, execOp]⟩) hH ?_
      simp only [List.getElem_toArray, List.getElem_cons_succ, List.getElem_cons_zero, Act.put, List.setIfInBounds_toArray, List.set_cons_zero, List.set_cons_succ]
      refine wpAnyE_take (i := 10) rfl (by kernel_rfl) (by kernel_rfl) (by kernel_rfl) (by kernel_rfl) (fun _ _ _ h => h) ((yieldsIf_load_mid (by rfl) 33 _ rfl bx (0) rfl (rowB b).toList _ (row_heldB H2.out.h hbl) Try.underlying33 rfl (sizeB _))) hH ?_
      simp only [List.getElem_toArray, List.getElem_cons_succ, List.getElem_cons_zero, Act.put, List.setIfInBounds_toArray, List.set_cons_zero, List.set_cons_succ]
      refine wpAnyE_take (i := 11) (v := .int .i64 k) rfl (by kernel_rfl) (by kernel_rfl) (by kernel_rfl) (by kernel_rfl) (fun _ _ _ h => h) (Or.inl ⟨by rfl, fun z _ => rfl⟩) hH ?_
      simp only [List.getElem_toArray, List.getElem_cons_succ, List.getElem_cons_zero, Act.put, List.setIfInBounds_toArray, List.set_cons_zero, List.set_cons_succ]
      refine wpAnyE_take (i := 12) (v := .int .i64 1) rfl (by kernel_rfl) (by kernel_rfl) (by kernel_rfl) (by kernel_rfl) (fun _ _ _ h => h) (Or.inl ⟨by rfl, fun z _ => rfl⟩) hH ?_
      simp only [List.getElem_toArray, List.getElem_cons_succ, List.getElem_cons_zero, Act.put, List.setIfInBounds_toArray, List.set_cons_zero, List.set_cons_succ]
      refine wpAnyE_ready (i := 1) (by kernel_rfl) rfl (by decide) (fun K hK => ?_)
      rw [if_pos (by rfl)]
      refine wp_buildSlice 30 0 _ rfl _ _ (mkS0 w2.drew) (by kernel_rfl) ?_
      refine ((?_ : ∀ x y, x = w2.drew.alloc (.cells #[] 56) → y = w2.drew.heap.size → K (Act.put _ _ (.slice (some ⟨y, 0, none⟩) 0 0)) x) _ _ rfl rfl)
      intro w3 ge hw3 hge
      have h23 : Below w2.heap.size w2 w3 := by rw [hw3]; exact hH.alloc hH.size _
      have hg3 : w3.heap[ge]? = some (.cells #[] 56 (0, 0)) := by rw [hw3, hge]; exact heap_alloc_new _ _
      have hge2 : w2.heap.size ≤ ge := by rw [hge]; exact hH.size
      refine hK.out _ _ h23 (fun hH3 => ?_)
      simp only [List.getElem_toArray, List.getElem_cons_succ, List.getElem_cons_zero, Act.put, List.setIfInBounds_toArray, List.set_cons_zero, List.set_cons_succ]
      clear hK K hw3 hge hH
      refine wpAnyE_ready (i := 6) (by kernel_rfl) rfl (by decide) (fun K hK => ?_)
      rw [if_pos (by rfl)]
      refine wp_onto (.tmp 103) (.tmp 107) 30 rfl 56 iS _ 18 96 Try.underlying30 HI.out.1 HI.out.2.1 HI.out.2.2.1 HI.out.2.2.2 rfl (by decide) ge 0 0 b.no (fun k j => cellS (ss k) j) (fun k j => cellS (ss k) j) rfl ⟨#[], hg3, Nat.le_refl _, by simp [maxLen], by simp, by simp [grid]⟩ ⟨ga, oa, none⟩ b.no b.co (grid 18 b.no fun k j => cellS (ss k) j) rfl (grid_length _ _ _) ((H2.out.s.keep (fun _ _ _ hg => h23.block _ hg)).news (by decide) ⟨ga, oa, none⟩ Hao.out) (grid_one (by decide) (fun k j hj => cellS_one _ _ hj)) (Nat.zero_add _) (by simp [grid]) (by unfold maxLen; omega) (by omega) ?_
      intro go1 cap1 w4 hgo1 hown1 hon4
      have h24 : Below w2.heap.size w2 w4 := h23.trans (hon4.below h23.size (fun k hk => by omega))
      have hgl4 := hown1.lt
      have Hown1 := Lib.hid hown1
      refine hK.out _ _ h24 (fun hH4 => ?_)
      simp only [List.getElem_toArray, List.getElem_cons_succ, List.getElem_cons_zero, Act.put, List.setIfInBounds_toArray, List.set_cons_zero, List.set_cons_succ]
      clear hK K hH3 hown1 hon4 hg3 h23
      refine wpAnyE_ready (i := 13) (by kernel_rfl) rfl (by decide) (fun K hK => ?_)
      go_simp
      refine (refmsg_any b ps k (1) w4 ?_ hk hT0).mono ?_
      · exact (H2.out.p.view.below h24).of_ap H2.out.ap
      rintro e w5 ⟨rfl, hb5⟩
      have h25 : Below w2.heap.size w2 w5 := h24.trans (hb5.mono h24.size)
      have h45w := hb5.size
      have Hb5 := Lib.hid hb5
      refine hK.out _ _ h25 (fun hH5 => ?_)
      clear hK K hH4 hb5
      refine wpAnyE_take (i := 14) (v := .agg (rowS ((msgF (ps k) 1).setI 0 k))) rfl (by kernel_rfl) (by kernel_rfl) (by kernel_rfl) (by kernel_rfl) (fun _ _ _ h => h) (Or.inl ⟨by rfl, fun z _ => by kernel_rfl⟩) hH5 ?_
      simp only [List.getElem_toArray, List.getElem_cons_succ, List.getElem_cons_zero, Act.put, List.setIfInBounds_toArray, List.set_cons_zero, List.set_cons_succ]
      refine wpAnyE_ready (i := 15) (by kernel_rfl) rfl (by decide) (fun K hK => ?_)
      rw [if_pos (by rfl)]
      refine wp_buildSlice 30 1 _ rfl _ _ (mkS ((msgF (ps k) 1).setI 0 k) w5) (by kernel_rfl) ?_
      obtain ⟨w6, hw6⟩ : ∃ x, x = w5.alloc (.cells (rowS ((msgF (ps k) 1).setI 0 k)) 56) := ⟨_, rfl⟩
      obtain ⟨gs, hgs⟩ : ∃ x, x = w5.heap.size := ⟨_, rfl⟩
      have h26 : Below w2.heap.size w2 w6 := by rw [hw6]; exact h25.alloc h25.size _
      have h56 : Below w4.heap.size w4 w6 := by rw [hw6]; exact Hb5.out.alloc h45w _
      have hg6 : w6.heap[gs]? = some (.cells (rowS ((msgF (ps k) 1).setI 0 k)) 56 (0, 0)) := by rw [hw6, hgs]; exact heap_alloc_new _ _
      rw [← hw6, ← hgs]
      have HG6 := Lib.hid hg6
      have hown6 : Own w6 go1 56 18 b.no cap1 (fun k j => cellS (ss k) j) := by
        obtain ⟨cur, hg, hr⟩ := Hown1.out
        exact ⟨cur, (h56.block _ hgl4).trans hg, hr⟩
      refine hK.out _ _ h26 (fun hH6 => ?_)
      simp only [List.getElem_toArray, List.getElem_cons_succ, List.getElem_cons_zero, Act.put, List.setIfInBounds_toArray, List.set_cons_zero, List.set_cons_succ]
      clear hK K hw6 hgs hg6 hH5 h56 h25 h24
      refine wpAnyE_ready (i := 16) (by kernel_rfl) rfl (by decide) (fun K hK => ?_)
      rw [if_pos (by rfl)]
      refine wp_onto (.tmp 108) (.tmp 117) 30 rfl 56 iS _ 18 96 Try.underlying30 HI.out.1 HI.out.2.1 HI.out.2.2.1 HI.out.2.2.2 rfl (by decide) go1 b.no cap1 (b.no + 1) (fun k j => cellS (ss k) j) (fun x j => cellS ((fun j => if j = b.no then ((msgF (ps k) 1).setI 0 k) else ss j) x) j) rfl hown6 ⟨gs, 0, none⟩ 1 1 ((List.range 18).map fun j => cellS ((msgF (ps k) 1).setI 0 k) j) rfl (by simp) (fun j u hj => by
        obtain ⟨hl, he⟩ := List.getElem?_eq_some_iff.1 hj
        simp at hl he
        rw [Addr.add_mid, Nat.zero_add, cells_of HG6.out, ← he]
        exact rowS_get hl) (fun u hu => by
        obtain ⟨x, hx, rfl⟩ := List.mem_map.1 hu
        exact cellS_one _ _ (List.mem_range.1 hx)) rfl (by
        rw [grid_snoc (by decide)]
        congr 1
        · exact grid_congr (by decide) (fun k j hk => by simp only [if_neg (show ¬ k = b.no by omega)])
        · simp only [if_true]) (by unfold maxLen; omega) (by omega) ?_
      intro go2 cap2 w7 hgo2 hown2 hon7
      have h27 : Below w2.heap.size w2 w7 := h26.trans (hon7.below h26.size (fun k hk => by omega))
      have Hown2 := Lib.hid hown2
      have H7 := Lib.hid (H2.out.below h27)
      have HO7 := Lib.hid (HO2.out.trans (Only.of_below h27))
      have HP7 := Lib.hid ((h27.block _ hql).trans HP2.out)
      refine hK.out _ _ h27 (fun hH7 => ?_)
      simp only [List.getElem_toArray, List.getElem_cons_succ, List.getElem_cons_zero, Act.put, List.setIfInBounds_toArray, List.set_cons_zero, List.set_cons_succ]
      clear hK K hown2 hown6 hon7 hH6 h26 Hown1 Hb5 HG6
      refine wpAnyE_take (i := 17) (v := .pointer (some ⟨bx, 0, none⟩)) rfl (by kernel_rfl) (by kernel_rfl) (by kernel_rfl) (by kernel_rfl) (fun _ _ _ h => h) (Or.inl ⟨by rfl, fun z _ => by simp [go_sem, execOp]⟩) hH7 ?_
      simp only [List.getElem_toArray, List.getElem_cons_succ, List.getElem_cons_zero, Act.put, List.setIfInBounds_toArray, List.set_cons_zero, List.set_cons_succ]
      refine wpAnyE_take (i := 18) (v := .pointer (some ⟨bx, 18, none⟩)) rfl (by kernel_rfl) (by kernel_rfl) (by kernel_rfl) (by kernel_rfl) (fun _ _ _ h => h) (Or.inl ⟨by rfl, fun z _ => by simp [go_sem, execOp]⟩) hH7 ?_
      simp only [List.getElem_toArray, List.getElem_cons_succ, List.getElem_cons_zero, Act.put, List.setIfInBounds_toArray, List.set_cons_zero, List.set_cons_succ]
      refine wpAnyE_last (by kernel_rfl) rfl (fun K hK => ?_)
      have hbl7 := H7.out.lt
      have b18' : w7.cell? ⟨bx, 18, none⟩ = some (.slice (some ⟨ga, oa, none⟩) b.no b.co) := by rw [← Hao.out]; exact cells_of H7.out.h 18
      have bf18 : w7.frozen? ⟨bx, 18, none⟩ = false := free_block H7.out.h 18
      clear hH7
      go_simp
      refine hK.out _ _ ?_
      clear hK K
      refine wpAnyE_done (by kernel_rfl) ?_ _
      obtain ⟨w8, hw8⟩ : ∃ x, x = w7.setCell ⟨bx, 18, none⟩ (.slice (some ⟨go2, 0, none⟩) (b.no + 1) cap2) := ⟨_, rfl⟩
      rw [← hw8]
      have H8 := Lib.hid (show Bst w8 bx g (outB b (some ⟨go2, 0, none⟩) (b.no + 1) cap2) ps (fun j => if j = b.no then ((msgF (ps k) 1).setI 0 k) else ss j) fs by rw [hw8]; exact H7.out.out Hown2.out (by omega) (by omega))
      have HO8 := Lib.hid (show Only (fun x => x = g ∨ x = bx) w w8 by rw [hw8]; exact HO7.out.setCell (Or.inl (.inr rfl)) _)
      have HP8 := Lib.hid (show w8.heap[gq]? = some (.cells (rowP (ps k)) 53 (0, 0)) by rw [hw8]; exact at_far (by show gq ≠ bx; omega) HP7.out)
      have hqo : go2 ≠ gq := by omega
      have hgoW : w.heap.size ≤ go2 := by omega
      clear hw8 hbl7 b18' bf18 H7 HO7 HP7 HI Hown2 hgl hbl hql b18 H2 HO2 HP2 h27
      have b4 : w8.cell? ⟨bx, 2 + 2, none⟩ = some (.int .i64 (b.r.i 4)) := cells_of H8.out.h 4
      have hn14 : IntKind.i64.wrap ((ps k).i 14 + 1) = (ps k).i 14 + 1 := by unfold IntKind.wrap; simp [IntKind.signed, IntKind.bits]; omega
      have c31 : w8.cell? ⟨gq, 22 + 9, none⟩ = some (.bool ((ps k).b 31)) := cells_of HP8.out 31
      have c14 : w8.cell? ⟨gq, 6 + 8, none⟩ = some (.int .i64 ((ps k).i 14)) := cells_of HP8.out 14
      have c48 : w8.cell? ⟨gq, 22 + 26, none⟩ = some (.bool ((ps k).b 48)) := cells_of HP8.out 48
      have c8 : w8.cell? ⟨gq, 6 + 2, none⟩ = some (.int .i64 ((ps k).i 8)) := cells_of HP8.out 8
      have f31 : w8.frozen? ⟨gq, 22 + 9, none⟩ = false := free_block HP8.out 31
      have f14 : w8.frozen? ⟨gq, 6 + 8, none⟩ = false := free_block HP8.out 14
      have f48 : w8.frozen? ⟨gq, 22 + 26, none⟩ = false := free_block HP8.out 48
      have f8 : w8.frozen? ⟨gq, 6 + 2, none⟩ = false := free_block HP8.out 8
      go_upto_region 27 with (fail)
      refine ((?_ : ∀ x, x = (((w8.setCell ⟨gq, 22 + 9, none⟩ (.bool false)).setCell ⟨gq, 6 + 8, none⟩ (.int .i64 ((ps k).i 14 + 1)))).setCell ⟨gq, 6 + 2, none⟩ (.int .i64 (b.r.i 4)) → Code.wp _ _ _ _ x) _ rfl)
      intro wn hwn
      have HPn := Lib.hid (show wn.heap[gq]? = some (.cells (rowP pp) 53 (0, 0)) by rw [hwn, HPP.out]; exact at_set (i := 8) (at_set (i := 14) (at_set (i := 31) HP8.out (rowP_put_31 _ _)) (rowP_put_14 _ _)) (rowP_put_8 _ _))
      have hon : Only (· = gq) w8 wn := by rw [hwn]; exact ((((Only.refl (· = gq) w8).setCell (Or.inl rfl) _).setCell (Or.inl rfl) _).setCell (Or.inl rfl) _)
      have Hn := Lib.hid (H8.out.aside hon (by omega) (by omega) (.inr (fun g' o e => by cases e; exact hqo)) Hfq.out)
      have HOn := Lib.hid (show Only (fun x => x = g ∨ x = bx) w wn by rw [hwn]; exact (((HO8.out.setCell (Or.inr hq0) _).setCell (Or.inr hq0) _).setCell (Or.inr hq0) _))
      clear hwn hon hqo b4 hn14 c31 f31 c14 f14 c48 f48 c8 f8
      have hloc : wn.drew.rangeAt gq 0 (rowP pp).toList := fun j v hv => by
        rw [Nat.zero_add]
        refine (cells_of HPn.out j).trans ?_
        simpa using hv
      have bb17 : wn.cell? ⟨bx, 17, none⟩ = some (.slice (some ⟨g, 0, none⟩) b.n b.cp) := by
        have h := cells_of Hn.out.h 17
        have e := Hn.out.ap
        exact h.trans (by show some (Value.slice b.ap b.n b.cp) = _; rw [show b.ap = some ⟨g, 0, none⟩ from e])
      have Hd := Lib.hid (Hn.out.below (Below.refl _ _).drew)
      refine wp_region_still_tail 7 (by kernel_rfl) (by kernel_rfl) ?_
      simp only [List.take_succ_cons, List.take_zero, List.drop_succ_cons, List.drop_zero]
      repeat (first | (refine wpStill_row rfl 53 _ rfl gq 0 rfl (rowP pp) _ hloc Try.underlying53 rfl (sizeP _) ?_; simp only [Act.put, List.setIfInBounds_toArray, List.set_cons_zero, List.set_cons_succ]) | still_step)
      refine wpStill_nil ?_
      change wpList _ _ _ _ _ wn.drew
      go_wp2_with (first | (refine wpList_store_mid rfl 53 _ _ rfl g (k * 89) (rowP pp) rfl rfl (Hd.out.p.room hk pp) (sizeP _) (rowP_one _) ?_; simp only [Act.put]) | fail)
      go_ret
      exact ⟨some ⟨go2, 0, none⟩, cap2, .inr ⟨go2, rfl, hgoW⟩, by rw [He'.out]; rfl, by unfold sentN sentS; rw [He'.out]; exact Hd.out.row hk _, HOn.out.drew.trans (Only.setCells (S := fun x => x = g ∨ x = bx) (.inl rfl) _ _ _)⟩
end Go.Proofs.Ytmlhbfkmnbhoeaa.Br
