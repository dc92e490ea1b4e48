/- What a port tells in a message (ford/tx.Msg). Condition: there is such a port. -/
import Derived.Test.YtmlhbfkmnbhoeaaTx
set_option linter.unusedSimpArgs false
namespace Go.Proofs.Ytmlhbfkmnbhoeaa.Br
open Go.RowKit
theorem wpList_store_at {P : Program} {ops : Array Oper} {rest : List Oper} {o : Oper} {a : Act} {w : World} {Q : Exit → Act → World → Prop} (hgd : o.guard = none) (ty : TypeId) (x y : Operand) (ho : o.op = .store ty x y) (w0 : World) (C : Array Value) (T : TypeId) (cells : Array Value) (g : Nat) (hw : w = w0.alloc (.cells C T))
    (hx : a.eval x = .pointer (some ⟨g, 0, none⟩)) (hg : g = w0.heap.size) (hy : a.eval y = .agg cells) (hi : (P.info? ty).map (·.size) = some cells.size) (hold : C.size = cells.size) (h1 : cells.all (·.oneCell') = true)
    (h : wpList P ops Q rest (a.put o.dst undef) (w0.alloc (.cells cells T))) : wpList P ops Q (o :: rest) a w := by
  subst hg
  exact wpList_store_new hgd ty x y ho w0 C T cells hw hx hy hi hold h1 h
theorem wpList_build {P : Program} {ops : Array Oper} {rest : List Oper} {o : Oper} {a : Act} {w : World} {Q : Exit → Act → World → Prop} (hgd : o.guard = none) (t : TypeId) (parts : Array (Nat × Operand)) (ho : o.op = .build t parts)
    (vs : Array (Nat × Value)) (v : Value) (h : (Instr.build t vs).run P w = .ok v w) (hv : (parts.map fun p => (p.1, a.eval p.2)) = vs) (hk : wpList P ops Q rest (a.put o.dst v) w) : wpList P ops Q (o :: rest) a w :=
  wpList_plain hgd fun _ hK => by
    unfold Oper.wp execOp
    simp only [ho]
    rw [show (parts.map fun x => match x with | (i, x) => (i, a.eval x)) = vs from hv]
    simp only [Sem.run_bind, h, Result.andThen_ok, Sem.run_pure]
    exact hK _ _ hk
theorem wpList_buildSlice {P : Program} {ops : Array Oper} {rest : List Oper} {o : Oper} {a : Act} {w w' : World} {Q : Exit → Act → World → Prop} (hgd : o.guard = none) (t : TypeId) (n : Nat) (parts : Array (Nat × Operand)) (ho : o.op = .buildSlice t n parts)
    (vs : Array (Nat × Value)) (v : Value) (h : (Instr.buildSlice t n vs).run P w = .ok v w') (hv : (parts.map fun p => (p.1, a.eval p.2)) = vs) (hk : wpList P ops Q rest (a.put o.dst v) w') : wpList P ops Q (o :: rest) a w :=
  wpList_plain hgd fun _ hK => by
    unfold Oper.wp execOp
    simp only [ho]
    rw [show (parts.map fun x => match x with | (i, x) => (i, a.eval x)) = vs from hv]
    simp only [Sem.run_bind, h, Result.andThen_ok, Sem.run_pure]
    exact hK _ _ hk
theorem Below.setRow {B g : Nat} {w0 w : World} (h : Below B w0 w) (hg : B ≤ g) (cs : Array Value) : Below B w0 (w.setRow g cs) :=
  ⟨h.os, h.tape, h.output, by have := h.size; simpa [World.setRow] using this, fun k hk => (setRow_other w g k cs (by omega)).trans (h.block k hk)⟩
attribute [local go_sem] zeroP zeroFl zeroM rowB_17 rowP_13 rowP_87 rowMs_0 rowMs_1 rowMs_2 rowMs_3 rowMs_4 rowMs_5 rowMs_6 rowMs_7 rowMs_12
set_option maxRecDepth 100000 in
set_option maxHeartbeats 8000000 in
theorem msg_any (b : Bri) (ps : Nat → Rec) (k : Nat) (kind : Int) (w : World) (hv : PortsV w b ps) (hk : k < b.n) :
    Calls Try.prog 16 #[.agg (rowB b), .int .i64 k, .int .i64 kind] w fun e w' => e = .returned (.agg (rowMs (msgF (ps k) kind))) ∧ Below w.heap.size w w' := by
  rcases hv with h0 | ⟨g, o, hap, hc⟩
  · omega
  have hk0 : (0 : Int) ≤ k := by omega
  have hk1 : (k : Int) < b.n := by omega
  have hgl0 : g < w.heap.size := cell_lt (hc k hk 0 (by omega))
  have Hc := Lib.hid hc
  have Hap := Lib.hid hap
  clear hc hap
  go_enter Try.func16, Try.ntmps16
  go_upto_region 1 with (fail)
  refine ((?_ : ∀ x, x = (w.alloc (.cells (rowB b) 33)).alloc (.cells (rowMs zeroR) 43) → Code.wp _ _ _ _ x) _ rfl)
  intro w2 hw2
  obtain ⟨gb, hgb⟩ : ∃ x, x = w.heap.size := ⟨_, rfl⟩
  have hB2 := Lib.hid (show Below w.heap.size w w2 by rw [hw2]; exact more (more (Below.refl _ _) _) _)
  have hb2 : w2.heap[gb]? = some (.cells (rowB b) 33 (0, 0)) := by rw [hw2, hgb]; exact at_old (by simp) (heap_alloc_new _ _)
  have hr2 : w2.heap[gb + 1]? = some (.cells (rowMs zeroR) 43 (0, 0)) := by rw [hw2, hgb]; exact at_new (by simp)
  rw [← hgb]
  have Hr2 := Lib.hid hr2
  have hgbl : gb < w2.heap.size := (Array.getElem?_eq_some_iff.1 hb2).1
  have hgrl : gb + 1 < w2.heap.size := (Array.getElem?_eq_some_iff.1 hr2).1
  have hgb0 : w.heap.size ≤ gb := by omega
  have hgl : g < w2.heap.size := by have := hB2.out.size; omega
  have c17 : w2.cell? ⟨gb, 17, none⟩ = some (.slice (some ⟨g, o, none⟩) b.n b.cp) := by rw [← Hap.out]; exact cells_of hb2 17
  have Hc2 := Lib.hid (show ∀ k, k < b.n → ∀ j, j < 89 → w2.cell? ⟨g, o + (k * 89 + j), none⟩ = some (cellP (ps k) j) from fun k hk j hj => (hB2.out.cell (p := ⟨g, _, none⟩) hgl0).trans (Hc.out k hk j hj))
  clear hw2 hgb hb2 hr2
  go_cut [7, 8] from 10 to 20 (fun vp vf wx => Got w2 (ps k) (gb + 1) vp vf wx)
  case first =>
    refine wp_region_held_drew (S := fun w' => Below w2.heap.size w2 w') (by kernel_rfl) (Below.refl _ _).drew (fun hH => ?_)
    refine wpAnyH_take (i := 0) (v := .pointer (some ⟨gb, 17, none⟩)) rfl (by kernel_rfl) (by kernel_rfl) (by kernel_rfl) (fun _ _ _ h => h) (Or.inl ⟨by rfl, fun z _ => by simp [go_sem, execOp]⟩) hH ?_
    simp only [List.getElem_toArray, List.getElem_cons_succ, List.getElem_cons_zero, Act.put, List.setIfInBounds_toArray, List.set_cons_zero, List.set_cons_succ]
    refine wpAnyH_take (i := 1) (v := .slice (some ⟨g, o, none⟩) b.n b.cp) rfl (by kernel_rfl) (by kernel_rfl) (by kernel_rfl) (fun _ _ _ h => h) (Or.inl ⟨by rfl, fun z hz => by simp [go_sem, execOp, (show z.cell? ⟨gb, 17, none⟩ = some (.slice (some ⟨g, o, none⟩) b.n b.cp) from (hz.cell (p := ⟨gb, 17, none⟩) hgbl).trans c17)]⟩) hH ?_
    simp only [List.getElem_toArray, List.getElem_cons_succ, List.getElem_cons_zero, Act.put, List.setIfInBounds_toArray, List.set_cons_zero, List.set_cons_succ]
    refine wpAnyH_take (i := 2) (v := .int .i64 k) rfl (by kernel_rfl) (by kernel_rfl) (by kernel_rfl) (fun _ _ _ h => h) (Or.inl ⟨by rfl, fun z _ => rfl⟩) hH ?_
    simp only [List.getElem_toArray, List.getElem_cons_succ, List.getElem_cons_zero, Act.put, List.setIfInBounds_toArray, List.set_cons_zero, List.set_cons_succ]
    refine wpAnyH_take (i := 3) (v := .pointer (some ⟨g, o + k * 89, none⟩)) rfl (by kernel_rfl) (by kernel_rfl) (by kernel_rfl) (fun _ _ _ h => h) (Or.inl ⟨by rfl, fun z _ => by simp [go_sem, execOp, hk0, hk1]⟩) hH ?_
    simp only [List.getElem_toArray, List.getElem_cons_succ, List.getElem_cons_zero, Act.put, List.setIfInBounds_toArray, List.set_cons_zero, List.set_cons_succ]
    refine wpAnyH_take (i := 4) rfl (by kernel_rfl) (by kernel_rfl) (by kernel_rfl) (fun _ _ _ h => h) ((yieldsIf_load_mid (by rfl) 53 _ rfl g (o + k * 89) rfl (rowP (ps k)).toList _ (fun z hz => portV (fun k hk j hj => (hz.cell (p := ⟨g, _, none⟩) hgl).trans (Hc2.out k hk j hj)) hk) Try.underlying53 rfl (sizeP _))) hH ?_
    simp only [List.getElem_toArray, List.getElem_cons_succ, List.getElem_cons_zero, Act.put, List.setIfInBounds_toArray, List.set_cons_zero, List.set_cons_succ]
    refine wpAnyH_take (i := 5) (v := .pointer (some ⟨gb, 17, none⟩)) rfl (by kernel_rfl) (by kernel_rfl) (by kernel_rfl) (fun _ _ _ h => h) (Or.inl ⟨by rfl, fun z _ => by simp [go_sem, execOp]⟩) hH ?_
    simp only [List.getElem_toArray, List.getElem_cons_succ, List.getElem_cons_zero, Act.put, List.setIfInBounds_toArray, List.set_cons_zero, List.set_cons_succ]
    refine wpAnyH_take (i := 6) (v := .slice (some ⟨g, o, none⟩) b.n b.cp) rfl (by kernel_rfl) (by kernel_rfl) (by kernel_rfl) (fun _ _ _ h => h) (Or.inl ⟨by rfl, fun z hz => by simp [go_sem, execOp, (show z.cell? ⟨gb, 17, none⟩ = some (.slice (some ⟨g, o, none⟩) b.n b.cp) from (hz.cell (p := ⟨gb, 17, none⟩) hgbl).trans c17)]⟩) hH ?_
    simp only [List.getElem_toArray, List.getElem_cons_succ, List.getElem_cons_zero, Act.put, List.setIfInBounds_toArray, List.set_cons_zero, List.set_cons_succ]
    refine wpAnyH_take (i := 7) (v := .int .i64 k) rfl (by kernel_rfl) (by kernel_rfl) (by kernel_rfl) (fun _ _ _ h => h) (Or.inl ⟨by rfl, fun z _ => rfl⟩) hH ?_
    simp only [List.getElem_toArray, List.getElem_cons_succ, List.getElem_cons_zero, Act.put, List.setIfInBounds_toArray, List.set_cons_zero, List.set_cons_succ]
    refine wpAnyH_take (i := 8) (v := .pointer (some ⟨g, o + k * 89, none⟩)) rfl (by kernel_rfl) (by kernel_rfl) (by kernel_rfl) (fun _ _ _ h => h) (Or.inl ⟨by rfl, fun z _ => by simp [go_sem, execOp, hk0, hk1]⟩) hH ?_
    simp only [List.getElem_toArray, List.getElem_cons_succ, List.getElem_cons_zero, Act.put, List.setIfInBounds_toArray, List.set_cons_zero, List.set_cons_succ]
    refine wpAnyH_take (i := 9) (v := .pointer (some ⟨g, o + k * 89 + 22, none⟩)) rfl (by kernel_rfl) (by kernel_rfl) (by kernel_rfl) (fun _ _ _ h => h) (Or.inl ⟨by rfl, fun z _ => by simp [go_sem, execOp]⟩) hH ?_
    simp only [List.getElem_toArray, List.getElem_cons_succ, List.getElem_cons_zero, Act.put, List.setIfInBounds_toArray, List.set_cons_zero, List.set_cons_succ]
    refine wpAnyH_take (i := 10) rfl (by kernel_rfl) (by kernel_rfl) (by kernel_rfl) (fun _ _ _ h => h) ((yieldsIf_load_mid (by rfl) 47 _ rfl g (o + k * 89 + 22) rfl (rowFl (ps k)).toList _ (fun z hz => flagsV (fun k hk j hj => (hz.cell (p := ⟨g, _, none⟩) hgl).trans (Hc2.out k hk j hj)) hk) Try.underlying47 rfl (sizeFl _))) hH ?_
    simp only [List.getElem_toArray, List.getElem_cons_succ, List.getElem_cons_zero, Act.put, List.setIfInBounds_toArray, List.set_cons_zero, List.set_cons_succ]
    refine wpAnyH_ready (rs := [11, 12]) (by kernel_rfl) (by simp) (AllReadyH.cons rfl (fun K hK => ?_) (AllReadyH.cons rfl (fun K hK => ?_) AllReadyH.nil))
    · go_simp
      refine ((?_ : ∀ x, x = w2.drew.alloc (.cells (rowP zeroR) 53) → K _ x) _ rfl)
      intro w3 hw3
      have h23 : Below w2.heap.size w2 w3 := by rw [hw3]; exact more ((Below.refl w2.heap.size w2).drew) _
      have g3 : w3.heap[w2.heap.size]? = some (.cells (rowP zeroR) 53 (0, 0)) := by rw [hw3]; exact heap_alloc_new _ _
      have hs3 : w3.heap.size = w2.heap.size + 1 := by rw [hw3]; simp
      have Hs3 := Lib.hid hs3
      refine hK.out _ _ h23 (fun hH3 => ?_)
      clear hK K hw3 hs3
      refine wpAnyH_ready (rs := [12]) (by kernel_rfl) (by simp) (AllReadyH.cons rfl (fun K hK => ?_) AllReadyH.nil)
      go_simp
      refine ((?_ : ∀ x, x = w3.alloc (.cells (rowFl zeroR) 47) → K _ x) _ rfl)
      intro w4 hw4
      have h24 : Below w2.heap.size w2 w4 := by rw [hw4]; exact h23.alloc h23.size _
      have hs3 := Hs3.out
      have g4 : w4.heap[w2.heap.size]? = some (.cells (rowP zeroR) 53 (0, 0)) := by rw [hw4]; exact at_old (by omega) g3
      have g4b : w4.heap[w2.heap.size + 1]? = some (.cells (rowFl zeroR) 47 (0, 0)) := by rw [hw4]; exact at_new hs3.symm
      try rw [hs3]
      refine hK.out _ _ h24 (fun hH4 => ?_)
      clear hK K hw4 g3 hs3
      have hP4 : w4.heap[w2.heap.size]? = some (.cells (rowP zeroR) 53 (0, 0)) := g4
      have hF4 : w4.heap[w2.heap.size + 1]? = some (.cells (rowFl zeroR) 47 (0, 0)) := g4b
      have hpg : w2.heap.size ≤ w2.heap.size := by omega
      have hfg : w2.heap.size ≤ w2.heap.size + 1 := by omega
      have hne : w2.heap.size ≠ w2.heap.size + 1 := by omega
      clear g4 g4b
      refine wpAnyH_ready (rs := [13]) (by kernel_rfl) (by simp) (AllReadyH.cons rfl (fun K hK => ?_) AllReadyH.nil)
      rw [if_pos (by rfl)]
      refine wp_store_row 53 _ _ rfl (w2.heap.size) (rowP (ps k)) rfl rfl 53 (rowP zeroR) hP4 (sizeP _) rfl (rowP_one _) ?_
      have h25 := Below.setRow h24 hpg (rowP (ps k))
      have hP5 := setRow_heap w4 (w2.heap.size) (rowP zeroR) (rowP (ps k)) 53 (0, 0) hP4
      have hF5 := (setRow_other w4 (w2.heap.size) (w2.heap.size + 1) (rowP (ps k)) (Ne.symm hne)).trans hF4
      obtain ⟨w5, hw5⟩ : ∃ x, x = w4.setRow (w2.heap.size) (rowP (ps k)) := ⟨_, rfl⟩
      rw [← hw5] at h25 hP5 hF5 ⊢
      refine hK.out _ _ h25 (fun hH5 => ?_)
      clear hK K hw5 hP4 hF4
      simp only [List.getElem_toArray, List.getElem_cons_succ, List.getElem_cons_zero, Act.put, List.setIfInBounds_toArray, List.set_cons_zero, List.set_cons_succ]
      refine wpAnyH_ready (rs := [14]) (by kernel_rfl) (by simp) (AllReadyH.cons rfl (fun K hK => ?_) AllReadyH.nil)
      rw [if_pos (by rfl)]
      refine wp_store_row 47 _ _ rfl (w2.heap.size + 1) (rowFl (ps k)) rfl rfl 47 (rowFl zeroR) hF5 (sizeFl _) rfl (rowFl_one _) ?_
      have h26 := Below.setRow h25 hfg (rowFl (ps k))
      have hF6 := setRow_heap w5 (w2.heap.size + 1) (rowFl zeroR) (rowFl (ps k)) 47 (0, 0) hF5
      have hP6 := (setRow_other w5 (w2.heap.size + 1) (w2.heap.size) (rowFl (ps k)) hne).trans hP5
      obtain ⟨w6, hw6⟩ : ∃ x, x = w5.setRow (w2.heap.size + 1) (rowFl (ps k)) := ⟨_, rfl⟩
      rw [← hw6] at h26 hP6 hF6 ⊢
      refine hK.out _ _ h26 (fun hH6 => ?_)
      clear hK K hw6
      simp only [List.getElem_toArray, List.getElem_cons_succ, List.getElem_cons_zero, Act.put, List.setIfInBounds_toArray, List.set_cons_zero, List.set_cons_succ]
      refine wpAnyH_done (by kernel_rfl) ?_ _
      have HG := Lib.hid (show Got w2 (ps k) (gb + 1) (.pointer (some ⟨w2.heap.size, 0, none⟩)) (.pointer (some ⟨w2.heap.size + 1, 0, none⟩)) w6 from ⟨w2.heap.size, w2.heap.size + 1, rfl, rfl, hP6, hF6, (h26.block _ hgrl).trans Hr2.out, h26⟩)
      clear hP5 hF5 hP6 hF6 h23 h24 h25 h26 hH3 hH4 hH5 hH6 hH c17
      go_wp2_with fail
      go_meet
      exact HG.out
    · go_simp
      refine ((?_ : ∀ x, x = w2.drew.alloc (.cells (rowFl zeroR) 47) → K _ x) _ rfl)
      intro w3 hw3
      have h23 : Below w2.heap.size w2 w3 := by rw [hw3]; exact more ((Below.refl w2.heap.size w2).drew) _
      have g3 : w3.heap[w2.heap.size]? = some (.cells (rowFl zeroR) 47 (0, 0)) := by rw [hw3]; exact heap_alloc_new _ _
      have hs3 : w3.heap.size = w2.heap.size + 1 := by rw [hw3]; simp
      have Hs3 := Lib.hid hs3
      refine hK.out _ _ h23 (fun hH3 => ?_)
      clear hK K hw3 hs3
      refine wpAnyH_ready (rs := [11]) (by kernel_rfl) (by simp) (AllReadyH.cons rfl (fun K hK => ?_) AllReadyH.nil)
      go_simp
      refine ((?_ : ∀ x, x = w3.alloc (.cells (rowP zeroR) 53) → K _ x) _ rfl)
      intro w4 hw4
      have h24 : Below w2.heap.size w2 w4 := by rw [hw4]; exact h23.alloc h23.size _
      have hs3 := Hs3.out
      have g4 : w4.heap[w2.heap.size]? = some (.cells (rowFl zeroR) 47 (0, 0)) := by rw [hw4]; exact at_old (by omega) g3
      have g4b : w4.heap[w2.heap.size + 1]? = some (.cells (rowP zeroR) 53 (0, 0)) := by rw [hw4]; exact at_new hs3.symm
      try rw [hs3]
      refine hK.out _ _ h24 (fun hH4 => ?_)
      clear hK K hw4 g3 hs3
      have hP4 : w4.heap[w2.heap.size + 1]? = some (.cells (rowP zeroR) 53 (0, 0)) := g4b
      have hF4 : w4.heap[w2.heap.size]? = some (.cells (rowFl zeroR) 47 (0, 0)) := g4
      have hpg : w2.heap.size ≤ w2.heap.size + 1 := by omega
      have hfg : w2.heap.size ≤ w2.heap.size := by omega
      have hne : w2.heap.size + 1 ≠ w2.heap.size := by omega
      clear g4 g4b
      refine wpAnyH_ready (rs := [13]) (by kernel_rfl) (by simp) (AllReadyH.cons rfl (fun K hK => ?_) AllReadyH.nil)
      rw [if_pos (by rfl)]
      refine wp_store_row 53 _ _ rfl (w2.heap.size + 1) (rowP (ps k)) rfl rfl 53 (rowP zeroR) hP4 (sizeP _) rfl (rowP_one _) ?_
      have h25 := Below.setRow h24 hpg (rowP (ps k))
      have hP5 := setRow_heap w4 (w2.heap.size + 1) (rowP zeroR) (rowP (ps k)) 53 (0, 0) hP4
      have hF5 := (setRow_other w4 (w2.heap.size + 1) (w2.heap.size) (rowP (ps k)) (Ne.symm hne)).trans hF4
      obtain ⟨w5, hw5⟩ : ∃ x, x = w4.setRow (w2.heap.size + 1) (rowP (ps k)) := ⟨_, rfl⟩
      rw [← hw5] at h25 hP5 hF5 ⊢
      refine hK.out _ _ h25 (fun hH5 => ?_)
      clear hK K hw5 hP4 hF4
      simp only [List.getElem_toArray, List.getElem_cons_succ, List.getElem_cons_zero, Act.put, List.setIfInBounds_toArray, List.set_cons_zero, List.set_cons_succ]
      refine wpAnyH_ready (rs := [14]) (by kernel_rfl) (by simp) (AllReadyH.cons rfl (fun K hK => ?_) AllReadyH.nil)
      rw [if_pos (by rfl)]
      refine wp_store_row 47 _ _ rfl (w2.heap.size) (rowFl (ps k)) rfl rfl 47 (rowFl zeroR) hF5 (sizeFl _) rfl (rowFl_one _) ?_
      have h26 := Below.setRow h25 hfg (rowFl (ps k))
      have hF6 := setRow_heap w5 (w2.heap.size) (rowFl zeroR) (rowFl (ps k)) 47 (0, 0) hF5
      have hP6 := (setRow_other w5 (w2.heap.size) (w2.heap.size + 1) (rowFl (ps k)) hne).trans hP5
      obtain ⟨w6, hw6⟩ : ∃ x, x = w5.setRow (w2.heap.size) (rowFl (ps k)) := ⟨_, rfl⟩
      rw [← hw6] at h26 hP6 hF6 ⊢
      refine hK.out _ _ h26 (fun hH6 => ?_)
      clear hK K hw6
      simp only [List.getElem_toArray, List.getElem_cons_succ, List.getElem_cons_zero, Act.put, List.setIfInBounds_toArray, List.set_cons_zero, List.set_cons_succ]
      refine wpAnyH_done (by kernel_rfl) ?_ _
      have HG := Lib.hid (show Got w2 (ps k) (gb + 1) (.pointer (some ⟨w2.heap.size + 1, 0, none⟩)) (.pointer (some ⟨w2.heap.size, 0, none⟩)) w6 from ⟨w2.heap.size + 1, w2.heap.size, rfl, rfl, hP6, hF6, (h26.block _ hgrl).trans Hr2.out, h26⟩)
      clear hP5 hF5 hP6 hF6 h23 h24 h25 h26 hH3 hH4 hH5 hH6 hH c17
      go_wp2_with fail
      go_meet
      exact HG.out
  case rest =>
    obtain ⟨gp, gf, rfl, rfl, hP, hF, hM, hB⟩ := hcut
    have c13 : wc.cell? ⟨gp, 6 + 7, none⟩ = some (.int .i64 ((ps k).i 13)) := cells_of hP 13
    have c87 : wc.cell? ⟨gp, 87, none⟩ = some (.int .i64 ((ps k).i 87)) := cells_of hP 87
    have f0 : wc.cell? ⟨gf, 0, none⟩ = some (.bool ((ps k).b 22)) := cells_of hF 0
    have f5 : wc.cell? ⟨gf, 5, none⟩ = some (.bool ((ps k).b 27)) := cells_of hF 5
    have f7 : wc.cell? ⟨gf, 7, none⟩ = some (.bool ((ps k).b 29)) := cells_of hF 7
    have f12 : wc.cell? ⟨gf, 12, none⟩ = some (.bool ((ps k).b 34)) := cells_of hF 12
    have f26 : wc.cell? ⟨gf, 26, none⟩ = some (.bool ((ps k).b 48)) := cells_of hF 26
    have hpl : gp < wc.heap.size := (Array.getElem?_eq_some_iff.1 hP).1
    have hfl : gf < wc.heap.size := (Array.getElem?_eq_some_iff.1 hF).1
    have hml : gb + 1 < wc.heap.size := (Array.getElem?_eq_some_iff.1 hM).1
    have hVd := rangeVd hP
    have hTd := rangeTd hP
    have HP := Lib.hid hP
    have HM := Lib.hid hM
    have HB := Lib.hid (hB2.out.trans (hB.mono hB2.out.size))
    have Hap2 := Hap
    clear hP hF hM hB c17
    by_cases h0 : kind = 0
    · subst h0
      go_upto_region 12 with (first | (refine wpList_row rfl 28 _ rfl gp 73 rfl _ _ hVd Try.underlying28 rfl (sizeV _) ?_; simp only [Act.put, List.setIfInBounds_toArray, List.set_cons_zero, List.set_cons_succ]) | (refine wpList_row rfl 24 _ rfl gp 82 rfl _ _ hTd Try.underlying24 rfl (sizeT _) ?_; simp only [Act.put, List.setIfInBounds_toArray, List.set_cons_zero, List.set_cons_succ]) | (refine wpList_build rfl 43 #[(0, .tmp 21), (1, .tmp 25), (8, .tmp 27), (9, .tmp 29)] rfl _ _ (bldM (ps k) 0 _) (by kernel_rfl) ?_; simp only [Act.put, List.setIfInBounds_toArray, List.set_cons_zero, List.set_cons_succ]) | (refine wpList_store_new rfl 43 _ _ rfl wc (rowMs zeroR) 43 (rowMs (msg0 (ps k) 0)) rfl rfl rfl (sizeM _) rfl (rowMs_one _) ?_; simp only [Act.put]) | fail)
      have eC : ((((rowMs (msg0 (ps k) 0)).setIfInBounds 12 (.int .u16 0)).setIfInBounds 2 (.bool ((ps k).b 48))).setIfInBounds 7 (.int .i64 4)) = rowMs ((((msg0 (ps k) 0).setI 13 0).setB 3 ((ps k).b 48)).setI 8 4) := by rw [rowMs_put_12, rowMs_put_2, rowMs_put_7]
      rw [eC]
      refine ((?_ : ∀ x, x = wc.alloc (.cells (rowMs ((((msg0 (ps k) 0).setI 13 0).setB 3 ((ps k).b 48)).setI 8 4)) 43) → Code.wp _ _ _ _ x) _ rfl)
      intro W hW
      obtain ⟨gm, hgm⟩ : ∃ x, x = wc.heap.size := ⟨_, rfl⟩
      rw [← hgm]
      have hm : W.heap[gm]? = some (.cells (rowMs ((((msg0 (ps k) 0).setI 13 0).setB 3 ((ps k).b 48)).setI 8 4)) 43 (0, 0)) := by rw [hW, hgm]; exact heap_alloc_new _ _
      have hr : W.heap[gb + 1]? = some (.cells (rowMs zeroR) 43 (0, 0)) := by rw [hW]; exact (Below.heap_alloc _ _ _ (by first | exact hml | (simp; exact hml))).trans HM.out
      have hBW : Below w.heap.size w W := by rw [hW]; exact more HB.out _
      have hrow : W.rangeAt gm 0 (rowMs ((((msg0 (ps k) 0).setI 13 0).setB 3 ((ps k).b 48)).setI 8 4)).toList := range_sub hm 0 _ (fun j v hv => by rw [Nat.zero_add]; simpa using hv)
      have Hr := Lib.hid hr
      have HBW := Lib.hid hBW
      have Hm := Lib.hid hm
      clear hW hgm hm hr hBW
      go_wp2_with (first | (refine wpList_row rfl 43 _ rfl gm 0 rfl (rowMs ((((msg0 (ps k) 0).setI 13 0).setB 3 ((ps k).b 48)).setI 8 4)) _ hrow Try.underlying43 rfl (sizeM _) ?_; simp only [Act.put, List.setIfInBounds_toArray, List.set_cons_zero, List.set_cons_succ]) | (refine wpList_store_row rfl 43 _ _ rfl (gb + 1) (rowMs ((((msg0 (ps k) 0).setI 13 0).setB 3 ((ps k).b 48)).setI 8 4)) rfl rfl 43 (rowMs zeroR) Hr.out (sizeM _) rfl (rowMs_one _) ?_; simp only [Act.put]) | fail)
      refine bodyPost_ret (results_cell_row rfl _ _ (gb + 1) 43 (rowMs ((((msg0 (ps k) 0).setI 13 0).setB 3 ((ps k).b 48)).setI 8 4)) (0, 0) _ rfl (setRow_heap _ _ (rowMs zeroR) _ _ _ Hr.out) Try.underlying43 rfl (sizeM _)) rfl ?_
      exact ⟨by rw [msgF_0], Below.setRow HBW.out (by omega) _⟩
    · by_cases h1 : kind = 1
      · subst h1
        go_upto_region 12 with (first | (refine wpList_row rfl 28 _ rfl gp 73 rfl _ _ hVd Try.underlying28 rfl (sizeV _) ?_; simp only [Act.put, List.setIfInBounds_toArray, List.set_cons_zero, List.set_cons_succ]) | (refine wpList_row rfl 24 _ rfl gp 82 rfl _ _ hTd Try.underlying24 rfl (sizeT _) ?_; simp only [Act.put, List.setIfInBounds_toArray, List.set_cons_zero, List.set_cons_succ]) | (refine wpList_build rfl 43 #[(0, .tmp 21), (1, .tmp 25), (8, .tmp 27), (9, .tmp 29)] rfl _ _ (bldM (ps k) 1 _) (by kernel_rfl) ?_; simp only [Act.put, List.setIfInBounds_toArray, List.set_cons_zero, List.set_cons_succ]) | (refine wpList_store_new rfl 43 _ _ rfl wc (rowMs zeroR) 43 (rowMs (msg0 (ps k) 1)) rfl rfl rfl (sizeM _) rfl (rowMs_one _) ?_; simp only [Act.put]) | (refine wpList_build rfl 43 _ rfl _ _ (bldM1 1 _) (by kernel_rfl) ?_; simp only [Act.put, List.setIfInBounds_toArray, List.set_cons_zero, List.set_cons_succ]) | (refine wpList_store_new rfl 43 _ _ rfl wc ((rowMs (msg0 (ps k) 1)).setIfInBounds 12 (.int .u16 0)) 43 (rowMs (zeroR.setI 1 1)) rfl rfl rfl (sizeM _) rfl (rowMs_one _) ?_; simp only [Act.put]) | fail)
        refine ((?_ : ∀ x, x = wc.alloc (.cells (rowMs (zeroR.setI 1 1)) 43) → Code.wp _ _ _ _ x) _ rfl)
        intro W hW
        obtain ⟨gm, hgm⟩ : ∃ x, x = wc.heap.size := ⟨_, rfl⟩
        rw [← hgm]
        have hm : W.heap[gm]? = some (.cells (rowMs (zeroR.setI 1 1)) 43 (0, 0)) := by rw [hW, hgm]; exact heap_alloc_new _ _
        have hr : W.heap[gb + 1]? = some (.cells (rowMs zeroR) 43 (0, 0)) := by rw [hW]; exact (Below.heap_alloc _ _ _ (by first | exact hml | (simp; exact hml))).trans HM.out
        have hBW : Below w.heap.size w W := by rw [hW]; exact more HB.out _
        have hrow : W.rangeAt gm 0 (rowMs (zeroR.setI 1 1)).toList := range_sub hm 0 _ (fun j v hv => by rw [Nat.zero_add]; simpa using hv)
        have Hr := Lib.hid hr
        have HBW := Lib.hid hBW
        have Hm := Lib.hid hm
        clear hW hgm hm hr hBW
        go_wp2_with (first | (refine wpList_row rfl 43 _ rfl gm 0 rfl (rowMs (zeroR.setI 1 1)) _ hrow Try.underlying43 rfl (sizeM _) ?_; simp only [Act.put, List.setIfInBounds_toArray, List.set_cons_zero, List.set_cons_succ]) | (refine wpList_store_row rfl 43 _ _ rfl (gb + 1) (rowMs (zeroR.setI 1 1)) rfl rfl 43 (rowMs zeroR) Hr.out (sizeM _) rfl (rowMs_one _) ?_; simp only [Act.put]) | fail)
        refine bodyPost_ret (results_cell_row rfl _ _ (gb + 1) 43 (rowMs (zeroR.setI 1 1)) (0, 0) _ rfl (setRow_heap _ _ (rowMs zeroR) _ _ _ Hr.out) Try.underlying43 rfl (sizeM _)) rfl ?_
        exact ⟨by rw [msgF_1], Below.setRow HBW.out (by omega) _⟩
      · by_cases h2 : kind = 2
        · subst h2
          go_upto_region 11 with (first | (refine wpList_row rfl 28 _ rfl gp 73 rfl _ _ hVd Try.underlying28 rfl (sizeV _) ?_; simp only [Act.put, List.setIfInBounds_toArray, List.set_cons_zero, List.set_cons_succ]) | (refine wpList_row rfl 24 _ rfl gp 82 rfl _ _ hTd Try.underlying24 rfl (sizeT _) ?_; simp only [Act.put, List.setIfInBounds_toArray, List.set_cons_zero, List.set_cons_succ]) | (refine wpList_build rfl 43 #[(0, .tmp 21), (1, .tmp 25), (8, .tmp 27), (9, .tmp 29)] rfl _ _ (bldM (ps k) 2 _) (by kernel_rfl) ?_; simp only [Act.put, List.setIfInBounds_toArray, List.set_cons_zero, List.set_cons_succ]) | (refine wpList_store_new rfl 43 _ _ rfl wc (rowMs zeroR) 43 (rowMs (msg0 (ps k) 2)) rfl rfl rfl (sizeM _) rfl (rowMs_one _) ?_; simp only [Act.put]) | fail)
          refine ((?_ : ∀ x, x = wc.alloc (.cells (rowMs ((msg0 (ps k) 2).setI 13 0)) 43) → Code.wp _ _ _ _ x) _ rfl)
          intro W0 hW0
          obtain ⟨gm, hgm⟩ : ∃ x, x = wc.heap.size := ⟨_, rfl⟩
          rw [← hgm]
          have hm0 : W0.heap[gm]? = some (.cells (rowMs ((msg0 (ps k) 2).setI 13 0)) 43 (0, 0)) := by rw [hW0, hgm]; exact heap_alloc_new _ _
          have h0 : Below wc.heap.size wc W0 := by rw [hW0]; exact more (Below.refl _ _) _
          have hgw : wc.heap.size ≤ gm := by omega
          clear hW0 hgm
          refine wp_region_held_drew (S := fun w' => Below wc.heap.size wc w') (by kernel_rfl) h0.drew (fun hH => ?_)
          refine wpAnyH_take (i := 0) (v := .pointer (some ⟨gf, 12, none⟩)) rfl (by kernel_rfl) (by kernel_rfl) (by kernel_rfl) (fun _ _ _ h => h) (Or.inl ⟨by rfl, fun z _ => by simp [go_sem, execOp]⟩) hH ?_
          simp only [List.getElem_toArray, List.getElem_cons_succ, List.getElem_cons_zero, Act.put, List.setIfInBounds_toArray, List.set_cons_zero, List.set_cons_succ]
          refine wpAnyH_take (i := 1) (v := .bool ((ps k).b 34)) rfl (by kernel_rfl) (by kernel_rfl) (by kernel_rfl) (fun _ _ _ h => h) (Or.inl ⟨by rfl, fun z hz => by simp [go_sem, execOp, (show z.cell? ⟨gf, 12, none⟩ = some (.bool ((ps k).b 34)) from (hz.cell (p := ⟨gf, 12, none⟩) hfl).trans f12)]⟩) hH ?_
          simp only [List.getElem_toArray, List.getElem_cons_succ, List.getElem_cons_zero, Act.put, List.setIfInBounds_toArray, List.set_cons_zero, List.set_cons_succ]
          refine wpAnyH_take (i := 2) (v := .pointer (some ⟨gf, 0, none⟩)) rfl (by kernel_rfl) (by kernel_rfl) (by kernel_rfl) (fun _ _ _ h => h) (Or.inl ⟨by rfl, fun z _ => by simp [go_sem, execOp]⟩) hH ?_
          simp only [List.getElem_toArray, List.getElem_cons_succ, List.getElem_cons_zero, Act.put, List.setIfInBounds_toArray, List.set_cons_zero, List.set_cons_succ]
          refine wpAnyH_take (i := 3) (v := .bool ((ps k).b 22)) rfl (by kernel_rfl) (by kernel_rfl) (by kernel_rfl) (fun _ _ _ h => h) (Or.inl ⟨by rfl, fun z hz => by simp [go_sem, execOp, (show z.cell? ⟨gf, 0, none⟩ = some (.bool ((ps k).b 22)) from (hz.cell (p := ⟨gf, 0, none⟩) hfl).trans f0)]⟩) hH ?_
          simp only [List.getElem_toArray, List.getElem_cons_succ, List.getElem_cons_zero, Act.put, List.setIfInBounds_toArray, List.set_cons_zero, List.set_cons_succ]
          refine wpAnyH_take (i := 4) (v := .pointer (some ⟨gf, 7, none⟩)) rfl (by kernel_rfl) (by kernel_rfl) (by kernel_rfl) (fun _ _ _ h => h) (Or.inl ⟨by rfl, fun z _ => by simp [go_sem, execOp]⟩) hH ?_
          simp only [List.getElem_toArray, List.getElem_cons_succ, List.getElem_cons_zero, Act.put, List.setIfInBounds_toArray, List.set_cons_zero, List.set_cons_succ]
          refine wpAnyH_take (i := 5) (v := .bool ((ps k).b 29)) rfl (by kernel_rfl) (by kernel_rfl) (by kernel_rfl) (fun _ _ _ h => h) (Or.inl ⟨by rfl, fun z hz => by simp [go_sem, execOp, (show z.cell? ⟨gf, 7, none⟩ = some (.bool ((ps k).b 29)) from (hz.cell (p := ⟨gf, 7, none⟩) hfl).trans f7)]⟩) hH ?_
          simp only [List.getElem_toArray, List.getElem_cons_succ, List.getElem_cons_zero, Act.put, List.setIfInBounds_toArray, List.set_cons_zero, List.set_cons_succ]
          refine wpAnyH_take (i := 6) (v := .pointer (some ⟨gf, 5, none⟩)) rfl (by kernel_rfl) (by kernel_rfl) (by kernel_rfl) (fun _ _ _ h => h) (Or.inl ⟨by rfl, fun z _ => by simp [go_sem, execOp]⟩) hH ?_
          simp only [List.getElem_toArray, List.getElem_cons_succ, List.getElem_cons_zero, Act.put, List.setIfInBounds_toArray, List.set_cons_zero, List.set_cons_succ]
          refine wpAnyH_take (i := 7) (v := .bool ((ps k).b 27)) rfl (by kernel_rfl) (by kernel_rfl) (by kernel_rfl) (fun _ _ _ h => h) (Or.inl ⟨by rfl, fun z hz => by simp [go_sem, execOp, (show z.cell? ⟨gf, 5, none⟩ = some (.bool ((ps k).b 27)) from (hz.cell (p := ⟨gf, 5, none⟩) hfl).trans f5)]⟩) hH ?_
          simp only [List.getElem_toArray, List.getElem_cons_succ, List.getElem_cons_zero, Act.put, List.setIfInBounds_toArray, List.set_cons_zero, List.set_cons_succ]
          refine wpAnyH_take (i := 8) (v := .pointer (some ⟨gp, 87, none⟩)) rfl (by kernel_rfl) (by kernel_rfl) (by kernel_rfl) (fun _ _ _ h => h) (Or.inl ⟨by rfl, fun z _ => by simp [go_sem, execOp]⟩) hH ?_
          simp only [List.getElem_toArray, List.getElem_cons_succ, List.getElem_cons_zero, Act.put, List.setIfInBounds_toArray, List.set_cons_zero, List.set_cons_succ]
          refine wpAnyH_take (i := 9) (v := .int .i64 ((ps k).i 87)) rfl (by kernel_rfl) (by kernel_rfl) (by kernel_rfl) (fun _ _ _ h => h) (Or.inl ⟨by rfl, fun z hz => by simp [go_sem, execOp, (show z.cell? ⟨gp, 87, none⟩ = some (.int .i64 ((ps k).i 87)) from (hz.cell (p := ⟨gp, 87, none⟩) hpl).trans c87)]⟩) hH ?_
          simp only [List.getElem_toArray, List.getElem_cons_succ, List.getElem_cons_zero, Act.put, List.setIfInBounds_toArray, List.set_cons_zero, List.set_cons_succ]
          refine wpAnyH_take (i := 10) (v := .pointer (some ⟨gm, 3, none⟩)) rfl (by kernel_rfl) (by kernel_rfl) (by kernel_rfl) (fun _ _ _ h => h) (Or.inl ⟨by rfl, fun z _ => by simp [go_sem, execOp]⟩) hH ?_
          simp only [List.getElem_toArray, List.getElem_cons_succ, List.getElem_cons_zero, Act.put, List.setIfInBounds_toArray, List.set_cons_zero, List.set_cons_succ]
          refine wpAnyH_ready (rs := [11]) (by kernel_rfl) (by simp) (AllReadyH.cons rfl (fun K hK => ?_) AllReadyH.nil)
          have e3 : W0.cell? ⟨gm, 3, none⟩ = _ := cells_of hm0 3
          have z3 : W0.frozen? ⟨gm, 3, none⟩ = false := frozen_of_row W0 gm 3 _ _ hm0
          go_simp
          refine ((?_ : ∀ x, x = (W0.setCell ⟨gm, 3, none⟩ (.bool ((ps k).b 34))).drew → K _ x) _ rfl)
          intro W1 hW
          have hm1 : W1.heap[gm]? = some (.cells (rowMs (((msg0 (ps k) 2).setI 13 0).setB 4 ((ps k).b 34))) 43 (0, 0)) := by rw [hW]; exact at_set hm0 (rowMs_put_3 _ _)
          have h1 : Below wc.heap.size wc W1 := by rw [hW]; exact (h0.setCell hgw _).drew
          refine hK.out _ _ h1 (fun hq1 => ?_)
          clear hK K hW e3 z3 hm0 h0 hH
          refine wpAnyH_take (i := 12) (v := .pointer (some ⟨gm, 4, none⟩)) rfl (by kernel_rfl) (by kernel_rfl) (by kernel_rfl) (fun _ _ _ h => h) (Or.inl ⟨by rfl, fun z _ => by simp [go_sem, execOp]⟩) hq1 ?_
          simp only [List.getElem_toArray, List.getElem_cons_succ, List.getElem_cons_zero, Act.put, List.setIfInBounds_toArray, List.set_cons_zero, List.set_cons_succ]
          refine wpAnyH_ready (rs := [13]) (by kernel_rfl) (by simp) (AllReadyH.cons rfl (fun K hK => ?_) AllReadyH.nil)
          have e4 : W1.cell? ⟨gm, 4, none⟩ = _ := cells_of hm1 4
          have z4 : W1.frozen? ⟨gm, 4, none⟩ = false := frozen_of_row W1 gm 4 _ _ hm1
          go_simp
          refine ((?_ : ∀ x, x = W1.setCell ⟨gm, 4, none⟩ (.bool ((ps k).b 22)) → K _ x) _ rfl)
          intro W2 hW
          have hm2 : W2.heap[gm]? = some (.cells (rowMs ((((msg0 (ps k) 2).setI 13 0).setB 4 ((ps k).b 34)).setB 5 ((ps k).b 22))) 43 (0, 0)) := by rw [hW]; exact at_set hm1 (rowMs_put_4 _ _)
          have h2 : Below wc.heap.size wc W2 := by rw [hW]; exact h1.setCell hgw _
          refine hK.out _ _ h2 (fun hq2 => ?_)
          clear hK K hW e4 z4 hm1 h1 hq1
          refine wpAnyH_take (i := 14) (v := .pointer (some ⟨gm, 5, none⟩)) rfl (by kernel_rfl) (by kernel_rfl) (by kernel_rfl) (fun _ _ _ h => h) (Or.inl ⟨by rfl, fun z _ => by simp [go_sem, execOp]⟩) hq2 ?_
          simp only [List.getElem_toArray, List.getElem_cons_succ, List.getElem_cons_zero, Act.put, List.setIfInBounds_toArray, List.set_cons_zero, List.set_cons_succ]
          refine wpAnyH_ready (rs := [15]) (by kernel_rfl) (by simp) (AllReadyH.cons rfl (fun K hK => ?_) AllReadyH.nil)
          have e5 : W2.cell? ⟨gm, 5, none⟩ = _ := cells_of hm2 5
          have z5 : W2.frozen? ⟨gm, 5, none⟩ = false := frozen_of_row W2 gm 5 _ _ hm2
          go_simp
          refine ((?_ : ∀ x, x = W2.setCell ⟨gm, 5, none⟩ (.bool ((ps k).b 29)) → K _ x) _ rfl)
          intro W3 hW
          have hm3 : W3.heap[gm]? = some (.cells (rowMs (((((msg0 (ps k) 2).setI 13 0).setB 4 ((ps k).b 34)).setB 5 ((ps k).b 22)).setB 6 ((ps k).b 29))) 43 (0, 0)) := by rw [hW]; exact at_set hm2 (rowMs_put_5 _ _)
          have h3 : Below wc.heap.size wc W3 := by rw [hW]; exact h2.setCell hgw _
          refine hK.out _ _ h3 (fun hq3 => ?_)
          clear hK K hW e5 z5 hm2 h2 hq2
          refine wpAnyH_take (i := 16) (v := .pointer (some ⟨gm, 6, none⟩)) rfl (by kernel_rfl) (by kernel_rfl) (by kernel_rfl) (fun _ _ _ h => h) (Or.inl ⟨by rfl, fun z _ => by simp [go_sem, execOp]⟩) hq3 ?_
          simp only [List.getElem_toArray, List.getElem_cons_succ, List.getElem_cons_zero, Act.put, List.setIfInBounds_toArray, List.set_cons_zero, List.set_cons_succ]
          refine wpAnyH_ready (rs := [17]) (by kernel_rfl) (by simp) (AllReadyH.cons rfl (fun K hK => ?_) AllReadyH.nil)
          have e6 : W3.cell? ⟨gm, 6, none⟩ = _ := cells_of hm3 6
          have z6 : W3.frozen? ⟨gm, 6, none⟩ = false := frozen_of_row W3 gm 6 _ _ hm3
          go_simp
          refine ((?_ : ∀ x, x = W3.setCell ⟨gm, 6, none⟩ (.bool ((ps k).b 27)) → K _ x) _ rfl)
          intro W4 hW
          have hm4 : W4.heap[gm]? = some (.cells (rowMs ((((((msg0 (ps k) 2).setI 13 0).setB 4 ((ps k).b 34)).setB 5 ((ps k).b 22)).setB 6 ((ps k).b 29)).setB 7 ((ps k).b 27))) 43 (0, 0)) := by rw [hW]; exact at_set hm3 (rowMs_put_6 _ _)
          have h4 : Below wc.heap.size wc W4 := by rw [hW]; exact h3.setCell hgw _
          refine hK.out _ _ h4 (fun hq4 => ?_)
          clear hK K hW e6 z6 hm3 h3 hq3
          refine wpAnyH_take (i := 18) (v := .pointer (some ⟨gm, 7, none⟩)) rfl (by kernel_rfl) (by kernel_rfl) (by kernel_rfl) (fun _ _ _ h => h) (Or.inl ⟨by rfl, fun z _ => by simp [go_sem, execOp]⟩) hq4 ?_
          simp only [List.getElem_toArray, List.getElem_cons_succ, List.getElem_cons_zero, Act.put, List.setIfInBounds_toArray, List.set_cons_zero, List.set_cons_succ]
          refine wpAnyH_ready (rs := [19]) (by kernel_rfl) (by simp) (AllReadyH.cons rfl (fun K hK => ?_) AllReadyH.nil)
          have e7 : W4.cell? ⟨gm, 7, none⟩ = _ := cells_of hm4 7
          have z7 : W4.frozen? ⟨gm, 7, none⟩ = false := frozen_of_row W4 gm 7 _ _ hm4
          go_simp
          refine ((?_ : ∀ x, x = W4.setCell ⟨gm, 7, none⟩ (.int .i64 ((ps k).i 87)) → K _ x) _ rfl)
          intro W5 hW
          have hm5 : W5.heap[gm]? = some (.cells (rowMs (((((((msg0 (ps k) 2).setI 13 0).setB 4 ((ps k).b 34)).setB 5 ((ps k).b 22)).setB 6 ((ps k).b 29)).setB 7 ((ps k).b 27)).setI 8 ((ps k).i 87))) 43 (0, 0)) := by rw [hW]; exact at_set hm4 (rowMs_put_7 _ _)
          have h5 : Below wc.heap.size wc W5 := by rw [hW]; exact h4.setCell hgw _
          refine hK.out _ _ h5 (fun hq5 => ?_)
          clear hK K hW e7 z7 hm4 h4 hq4
          refine wpAnyH_done (by kernel_rfl) ?_ _
          go_upto_region 12 with (fail)
          have hm := hm5
          have hr : W5.heap[gb + 1]? = some (.cells (rowMs zeroR) 43 (0, 0)) := (h5.block _ hml).trans HM.out
          have hBW : Below w.heap.size w W5 := HB.out.trans (h5.mono HB.out.size)
          have hrow : W5.rangeAt gm 0 (rowMs (((((((msg0 (ps k) 2).setI 13 0).setB 4 ((ps k).b 34)).setB 5 ((ps k).b 22)).setB 6 ((ps k).b 29)).setB 7 ((ps k).b 27)).setI 8 ((ps k).i 87))).toList := range_sub hm 0 _ (fun j v hv => by rw [Nat.zero_add]; simpa using hv)
          have Hr := Lib.hid hr
          have HBW := Lib.hid hBW
          have Hm := Lib.hid hm
          clear hm hr hBW hm5 h5 hq5
          go_wp2_with (first | (refine wpList_row rfl 43 _ rfl gm 0 rfl (rowMs (((((((msg0 (ps k) 2).setI 13 0).setB 4 ((ps k).b 34)).setB 5 ((ps k).b 22)).setB 6 ((ps k).b 29)).setB 7 ((ps k).b 27)).setI 8 ((ps k).i 87))) _ hrow Try.underlying43 rfl (sizeM _) ?_; simp only [Act.put, List.setIfInBounds_toArray, List.set_cons_zero, List.set_cons_succ]) | (refine wpList_store_row rfl 43 _ _ rfl (gb + 1) (rowMs (((((((msg0 (ps k) 2).setI 13 0).setB 4 ((ps k).b 34)).setB 5 ((ps k).b 22)).setB 6 ((ps k).b 29)).setB 7 ((ps k).b 27)).setI 8 ((ps k).i 87))) rfl rfl 43 (rowMs zeroR) Hr.out (sizeM _) rfl (rowMs_one _) ?_; simp only [Act.put]) | fail)
          refine bodyPost_ret (results_cell_row rfl _ _ (gb + 1) 43 (rowMs (((((((msg0 (ps k) 2).setI 13 0).setB 4 ((ps k).b 34)).setB 5 ((ps k).b 22)).setB 6 ((ps k).b 29)).setB 7 ((ps k).b 27)).setI 8 ((ps k).i 87))) (0, 0) _ rfl (setRow_heap _ _ (rowMs zeroR) _ _ _ Hr.out) Try.underlying43 rfl (sizeM _)) rfl ?_
          exact ⟨by rw [msgF_2], Below.setRow HBW.out (by omega) _⟩
        · have d0 : (kind == 0) = false := beq_eq_false_iff_ne.2 h0
          have d1 : (kind == 1) = false := beq_eq_false_iff_ne.2 h1
          have d2 : (kind == 2) = false := beq_eq_false_iff_ne.2 h2
          have Hno := Lib.hid (msgF_no (ps k) kind (by omega))
          clear h0 h1 h2
          go_upto_region 12 with (first | (refine wpList_row rfl 28 _ rfl gp 73 rfl _ _ hVd Try.underlying28 rfl (sizeV _) ?_; simp only [Act.put, List.setIfInBounds_toArray, List.set_cons_zero, List.set_cons_succ]) | (refine wpList_row rfl 24 _ rfl gp 82 rfl _ _ hTd Try.underlying24 rfl (sizeT _) ?_; simp only [Act.put, List.setIfInBounds_toArray, List.set_cons_zero, List.set_cons_succ]) | (refine wpList_build rfl 43 #[(0, .tmp 21), (1, .tmp 25), (8, .tmp 27), (9, .tmp 29)] rfl _ _ (bldM (ps k) kind _) (by kernel_rfl) ?_; simp only [Act.put, List.setIfInBounds_toArray, List.set_cons_zero, List.set_cons_succ]) | (refine wpList_store_new rfl 43 _ _ rfl wc (rowMs zeroR) 43 (rowMs (msg0 (ps k) kind)) rfl rfl rfl (sizeM _) rfl (rowMs_one _) ?_; simp only [Act.put]) | (refine wpList_build rfl 43 _ rfl _ _ (bldM0 _) (by kernel_rfl) ?_; simp only [Act.put, List.setIfInBounds_toArray, List.set_cons_zero, List.set_cons_succ]) | (refine wpList_store_new rfl 43 _ _ rfl wc ((rowMs (msg0 (ps k) kind)).setIfInBounds 12 (.int .u16 0)) 43 (rowMs zeroR) rfl rfl rfl (sizeM _) rfl (rowMs_one _) ?_; simp only [Act.put]) | fail)
          refine ((?_ : ∀ x, x = wc.alloc (.cells (rowMs zeroR) 43) → Code.wp _ _ _ _ x) _ rfl)
          intro W hW
          obtain ⟨gm, hgm⟩ : ∃ x, x = wc.heap.size := ⟨_, rfl⟩
          rw [← hgm]
          have hm : W.heap[gm]? = some (.cells (rowMs zeroR) 43 (0, 0)) := by rw [hW, hgm]; exact heap_alloc_new _ _
          have hr : W.heap[gb + 1]? = some (.cells (rowMs zeroR) 43 (0, 0)) := by rw [hW]; exact (Below.heap_alloc _ _ _ (by first | exact hml | (simp; exact hml))).trans HM.out
          have hBW : Below w.heap.size w W := by rw [hW]; exact more HB.out _
          have hrow : W.rangeAt gm 0 (rowMs zeroR).toList := range_sub hm 0 _ (fun j v hv => by rw [Nat.zero_add]; simpa using hv)
          have Hr := Lib.hid hr
          have HBW := Lib.hid hBW
          have Hm := Lib.hid hm
          clear hW hgm hm hr hBW
          go_wp2_with (first | (refine wpList_row rfl 43 _ rfl gm 0 rfl (rowMs zeroR) _ hrow Try.underlying43 rfl (sizeM _) ?_; simp only [Act.put, List.setIfInBounds_toArray, List.set_cons_zero, List.set_cons_succ]) | (refine wpList_store_row rfl 43 _ _ rfl (gb + 1) (rowMs zeroR) rfl rfl 43 (rowMs zeroR) Hr.out (sizeM _) rfl (rowMs_one _) ?_; simp only [Act.put]) | fail)
          refine bodyPost_ret (results_cell_row rfl _ _ (gb + 1) 43 (rowMs zeroR) (0, 0) _ rfl (setRow_heap _ _ (rowMs zeroR) _ _ _ Hr.out) Try.underlying43 rfl (sizeM _)) rfl ?_
          exact ⟨by rw [Hno.out], Below.setRow HBW.out (by omega) _⟩
end Go.Proofs.Ytmlhbfkmnbhoeaa.Br
