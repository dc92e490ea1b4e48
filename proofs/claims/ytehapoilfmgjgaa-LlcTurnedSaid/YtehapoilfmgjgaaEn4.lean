/- Chapter 5: a message's bytes (ford/bpdu.Encode). Condition: the message's numbers fit. -/
import Derived.Test.YtehapoilfmgjgaaEn3
import Derived.Deep.RegionHeld
set_option linter.unusedSimpArgs false
set_option linter.unusedVariables false
namespace Go.Proofs.Ytehapoilfmgjgaa.Oct
open Go.RowKit
attribute [local go_sem] mkh_0 mkh_1 mkh_2
/-- What is told of Encode. -/
def EncTells (m : Msg) (w : World) (e : Ending) (w' : World) : Prop := ∃ v, e = .returned v ∧ OwnB w' w.heap.size v (encB m) ∧ (encB m = [] → v = .slice none 0 0) ∧ Below w.heap.size w w'
theorem wp_buildSl {P : Program} {o : Oper} {a : Act} {w w' : World} {K : Act → World → Prop} {Q : Exit → Act → World → Prop} (t : TypeId) (n : Nat) (parts : Array (Nat × Operand)) (ho : o.op = .buildSlice t n parts)
    (vs : Array (Nat × Value)) (v : Value) (h : (Instr.buildSlice t n vs).run P w = .ok v w') (hv : (parts.map fun p => (p.1, a.eval p.2)) = vs) (hK : K (a.put o.dst v) w') : o.wp P a w K Q := by
  unfold Oper.wp execOp
  simp only [ho]
  rw [show (parts.map fun x => match x with | (i, x) => (i, a.eval x)) = vs from hv]
  simp only [Sem.run_bind, h, Result.andThen_ok, Sem.run_pure]
  exact hK
/-- The table of numbers and how many bytes they have. -/
def tblM (m : Msg) : Array Value := #[.int .u64 m.root, .int .i64 8, .int .u64 m.cost, .int .i64 4, .int .u64 m.bridge, .int .i64 8, .int .u64 m.port, .int .i64 2, .int .u64 (toN m.age), .int .i64 2, .int .u64 (toN m.mx), .int .i64 2, .int .u64 (toN m.hel), .int .i64 2, .int .u64 (toN m.del), .int .i64 2]
theorem tbl_0 (m : Msg) (q : Nat) (h : q < 8) : (tblM m)[q * 2]? = some (.int .u64 (lfM m q)) := by
  rcases (show q = 0 ∨ q = 1 ∨ q = 2 ∨ q = 3 ∨ q = 4 ∨ q = 5 ∨ q = 6 ∨ q = 7 by omega) with rfl | rfl | rfl | rfl | rfl | rfl | rfl | rfl <;> rfl
theorem tbl_1 (m : Msg) (q : Nat) (h : q < 8) : (tblM m)[q * 2 + 1]? = some (.int .i64 (kfM q)) := by
  rcases (show q = 0 ∨ q = 1 ∨ q = 2 ∨ q = 3 ∨ q = 4 ∨ q = 5 ∨ q = 6 ∨ q = 7 by omega) with rfl | rfl | rfl | rfl | rfl | rfl | rfl | rfl <;> rfl
theorem kf_in (q : Nat) : 1 ≤ kfM q ∧ kfM q ≤ 8 := by
  unfold kfM
  split
  · omega
  split
  · omega
  split <;> omega
theorem lf_in {m : Msg} (hm : MsgOk m) (q : Nat) : 0 ≤ lfM m q ∧ lfM m q < 18446744073709551616 := by
  have h1 := hm.root
  have h2 := hm.cost
  have h3 := hm.bridge
  have h4 := hm.port
  have h5 := toN_in m.age
  have h6 := toN_in m.mx
  have h7 := toN_in m.hel
  have h8 := toN_in m.del
  unfold lfM
  repeat' split
  all_goals omega
theorem mkT (x0 x1 x2 x3 x4 x5 x6 x7 : Int) (w : World) : Sem.run Try.prog (Instr.buildSlice 56 8 #[(0, .agg #[.int .u64 x0, .int .i64 8]), (1, .agg #[.int .u64 x1, .int .i64 4]), (2, .agg #[.int .u64 x2, .int .i64 8]), (3, .agg #[.int .u64 x3, .int .i64 2]), (4, .agg #[.int .u64 x4, .int .i64 2]), (5, .agg #[.int .u64 x5, .int .i64 2]), (6, .agg #[.int .u64 x6, .int .i64 2]), (7, .agg #[.int .u64 x7, .int .i64 2])]) w = .ok (.slice (some ⟨w.heap.size, 0, none⟩) 8 8) (w.alloc (.cells #[.int .u64 x0, .int .i64 8, .int .u64 x1, .int .i64 4, .int .u64 x2, .int .i64 8, .int .u64 x3, .int .i64 2, .int .u64 x4, .int .i64 2, .int .u64 x5, .int .i64 2, .int .u64 x6, .int .i64 2, .int .u64 x7, .int .i64 2] 55)) := by kernel_rfl
theorem mkTm (m : Msg) (w : World) : Sem.run Try.prog (Instr.buildSlice 56 8 #[(0, .agg #[.int .u64 m.root, .int .i64 8]), (1, .agg #[.int .u64 m.cost, .int .i64 4]), (2, .agg #[.int .u64 m.bridge, .int .i64 8]), (3, .agg #[.int .u64 m.port, .int .i64 2]), (4, .agg #[.int .u64 (toN m.age), .int .i64 2]), (5, .agg #[.int .u64 (toN m.mx), .int .i64 2]), (6, .agg #[.int .u64 (toN m.hel), .int .i64 2]), (7, .agg #[.int .u64 (toN m.del), .int .i64 2])]) w = .ok (.slice (some ⟨w.heap.size, 0, none⟩) 8 8) (w.alloc (.cells (tblM m) 55)) := mkT m.root m.cost m.bridge m.port (toN m.age) (toN m.mx) (toN m.hel) (toN m.del) w
theorem mk1f (x : Int) (w : World) : Sem.run Try.prog (Instr.buildSlice 33 1 #[(0, .int .u8 x)]) w = .ok (.slice (some ⟨w.heap.size, 0, none⟩) 1 1) (w.alloc (.cells (cellsB [x]) 5)) := by kernel_rfl
/-- The map of heads has been made. -/
structure Heads (m : Msg) (w w1 : World) (n0 : Nat) : Prop where
  box : w1.heap[n0]? = some (.cells (rowM m) 30)
  map : w1.heap[n0 + 1]? = some (.map (headE (n0 + 1 + 1)) 3)
  h0 : w1.heap[n0 + 1 + 1]? = some (.cells (cellsB [0, 0, 0, 0]) 5)
  h1 : w1.heap[n0 + 1 + 1 + 1]? = some (.cells (cellsB [0, 0, 0, 128]) 5)
  h2 : w1.heap[n0 + 1 + 1 + 1 + 1]? = some (.cells (cellsB [0, 0, 2, 2]) 5)
  b : Below n0 w w1
set_option maxRecDepth 100000 in
set_option maxHeartbeats 8000000 in
theorem enc_any (m : Msg) (hm : MsgOk m) (w : World) : Calls Try.prog 13 #[.agg (rowM m)] w (EncTells m w) := by
  have hmm := @run_makeMap Try.prog
  go_enter Try.func13, Try.ntmps13
  go_upto_region 2 with (first
    | (refine wpList_insert rfl _ _ _ rfl (w.heap.size + 1) #[] 0 0 (.slice (some ⟨w.heap.size + 1 + 1, 0, none⟩) 4 4) rfl rfl rfl (at_old (by simp) (at_new (by simp))) rfl ?_; refine ((?_ : ∀ x, x = setObjW (((w.alloc (.cells (rowM m) 30)).alloc (.map #[] 0)).alloc (.cells (cellsB [0, 0, 0, 0]) 5)) (w.heap.size + 1) (.map #[⟨.int .i64 0, .slice (some ⟨w.heap.size + 1 + 1, 0, none⟩) 4 4, 0⟩] 1) → wpList _ _ _ _ _ x) _ rfl); intro wa hwa; have a0 : wa.heap[w.heap.size]? = some (.cells (rowM m) 30) := (by rw [hwa, setObjW_other (by omega)]; exact at_old (by simp <;> omega) (at_old (by simp) (at_new rfl))); have a1 : wa.heap[w.heap.size + 1]? = some (.map #[⟨.int .i64 0, .slice (some ⟨w.heap.size + 1 + 1, 0, none⟩) 4 4, 0⟩] 1) := (by rw [hwa]; exact setObjW_at (at_old (by simp) (at_new (by simp)))); have a2 : wa.heap[w.heap.size + 1 + 1]? = some (.cells (cellsB [0, 0, 0, 0]) 5) := (by rw [hwa, setObjW_other (by omega)]; exact at_new (by simp)); have asz : wa.heap.size = w.heap.size + 1 + 1 + 1 := (by rw [hwa, setObjW_size]; simp); have ab : Below w.heap.size w wa := (by rw [hwa]; exact Below.setObjW (more (more (more (Below.refl _ _) _) _) _) (by omega)); clear hwa; simp only [Act.put])
    | (refine wpList_insert rfl _ _ _ rfl (w.heap.size + 1) #[⟨.int .i64 0, .slice (some ⟨w.heap.size + 1 + 1, 0, none⟩) 4 4, 0⟩] 1 1 (.slice (some ⟨w.heap.size + 1 + 1 + 1, 0, none⟩) 4 4) rfl rfl rfl (at_old (by omega) a1) rfl ?_; refine ((?_ : ∀ x, x = setObjW (wa.alloc (.cells (cellsB [0, 0, 0, 128]) 5)) (w.heap.size + 1) (.map #[⟨.int .i64 0, .slice (some ⟨w.heap.size + 1 + 1, 0, none⟩) 4 4, 0⟩, ⟨.int .i64 1, .slice (some ⟨w.heap.size + 1 + 1 + 1, 0, none⟩) 4 4, 1⟩] 2) → wpList _ _ _ _ _ x) _ rfl); intro wb hwb; have b0 : wb.heap[w.heap.size]? = some (.cells (rowM m) 30) := (by rw [hwb, setObjW_other (by omega)]; exact at_old (by omega) a0); have b1 : wb.heap[w.heap.size + 1]? = some (.map #[⟨.int .i64 0, .slice (some ⟨w.heap.size + 1 + 1, 0, none⟩) 4 4, 0⟩, ⟨.int .i64 1, .slice (some ⟨w.heap.size + 1 + 1 + 1, 0, none⟩) 4 4, 1⟩] 2) := (by rw [hwb]; exact setObjW_at (at_old (by omega) a1)); have b2 : wb.heap[w.heap.size + 1 + 1]? = some (.cells (cellsB [0, 0, 0, 0]) 5) := (by rw [hwb, setObjW_other (by omega)]; exact at_old (by omega) a2); have b3 : wb.heap[w.heap.size + 1 + 1 + 1]? = some (.cells (cellsB [0, 0, 0, 128]) 5) := (by rw [hwb, setObjW_other (by omega)]; exact at_new (by omega)); have bsz : wb.heap.size = w.heap.size + 1 + 1 + 1 + 1 := (by rw [hwb, setObjW_size]; simp [asz]); have bb : Below w.heap.size w wb := (by rw [hwb]; exact Below.setObjW (more ab _) (by omega)); clear hwb a0 a1 a2 asz ab; simp only [Act.put])
    | (refine wpList_insert rfl _ _ _ rfl (w.heap.size + 1) #[⟨.int .i64 0, .slice (some ⟨w.heap.size + 1 + 1, 0, none⟩) 4 4, 0⟩, ⟨.int .i64 1, .slice (some ⟨w.heap.size + 1 + 1 + 1, 0, none⟩) 4 4, 1⟩] 2 2 (.slice (some ⟨w.heap.size + 1 + 1 + 1 + 1, 0, none⟩) 4 4) rfl rfl rfl (at_old (by omega) b1) rfl ?_; refine ((?_ : ∀ x, x = setObjW (wb.alloc (.cells (cellsB [0, 0, 2, 2]) 5)) (w.heap.size + 1) (.map #[⟨.int .i64 0, .slice (some ⟨w.heap.size + 1 + 1, 0, none⟩) 4 4, 0⟩, ⟨.int .i64 1, .slice (some ⟨w.heap.size + 1 + 1 + 1, 0, none⟩) 4 4, 1⟩, ⟨.int .i64 2, .slice (some ⟨w.heap.size + 1 + 1 + 1 + 1, 0, none⟩) 4 4, 2⟩] 3) → wpList _ _ _ _ _ x) _ rfl); intro wc hwc; have hh : Heads m w wc w.heap.size := (by exact ⟨by rw [hwc, setObjW_other (by omega)]; exact at_old (by omega) b0, by rw [hwc]; exact setObjW_at (at_old (by omega) b1), by rw [hwc, setObjW_other (by omega)]; exact at_old (by omega) b2, by rw [hwc, setObjW_other (by omega)]; exact at_old (by omega) b3, by rw [hwc, setObjW_other (by omega)]; exact at_new (by omega), by rw [hwc]; exact Below.setObjW (more bb _) (by omega)⟩); clear hwc b0 b1 b2 b3 bsz bb; simp only [Act.put])
    | fail)
  obtain ⟨n0, hn0⟩ : ∃ x, x = w.heap.size := ⟨_, rfl⟩
  rw [← hn0] at hh ⊢
  have HN0 := Lib.hid hn0
  have HH := Lib.hid hh
  clear hn0 hh hmm
  have k0 : wc.cell? ⟨n0, 0, none⟩ = some (.int .i64 m.kind) := cells_of HH.out.box 0
  have heq := fun (a : Option Addr) (n c : Nat) (w' : World) => Lib.run_eql_slice_nil (P := Try.prog) w' 33 5 a n c 0 0 Try.underlying33
  by_cases h1 : m.kind = 1
  · have hl := map_get wc (n0 + 1) _ 3 HH.out.map 1 _ _ (find_1 _)
    rw [h1] at k0
    have HE := Lib.hid (show encB m = [0, 0, 0, 128] by unfold encB; rw [if_pos h1])
    clear h1
    go_wp2_with fail
    go_ret
    refine ⟨_, rfl, ?_, (fun h => by rw [HE.out] at h; cases h), by rw [← HN0.out]; exact HH.out.b⟩
    rw [HE.out, ← HN0.out]
    exact ownB_new HH.out.h1 (by omega) rfl (by omega)
  by_cases h0 : m.kind = 0
  · have hl := map_get wc (n0 + 1) _ 3 HH.out.map 0 _ _ (find_0 _)
    have HE := Lib.hid (show encB m = [0, 0, 0, 0, flagsN m] ++ acc (lfM m) kfM 8 by unfold encB; rw [if_neg h1, if_pos h0])
    rw [h0] at k0
    have H0' := Lib.hid h0
    clear h1 h0
    have hfl := flagsN_in m
    have w8 : IntKind.u8.wrap (flagsN m) = flagsN m := by unfold IntKind.wrap; simp [IntKind.signed, IntKind.bits]; omega
    go_wp2_with (first | (refine wpList_load_row rfl 30 _ rfl n0 rfl 30 (rowM m) (0, 0) _ HH.out.box Try.underlying30 rfl (sizeM m) ?_; simp only [Act.put, List.setIfInBounds_toArray, List.set_cons_zero, List.set_cons_succ]) | fail)
    refine (flags_any m wc).mono ?_
    rintro e w2 ⟨rfl, hb2⟩
    have hs2 := hb2.size
    have hbl := (Array.getElem?_eq_some_iff.1 HH.out.box).1
    have hhl := (Array.getElem?_eq_some_iff.1 HH.out.h0).1
    have HB2 := Lib.hid (show Below n0 w w2 from HH.out.b.trans (hb2.mono (by omega)))
    have HX2 := Lib.hid ((hb2.block _ hbl).trans HH.out.box)
    have HO2 := Lib.hid (show OwnB w2 n0 (.slice (some ⟨n0 + 1 + 1, 0, none⟩) 4 4) [0, 0, 0, 0] from ownB_new ((hb2.block _ hhl).trans HH.out.h0) (by omega) rfl (by omega))
    have hn2 : n0 ≤ w2.heap.size := by omega
    clear hb2 k0 hl heq
    go_upto_region 6 with (first | (at_builtin; refine wpList_appB rfl (.tmp 24) (.tmp 28) rfl n0 _ _ rfl (HO2.out.below (more (Below.refl _ _) _)) (by simp; omega) ⟨w2.heap.size, 0, none⟩ 1 [flagsN m] 1 rfl rfl (cellsB_news (heap_alloc_new _ _)) (by simp) ?_; intro v3 w3 hown3 hb3 hk3; simp only [Act.put, List.setIfInBounds_toArray, List.set_cons_zero, List.set_cons_succ]; have HO3 := Lib.hid (show OwnB w3 n0 v3 [0, 0, 0, 0, flagsN m] from hown3); have HB3 := Lib.hid (show Below n0 w w3 from (HB2.out.alloc hn2 _).trans hb3); have HX3 := Lib.hid ((hk3 n0 _ _ _ (at_old (Array.getElem?_eq_some_iff.1 HX2.out).1 HX2.out) (by decide)).trans (at_old (Array.getElem?_eq_some_iff.1 HX2.out).1 HX2.out)); clear hown3 hb3 hk3) | fail)
    have l3 := (Array.getElem?_eq_some_iff.1 HX3.out).1
    clear HB2 HX2 HO2 hn2 hs2 hbl hhl w8
    have HKC := Lib.hid (fun (z : World) (hz : Below w3.heap.size w3 z) (j : Nat) => (hz.cell (p := ⟨n0, j, none⟩) l3).trans (cells_of HX3.out j))
    have wcst : IntKind.u64.wrap m.cost = m.cost := by have := hm.cost; unfold IntKind.wrap; simp [IntKind.signed, IntKind.bits]; omega
    have wprt : IntKind.u64.wrap m.port = m.port := by have := hm.port; unfold IntKind.wrap; simp [IntKind.signed, IntKind.bits]; omega
    have wto : ∀ x, IntKind.u64.wrap (toN x) = toN x := fun x => by have := toN_in x; unfold IntKind.wrap; simp [IntKind.signed, IntKind.bits]; omega
    refine wp_region_held_drew (S := fun w' => Below w3.heap.size w3 w') (by kernel_rfl) (Below.refl _ _).drew (fun hH => ?_)
    refine wpAnyH_take (i := 0) (v := .pointer (some ⟨n0, 8, none⟩)) rfl (by kernel_rfl) (by kernel_rfl) (by kernel_rfl) (fun _ _ _ h => h) (Or.inl ⟨by rfl, fun z _ => by simp [go_sem, execOp]⟩) hH ?_
    simp only [List.getElem_toArray, List.getElem_cons_succ, List.getElem_cons_zero, Act.put, List.setIfInBounds_toArray, List.set_cons_zero, List.set_cons_succ]
    refine wpAnyH_take (i := 1) (v := .pointer (some ⟨n0, 8, none⟩)) rfl (by kernel_rfl) (by kernel_rfl) (by kernel_rfl) (fun _ _ _ h => h) (Or.inl ⟨by rfl, fun z _ => by simp [go_sem, execOp]⟩) hH ?_
    simp only [List.getElem_toArray, List.getElem_cons_succ, List.getElem_cons_zero, Act.put, List.setIfInBounds_toArray, List.set_cons_zero, List.set_cons_succ]
    refine wpAnyH_take (i := 2) (v := .int .u64 m.root) rfl (by kernel_rfl) (by kernel_rfl) (by kernel_rfl) (fun _ _ _ h => h) (Or.inl ⟨by rfl, fun z hz => by simp [go_sem, execOp, (show z.cell? ⟨n0, 8, none⟩ = some (.int .u64 m.root) from HKC.out _ hz 8)]⟩) hH ?_
    simp only [List.getElem_toArray, List.getElem_cons_succ, List.getElem_cons_zero, Act.put, List.setIfInBounds_toArray, List.set_cons_zero, List.set_cons_succ]
    refine wpAnyH_take (i := 3) (v := .agg #[.int .u64 m.root, .int .i64 8]) rfl (by kernel_rfl) (by kernel_rfl) (by kernel_rfl) (fun _ _ _ h => h) (Or.inl ⟨by rfl, fun z _ => by kernel_rfl⟩) hH ?_
    simp only [List.getElem_toArray, List.getElem_cons_succ, List.getElem_cons_zero, Act.put, List.setIfInBounds_toArray, List.set_cons_zero, List.set_cons_succ]
    refine wpAnyH_take (i := 4) (v := .pointer (some ⟨n0, 8, none⟩)) rfl (by kernel_rfl) (by kernel_rfl) (by kernel_rfl) (fun _ _ _ h => h) (Or.inl ⟨by rfl, fun z _ => by simp [go_sem, execOp]⟩) hH ?_
    simp only [List.getElem_toArray, List.getElem_cons_succ, List.getElem_cons_zero, Act.put, List.setIfInBounds_toArray, List.set_cons_zero, List.set_cons_succ]
    refine wpAnyH_take (i := 5) (v := .pointer (some ⟨n0, 8 + 1, none⟩)) rfl (by kernel_rfl) (by kernel_rfl) (by kernel_rfl) (fun _ _ _ h => h) (Or.inl ⟨by rfl, fun z _ => by simp [go_sem, execOp]⟩) hH ?_
    simp only [List.getElem_toArray, List.getElem_cons_succ, List.getElem_cons_zero, Act.put, List.setIfInBounds_toArray, List.set_cons_zero, List.set_cons_succ]
    refine wpAnyH_take (i := 6) (v := .int .u32 m.cost) rfl (by kernel_rfl) (by kernel_rfl) (by kernel_rfl) (fun _ _ _ h => h) (Or.inl ⟨by rfl, fun z hz => by simp [go_sem, execOp, (show z.cell? ⟨n0, 8 + 1, none⟩ = some (.int .u32 m.cost) from HKC.out _ hz 9)]⟩) hH ?_
    simp only [List.getElem_toArray, List.getElem_cons_succ, List.getElem_cons_zero, Act.put, List.setIfInBounds_toArray, List.set_cons_zero, List.set_cons_succ]
    refine wpAnyH_take (i := 7) (v := .int .u64 m.cost) rfl (by kernel_rfl) (by kernel_rfl) (by kernel_rfl) (fun _ _ _ h => h) (Or.inl ⟨by rfl, fun z _ => by simp [go_sem, execOp, wcst]⟩) hH ?_
    simp only [List.getElem_toArray, List.getElem_cons_succ, List.getElem_cons_zero, Act.put, List.setIfInBounds_toArray, List.set_cons_zero, List.set_cons_succ]
    refine wpAnyH_take (i := 8) (v := .agg #[.int .u64 m.cost, .int .i64 4]) rfl (by kernel_rfl) (by kernel_rfl) (by kernel_rfl) (fun _ _ _ h => h) (Or.inl ⟨by rfl, fun z _ => by kernel_rfl⟩) hH ?_
    simp only [List.getElem_toArray, List.getElem_cons_succ, List.getElem_cons_zero, Act.put, List.setIfInBounds_toArray, List.set_cons_zero, List.set_cons_succ]
    refine wpAnyH_take (i := 9) (v := .pointer (some ⟨n0, 8, none⟩)) rfl (by kernel_rfl) (by kernel_rfl) (by kernel_rfl) (fun _ _ _ h => h) (Or.inl ⟨by rfl, fun z _ => by simp [go_sem, execOp]⟩) hH ?_
    simp only [List.getElem_toArray, List.getElem_cons_succ, List.getElem_cons_zero, Act.put, List.setIfInBounds_toArray, List.set_cons_zero, List.set_cons_succ]
    refine wpAnyH_take (i := 10) (v := .pointer (some ⟨n0, 8 + 2, none⟩)) rfl (by kernel_rfl) (by kernel_rfl) (by kernel_rfl) (fun _ _ _ h => h) (Or.inl ⟨by rfl, fun z _ => by simp [go_sem, execOp]⟩) hH ?_
    simp only [List.getElem_toArray, List.getElem_cons_succ, List.getElem_cons_zero, Act.put, List.setIfInBounds_toArray, List.set_cons_zero, List.set_cons_succ]
    refine wpAnyH_take (i := 11) (v := .int .u64 m.bridge) rfl (by kernel_rfl) (by kernel_rfl) (by kernel_rfl) (fun _ _ _ h => h) (Or.inl ⟨by rfl, fun z hz => by simp [go_sem, execOp, (show z.cell? ⟨n0, 8 + 2, none⟩ = some (.int .u64 m.bridge) from HKC.out _ hz 10)]⟩) hH ?_
    simp only [List.getElem_toArray, List.getElem_cons_succ, List.getElem_cons_zero, Act.put, List.setIfInBounds_toArray, List.set_cons_zero, List.set_cons_succ]
    refine wpAnyH_take (i := 12) (v := .agg #[.int .u64 m.bridge, .int .i64 8]) rfl (by kernel_rfl) (by kernel_rfl) (by kernel_rfl) (fun _ _ _ h => h) (Or.inl ⟨by rfl, fun z _ => by kernel_rfl⟩) hH ?_
    simp only [List.getElem_toArray, List.getElem_cons_succ, List.getElem_cons_zero, Act.put, List.setIfInBounds_toArray, List.set_cons_zero, List.set_cons_succ]
    refine wpAnyH_take (i := 13) (v := .pointer (some ⟨n0, 8, none⟩)) rfl (by kernel_rfl) (by kernel_rfl) (by kernel_rfl) (fun _ _ _ h => h) (Or.inl ⟨by rfl, fun z _ => by simp [go_sem, execOp]⟩) hH ?_
    simp only [List.getElem_toArray, List.getElem_cons_succ, List.getElem_cons_zero, Act.put, List.setIfInBounds_toArray, List.set_cons_zero, List.set_cons_succ]
    refine wpAnyH_take (i := 14) (v := .pointer (some ⟨n0, 8 + 3, none⟩)) rfl (by kernel_rfl) (by kernel_rfl) (by kernel_rfl) (fun _ _ _ h => h) (Or.inl ⟨by rfl, fun z _ => by simp [go_sem, execOp]⟩) hH ?_
    simp only [List.getElem_toArray, List.getElem_cons_succ, List.getElem_cons_zero, Act.put, List.setIfInBounds_toArray, List.set_cons_zero, List.set_cons_succ]
    refine wpAnyH_take (i := 15) (v := .int .u16 m.port) rfl (by kernel_rfl) (by kernel_rfl) (by kernel_rfl) (fun _ _ _ h => h) (Or.inl ⟨by rfl, fun z hz => by simp [go_sem, execOp, (show z.cell? ⟨n0, 8 + 3, none⟩ = some (.int .u16 m.port) from HKC.out _ hz 11)]⟩) hH ?_
    simp only [List.getElem_toArray, List.getElem_cons_succ, List.getElem_cons_zero, Act.put, List.setIfInBounds_toArray, List.set_cons_zero, List.set_cons_succ]
    refine wpAnyH_take (i := 16) (v := .int .u64 m.port) rfl (by kernel_rfl) (by kernel_rfl) (by kernel_rfl) (fun _ _ _ h => h) (Or.inl ⟨by rfl, fun z _ => by simp [go_sem, execOp, wprt]⟩) hH ?_
    simp only [List.getElem_toArray, List.getElem_cons_succ, List.getElem_cons_zero, Act.put, List.setIfInBounds_toArray, List.set_cons_zero, List.set_cons_succ]
    refine wpAnyH_take (i := 17) (v := .agg #[.int .u64 m.port, .int .i64 2]) rfl (by kernel_rfl) (by kernel_rfl) (by kernel_rfl) (fun _ _ _ h => h) (Or.inl ⟨by rfl, fun z _ => by kernel_rfl⟩) hH ?_
    simp only [List.getElem_toArray, List.getElem_cons_succ, List.getElem_cons_zero, Act.put, List.setIfInBounds_toArray, List.set_cons_zero, List.set_cons_succ]
    refine wpAnyH_take (i := 18) (v := .pointer (some ⟨n0, 13, none⟩)) rfl (by kernel_rfl) (by kernel_rfl) (by kernel_rfl) (fun _ _ _ h => h) (Or.inl ⟨by rfl, fun z _ => by simp [go_sem, execOp]⟩) hH ?_
    simp only [List.getElem_toArray, List.getElem_cons_succ, List.getElem_cons_zero, Act.put, List.setIfInBounds_toArray, List.set_cons_zero, List.set_cons_succ]
    refine wpAnyH_take (i := 19) (v := .pointer (some ⟨n0, 13, none⟩)) rfl (by kernel_rfl) (by kernel_rfl) (by kernel_rfl) (fun _ _ _ h => h) (Or.inl ⟨by rfl, fun z _ => by simp [go_sem, execOp]⟩) hH ?_
    simp only [List.getElem_toArray, List.getElem_cons_succ, List.getElem_cons_zero, Act.put, List.setIfInBounds_toArray, List.set_cons_zero, List.set_cons_succ]
    refine wpAnyH_take (i := 20) (v := .int .i64 m.age) rfl (by kernel_rfl) (by kernel_rfl) (by kernel_rfl) (fun _ _ _ h => h) (Or.inl ⟨by rfl, fun z hz => by simp [go_sem, execOp, (show z.cell? ⟨n0, 13, none⟩ = some (.int .i64 m.age) from HKC.out _ hz 13)]⟩) hH ?_
    simp only [List.getElem_toArray, List.getElem_cons_succ, List.getElem_cons_zero, Act.put, List.setIfInBounds_toArray, List.set_cons_zero, List.set_cons_succ]
    refine wpAnyH_take (i := 24) (v := .pointer (some ⟨n0, 13, none⟩)) rfl (by kernel_rfl) (by kernel_rfl) (by kernel_rfl) (fun _ _ _ h => h) (Or.inl ⟨by rfl, fun z _ => by simp [go_sem, execOp]⟩) hH ?_
    simp only [List.getElem_toArray, List.getElem_cons_succ, List.getElem_cons_zero, Act.put, List.setIfInBounds_toArray, List.set_cons_zero, List.set_cons_succ]
    refine wpAnyH_take (i := 25) (v := .pointer (some ⟨n0, 13 + 1, none⟩)) rfl (by kernel_rfl) (by kernel_rfl) (by kernel_rfl) (fun _ _ _ h => h) (Or.inl ⟨by rfl, fun z _ => by simp [go_sem, execOp]⟩) hH ?_
    simp only [List.getElem_toArray, List.getElem_cons_succ, List.getElem_cons_zero, Act.put, List.setIfInBounds_toArray, List.set_cons_zero, List.set_cons_succ]
    refine wpAnyH_take (i := 26) (v := .int .i64 m.mx) rfl (by kernel_rfl) (by kernel_rfl) (by kernel_rfl) (fun _ _ _ h => h) (Or.inl ⟨by rfl, fun z hz => by simp [go_sem, execOp, (show z.cell? ⟨n0, 13 + 1, none⟩ = some (.int .i64 m.mx) from HKC.out _ hz 14)]⟩) hH ?_
    simp only [List.getElem_toArray, List.getElem_cons_succ, List.getElem_cons_zero, Act.put, List.setIfInBounds_toArray, List.set_cons_zero, List.set_cons_succ]
    refine wpAnyH_take (i := 30) (v := .pointer (some ⟨n0, 13, none⟩)) rfl (by kernel_rfl) (by kernel_rfl) (by kernel_rfl) (fun _ _ _ h => h) (Or.inl ⟨by rfl, fun z _ => by simp [go_sem, execOp]⟩) hH ?_
    simp only [List.getElem_toArray, List.getElem_cons_succ, List.getElem_cons_zero, Act.put, List.setIfInBounds_toArray, List.set_cons_zero, List.set_cons_succ]
    refine wpAnyH_take (i := 31) (v := .pointer (some ⟨n0, 13 + 2, none⟩)) rfl (by kernel_rfl) (by kernel_rfl) (by kernel_rfl) (fun _ _ _ h => h) (Or.inl ⟨by rfl, fun z _ => by simp [go_sem, execOp]⟩) hH ?_
    simp only [List.getElem_toArray, List.getElem_cons_succ, List.getElem_cons_zero, Act.put, List.setIfInBounds_toArray, List.set_cons_zero, List.set_cons_succ]
    refine wpAnyH_take (i := 32) (v := .int .i64 m.hel) rfl (by kernel_rfl) (by kernel_rfl) (by kernel_rfl) (fun _ _ _ h => h) (Or.inl ⟨by rfl, fun z hz => by simp [go_sem, execOp, (show z.cell? ⟨n0, 13 + 2, none⟩ = some (.int .i64 m.hel) from HKC.out _ hz 15)]⟩) hH ?_
    simp only [List.getElem_toArray, List.getElem_cons_succ, List.getElem_cons_zero, Act.put, List.setIfInBounds_toArray, List.set_cons_zero, List.set_cons_succ]
    refine wpAnyH_take (i := 36) (v := .pointer (some ⟨n0, 13, none⟩)) rfl (by kernel_rfl) (by kernel_rfl) (by kernel_rfl) (fun _ _ _ h => h) (Or.inl ⟨by rfl, fun z _ => by simp [go_sem, execOp]⟩) hH ?_
    simp only [List.getElem_toArray, List.getElem_cons_succ, List.getElem_cons_zero, Act.put, List.setIfInBounds_toArray, List.set_cons_zero, List.set_cons_succ]
    refine wpAnyH_take (i := 37) (v := .pointer (some ⟨n0, 13 + 3, none⟩)) rfl (by kernel_rfl) (by kernel_rfl) (by kernel_rfl) (fun _ _ _ h => h) (Or.inl ⟨by rfl, fun z _ => by simp [go_sem, execOp]⟩) hH ?_
    simp only [List.getElem_toArray, List.getElem_cons_succ, List.getElem_cons_zero, Act.put, List.setIfInBounds_toArray, List.set_cons_zero, List.set_cons_succ]
    refine wpAnyH_take (i := 38) (v := .int .i64 m.del) rfl (by kernel_rfl) (by kernel_rfl) (by kernel_rfl) (fun _ _ _ h => h) (Or.inl ⟨by rfl, fun z hz => by simp [go_sem, execOp, (show z.cell? ⟨n0, 13 + 3, none⟩ = some (.int .i64 m.del) from HKC.out _ hz 16)]⟩) hH ?_
    simp only [List.getElem_toArray, List.getElem_cons_succ, List.getElem_cons_zero, Act.put, List.setIfInBounds_toArray, List.set_cons_zero, List.set_cons_succ]
    refine wpAnyH_take (i := 44) rfl (by kernel_rfl) (by kernel_rfl) (by kernel_rfl) (fun _ _ _ h => h) (Or.inl ⟨by rfl, fun z _ => rfl⟩) hH ?_
    simp only [List.getElem_toArray, List.getElem_cons_succ, List.getElem_cons_zero, Act.put, List.setIfInBounds_toArray, List.set_cons_zero, List.set_cons_succ]
    refine wpAnyH_ready (rs := [21]) (by kernel_rfl) (by simp) (AllReadyH.cons rfl (fun K hK => ?_) AllReadyH.nil)
    go_simp
    refine (to_any m.age _).mono ?_
    rintro e wt0 ⟨rfl, hbt0⟩
    refine hK.out _ _ (hH.trans (hbt0.mono hH.size)) (fun hHt0 => ?_)
    clear hK K hH hbt0
    refine wpAnyH_take (i := 22) (v := .int .u64 (toN m.age)) rfl (by kernel_rfl) (by kernel_rfl) (by kernel_rfl) (fun _ _ _ h => h) (Or.inl ⟨by rfl, fun z _ => by simp [go_sem, execOp, wto]⟩) hHt0 ?_
    simp only [List.getElem_toArray, List.getElem_cons_succ, List.getElem_cons_zero, Act.put, List.setIfInBounds_toArray, List.set_cons_zero, List.set_cons_succ]
    refine wpAnyH_take (i := 23) (v := .agg #[.int .u64 (toN m.age), .int .i64 2]) rfl (by kernel_rfl) (by kernel_rfl) (by kernel_rfl) (fun _ _ _ h => h) (Or.inl ⟨by rfl, fun z _ => by kernel_rfl⟩) hHt0 ?_
    simp only [List.getElem_toArray, List.getElem_cons_succ, List.getElem_cons_zero, Act.put, List.setIfInBounds_toArray, List.set_cons_zero, List.set_cons_succ]
    refine wpAnyH_ready (rs := [27]) (by kernel_rfl) (by simp) (AllReadyH.cons rfl (fun K hK => ?_) AllReadyH.nil)
    go_simp
    refine (to_any m.mx _).mono ?_
    rintro e wt1 ⟨rfl, hbt1⟩
    refine hK.out _ _ (hHt0.trans (hbt1.mono hHt0.size)) (fun hHt1 => ?_)
    clear hK K hHt0 hbt1
    refine wpAnyH_take (i := 28) (v := .int .u64 (toN m.mx)) rfl (by kernel_rfl) (by kernel_rfl) (by kernel_rfl) (fun _ _ _ h => h) (Or.inl ⟨by rfl, fun z _ => by simp [go_sem, execOp, wto]⟩) hHt1 ?_
    simp only [List.getElem_toArray, List.getElem_cons_succ, List.getElem_cons_zero, Act.put, List.setIfInBounds_toArray, List.set_cons_zero, List.set_cons_succ]
    refine wpAnyH_take (i := 29) (v := .agg #[.int .u64 (toN m.mx), .int .i64 2]) rfl (by kernel_rfl) (by kernel_rfl) (by kernel_rfl) (fun _ _ _ h => h) (Or.inl ⟨by rfl, fun z _ => by kernel_rfl⟩) hHt1 ?_
    simp only [List.getElem_toArray, List.getElem_cons_succ, List.getElem_cons_zero, Act.put, List.setIfInBounds_toArray, List.set_cons_zero, List.set_cons_succ]
    refine wpAnyH_ready (rs := [33]) (by kernel_rfl) (by simp) (AllReadyH.cons rfl (fun K hK => ?_) AllReadyH.nil)
    go_simp
    refine (to_any m.hel _).mono ?_
    rintro e wt2 ⟨rfl, hbt2⟩
    refine hK.out _ _ (hHt1.trans (hbt2.mono hHt1.size)) (fun hHt2 => ?_)
    clear hK K hHt1 hbt2
    refine wpAnyH_take (i := 34) (v := .int .u64 (toN m.hel)) rfl (by kernel_rfl) (by kernel_rfl) (by kernel_rfl) (fun _ _ _ h => h) (Or.inl ⟨by rfl, fun z _ => by simp [go_sem, execOp, wto]⟩) hHt2 ?_
    simp only [List.getElem_toArray, List.getElem_cons_succ, List.getElem_cons_zero, Act.put, List.setIfInBounds_toArray, List.set_cons_zero, List.set_cons_succ]
    refine wpAnyH_take (i := 35) (v := .agg #[.int .u64 (toN m.hel), .int .i64 2]) rfl (by kernel_rfl) (by kernel_rfl) (by kernel_rfl) (fun _ _ _ h => h) (Or.inl ⟨by rfl, fun z _ => by kernel_rfl⟩) hHt2 ?_
    simp only [List.getElem_toArray, List.getElem_cons_succ, List.getElem_cons_zero, Act.put, List.setIfInBounds_toArray, List.set_cons_zero, List.set_cons_succ]
    refine wpAnyH_ready (rs := [39]) (by kernel_rfl) (by simp) (AllReadyH.cons rfl (fun K hK => ?_) AllReadyH.nil)
    go_simp
    refine (to_any m.del _).mono ?_
    rintro e wt3 ⟨rfl, hbt3⟩
    refine hK.out _ _ (hHt2.trans (hbt3.mono hHt2.size)) (fun hHt3 => ?_)
    clear hK K hHt2 hbt3
    refine wpAnyH_take (i := 40) (v := .int .u64 (toN m.del)) rfl (by kernel_rfl) (by kernel_rfl) (by kernel_rfl) (fun _ _ _ h => h) (Or.inl ⟨by rfl, fun z _ => by simp [go_sem, execOp, wto]⟩) hHt3 ?_
    simp only [List.getElem_toArray, List.getElem_cons_succ, List.getElem_cons_zero, Act.put, List.setIfInBounds_toArray, List.set_cons_zero, List.set_cons_succ]
    refine wpAnyH_take (i := 41) (v := .agg #[.int .u64 (toN m.del), .int .i64 2]) rfl (by kernel_rfl) (by kernel_rfl) (by kernel_rfl) (fun _ _ _ h => h) (Or.inl ⟨by rfl, fun z _ => by kernel_rfl⟩) hHt3 ?_
    simp only [List.getElem_toArray, List.getElem_cons_succ, List.getElem_cons_zero, Act.put, List.setIfInBounds_toArray, List.set_cons_zero, List.set_cons_succ]
    refine wpAnyH_ready (rs := [42]) (by kernel_rfl) (by simp) (AllReadyH.cons rfl (fun K hK => ?_) AllReadyH.nil)
    rw [if_pos (by rfl)]
    refine wp_buildSl 56 8 _ rfl _ _ (mkTm m wt3) (by kernel_rfl) ?_
    obtain ⟨w5, hw5⟩ : ∃ x, x = wt3.alloc (.cells (tblM m) 55) := ⟨_, rfl⟩
    obtain ⟨gt, hgt⟩ : ∃ x, x = wt3.heap.size := ⟨_, rfl⟩
    have hb5 : Below w3.heap.size w3 w5 := by rw [hw5]; exact hHt3.alloc hHt3.size _
    have hg5 : w5.heap[gt]? = some (.cells (tblM m) 55 (0, 0)) := by rw [hw5, hgt]; exact heap_alloc_new _ _
    rw [← hw5, ← hgt]
    have HG5 := Lib.hid hg5
    have HB5 := Lib.hid (HB3.out.trans (hb5.mono (by have := HB3.out.size; omega)))
    have HX5 := Lib.hid ((hb5.block _ l3).trans HX3.out)
    have HO5 := Lib.hid (HO3.out.below hb5)
    refine hK.out _ _ hb5 (fun hHf => ?_)
    simp only [List.getElem_toArray, List.getElem_cons_succ, List.getElem_cons_zero, Act.put, List.setIfInBounds_toArray, List.set_cons_zero, List.set_cons_succ]
    clear hK K hw5 hgt hg5 hHt3 hb5
    refine wpAnyH_take (i := 43) (v := .int .i64 8) rfl (by kernel_rfl) (by kernel_rfl) (by kernel_rfl) (fun _ _ _ h => h) (Or.inl ⟨by rfl, fun z _ => by simp [go_sem, execOp]⟩) hHf ?_
    simp only [List.getElem_toArray, List.getElem_cons_succ, List.getElem_cons_zero, Act.put, List.setIfInBounds_toArray, List.set_cons_zero, List.set_cons_succ]
    refine wpAnyH_done (by kernel_rfl) ?_ _
    clear hHf
    go_wp2_with fail
    have hA0 := Lib.hid (show OwnB w5 n0 v3 ([0, 0, 0, 0, flagsN m] ++ acc (lfM m) kfM 0) by show OwnB w5 n0 v3 ([0, 0, 0, 0, flagsN m] ++ []); rw [List.append_nil]; exact HO5.out)
    clear HO5
    go_loopw [74, 4] (fun i v wr => ∃ q : Nat, q ≤ 8 ∧ i = .int .i64 q ∧ Hid (OwnB wr n0 v ([0, 0, 0, 0, flagsN m] ++ acc (lfM m) kfM q)) ∧ Hid (wr.heap[gt]? = some (.cells (tblM m) 55 (0, 0))) ∧ Hid (wr.heap[n0]? = some (.cells (rowM m) 30 (0, 0))) ∧ Hid (Below n0 w wr)) (fun i _ _ => 8 - (intOf i).toNat)
    case atStart => exact ⟨0, by omega, rfl, hA0, HG5, HX5, HB5⟩
    case round =>
      clear hA0 HG5 HX5 HB5
      obtain ⟨q, hq, rfl, hOw, hG, hX, hB⟩ := hrel
      have hq0 : (0 : Int) ≤ q := by omega
      by_cases hlt : q < 8
      · have dl : decide ((q : Int) < 8) = true := decide_eq_true (by omega)
        have hq1 : (q : Int) < 8 := by omega
        have hwm : IntKind.i64.wrap ((q : Int) + 1) = (q + 1 : Nat) := by unfold IntKind.wrap; simp [IntKind.signed, IntKind.bits]; omega
        have t0 : wr.cell? ⟨gt, q * 2, none⟩ = some (.int .u64 (lfM m q)) := (cells_of hG.out _).trans (tbl_0 m q hlt)
        have t1 : wr.cell? ⟨gt, q * 2 + 1, none⟩ = some (.int .i64 (kfM q)) := (cells_of hG.out _).trans (tbl_1 m q hlt)
        have lB := hB.out.size
        have lG := (Array.getElem?_eq_some_iff.1 hG.out).1
        have lX := (Array.getElem?_eq_some_iff.1 hX.out).1
        have hn0r : n0 ≤ wr.heap.size := by omega
        go_wp2_with fail
        refine (put_any (lfM m q) (lf_in hm q) (kfM q) (kf_in q) _).mono ?_
        rintro e w6 ⟨rfl, hw6⟩
        obtain ⟨g6, hg6⟩ : ∃ x, x = (wr.alloc (.cells #[.int .u64 (lfM m q), .int .i64 (kfM q)] 55)).heap.size := ⟨_, rfl⟩
        rw [← hg6]
        have h66 : w6.heap[g6]? = some (.cells (cellsB (bytesOf (lfM m q) (kfM q))) 5 (0, 0)) := by rw [hw6, hg6]; exact heap_alloc_new _ _
        have hb6 : Below wr.heap.size wr w6 := by rw [hw6]; exact more (more (Below.refl _ _) _) _
        have hs6 := hb6.size
        have H66 := Lib.hid h66
        have HO6 := Lib.hid (hOw.out.below hb6)
        have HG6 := Lib.hid ((hb6.block _ lG).trans hG.out)
        have HX6 := Lib.hid ((hb6.block _ lX).trans hX.out)
        have HB6 := Lib.hid (hB.out.trans (hb6.mono hn0r))
        have hlen : ([0, 0, 0, 0, flagsN m] ++ acc (lfM m) kfM q).length + kfM q ≤ 100000 := by
          have h1 := tot_most kfM (fun i => (kf_in i).2) q
          have h2 := (kf_in q).2
          rw [List.length_append, acc_length]
          simp
          omega
        clear hw6 hg6 h66 hb6 hOw hG hX hB t0 t1 lB
        go_wp2_with (first | (at_builtin; refine wpList_appB rfl (.tmp 78) (.tmp 83) rfl n0 _ _ rfl HO6.out (by omega) ⟨g6, 0, none⟩ (kfM q) (bytesOf (lfM m q) (kfM q)) (kfM q) (bytesOf_length _ _) rfl (cellsB_news H66.out) hlen ?_; intro v7 w7 hown7 hb7 hk7; simp only [Act.put, List.setIfInBounds_toArray, List.set_cons_zero, List.set_cons_succ]; have HO7 := Lib.hid (show OwnB w7 n0 v7 ([0, 0, 0, 0, flagsN m] ++ acc (lfM m) kfM (q + 1)) by rw [List.append_assoc] at hown7; exact hown7); have HB7 := Lib.hid (HB6.out.trans hb7); have HX7 := Lib.hid ((hk7 n0 _ _ _ HX6.out (by decide)).trans HX6.out); have HG7 := Lib.hid ((hk7 gt _ _ _ HG6.out (by decide)).trans HG6.out); clear hown7 hb7 hk7) | fail)
        exact ⟨⟨q + 1, by omega, rfl, HO7, HG7, HX7, HB7⟩, by simp [intOf]; omega⟩
      · have dl : decide ((q : Int) < 8) = false := decide_eq_false (by omega)
        obtain rfl : q = 8 := by omega
        have k0 : wr.cell? ⟨n0, 0, none⟩ = some (.int .i64 0) := (cells_of hX.out 0).trans (by rw [← H0'.out]; rfl)
        have hsz := hB.out.size
        have lX := (Array.getElem?_eq_some_iff.1 hX.out).1
        have hn0r : n0 ≤ wr.heap.size := by omega
        go_wp2_with fail
        go_ret
        refine ⟨_, rfl, ?_, (fun h => by rw [HE.out] at h; cases h), by rw [← HN0.out]; exact hB.out⟩
        rw [HE.out, ← HN0.out]
        exact hOw.out
  by_cases h2 : m.kind = 2
  · have hl := map_get wc (n0 + 1) _ 3 HH.out.map 2 _ _ (find_2 _)
    have HE := Lib.hid (show encB m = [0, 0, 2, 2, flagsN m] ++ acc (lfM m) kfM 8 ++ [0] by unfold encB; rw [if_neg h1, if_neg h0, if_pos h2])
    rw [h2] at k0
    have H0' := Lib.hid h2
    clear h1 h0 h2
    have hfl := flagsN_in m
    have w8 : IntKind.u8.wrap (flagsN m) = flagsN m := by unfold IntKind.wrap; simp [IntKind.signed, IntKind.bits]; omega
    go_wp2_with (first | (refine wpList_load_row rfl 30 _ rfl n0 rfl 30 (rowM m) (0, 0) _ HH.out.box Try.underlying30 rfl (sizeM m) ?_; simp only [Act.put, List.setIfInBounds_toArray, List.set_cons_zero, List.set_cons_succ]) | fail)
    refine (flags_any m wc).mono ?_
    rintro e w2 ⟨rfl, hb2⟩
    have hs2 := hb2.size
    have hbl := (Array.getElem?_eq_some_iff.1 HH.out.box).1
    have hhl := (Array.getElem?_eq_some_iff.1 HH.out.h2).1
    have HB2 := Lib.hid (show Below n0 w w2 from HH.out.b.trans (hb2.mono (by omega)))
    have HX2 := Lib.hid ((hb2.block _ hbl).trans HH.out.box)
    have HO2 := Lib.hid (show OwnB w2 n0 (.slice (some ⟨n0 + 1 + 1 + 1 + 1, 0, none⟩) 4 4) [0, 0, 2, 2] from ownB_new ((hb2.block _ hhl).trans HH.out.h2) (by omega) rfl (by omega))
    have hn2 : n0 ≤ w2.heap.size := by omega
    clear hb2 k0 hl heq
    go_upto_region 6 with (first | (at_builtin; refine wpList_appB rfl (.tmp 24) (.tmp 28) rfl n0 _ _ rfl (HO2.out.below (more (Below.refl _ _) _)) (by simp; omega) ⟨w2.heap.size, 0, none⟩ 1 [flagsN m] 1 rfl rfl (cellsB_news (heap_alloc_new _ _)) (by simp) ?_; intro v3 w3 hown3 hb3 hk3; simp only [Act.put, List.setIfInBounds_toArray, List.set_cons_zero, List.set_cons_succ]; have HO3 := Lib.hid (show OwnB w3 n0 v3 [0, 0, 2, 2, flagsN m] from hown3); have HB3 := Lib.hid (show Below n0 w w3 from (HB2.out.alloc hn2 _).trans hb3); have HX3 := Lib.hid ((hk3 n0 _ _ _ (at_old (Array.getElem?_eq_some_iff.1 HX2.out).1 HX2.out) (by decide)).trans (at_old (Array.getElem?_eq_some_iff.1 HX2.out).1 HX2.out)); clear hown3 hb3 hk3) | fail)
    have l3 := (Array.getElem?_eq_some_iff.1 HX3.out).1
    clear HB2 HX2 HO2 hn2 hs2 hbl hhl w8
    have HKC := Lib.hid (fun (z : World) (hz : Below w3.heap.size w3 z) (j : Nat) => (hz.cell (p := ⟨n0, j, none⟩) l3).trans (cells_of HX3.out j))
    have wcst : IntKind.u64.wrap m.cost = m.cost := by have := hm.cost; unfold IntKind.wrap; simp [IntKind.signed, IntKind.bits]; omega
    have wprt : IntKind.u64.wrap m.port = m.port := by have := hm.port; unfold IntKind.wrap; simp [IntKind.signed, IntKind.bits]; omega
    have wto : ∀ x, IntKind.u64.wrap (toN x) = toN x := fun x => by have := toN_in x; unfold IntKind.wrap; simp [IntKind.signed, IntKind.bits]; omega
    refine wp_region_held_drew (S := fun w' => Below w3.heap.size w3 w') (by kernel_rfl) (Below.refl _ _).drew (fun hH => ?_)
    refine wpAnyH_take (i := 0) (v := .pointer (some ⟨n0, 8, none⟩)) rfl (by kernel_rfl) (by kernel_rfl) (by kernel_rfl) (fun _ _ _ h => h) (Or.inl ⟨by rfl, fun z _ => by simp [go_sem, execOp]⟩) hH ?_
    simp only [List.getElem_toArray, List.getElem_cons_succ, List.getElem_cons_zero, Act.put, List.setIfInBounds_toArray, List.set_cons_zero, List.set_cons_succ]
    refine wpAnyH_take (i := 1) (v := .pointer (some ⟨n0, 8, none⟩)) rfl (by kernel_rfl) (by kernel_rfl) (by kernel_rfl) (fun _ _ _ h => h) (Or.inl ⟨by rfl, fun z _ => by simp [go_sem, execOp]⟩) hH ?_
    simp only [List.getElem_toArray, List.getElem_cons_succ, List.getElem_cons_zero, Act.put, List.setIfInBounds_toArray, List.set_cons_zero, List.set_cons_succ]
    refine wpAnyH_take (i := 2) (v := .int .u64 m.root) rfl (by kernel_rfl) (by kernel_rfl) (by kernel_rfl) (fun _ _ _ h => h) (Or.inl ⟨by rfl, fun z hz => by simp [go_sem, execOp, (show z.cell? ⟨n0, 8, none⟩ = some (.int .u64 m.root) from HKC.out _ hz 8)]⟩) hH ?_
    simp only [List.getElem_toArray, List.getElem_cons_succ, List.getElem_cons_zero, Act.put, List.setIfInBounds_toArray, List.set_cons_zero, List.set_cons_succ]
    refine wpAnyH_take (i := 3) (v := .agg #[.int .u64 m.root, .int .i64 8]) rfl (by kernel_rfl) (by kernel_rfl) (by kernel_rfl) (fun _ _ _ h => h) (Or.inl ⟨by rfl, fun z _ => by kernel_rfl⟩) hH ?_
    simp only [List.getElem_toArray, List.getElem_cons_succ, List.getElem_cons_zero, Act.put, List.setIfInBounds_toArray, List.set_cons_zero, List.set_cons_succ]
    refine wpAnyH_take (i := 4) (v := .pointer (some ⟨n0, 8, none⟩)) rfl (by kernel_rfl) (by kernel_rfl) (by kernel_rfl) (fun _ _ _ h => h) (Or.inl ⟨by rfl, fun z _ => by simp [go_sem, execOp]⟩) hH ?_
    simp only [List.getElem_toArray, List.getElem_cons_succ, List.getElem_cons_zero, Act.put, List.setIfInBounds_toArray, List.set_cons_zero, List.set_cons_succ]
    refine wpAnyH_take (i := 5) (v := .pointer (some ⟨n0, 8 + 1, none⟩)) rfl (by kernel_rfl) (by kernel_rfl) (by kernel_rfl) (fun _ _ _ h => h) (Or.inl ⟨by rfl, fun z _ => by simp [go_sem, execOp]⟩) hH ?_
    simp only [List.getElem_toArray, List.getElem_cons_succ, List.getElem_cons_zero, Act.put, List.setIfInBounds_toArray, List.set_cons_zero, List.set_cons_succ]
    refine wpAnyH_take (i := 6) (v := .int .u32 m.cost) rfl (by kernel_rfl) (by kernel_rfl) (by kernel_rfl) (fun _ _ _ h => h) (Or.inl ⟨by rfl, fun z hz => by simp [go_sem, execOp, (show z.cell? ⟨n0, 8 + 1, none⟩ = some (.int .u32 m.cost) from HKC.out _ hz 9)]⟩) hH ?_
    simp only [List.getElem_toArray, List.getElem_cons_succ, List.getElem_cons_zero, Act.put, List.setIfInBounds_toArray, List.set_cons_zero, List.set_cons_succ]
    refine wpAnyH_take (i := 7) (v := .int .u64 m.cost) rfl (by kernel_rfl) (by kernel_rfl) (by kernel_rfl) (fun _ _ _ h => h) (Or.inl ⟨by rfl, fun z _ => by simp [go_sem, execOp, wcst]⟩) hH ?_
    simp only [List.getElem_toArray, List.getElem_cons_succ, List.getElem_cons_zero, Act.put, List.setIfInBounds_toArray, List.set_cons_zero, List.set_cons_succ]
    refine wpAnyH_take (i := 8) (v := .agg #[.int .u64 m.cost, .int .i64 4]) rfl (by kernel_rfl) (by kernel_rfl) (by kernel_rfl) (fun _ _ _ h => h) (Or.inl ⟨by rfl, fun z _ => by kernel_rfl⟩) hH ?_
    simp only [List.getElem_toArray, List.getElem_cons_succ, List.getElem_cons_zero, Act.put, List.setIfInBounds_toArray, List.set_cons_zero, List.set_cons_succ]
    refine wpAnyH_take (i := 9) (v := .pointer (some ⟨n0, 8, none⟩)) rfl (by kernel_rfl) (by kernel_rfl) (by kernel_rfl) (fun _ _ _ h => h) (Or.inl ⟨by rfl, fun z _ => by simp [go_sem, execOp]⟩) hH ?_
    simp only [List.getElem_toArray, List.getElem_cons_succ, List.getElem_cons_zero, Act.put, List.setIfInBounds_toArray, List.set_cons_zero, List.set_cons_succ]
    refine wpAnyH_take (i := 10) (v := .pointer (some ⟨n0, 8 + 2, none⟩)) rfl (by kernel_rfl) (by kernel_rfl) (by kernel_rfl) (fun _ _ _ h => h) (Or.inl ⟨by rfl, fun z _ => by simp [go_sem, execOp]⟩) hH ?_
    simp only [List.getElem_toArray, List.getElem_cons_succ, List.getElem_cons_zero, Act.put, List.setIfInBounds_toArray, List.set_cons_zero, List.set_cons_succ]
    refine wpAnyH_take (i := 11) (v := .int .u64 m.bridge) rfl (by kernel_rfl) (by kernel_rfl) (by kernel_rfl) (fun _ _ _ h => h) (Or.inl ⟨by rfl, fun z hz => by simp [go_sem, execOp, (show z.cell? ⟨n0, 8 + 2, none⟩ = some (.int .u64 m.bridge) from HKC.out _ hz 10)]⟩) hH ?_
    simp only [List.getElem_toArray, List.getElem_cons_succ, List.getElem_cons_zero, Act.put, List.setIfInBounds_toArray, List.set_cons_zero, List.set_cons_succ]
    refine wpAnyH_take (i := 12) (v := .agg #[.int .u64 m.bridge, .int .i64 8]) rfl (by kernel_rfl) (by kernel_rfl) (by kernel_rfl) (fun _ _ _ h => h) (Or.inl ⟨by rfl, fun z _ => by kernel_rfl⟩) hH ?_
    simp only [List.getElem_toArray, List.getElem_cons_succ, List.getElem_cons_zero, Act.put, List.setIfInBounds_toArray, List.set_cons_zero, List.set_cons_succ]
    refine wpAnyH_take (i := 13) (v := .pointer (some ⟨n0, 8, none⟩)) rfl (by kernel_rfl) (by kernel_rfl) (by kernel_rfl) (fun _ _ _ h => h) (Or.inl ⟨by rfl, fun z _ => by simp [go_sem, execOp]⟩) hH ?_
    simp only [List.getElem_toArray, List.getElem_cons_succ, List.getElem_cons_zero, Act.put, List.setIfInBounds_toArray, List.set_cons_zero, List.set_cons_succ]
    refine wpAnyH_take (i := 14) (v := .pointer (some ⟨n0, 8 + 3, none⟩)) rfl (by kernel_rfl) (by kernel_rfl) (by kernel_rfl) (fun _ _ _ h => h) (Or.inl ⟨by rfl, fun z _ => by simp [go_sem, execOp]⟩) hH ?_
    simp only [List.getElem_toArray, List.getElem_cons_succ, List.getElem_cons_zero, Act.put, List.setIfInBounds_toArray, List.set_cons_zero, List.set_cons_succ]
    refine wpAnyH_take (i := 15) (v := .int .u16 m.port) rfl (by kernel_rfl) (by kernel_rfl) (by kernel_rfl) (fun _ _ _ h => h) (Or.inl ⟨by rfl, fun z hz => by simp [go_sem, execOp, (show z.cell? ⟨n0, 8 + 3, none⟩ = some (.int .u16 m.port) from HKC.out _ hz 11)]⟩) hH ?_
    simp only [List.getElem_toArray, List.getElem_cons_succ, List.getElem_cons_zero, Act.put, List.setIfInBounds_toArray, List.set_cons_zero, List.set_cons_succ]
    refine wpAnyH_take (i := 16) (v := .int .u64 m.port) rfl (by kernel_rfl) (by kernel_rfl) (by kernel_rfl) (fun _ _ _ h => h) (Or.inl ⟨by rfl, fun z _ => by simp [go_sem, execOp, wprt]⟩) hH ?_
    simp only [List.getElem_toArray, List.getElem_cons_succ, List.getElem_cons_zero, Act.put, List.setIfInBounds_toArray, List.set_cons_zero, List.set_cons_succ]
    refine wpAnyH_take (i := 17) (v := .agg #[.int .u64 m.port, .int .i64 2]) rfl (by kernel_rfl) (by kernel_rfl) (by kernel_rfl) (fun _ _ _ h => h) (Or.inl ⟨by rfl, fun z _ => by kernel_rfl⟩) hH ?_
    simp only [List.getElem_toArray, List.getElem_cons_succ, List.getElem_cons_zero, Act.put, List.setIfInBounds_toArray, List.set_cons_zero, List.set_cons_succ]
    refine wpAnyH_take (i := 18) (v := .pointer (some ⟨n0, 13, none⟩)) rfl (by kernel_rfl) (by kernel_rfl) (by kernel_rfl) (fun _ _ _ h => h) (Or.inl ⟨by rfl, fun z _ => by simp [go_sem, execOp]⟩) hH ?_
    simp only [List.getElem_toArray, List.getElem_cons_succ, List.getElem_cons_zero, Act.put, List.setIfInBounds_toArray, List.set_cons_zero, List.set_cons_succ]
    refine wpAnyH_take (i := 19) (v := .pointer (some ⟨n0, 13, none⟩)) rfl (by kernel_rfl) (by kernel_rfl) (by kernel_rfl) (fun _ _ _ h => h) (Or.inl ⟨by rfl, fun z _ => by simp [go_sem, execOp]⟩) hH ?_
    simp only [List.getElem_toArray, List.getElem_cons_succ, List.getElem_cons_zero, Act.put, List.setIfInBounds_toArray, List.set_cons_zero, List.set_cons_succ]
    refine wpAnyH_take (i := 20) (v := .int .i64 m.age) rfl (by kernel_rfl) (by kernel_rfl) (by kernel_rfl) (fun _ _ _ h => h) (Or.inl ⟨by rfl, fun z hz => by simp [go_sem, execOp, (show z.cell? ⟨n0, 13, none⟩ = some (.int .i64 m.age) from HKC.out _ hz 13)]⟩) hH ?_
    simp only [List.getElem_toArray, List.getElem_cons_succ, List.getElem_cons_zero, Act.put, List.setIfInBounds_toArray, List.set_cons_zero, List.set_cons_succ]
    refine wpAnyH_take (i := 24) (v := .pointer (some ⟨n0, 13, none⟩)) rfl (by kernel_rfl) (by kernel_rfl) (by kernel_rfl) (fun _ _ _ h => h) (Or.inl ⟨by rfl, fun z _ => by simp [go_sem, execOp]⟩) hH ?_
    simp only [List.getElem_toArray, List.getElem_cons_succ, List.getElem_cons_zero, Act.put, List.setIfInBounds_toArray, List.set_cons_zero, List.set_cons_succ]
    refine wpAnyH_take (i := 25) (v := .pointer (some ⟨n0, 13 + 1, none⟩)) rfl (by kernel_rfl) (by kernel_rfl) (by kernel_rfl) (fun _ _ _ h => h) (Or.inl ⟨by rfl, fun z _ => by simp [go_sem, execOp]⟩) hH ?_
    simp only [List.getElem_toArray, List.getElem_cons_succ, List.getElem_cons_zero, Act.put, List.setIfInBounds_toArray, List.set_cons_zero, List.set_cons_succ]
    refine wpAnyH_take (i := 26) (v := .int .i64 m.mx) rfl (by kernel_rfl) (by kernel_rfl) (by kernel_rfl) (fun _ _ _ h => h) (Or.inl ⟨by rfl, fun z hz => by simp [go_sem, execOp, (show z.cell? ⟨n0, 13 + 1, none⟩ = some (.int .i64 m.mx) from HKC.out _ hz 14)]⟩) hH ?_
    simp only [List.getElem_toArray, List.getElem_cons_succ, List.getElem_cons_zero, Act.put, List.setIfInBounds_toArray, List.set_cons_zero, List.set_cons_succ]
    refine wpAnyH_take (i := 30) (v := .pointer (some ⟨n0, 13, none⟩)) rfl (by kernel_rfl) (by kernel_rfl) (by kernel_rfl) (fun _ _ _ h => h) (Or.inl ⟨by rfl, fun z _ => by simp [go_sem, execOp]⟩) hH ?_
    simp only [List.getElem_toArray, List.getElem_cons_succ, List.getElem_cons_zero, Act.put, List.setIfInBounds_toArray, List.set_cons_zero, List.set_cons_succ]
    refine wpAnyH_take (i := 31) (v := .pointer (some ⟨n0, 13 + 2, none⟩)) rfl (by kernel_rfl) (by kernel_rfl) (by kernel_rfl) (fun _ _ _ h => h) (Or.inl ⟨by rfl, fun z _ => by simp [go_sem, execOp]⟩) hH ?_
    simp only [List.getElem_toArray, List.getElem_cons_succ, List.getElem_cons_zero, Act.put, List.setIfInBounds_toArray, List.set_cons_zero, List.set_cons_succ]
    refine wpAnyH_take (i := 32) (v := .int .i64 m.hel) rfl (by kernel_rfl) (by kernel_rfl) (by kernel_rfl) (fun _ _ _ h => h) (Or.inl ⟨by rfl, fun z hz => by simp [go_sem, execOp, (show z.cell? ⟨n0, 13 + 2, none⟩ = some (.int .i64 m.hel) from HKC.out _ hz 15)]⟩) hH ?_
    simp only [List.getElem_toArray, List.getElem_cons_succ, List.getElem_cons_zero, Act.put, List.setIfInBounds_toArray, List.set_cons_zero, List.set_cons_succ]
    refine wpAnyH_take (i := 36) (v := .pointer (some ⟨n0, 13, none⟩)) rfl (by kernel_rfl) (by kernel_rfl) (by kernel_rfl) (fun _ _ _ h => h) (Or.inl ⟨by rfl, fun z _ => by simp [go_sem, execOp]⟩) hH ?_
    simp only [List.getElem_toArray, List.getElem_cons_succ, List.getElem_cons_zero, Act.put, List.setIfInBounds_toArray, List.set_cons_zero, List.set_cons_succ]
    refine wpAnyH_take (i := 37) (v := .pointer (some ⟨n0, 13 + 3, none⟩)) rfl (by kernel_rfl) (by kernel_rfl) (by kernel_rfl) (fun _ _ _ h => h) (Or.inl ⟨by rfl, fun z _ => by simp [go_sem, execOp]⟩) hH ?_
    simp only [List.getElem_toArray, List.getElem_cons_succ, List.getElem_cons_zero, Act.put, List.setIfInBounds_toArray, List.set_cons_zero, List.set_cons_succ]
    refine wpAnyH_take (i := 38) (v := .int .i64 m.del) rfl (by kernel_rfl) (by kernel_rfl) (by kernel_rfl) (fun _ _ _ h => h) (Or.inl ⟨by rfl, fun z hz => by simp [go_sem, execOp, (show z.cell? ⟨n0, 13 + 3, none⟩ = some (.int .i64 m.del) from HKC.out _ hz 16)]⟩) hH ?_
    simp only [List.getElem_toArray, List.getElem_cons_succ, List.getElem_cons_zero, Act.put, List.setIfInBounds_toArray, List.set_cons_zero, List.set_cons_succ]
    refine wpAnyH_take (i := 44) rfl (by kernel_rfl) (by kernel_rfl) (by kernel_rfl) (fun _ _ _ h => h) (Or.inl ⟨by rfl, fun z _ => rfl⟩) hH ?_
    simp only [List.getElem_toArray, List.getElem_cons_succ, List.getElem_cons_zero, Act.put, List.setIfInBounds_toArray, List.set_cons_zero, List.set_cons_succ]
    refine wpAnyH_ready (rs := [21]) (by kernel_rfl) (by simp) (AllReadyH.cons rfl (fun K hK => ?_) AllReadyH.nil)
    go_simp
    refine (to_any m.age _).mono ?_
    rintro e wt0 ⟨rfl, hbt0⟩
    refine hK.out _ _ (hH.trans (hbt0.mono hH.size)) (fun hHt0 => ?_)
    clear hK K hH hbt0
    refine wpAnyH_take (i := 22) (v := .int .u64 (toN m.age)) rfl (by kernel_rfl) (by kernel_rfl) (by kernel_rfl) (fun _ _ _ h => h) (Or.inl ⟨by rfl, fun z _ => by simp [go_sem, execOp, wto]⟩) hHt0 ?_
    simp only [List.getElem_toArray, List.getElem_cons_succ, List.getElem_cons_zero, Act.put, List.setIfInBounds_toArray, List.set_cons_zero, List.set_cons_succ]
    refine wpAnyH_take (i := 23) (v := .agg #[.int .u64 (toN m.age), .int .i64 2]) rfl (by kernel_rfl) (by kernel_rfl) (by kernel_rfl) (fun _ _ _ h => h) (Or.inl ⟨by rfl, fun z _ => by kernel_rfl⟩) hHt0 ?_
    simp only [List.getElem_toArray, List.getElem_cons_succ, List.getElem_cons_zero, Act.put, List.setIfInBounds_toArray, List.set_cons_zero, List.set_cons_succ]
    refine wpAnyH_ready (rs := [27]) (by kernel_rfl) (by simp) (AllReadyH.cons rfl (fun K hK => ?_) AllReadyH.nil)
    go_simp
    refine (to_any m.mx _).mono ?_
    rintro e wt1 ⟨rfl, hbt1⟩
    refine hK.out _ _ (hHt0.trans (hbt1.mono hHt0.size)) (fun hHt1 => ?_)
    clear hK K hHt0 hbt1
    refine wpAnyH_take (i := 28) (v := .int .u64 (toN m.mx)) rfl (by kernel_rfl) (by kernel_rfl) (by kernel_rfl) (fun _ _ _ h => h) (Or.inl ⟨by rfl, fun z _ => by simp [go_sem, execOp, wto]⟩) hHt1 ?_
    simp only [List.getElem_toArray, List.getElem_cons_succ, List.getElem_cons_zero, Act.put, List.setIfInBounds_toArray, List.set_cons_zero, List.set_cons_succ]
    refine wpAnyH_take (i := 29) (v := .agg #[.int .u64 (toN m.mx), .int .i64 2]) rfl (by kernel_rfl) (by kernel_rfl) (by kernel_rfl) (fun _ _ _ h => h) (Or.inl ⟨by rfl, fun z _ => by kernel_rfl⟩) hHt1 ?_
    simp only [List.getElem_toArray, List.getElem_cons_succ, List.getElem_cons_zero, Act.put, List.setIfInBounds_toArray, List.set_cons_zero, List.set_cons_succ]
    refine wpAnyH_ready (rs := [33]) (by kernel_rfl) (by simp) (AllReadyH.cons rfl (fun K hK => ?_) AllReadyH.nil)
    go_simp
    refine (to_any m.hel _).mono ?_
    rintro e wt2 ⟨rfl, hbt2⟩
    refine hK.out _ _ (hHt1.trans (hbt2.mono hHt1.size)) (fun hHt2 => ?_)
    clear hK K hHt1 hbt2
    refine wpAnyH_take (i := 34) (v := .int .u64 (toN m.hel)) rfl (by kernel_rfl) (by kernel_rfl) (by kernel_rfl) (fun _ _ _ h => h) (Or.inl ⟨by rfl, fun z _ => by simp [go_sem, execOp, wto]⟩) hHt2 ?_
    simp only [List.getElem_toArray, List.getElem_cons_succ, List.getElem_cons_zero, Act.put, List.setIfInBounds_toArray, List.set_cons_zero, List.set_cons_succ]
    refine wpAnyH_take (i := 35) (v := .agg #[.int .u64 (toN m.hel), .int .i64 2]) rfl (by kernel_rfl) (by kernel_rfl) (by kernel_rfl) (fun _ _ _ h => h) (Or.inl ⟨by rfl, fun z _ => by kernel_rfl⟩) hHt2 ?_
    simp only [List.getElem_toArray, List.getElem_cons_succ, List.getElem_cons_zero, Act.put, List.setIfInBounds_toArray, List.set_cons_zero, List.set_cons_succ]
    refine wpAnyH_ready (rs := [39]) (by kernel_rfl) (by simp) (AllReadyH.cons rfl (fun K hK => ?_) AllReadyH.nil)
    go_simp
    refine (to_any m.del _).mono ?_
    rintro e wt3 ⟨rfl, hbt3⟩
    refine hK.out _ _ (hHt2.trans (hbt3.mono hHt2.size)) (fun hHt3 => ?_)
    clear hK K hHt2 hbt3
    refine wpAnyH_take (i := 40) (v := .int .u64 (toN m.del)) rfl (by kernel_rfl) (by kernel_rfl) (by kernel_rfl) (fun _ _ _ h => h) (Or.inl ⟨by rfl, fun z _ => by simp [go_sem, execOp, wto]⟩) hHt3 ?_
    simp only [List.getElem_toArray, List.getElem_cons_succ, List.getElem_cons_zero, Act.put, List.setIfInBounds_toArray, List.set_cons_zero, List.set_cons_succ]
    refine wpAnyH_take (i := 41) (v := .agg #[.int .u64 (toN m.del), .int .i64 2]) rfl (by kernel_rfl) (by kernel_rfl) (by kernel_rfl) (fun _ _ _ h => h) (Or.inl ⟨by rfl, fun z _ => by kernel_rfl⟩) hHt3 ?_
    simp only [List.getElem_toArray, List.getElem_cons_succ, List.getElem_cons_zero, Act.put, List.setIfInBounds_toArray, List.set_cons_zero, List.set_cons_succ]
    refine wpAnyH_ready (rs := [42]) (by kernel_rfl) (by simp) (AllReadyH.cons rfl (fun K hK => ?_) AllReadyH.nil)
    rw [if_pos (by rfl)]
    refine wp_buildSl 56 8 _ rfl _ _ (mkTm m wt3) (by kernel_rfl) ?_
    obtain ⟨w5, hw5⟩ : ∃ x, x = wt3.alloc (.cells (tblM m) 55) := ⟨_, rfl⟩
    obtain ⟨gt, hgt⟩ : ∃ x, x = wt3.heap.size := ⟨_, rfl⟩
    have hb5 : Below w3.heap.size w3 w5 := by rw [hw5]; exact hHt3.alloc hHt3.size _
    have hg5 : w5.heap[gt]? = some (.cells (tblM m) 55 (0, 0)) := by rw [hw5, hgt]; exact heap_alloc_new _ _
    rw [← hw5, ← hgt]
    have HG5 := Lib.hid hg5
    have HB5 := Lib.hid (HB3.out.trans (hb5.mono (by have := HB3.out.size; omega)))
    have HX5 := Lib.hid ((hb5.block _ l3).trans HX3.out)
    have HO5 := Lib.hid (HO3.out.below hb5)
    refine hK.out _ _ hb5 (fun hHf => ?_)
    simp only [List.getElem_toArray, List.getElem_cons_succ, List.getElem_cons_zero, Act.put, List.setIfInBounds_toArray, List.set_cons_zero, List.set_cons_succ]
    clear hK K hw5 hgt hg5 hHt3 hb5
    refine wpAnyH_take (i := 43) (v := .int .i64 8) rfl (by kernel_rfl) (by kernel_rfl) (by kernel_rfl) (fun _ _ _ h => h) (Or.inl ⟨by rfl, fun z _ => by simp [go_sem, execOp]⟩) hHf ?_
    simp only [List.getElem_toArray, List.getElem_cons_succ, List.getElem_cons_zero, Act.put, List.setIfInBounds_toArray, List.set_cons_zero, List.set_cons_succ]
    refine wpAnyH_done (by kernel_rfl) ?_ _
    clear hHf
    go_wp2_with fail
    have hA0 := Lib.hid (show OwnB w5 n0 v3 ([0, 0, 2, 2, flagsN m] ++ acc (lfM m) kfM 0) by show OwnB w5 n0 v3 ([0, 0, 2, 2, flagsN m] ++ []); rw [List.append_nil]; exact HO5.out)
    clear HO5
    go_loopw [74, 4] (fun i v wr => ∃ q : Nat, q ≤ 8 ∧ i = .int .i64 q ∧ Hid (OwnB wr n0 v ([0, 0, 2, 2, flagsN m] ++ acc (lfM m) kfM q)) ∧ Hid (wr.heap[gt]? = some (.cells (tblM m) 55 (0, 0))) ∧ Hid (wr.heap[n0]? = some (.cells (rowM m) 30 (0, 0))) ∧ Hid (Below n0 w wr)) (fun i _ _ => 8 - (intOf i).toNat)
    case atStart => exact ⟨0, by omega, rfl, hA0, HG5, HX5, HB5⟩
    case round =>
      clear hA0 HG5 HX5 HB5
      obtain ⟨q, hq, rfl, hOw, hG, hX, hB⟩ := hrel
      have hq0 : (0 : Int) ≤ q := by omega
      by_cases hlt : q < 8
      · have dl : decide ((q : Int) < 8) = true := decide_eq_true (by omega)
        have hq1 : (q : Int) < 8 := by omega
        have hwm : IntKind.i64.wrap ((q : Int) + 1) = (q + 1 : Nat) := by unfold IntKind.wrap; simp [IntKind.signed, IntKind.bits]; omega
        have t0 : wr.cell? ⟨gt, q * 2, none⟩ = some (.int .u64 (lfM m q)) := (cells_of hG.out _).trans (tbl_0 m q hlt)
        have t1 : wr.cell? ⟨gt, q * 2 + 1, none⟩ = some (.int .i64 (kfM q)) := (cells_of hG.out _).trans (tbl_1 m q hlt)
        have lB := hB.out.size
        have lG := (Array.getElem?_eq_some_iff.1 hG.out).1
        have lX := (Array.getElem?_eq_some_iff.1 hX.out).1
        have hn0r : n0 ≤ wr.heap.size := by omega
        go_wp2_with fail
        refine (put_any (lfM m q) (lf_in hm q) (kfM q) (kf_in q) _).mono ?_
        rintro e w6 ⟨rfl, hw6⟩
        obtain ⟨g6, hg6⟩ : ∃ x, x = (wr.alloc (.cells #[.int .u64 (lfM m q), .int .i64 (kfM q)] 55)).heap.size := ⟨_, rfl⟩
        rw [← hg6]
        have h66 : w6.heap[g6]? = some (.cells (cellsB (bytesOf (lfM m q) (kfM q))) 5 (0, 0)) := by rw [hw6, hg6]; exact heap_alloc_new _ _
        have hb6 : Below wr.heap.size wr w6 := by rw [hw6]; exact more (more (Below.refl _ _) _) _
        have hs6 := hb6.size
        have H66 := Lib.hid h66
        have HO6 := Lib.hid (hOw.out.below hb6)
        have HG6 := Lib.hid ((hb6.block _ lG).trans hG.out)
        have HX6 := Lib.hid ((hb6.block _ lX).trans hX.out)
        have HB6 := Lib.hid (hB.out.trans (hb6.mono hn0r))
        have hlen : ([0, 0, 2, 2, flagsN m] ++ acc (lfM m) kfM q).length + kfM q ≤ 100000 := by
          have h1 := tot_most kfM (fun i => (kf_in i).2) q
          have h2 := (kf_in q).2
          rw [List.length_append, acc_length]
          simp
          omega
        clear hw6 hg6 h66 hb6 hOw hG hX hB t0 t1 lB
        go_wp2_with (first | (at_builtin; refine wpList_appB rfl (.tmp 78) (.tmp 83) rfl n0 _ _ rfl HO6.out (by omega) ⟨g6, 0, none⟩ (kfM q) (bytesOf (lfM m q) (kfM q)) (kfM q) (bytesOf_length _ _) rfl (cellsB_news H66.out) hlen ?_; intro v7 w7 hown7 hb7 hk7; simp only [Act.put, List.setIfInBounds_toArray, List.set_cons_zero, List.set_cons_succ]; have HO7 := Lib.hid (show OwnB w7 n0 v7 ([0, 0, 2, 2, flagsN m] ++ acc (lfM m) kfM (q + 1)) by rw [List.append_assoc] at hown7; exact hown7); have HB7 := Lib.hid (HB6.out.trans hb7); have HX7 := Lib.hid ((hk7 n0 _ _ _ HX6.out (by decide)).trans HX6.out); have HG7 := Lib.hid ((hk7 gt _ _ _ HG6.out (by decide)).trans HG6.out); clear hown7 hb7 hk7) | fail)
        exact ⟨⟨q + 1, by omega, rfl, HO7, HG7, HX7, HB7⟩, by simp [intOf]; omega⟩
      · have dl : decide ((q : Int) < 8) = false := decide_eq_false (by omega)
        obtain rfl : q = 8 := by omega
        have k0 : wr.cell? ⟨n0, 0, none⟩ = some (.int .i64 2) := (cells_of hX.out 0).trans (by rw [← H0'.out]; rfl)
        have hsz := hB.out.size
        have lX := (Array.getElem?_eq_some_iff.1 hX.out).1
        have hn0r : n0 ≤ wr.heap.size := by omega
        have hlen : ([0, 0, 2, 2, flagsN m] ++ acc (lfM m) kfM 8).length + 1 ≤ 100000 := by
          have h1 := tot_most kfM (fun i => (kf_in i).2) 8
          rw [List.length_append, acc_length]
          simp
          omega
        go_wp2_with (first | (at_builtin; refine wpList_appB rfl (.tmp 89) (.tmp 90) rfl n0 _ _ rfl (hOw.out.below (more (Below.refl _ _) _)) (by simp; omega) ⟨wr.heap.size, 0, none⟩ 1 [0] 1 rfl rfl (cellsB_news (heap_alloc_new _ _)) hlen ?_; intro v7 w7 hown7 hb7 hk7; simp only [Act.put, List.setIfInBounds_toArray, List.set_cons_zero, List.set_cons_succ]; have HO7 := Lib.hid hown7; have HB7 := Lib.hid ((hB.out.alloc hn0r _).trans hb7); clear hown7 hb7 hk7) | fail)
        go_ret
        refine ⟨_, rfl, ?_, (fun h => by rw [HE.out] at h; cases h), by rw [← HN0.out]; exact HB7.out⟩
        rw [HE.out, ← HN0.out]
        exact HO7.out
  have hl := map_none wc (n0 + 1) _ 3 HH.out.map m.kind (find_no _ _ h0 h1 h2)
  have HE := Lib.hid (show encB m = [] by unfold encB; rw [if_neg h1, if_neg h0, if_neg h2])
  clear h0 h1 h2
  go_wp2_with fail
  go_ret
  refine ⟨_, rfl, ?_, fun _ => rfl, by rw [← HN0.out]; exact HH.out.b⟩
  rw [HE.out]
  exact ⟨rfl, .inl ⟨rfl, rfl⟩⟩
end Go.Proofs.Ytehapoilfmgjgaa.Oct
