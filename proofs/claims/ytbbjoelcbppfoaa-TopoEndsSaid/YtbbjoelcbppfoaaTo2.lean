/- Chapter 17: the others told: the program's methods others, told, notes and the document's function others. Conditions: the bridge lies in memory; there aren't very many ports. -/
import Derived.Test.YtbbjoelcbppfoaaTo1
set_option linter.unusedSimpArgs false
set_option linter.unusedVariables false
namespace Go.Proofs.Ytbbjoelcbppfoaa.Br
open Go.RowKit
/-- The ports but k are told. -/
def toldF (k : Nat) (ps : Nat → Rec) : Nat → Rec := fun j => if j = k then ps j else (ps j).setB 49 true
theorem told_upd (k : Nat) (ps : Nat → Rec) (q : Rec) : toldF k (upd ps k q) = upd (toldF k ps) k q := by
  funext j
  by_cases h : j = k <;> simp [toldF, upd, h]
theorem enters {f : Nat} {fn : Func} {c : Code} (hf : Try.prog.funcs[f]? = some fn) (hname : (fn.name == "runtime.NumGoroutine") = false) (hb : fn.body = some c) (args : Array Value) (w : World) : Sem.run Try.prog (callFunc f args) w = .ok (.enter f args) w := by
  have h1 : fn.name ≠ "runtime.NumGoroutine" := by simpa using hname
  simp [callFunc, hf, h1, hb, mark]
theorem Bst.cong {w : World} {bx g : Nat} {b : Bri} {ps qs ss : Nat → Rec} {fs : Nat → Int} (e : ∀ j, j < b.n → ps j = qs j) (h : Bst w bx g b ps ss fs) : Bst w bx g b qs ss fs :=
  ⟨h.h, h.ap, h.p.congr e, h.s, h.f, h.ne, h.sn, h.fn, h.so, h.fo, h.sc, h.fc⟩
theorem Bst.c17 {w : World} {bx g : Nat} {b : Bri} {ps ss : Nat → Rec} {fs : Nat → Int} (h : Bst w bx g b ps ss fs) : w.cell? ⟨bx, 17, none⟩ = some (.slice (some ⟨g, 0, none⟩) b.n b.cp) := by
  rw [← h.ap]
  exact cells_of h.h 17
/-- Some of the ports but k are told. -/
def toldM (k m : Nat) (ps : Nat → Rec) : Nat → Rec := fun j => if j < m ∧ j ≠ k then (ps j).setB 49 true else ps j
theorem toldM_0 (k : Nat) (ps : Nat → Rec) (j : Nat) : ps j = toldM k 0 ps j := by
  unfold toldM
  rw [if_neg (by omega)]
theorem toldM_skip (k : Nat) (ps : Nat → Rec) (j : Nat) : toldM k k ps j = toldM k (k + 1) ps j := by
  unfold toldM
  by_cases h : j < k ∧ j ≠ k
  · rw [if_pos h, if_pos (by omega)]
  · rw [if_neg h, if_neg (by omega)]
theorem toldM_at (k m : Nat) (ps : Nat → Rec) : toldM k m ps m = ps m := by
  unfold toldM
  rw [if_neg (by omega)]
theorem toldM_put (k m : Nat) (ps : Nat → Rec) (h : m ≠ k) (j : Nat) : upd (toldM k m ps) m ((ps m).setB 49 true) j = toldM k (m + 1) ps j := by
  by_cases e : j = m
  · subst e
    simp [toldM, upd, h]
  · by_cases h2 : j < m
    · simp [toldM, upd, e, h2, show j < m + 1 by omega]
    · simp [toldM, upd, e, h2, show ¬ j < m + 1 by omega]
theorem toldM_all (k n : Nat) (ps : Nat → Rec) (j : Nat) (h : j < n) : toldM k n ps j = toldF k ps j := by
  by_cases e : j = k <;> simp [toldM, toldF, e, h]
set_option maxRecDepth 100000 in
set_option maxHeartbeats 4000000 in
theorem told1_any (w : World) (g o gn : Nat) (v : Bool) (hn : w.cell? ⟨gn, 0, none⟩ = some (.bool true)) (hc : w.cell? ⟨g, o + 27, none⟩ = some (.bool v)) (hf : w.frozen? ⟨g, o + 27, none⟩ = false) : Calls Try.prog 31 #[.pointer (some ⟨g, o, none⟩), .pointer (some ⟨gn, 0, none⟩)] w fun e w' => e = .returned (.tuple #[]) ∧ w' = w.setCell ⟨g, o + 27, none⟩ (.bool true) := by
  go_enter Try.func31, Try.ntmps31
  go_wp2_with fail
  go_end0
  exact ⟨rfl, rfl⟩
set_option maxRecDepth 100000 in
set_option maxHeartbeats 4000000 in
theorem others_any (w : World) (bx g k gn : Nat) (b : Bri) (ps ss : Nat → Rec) (fs : Nat → Int) (h : Bst w bx g b ps ss fs) (hn : b.n ≤ 1000) (hv : w.cell? ⟨gn, 0, none⟩ = some (.bool true)) (hgn : gn ≠ g) : Calls Try.prog 30 #[.agg #[.pointer (some ⟨bx, 0, none⟩), .int .i64 k, .pointer (some ⟨g, k * 89, none⟩), .pointer (some ⟨g, k * 89 + 22, none⟩)], .func (.func 31) #[] #[.pointer (some ⟨gn, 0, none⟩)]] w fun e w' => e = .returned (.tuple #[]) ∧ Bst w' bx g b (toldF k ps) ss fs ∧ Only (· = g) w w' := by
  have hen := fun args w => enters Try.func31 (by kernel_rfl) rfl args w
  have hgl : gn < w.heap.size := cell_lt hv
  go_enter Try.func30, Try.ntmps30
  go_upto_region 1 with (fail)
  refine ((?_ : ∀ x, x = w.alloc (.cells #[.pointer (some ⟨bx, 0, none⟩), .int .i64 k, .pointer (some ⟨g, k * 89, none⟩), .pointer (some ⟨g, k * 89 + 22, none⟩)] 57) → Code.wp _ _ _ _ x) _ rfl)
  intro w1 hw1
  obtain ⟨gx, hgx⟩ : ∃ x, x = w.heap.size := ⟨_, rfl⟩
  rw [← hgx]
  have hX1 : w1.heap[gx]? = some (.cells #[.pointer (some ⟨bx, 0, none⟩), .int .i64 k, .pointer (some ⟨g, k * 89, none⟩), .pointer (some ⟨g, k * 89 + 22, none⟩)] 57 (0, 0)) := by rw [hw1, hgx]; exact heap_alloc_new _ _
  have h1 : Bst w1 bx g b ps ss fs := by rw [hw1]; exact h.below (more (Below.refl _ _) _)
  have ho1 : Only (· = g) w w1 := by rw [hw1]; exact (Only.refl _ _).alloc _
  have ngx : ¬ gx = g := by have := h.p.lt; omega
  have nxg : ¬ g = gx := by have := h.p.lt; omega
  have nxb : ¬ gx = bx := by have := h.lt; omega
  have H1 := Lib.hid h1
  have HO1 := Lib.hid ho1
  have lx := (Array.getElem?_eq_some_iff.1 hX1).1
  have HX1 := Lib.hid hX1
  have hv1 : w1.cell? ⟨gn, 0, none⟩ = some (.bool true) := (ho1.cell (p := ⟨gn, 0, none⟩) hgl hgn).trans hv
  have hgl1 : gn < w1.heap.size := cell_lt hv1
  clear hv hgl
  clear hw1 hgx hX1 h1 ho1 h
  have x0 : w1.cell? ⟨gx, 0, none⟩ = some (.pointer (some ⟨bx, 0, none⟩)) := cells_of HX1.out 0
  have x1 : w1.cell? ⟨gx, 1, none⟩ = some (.int .i64 k) := cells_of HX1.out 1
  have x2 : w1.cell? ⟨gx, 2, none⟩ = some (.pointer (some ⟨g, k * 89, none⟩)) := cells_of HX1.out 2
  have x3 : w1.cell? ⟨gx, 3, none⟩ = some (.pointer (some ⟨g, k * 89 + 22, none⟩)) := cells_of HX1.out 3
  have b17 : w1.cell? ⟨bx, 17, none⟩ = some (.slice (some ⟨g, 0, none⟩) b.n b.cp) := H1.out.c17
  go_wp2_with fail
  clear b17
  have hB0 := Lib.hid (Bst.cong (qs := toldM k 0 ps) (fun j _ => toldM_0 k ps j) H1.out)
  go_loopw [11] (fun i wr => ∃ m : Nat, m ≤ b.n ∧ i = .int .i64 m ∧ Hid (Bst wr bx g b (toldM k m ps) ss fs) ∧ Hid (Only (· = g) w1 wr)) (fun i _ => b.n - (intOf i).toNat)
  case atStart => exact ⟨0, by omega, rfl, hB0, Lib.hid (Only.refl _ _)⟩
  case round =>
    clear hB0
    obtain ⟨m, hm, rfl, hB, hO⟩ := hrel
    have hm0 : (0 : Int) ≤ m := by omega
    have b17 : wr.cell? ⟨bx, 17, none⟩ = some (.slice (some ⟨g, 0, none⟩) b.n b.cp) := hB.out.c17
    have y0 : wr.cell? ⟨gx, 0, none⟩ = some (.pointer (some ⟨bx, 0, none⟩)) := (hO.out.cell (p := ⟨gx, 0, none⟩) lx ngx).trans (cells_of HX1.out 0)
    have y1 : wr.cell? ⟨gx, 1, none⟩ = some (.int .i64 k) := (hO.out.cell (p := ⟨gx, 1, none⟩) lx ngx).trans (cells_of HX1.out 1)
    have yv : wr.cell? ⟨gn, 0, none⟩ = some (.bool true) := (hO.out.cell (p := ⟨gn, 0, none⟩) hgl1 hgn).trans hv1
    by_cases hlt : m < b.n
    · have dl : decide ((m : Int) < b.n) = true := decide_eq_true (by omega)
      have hm1 : (m : Int) < b.n := by omega
      have hwm : IntKind.i64.wrap ((m : Int) + 1) = (m + 1 : Nat) := by unfold IntKind.wrap; simp [IntKind.signed, IntKind.bits]; omega
      by_cases hmk : m = k
      · have dk : ((m : Int) != k) = false := by simp [hmk]
        have Hmk := Lib.hid hmk
        clear hmk
        go_wp2_with fail
        exact ⟨⟨m + 1, by omega, rfl, Lib.hid (Bst.cong (fun j _ => by rw [Hmk.out]; exact toldM_skip k ps j) hB.out), hO⟩, by simp [intOf]; omega⟩
      · have dk : ((m : Int) != k) = true := by simp; omega
        have c49 : wr.cell? ⟨g, m * 89 + 22 + 27, none⟩ = some (.bool ((ps m).b 49)) := (hB.out.p.cell hlt (j := 49) (by omega)).trans (by rw [toldM_at]; rfl)
        have f49 : wr.frozen? ⟨g, m * 89 + 22 + 27, none⟩ = false := hB.out.p.free _
        have HB2 := Lib.hid (Bst.cong (fun j _ => toldM_put k m ps hmk j) (Bst.put (w := wr) (k := m) (j := 49) (p := ps m) (p' := (ps m).setB 49 true) (by have h := hB.out.start m; rw [toldM_at] at h; exact h) (by omega) (rowP_put_49 _ _)))
        clear hmk
        go_wp2_with fail
        refine (told1_any wr g (m * 89 + 22) gn _ yv c49 f49).mono ?_
        rintro e w2 ⟨rfl, rfl⟩
        go_wp2_with fail
        exact ⟨⟨m + 1, by omega, rfl, HB2, Lib.hid (hO.out.setCell (Or.inl rfl) _)⟩, by simp [intOf]; omega⟩
    · have dl : decide ((m : Int) < b.n) = false := decide_eq_false (by omega)
      obtain rfl : m = b.n := by omega
      have HBE := Lib.hid (Bst.cong (fun j hj => toldM_all k b.n ps j hj) hB.out)
      go_wp2_with fail
      go_end0
      exact ⟨rfl, HBE.out, HO1.out.trans hO.out⟩
set_option maxRecDepth 100000 in
set_option maxHeartbeats 4000000 in
theorem told_any (w : World) (bx g k : Nat) (b : Bri) (ps ss : Nat → Rec) (fs : Nat → Int) (h : Bst w bx g b ps ss fs) (hn : b.n ≤ 1000) : Calls Try.prog 27 #[.agg #[.pointer (some ⟨bx, 0, none⟩), .int .i64 k, .pointer (some ⟨g, k * 89, none⟩), .pointer (some ⟨g, k * 89 + 22, none⟩)]] w fun e w' => e = .returned (.tuple #[]) ∧ Bst w' bx g b (toldF k ps) ss fs ∧ Only (· = g) w w' := by
  have h2 := h.below (more (more (Below.refl _ _) (.cells #[.pointer (some ⟨bx, 0, none⟩), .int .i64 k, .pointer (some ⟨g, k * 89, none⟩), .pointer (some ⟨g, k * 89 + 22, none⟩)] 57)) (.cells #[.bool true] 4))
  have ho2 := ((Only.refl (· = g) w).alloc (.cells #[.pointer (some ⟨bx, 0, none⟩), .int .i64 k, .pointer (some ⟨g, k * 89, none⟩), .pointer (some ⟨g, k * 89 + 22, none⟩)] 57)).alloc (.cells #[.bool true] 4)
  have hgl := h.p.lt
  have H2 := Lib.hid h2
  have HO2 := Lib.hid ho2
  clear h h2 ho2
  go_enter Try.func27, Try.ntmps27
  go_wp2_with fail
  refine (others_any _ bx g k (w.heap.size + 1) b ps ss fs H2.out hn (by simp [go_sem]) (by omega)).mono ?_
  rintro e w2 ⟨rfl, h3, ho3⟩
  have H3 := Lib.hid h3
  have HO3 := Lib.hid (HO2.out.trans ho3)
  clear h3 ho3
  go_wp2_with fail
  go_end0
  exact ⟨rfl, H3.out, HO3.out⟩
set_option maxRecDepth 100000 in
set_option maxHeartbeats 4000000 in
theorem refothers_any (w : World) (bx g k : Nat) (b : Bri) (ps ss : Nat → Rec) (fs : Nat → Int) (h : Bst w bx g b ps ss fs) (hn : b.n ≤ 1000) : Calls Try.prog 23 #[.pointer (some ⟨bx, 0, none⟩), .int .i64 k] w fun e w' => e = .returned (.tuple #[]) ∧ Bst w' bx g b (toldF k ps) ss fs ∧ Only (· = g) w w' := by
  go_enter Try.func23, Try.ntmps23
  have H1 := Lib.hid h
  have nbg : ¬ bx = g := h.ne
  have ngb : ¬ g = bx := fun e => h.ne e.symm
  clear h
  go_wp2_with fail
  have hB0 := Lib.hid (Bst.cong (qs := toldM k 0 ps) (fun j _ => toldM_0 k ps j) H1.out)
  go_loopw [4] (fun i wr => ∃ m : Nat, m ≤ b.n ∧ i = .int .i64 m ∧ Hid (Bst wr bx g b (toldM k m ps) ss fs) ∧ Hid (Only (· = g) w wr)) (fun i _ => b.n - (intOf i).toNat)
  case atStart => exact ⟨0, by omega, rfl, hB0, Lib.hid (Only.refl _ _)⟩
  case round =>
    clear hB0
    obtain ⟨m, hm, rfl, hB, hO⟩ := hrel
    have hm0 : (0 : Int) ≤ m := by omega
    have b17 : wr.cell? ⟨bx, 17, none⟩ = some (.slice (some ⟨g, 0, none⟩) b.n b.cp) := hB.out.c17
    by_cases hlt : m < b.n
    · have dl : decide ((m : Int) < b.n) = true := decide_eq_true (by omega)
      have hm1 : (m : Int) < b.n := by omega
      have hwm : IntKind.i64.wrap ((m : Int) + 1) = (m + 1 : Nat) := by unfold IntKind.wrap; simp [IntKind.signed, IntKind.bits]; omega
      by_cases hmk : m = k
      · have dk : ((m : Int) != k) = false := by simp [hmk]
        have Hmk := Lib.hid hmk
        clear hmk
        go_wp2_with fail
        exact ⟨⟨m + 1, by omega, rfl, Lib.hid (Bst.cong (fun j _ => by rw [Hmk.out]; exact toldM_skip k ps j) hB.out), hO⟩, by simp [intOf]; omega⟩
      · have dk : ((m : Int) != k) = true := by simp; omega
        have c49 : wr.cell? ⟨g, m * 89 + 22 + 27, none⟩ = some (.bool ((ps m).b 49)) := (hB.out.p.cell hlt (j := 49) (by omega)).trans (by rw [toldM_at]; rfl)
        have f49 : wr.frozen? ⟨g, m * 89 + 22 + 27, none⟩ = false := hB.out.p.free _
        have HB2 := Lib.hid (Bst.cong (fun j _ => toldM_put k m ps hmk j) (Bst.put (w := wr) (k := m) (j := 49) (p := ps m) (p' := (ps m).setB 49 true) (by have h := hB.out.start m; rw [toldM_at] at h; exact h) (by omega) (rowP_put_49 _ _)))
        clear hmk
        go_wp2_with fail
        exact ⟨⟨m + 1, by omega, rfl, HB2, Lib.hid (hO.out.setCell (Or.inl rfl) _)⟩, by simp [intOf]; omega⟩
    · have dl : decide ((m : Int) < b.n) = false := decide_eq_false (by omega)
      obtain rfl : m = b.n := by omega
      have HBE := Lib.hid (Bst.cong (fun j hj => toldM_all k b.n ps j hj) hB.out)
      go_wp2_with fail
      go_end0
      exact ⟨rfl, HBE.out, hO.out⟩
/-- What is done to a port that has heard of a change. -/
def noteF (p : Rec) : Rec := ((p.setB 39 false).setB 41 false).setB 48 (p.b 48 || p.i 87 == 4)
set_option maxRecDepth 100000 in
set_option maxHeartbeats 4000000 in
theorem notes_any (w : World) (bx g k : Nat) (b : Bri) (ps ss : Nat → Rec) (fs : Nat → Int) (p : Rec) (h : Bst w bx g b (upd ps k p) ss fs) (hk : k < b.n) (hn : b.n ≤ 1000) : Calls Try.prog 29 #[.agg #[.pointer (some ⟨bx, 0, none⟩), .int .i64 k, .pointer (some ⟨g, k * 89, none⟩), .pointer (some ⟨g, k * 89 + 22, none⟩)]] w fun e w' => e = .returned (.tuple #[]) ∧ Bst w' bx g b (upd (toldF k ps) k (noteF p)) ss fs ∧ Only (· = g) w w' := by
  go_enter Try.func29, Try.ntmps29
  go_upto_region 1 with (fail)
  refine ((?_ : ∀ x, x = w.alloc (.cells #[.pointer (some ⟨bx, 0, none⟩), .int .i64 k, .pointer (some ⟨g, k * 89, none⟩), .pointer (some ⟨g, k * 89 + 22, none⟩)] 57) → Code.wp _ _ _ _ x) _ rfl)
  intro w1 hw1
  obtain ⟨gx, hgx⟩ : ∃ x, x = w.heap.size := ⟨_, rfl⟩
  rw [← hgx]
  have hX1 : w1.heap[gx]? = some (.cells #[.pointer (some ⟨bx, 0, none⟩), .int .i64 k, .pointer (some ⟨g, k * 89, none⟩), .pointer (some ⟨g, k * 89 + 22, none⟩)] 57 (0, 0)) := by rw [hw1, hgx]; exact heap_alloc_new _ _
  have h1 : Bst w1 bx g b (upd ps k p) ss fs := by rw [hw1]; exact h.below (more (Below.refl _ _) _)
  have ho1 : Only (· = g) w w1 := by rw [hw1]; exact (Only.refl _ _).alloc _
  have ngx : ¬ gx = g := by have := h.p.lt; omega
  have nxg : ¬ g = gx := by have := h.p.lt; omega
  have nxb : ¬ gx = bx := by have := h.lt; omega
  have H1 := Lib.hid h1
  have HO1 := Lib.hid ho1
  have lx := (Array.getElem?_eq_some_iff.1 hX1).1
  have HX1 := Lib.hid hX1
  clear hw1 hgx hX1 h1 ho1 h
  have x0 : w1.cell? ⟨gx, 0, none⟩ = some (.pointer (some ⟨bx, 0, none⟩)) := cells_of HX1.out 0
  have x1 : w1.cell? ⟨gx, 1, none⟩ = some (.int .i64 k) := cells_of HX1.out 1
  have x2 : w1.cell? ⟨gx, 2, none⟩ = some (.pointer (some ⟨g, k * 89, none⟩)) := cells_of HX1.out 2
  have x3 : w1.cell? ⟨gx, 3, none⟩ = some (.pointer (some ⟨g, k * 89 + 22, none⟩)) := cells_of HX1.out 3
  have c39 : w1.cell? ⟨g, k * 89 + 22 + 17, none⟩ = some (.bool (p.b 39)) := (H1.out.p.cell hk (j := 39) (by omega)).trans (by rw [upd_same]; rfl)
  have c41 : w1.cell? ⟨g, k * 89 + 22 + 19, none⟩ = some (.bool (p.b 41)) := (H1.out.p.cell hk (j := 41) (by omega)).trans (by rw [upd_same]; rfl)
  have f39 : w1.frozen? ⟨g, k * 89 + 22 + 17, none⟩ = false := H1.out.p.free _
  have f41 : w1.frozen? ⟨g, k * 89 + 22 + 19, none⟩ = false := H1.out.p.free _
  refine wp_region_held_drew (S := fun w' => Only (· = g) w1 w') (by kernel_rfl) (Only.refl _ _).drew (fun hH => ?_)
  refine wpAnyH_take (i := 0) (v := .pointer (some ⟨gx, 3, none⟩)) rfl (by kernel_rfl) (by kernel_rfl) (by kernel_rfl) (fun _ _ _ h => h) (Or.inl ⟨by rfl, fun z _ => by simp [go_sem, execOp]⟩) hH ?_
  simp only [List.getElem_toArray, List.getElem_cons_succ, List.getElem_cons_zero, Act.put, List.setIfInBounds_toArray, List.set_cons_zero, List.set_cons_succ]
  refine wpAnyH_take (i := 1) (v := .pointer (some ⟨g, k * 89 + 22, none⟩)) rfl (by kernel_rfl) (by kernel_rfl) (by kernel_rfl) (fun _ _ _ h => h) (Or.inl ⟨by rfl, fun z hz => by simp [go_sem, execOp, (show z.cell? ⟨gx, 3, none⟩ = some (.pointer (some ⟨g, k * 89 + 22, none⟩)) from (hz.cell (p := ⟨gx, 3, none⟩) lx (by show ¬ gx = g; exact ngx)).trans x3)]⟩) hH ?_
  simp only [List.getElem_toArray, List.getElem_cons_succ, List.getElem_cons_zero, Act.put, List.setIfInBounds_toArray, List.set_cons_zero, List.set_cons_succ]
  refine wpAnyH_take (i := 2) (v := .pointer (some ⟨gx, 3, none⟩)) rfl (by kernel_rfl) (by kernel_rfl) (by kernel_rfl) (fun _ _ _ h => h) (Or.inl ⟨by rfl, fun z _ => by simp [go_sem, execOp]⟩) hH ?_
  simp only [List.getElem_toArray, List.getElem_cons_succ, List.getElem_cons_zero, Act.put, List.setIfInBounds_toArray, List.set_cons_zero, List.set_cons_succ]
  refine wpAnyH_take (i := 3) (v := .pointer (some ⟨g, k * 89 + 22, none⟩)) rfl (by kernel_rfl) (by kernel_rfl) (by kernel_rfl) (fun _ _ _ h => h) (Or.inl ⟨by rfl, fun z hz => by simp [go_sem, execOp, (show z.cell? ⟨gx, 3, none⟩ = some (.pointer (some ⟨g, k * 89 + 22, none⟩)) from (hz.cell (p := ⟨gx, 3, none⟩) lx (by show ¬ gx = g; exact ngx)).trans x3)]⟩) hH ?_
  simp only [List.getElem_toArray, List.getElem_cons_succ, List.getElem_cons_zero, Act.put, List.setIfInBounds_toArray, List.set_cons_zero, List.set_cons_succ]
  refine wpAnyH_take (i := 4) (v := .pointer (some ⟨g, k * 89 + 22, none⟩)) rfl (by kernel_rfl) (by kernel_rfl) (by kernel_rfl) (fun _ _ _ h => h) (Or.inl ⟨by rfl, fun z _ => by simp [go_sem, execOp]⟩) hH ?_
  simp only [List.getElem_toArray, List.getElem_cons_succ, List.getElem_cons_zero, Act.put, List.setIfInBounds_toArray, List.set_cons_zero, List.set_cons_succ]
  refine wpAnyH_take (i := 5) (v := .pointer (some ⟨g, k * 89 + 22 + 17, none⟩)) rfl (by kernel_rfl) (by kernel_rfl) (by kernel_rfl) (fun _ _ _ h => h) (Or.inl ⟨by rfl, fun z _ => by simp [go_sem, execOp]⟩) hH ?_
  simp only [List.getElem_toArray, List.getElem_cons_succ, List.getElem_cons_zero, Act.put, List.setIfInBounds_toArray, List.set_cons_zero, List.set_cons_succ]
  refine wpAnyH_ready (rs := [6]) (by kernel_rfl) (by simp) (AllReadyH.cons rfl (fun K hK => ?_) AllReadyH.nil)
  go_simp
  refine hK.out _ _ (hH.setCell (Or.inl rfl) _) (fun hH0 => ?_)
  clear hK K hH
  refine wpAnyH_take (i := 7) (v := .pointer (some ⟨g, k * 89 + 22, none⟩)) rfl (by kernel_rfl) (by kernel_rfl) (by kernel_rfl) (fun _ _ _ h => h) (Or.inl ⟨by rfl, fun z _ => by simp [go_sem, execOp]⟩) hH0 ?_
  simp only [List.getElem_toArray, List.getElem_cons_succ, List.getElem_cons_zero, Act.put, List.setIfInBounds_toArray, List.set_cons_zero, List.set_cons_succ]
  refine wpAnyH_take (i := 8) (v := .pointer (some ⟨g, k * 89 + 22 + 19, none⟩)) rfl (by kernel_rfl) (by kernel_rfl) (by kernel_rfl) (fun _ _ _ h => h) (Or.inl ⟨by rfl, fun z _ => by simp [go_sem, execOp]⟩) hH0 ?_
  simp only [List.getElem_toArray, List.getElem_cons_succ, List.getElem_cons_zero, Act.put, List.setIfInBounds_toArray, List.set_cons_zero, List.set_cons_succ]
  refine wpAnyH_ready (rs := [9]) (by kernel_rfl) (by simp) (AllReadyH.cons rfl (fun K hK => ?_) AllReadyH.nil)
  go_simp
  refine hK.out _ _ (hH0.setCell (Or.inl rfl) _) (fun hH1 => ?_)
  clear hK K hH0
  refine wpAnyH_done (by kernel_rfl) ?_ _
  refine ((?_ : ∀ x, x = (w1.drew.setCell ⟨g, k * 89 + 22 + 17, none⟩ (.bool false)).setCell ⟨g, k * 89 + 22 + 19, none⟩ (.bool false) → Exit.then _ _ _ _ x) _ rfl)
  intro w2 hw2
  have H2 := Lib.hid (show Bst w2 bx g b (upd ps k ((p.setB 39 false).setB 41 false)) ss fs by rw [hw2]; exact ((H1.out.below (Below.refl _ _).drew).put (j := 39) (by omega) (rowP_put_39 _ _)).put (j := 41) (by omega) (rowP_put_41 _ _))
  have hO2 : Only (· = g) w1 w2 := by rw [hw2]; exact hH1
  have HO2 := Lib.hid (HO1.out.trans hO2)
  have hX2 : w2.heap[gx]? = some (.cells #[.pointer (some ⟨bx, 0, none⟩), .int .i64 k, .pointer (some ⟨g, k * 89, none⟩), .pointer (some ⟨g, k * 89 + 22, none⟩)] 57 (0, 0)) := (hO2.block _ lx ngx).trans HX1.out
  clear hH1 hw2 hO2 c39 c41 f39 f41 x0 x1 x2 x3 HO1
  have HX2 := Lib.hid hX2
  have lx2 := (Array.getElem?_eq_some_iff.1 hX2).1
  clear hX2
  have x2 : w2.cell? ⟨gx, 2, none⟩ = some (.pointer (some ⟨g, k * 89, none⟩)) := cells_of HX2.out 2
  have x3 : w2.cell? ⟨gx, 3, none⟩ = some (.pointer (some ⟨g, k * 89 + 22, none⟩)) := cells_of HX2.out 3
  go_wp2_with fail
  have d48 : w2.cell? ⟨g, k * 89 + 22 + 26, none⟩ = some (.bool (((p.setB 39 false).setB 41 false).b 48)) := (H2.out.p.cell hk (j := 48) (by omega)).trans (by rw [upd_same]; rfl)
  have d87 : w2.cell? ⟨g, k * 89 + 87, none⟩ = some (.int .i64 (((p.setB 39 false).setB 41 false).i 87)) := (H2.out.p.cell hk (j := 87) (by omega)).trans (by rw [upd_same]; rfl)
  have f48 : w2.frozen? ⟨g, k * 89 + 22 + 26, none⟩ = false := H2.out.p.free _
  have c48 : w2.cell? ⟨g, k * 89 + 22 + 26, none⟩ = some (.bool (p.b 48)) := d48
  have c87 : w2.cell? ⟨g, k * 89 + 87, none⟩ = some (.int .i64 (p.i 87)) := d87
  clear d48 d87
  have hE : noteF p = ((p.setB 39 false).setB 41 false).setB 48 (p.b 48 || p.i 87 == 4) := rfl
  cases e1 : p.b 48 with
  | true =>
    rw [e1, Bool.true_or] at hE
    rw [e1] at c48
    clear e1
    have HE := Lib.hid hE
    clear hE
    refine wp_region_held_drew (S := fun w' => Only (· = g) w2 w') (by kernel_rfl) (Only.refl _ _).drew (fun hH => ?_)
    refine wpAnyH_take (i := 0) (v := .pointer (some ⟨gx, 3, none⟩)) rfl (by kernel_rfl) (by kernel_rfl) (by kernel_rfl) (fun _ _ _ h => h) (Or.inl ⟨by rfl, fun z _ => by simp [go_sem, execOp]⟩) hH ?_
    simp only [List.getElem_toArray, List.getElem_cons_succ, List.getElem_cons_zero, Act.put, List.setIfInBounds_toArray, List.set_cons_zero, List.set_cons_succ]
    refine wpAnyH_take (i := 1) (v := .pointer (some ⟨g, k * 89 + 22, none⟩)) rfl (by kernel_rfl) (by kernel_rfl) (by kernel_rfl) (fun _ _ _ h => h) (Or.inl ⟨by rfl, fun z hz => by simp [go_sem, execOp, (show z.cell? ⟨gx, 3, none⟩ = some (.pointer (some ⟨g, k * 89 + 22, none⟩)) from (hz.cell (p := ⟨gx, 3, none⟩) lx2 (by show ¬ gx = g; exact ngx)).trans x3)]⟩) hH ?_
    simp only [List.getElem_toArray, List.getElem_cons_succ, List.getElem_cons_zero, Act.put, List.setIfInBounds_toArray, List.set_cons_zero, List.set_cons_succ]
    refine wpAnyH_take (i := 2) (v := .pointer (some ⟨gx, 3, none⟩)) rfl (by kernel_rfl) (by kernel_rfl) (by kernel_rfl) (fun _ _ _ h => h) (Or.inl ⟨by rfl, fun z _ => by simp [go_sem, execOp]⟩) hH ?_
    simp only [List.getElem_toArray, List.getElem_cons_succ, List.getElem_cons_zero, Act.put, List.setIfInBounds_toArray, List.set_cons_zero, List.set_cons_succ]
    refine wpAnyH_take (i := 3) (v := .pointer (some ⟨g, k * 89 + 22, none⟩)) rfl (by kernel_rfl) (by kernel_rfl) (by kernel_rfl) (fun _ _ _ h => h) (Or.inl ⟨by rfl, fun z hz => by simp [go_sem, execOp, (show z.cell? ⟨gx, 3, none⟩ = some (.pointer (some ⟨g, k * 89 + 22, none⟩)) from (hz.cell (p := ⟨gx, 3, none⟩) lx2 (by show ¬ gx = g; exact ngx)).trans x3)]⟩) hH ?_
    simp only [List.getElem_toArray, List.getElem_cons_succ, List.getElem_cons_zero, Act.put, List.setIfInBounds_toArray, List.set_cons_zero, List.set_cons_succ]
    refine wpAnyH_take (i := 4) (v := .pointer (some ⟨g, k * 89 + 22, none⟩)) rfl (by kernel_rfl) (by kernel_rfl) (by kernel_rfl) (fun _ _ _ h => h) (Or.inl ⟨by rfl, fun z _ => by simp [go_sem, execOp]⟩) hH ?_
    simp only [List.getElem_toArray, List.getElem_cons_succ, List.getElem_cons_zero, Act.put, List.setIfInBounds_toArray, List.set_cons_zero, List.set_cons_succ]
    refine wpAnyH_take (i := 5) (v := .pointer (some ⟨g, k * 89 + 22 + 26, none⟩)) rfl (by kernel_rfl) (by kernel_rfl) (by kernel_rfl) (fun _ _ _ h => h) (Or.inl ⟨by rfl, fun z _ => by simp [go_sem, execOp]⟩) hH ?_
    simp only [List.getElem_toArray, List.getElem_cons_succ, List.getElem_cons_zero, Act.put, List.setIfInBounds_toArray, List.set_cons_zero, List.set_cons_succ]
    refine wpAnyH_ready (rs := [6]) (by kernel_rfl) (by simp) (AllReadyH.cons rfl (fun K hK => ?_) AllReadyH.nil)
    go_simp
    refine hK.out _ _ hH (fun _ => ?_)
    clear hK K
    refine wpAnyH_take (i := 7) (v := .bool true) rfl (by kernel_rfl) (by kernel_rfl) (by kernel_rfl) (fun _ _ _ h => h) (Or.inl ⟨by rfl, fun z _ => rfl⟩) hH ?_
    simp only [List.getElem_toArray, List.getElem_cons_succ, List.getElem_cons_zero, Act.put, List.setIfInBounds_toArray, List.set_cons_zero, List.set_cons_succ]
    refine wpAnyH_take (i := 8) (v := undef) rfl (by kernel_rfl) (by kernel_rfl) (by kernel_rfl) (fun _ _ _ h => h) (Or.inr ⟨by rfl, rfl⟩) hH ?_
    simp only [List.getElem_toArray, List.getElem_cons_succ, List.getElem_cons_zero, Act.put, List.setIfInBounds_toArray, List.set_cons_zero, List.set_cons_succ]
    refine wpAnyH_take (i := 9) (v := undef) rfl (by kernel_rfl) (by kernel_rfl) (by kernel_rfl) (fun _ _ _ h => h) (Or.inr ⟨by rfl, rfl⟩) hH ?_
    simp only [List.getElem_toArray, List.getElem_cons_succ, List.getElem_cons_zero, Act.put, List.setIfInBounds_toArray, List.set_cons_zero, List.set_cons_succ]
    refine wpAnyH_take (i := 10) (v := undef) rfl (by kernel_rfl) (by kernel_rfl) (by kernel_rfl) (fun _ _ _ h => h) (Or.inr ⟨by rfl, rfl⟩) hH ?_
    simp only [List.getElem_toArray, List.getElem_cons_succ, List.getElem_cons_zero, Act.put, List.setIfInBounds_toArray, List.set_cons_zero, List.set_cons_succ]
    refine wpAnyH_take (i := 11) (v := undef) rfl (by kernel_rfl) (by kernel_rfl) (by kernel_rfl) (fun _ _ _ h => h) (Or.inr ⟨by rfl, rfl⟩) hH ?_
    simp only [List.getElem_toArray, List.getElem_cons_succ, List.getElem_cons_zero, Act.put, List.setIfInBounds_toArray, List.set_cons_zero, List.set_cons_succ]
    refine wpAnyH_take (i := 12) (v := undef) rfl (by kernel_rfl) (by kernel_rfl) (by kernel_rfl) (fun _ _ _ h => h) (Or.inr ⟨by rfl, rfl⟩) hH ?_
    simp only [List.getElem_toArray, List.getElem_cons_succ, List.getElem_cons_zero, Act.put, List.setIfInBounds_toArray, List.set_cons_zero, List.set_cons_succ]
    refine wpAnyH_take (i := 13) (v := undef) rfl (by kernel_rfl) (by kernel_rfl) (by kernel_rfl) (fun _ _ _ h => h) (Or.inr ⟨by rfl, rfl⟩) hH ?_
    simp only [List.getElem_toArray, List.getElem_cons_succ, List.getElem_cons_zero, Act.put, List.setIfInBounds_toArray, List.set_cons_zero, List.set_cons_succ]
    refine wpAnyH_take (i := 14) rfl (by kernel_rfl) (by kernel_rfl) (by kernel_rfl) (fun _ _ _ h => h) (Or.inl ⟨by rfl, fun z _ => rfl⟩) hH ?_
    simp only [List.getElem_toArray, List.getElem_cons_succ, List.getElem_cons_zero, Act.put, List.setIfInBounds_toArray, List.set_cons_zero, List.set_cons_succ]
    refine wpAnyH_take (i := 15) (v := .pointer (some ⟨g, k * 89 + 22, none⟩)) rfl (by kernel_rfl) (by kernel_rfl) (by kernel_rfl) (fun _ _ _ h => h) (Or.inl ⟨by rfl, fun z _ => by simp [go_sem, execOp]⟩) hH ?_
    simp only [List.getElem_toArray, List.getElem_cons_succ, List.getElem_cons_zero, Act.put, List.setIfInBounds_toArray, List.set_cons_zero, List.set_cons_succ]
    refine wpAnyH_take (i := 16) (v := .pointer (some ⟨g, k * 89 + 22 + 26, none⟩)) rfl (by kernel_rfl) (by kernel_rfl) (by kernel_rfl) (fun _ _ _ h => h) (Or.inl ⟨by rfl, fun z _ => by simp [go_sem, execOp]⟩) hH ?_
    simp only [List.getElem_toArray, List.getElem_cons_succ, List.getElem_cons_zero, Act.put, List.setIfInBounds_toArray, List.set_cons_zero, List.set_cons_succ]
    refine wpAnyH_ready (rs := [17]) (by kernel_rfl) (by simp) (AllReadyH.cons rfl (fun K hK => ?_) AllReadyH.nil)
    go_simp
    refine hK.out _ _ (hH.setCell (Or.inl rfl) _) (fun hH0 => ?_)
    clear hK K hH
    refine wpAnyH_done (by kernel_rfl) ?_ _
    refine ((?_ : ∀ x, x = w2.drew.setCell ⟨g, k * 89 + 22 + 26, none⟩ (.bool true) → Exit.then _ _ _ _ x) _ rfl)
    intro w3 hw3
    have hO3 : Only (· = g) w2 w3 := by rw [hw3]; exact hH0
    have h3 : Bst w3 bx g b (upd ps k (noteF p)) ss fs := by rw [hw3, HE.out]; exact (H2.out.below (Below.refl _ _).drew).put (j := 48) (by omega) (rowP_put_48 _ _)
    have h3x : w3.heap[gx]? = some (.cells #[.pointer (some ⟨bx, 0, none⟩), .int .i64 k, .pointer (some ⟨g, k * 89, none⟩), .pointer (some ⟨g, k * 89 + 22, none⟩)] 57 (0, 0)) := (hO3.block _ lx2 ngx).trans HX2.out
    have H3 := Lib.hid h3
    have HO3 := Lib.hid (HO2.out.trans hO3)
    have HX3 := Lib.hid h3x
    clear hH0 hw3 hO3 h3 h3x c48 c87 f48 x2 x3 HO2
    have x0 : w3.cell? ⟨gx, 0, none⟩ = some (.pointer (some ⟨bx, 0, none⟩)) := cells_of HX3.out 0
    have x1 : w3.cell? ⟨gx, 1, none⟩ = some (.int .i64 k) := cells_of HX3.out 1
    have x2 : w3.cell? ⟨gx, 2, none⟩ = some (.pointer (some ⟨g, k * 89, none⟩)) := cells_of HX3.out 2
    have x3 : w3.cell? ⟨gx, 3, none⟩ = some (.pointer (some ⟨g, k * 89 + 22, none⟩)) := cells_of HX3.out 3
    go_wp2_with fail
    refine (told_any w3 bx g k b _ ss fs H3.out hn).mono ?_
    rw [told_upd]
    rintro e w4 ⟨rfl, h4, ho4⟩
    have H4 := Lib.hid h4
    have HO4 := Lib.hid (HO3.out.trans ho4)
    clear h4 ho4
    go_wp2_with fail
    go_end0
    exact ⟨rfl, H4.out, HO4.out⟩
  | false =>
    cases e2 : (p.i 87 == 4) with
    | true =>
      rw [e1, e2, Bool.false_or] at hE
      rw [e1] at c48
      clear e1
      have HE := Lib.hid hE
      clear hE
      refine wp_region_held_drew (S := fun w' => Only (· = g) w2 w') (by kernel_rfl) (Only.refl _ _).drew (fun hH => ?_)
      refine wpAnyH_take (i := 0) (v := .pointer (some ⟨gx, 3, none⟩)) rfl (by kernel_rfl) (by kernel_rfl) (by kernel_rfl) (fun _ _ _ h => h) (Or.inl ⟨by rfl, fun z _ => by simp [go_sem, execOp]⟩) hH ?_
      simp only [List.getElem_toArray, List.getElem_cons_succ, List.getElem_cons_zero, Act.put, List.setIfInBounds_toArray, List.set_cons_zero, List.set_cons_succ]
      refine wpAnyH_take (i := 1) (v := .pointer (some ⟨g, k * 89 + 22, none⟩)) rfl (by kernel_rfl) (by kernel_rfl) (by kernel_rfl) (fun _ _ _ h => h) (Or.inl ⟨by rfl, fun z hz => by simp [go_sem, execOp, (show z.cell? ⟨gx, 3, none⟩ = some (.pointer (some ⟨g, k * 89 + 22, none⟩)) from (hz.cell (p := ⟨gx, 3, none⟩) lx2 (by show ¬ gx = g; exact ngx)).trans x3)]⟩) hH ?_
      simp only [List.getElem_toArray, List.getElem_cons_succ, List.getElem_cons_zero, Act.put, List.setIfInBounds_toArray, List.set_cons_zero, List.set_cons_succ]
      refine wpAnyH_take (i := 2) (v := .pointer (some ⟨gx, 3, none⟩)) rfl (by kernel_rfl) (by kernel_rfl) (by kernel_rfl) (fun _ _ _ h => h) (Or.inl ⟨by rfl, fun z _ => by simp [go_sem, execOp]⟩) hH ?_
      simp only [List.getElem_toArray, List.getElem_cons_succ, List.getElem_cons_zero, Act.put, List.setIfInBounds_toArray, List.set_cons_zero, List.set_cons_succ]
      refine wpAnyH_take (i := 3) (v := .pointer (some ⟨g, k * 89 + 22, none⟩)) rfl (by kernel_rfl) (by kernel_rfl) (by kernel_rfl) (fun _ _ _ h => h) (Or.inl ⟨by rfl, fun z hz => by simp [go_sem, execOp, (show z.cell? ⟨gx, 3, none⟩ = some (.pointer (some ⟨g, k * 89 + 22, none⟩)) from (hz.cell (p := ⟨gx, 3, none⟩) lx2 (by show ¬ gx = g; exact ngx)).trans x3)]⟩) hH ?_
      simp only [List.getElem_toArray, List.getElem_cons_succ, List.getElem_cons_zero, Act.put, List.setIfInBounds_toArray, List.set_cons_zero, List.set_cons_succ]
      refine wpAnyH_take (i := 4) (v := .pointer (some ⟨g, k * 89 + 22, none⟩)) rfl (by kernel_rfl) (by kernel_rfl) (by kernel_rfl) (fun _ _ _ h => h) (Or.inl ⟨by rfl, fun z _ => by simp [go_sem, execOp]⟩) hH ?_
      simp only [List.getElem_toArray, List.getElem_cons_succ, List.getElem_cons_zero, Act.put, List.setIfInBounds_toArray, List.set_cons_zero, List.set_cons_succ]
      refine wpAnyH_take (i := 5) (v := .pointer (some ⟨g, k * 89 + 22 + 26, none⟩)) rfl (by kernel_rfl) (by kernel_rfl) (by kernel_rfl) (fun _ _ _ h => h) (Or.inl ⟨by rfl, fun z _ => by simp [go_sem, execOp]⟩) hH ?_
      simp only [List.getElem_toArray, List.getElem_cons_succ, List.getElem_cons_zero, Act.put, List.setIfInBounds_toArray, List.set_cons_zero, List.set_cons_succ]
      refine wpAnyH_ready (rs := [6]) (by kernel_rfl) (by simp) (AllReadyH.cons rfl (fun K hK => ?_) AllReadyH.nil)
      go_simp
      refine hK.out _ _ hH (fun _ => ?_)
      clear hK K
      refine wpAnyH_take (i := 7) (v := .bool false) rfl (by kernel_rfl) (by kernel_rfl) (by kernel_rfl) (fun _ _ _ h => h) (Or.inl ⟨by rfl, fun z _ => rfl⟩) hH ?_
      simp only [List.getElem_toArray, List.getElem_cons_succ, List.getElem_cons_zero, Act.put, List.setIfInBounds_toArray, List.set_cons_zero, List.set_cons_succ]
      refine wpAnyH_take (i := 8) (v := .pointer (some ⟨gx, 2, none⟩)) rfl (by kernel_rfl) (by kernel_rfl) (by kernel_rfl) (fun _ _ _ h => h) (Or.inl ⟨by rfl, fun z _ => by simp [go_sem, execOp]⟩) hH ?_
      simp only [List.getElem_toArray, List.getElem_cons_succ, List.getElem_cons_zero, Act.put, List.setIfInBounds_toArray, List.set_cons_zero, List.set_cons_succ]
      refine wpAnyH_take (i := 9) (v := .pointer (some ⟨g, k * 89, none⟩)) rfl (by kernel_rfl) (by kernel_rfl) (by kernel_rfl) (fun _ _ _ h => h) (Or.inl ⟨by rfl, fun z hz => by simp [go_sem, execOp, (show z.cell? ⟨gx, 2, none⟩ = some (.pointer (some ⟨g, k * 89, none⟩)) from (hz.cell (p := ⟨gx, 2, none⟩) lx2 (by show ¬ gx = g; exact ngx)).trans x2)]⟩) hH ?_
      simp only [List.getElem_toArray, List.getElem_cons_succ, List.getElem_cons_zero, Act.put, List.setIfInBounds_toArray, List.set_cons_zero, List.set_cons_succ]
      refine wpAnyH_take (i := 10) (v := .pointer (some ⟨g, k * 89, none⟩)) rfl (by kernel_rfl) (by kernel_rfl) (by kernel_rfl) (fun _ _ _ h => h) (Or.inl ⟨by rfl, fun z _ => by simp [go_sem, execOp]⟩) hH ?_
      simp only [List.getElem_toArray, List.getElem_cons_succ, List.getElem_cons_zero, Act.put, List.setIfInBounds_toArray, List.set_cons_zero, List.set_cons_succ]
      refine wpAnyH_take (i := 11) (v := .pointer (some ⟨g, k * 89 + 87, none⟩)) rfl (by kernel_rfl) (by kernel_rfl) (by kernel_rfl) (fun _ _ _ h => h) (Or.inl ⟨by rfl, fun z _ => by simp [go_sem, execOp]⟩) hH ?_
      simp only [List.getElem_toArray, List.getElem_cons_succ, List.getElem_cons_zero, Act.put, List.setIfInBounds_toArray, List.set_cons_zero, List.set_cons_succ]
      refine wpAnyH_ready (rs := [12]) (by kernel_rfl) (by simp) (AllReadyH.cons rfl (fun K hK => ?_) AllReadyH.nil)
      go_simp
      refine hK.out _ _ hH (fun _ => ?_)
      clear hK K
      refine wpAnyH_take (i := 13) (v := .bool true) rfl (by kernel_rfl) (by kernel_rfl) (by kernel_rfl) (fun _ _ _ h => h) (Or.inl ⟨by rfl, fun z _ => by simp [go_sem, execOp, e2]⟩) hH ?_
      simp only [List.getElem_toArray, List.getElem_cons_succ, List.getElem_cons_zero, Act.put, List.setIfInBounds_toArray, List.set_cons_zero, List.set_cons_succ]
      refine wpAnyH_take (i := 14) rfl (by kernel_rfl) (by kernel_rfl) (by kernel_rfl) (fun _ _ _ h => h) (Or.inl ⟨by rfl, fun z _ => rfl⟩) hH ?_
      simp only [List.getElem_toArray, List.getElem_cons_succ, List.getElem_cons_zero, Act.put, List.setIfInBounds_toArray, List.set_cons_zero, List.set_cons_succ]
      refine wpAnyH_take (i := 15) (v := .pointer (some ⟨g, k * 89 + 22, none⟩)) rfl (by kernel_rfl) (by kernel_rfl) (by kernel_rfl) (fun _ _ _ h => h) (Or.inl ⟨by rfl, fun z _ => by simp [go_sem, execOp]⟩) hH ?_
      simp only [List.getElem_toArray, List.getElem_cons_succ, List.getElem_cons_zero, Act.put, List.setIfInBounds_toArray, List.set_cons_zero, List.set_cons_succ]
      refine wpAnyH_take (i := 16) (v := .pointer (some ⟨g, k * 89 + 22 + 26, none⟩)) rfl (by kernel_rfl) (by kernel_rfl) (by kernel_rfl) (fun _ _ _ h => h) (Or.inl ⟨by rfl, fun z _ => by simp [go_sem, execOp]⟩) hH ?_
      simp only [List.getElem_toArray, List.getElem_cons_succ, List.getElem_cons_zero, Act.put, List.setIfInBounds_toArray, List.set_cons_zero, List.set_cons_succ]
      refine wpAnyH_ready (rs := [17]) (by kernel_rfl) (by simp) (AllReadyH.cons rfl (fun K hK => ?_) AllReadyH.nil)
      go_simp
      refine hK.out _ _ (hH.setCell (Or.inl rfl) _) (fun hH0 => ?_)
      clear hK K hH
      refine wpAnyH_done (by kernel_rfl) ?_ _
      refine ((?_ : ∀ x, x = w2.drew.setCell ⟨g, k * 89 + 22 + 26, none⟩ (.bool true) → Exit.then _ _ _ _ x) _ rfl)
      intro w3 hw3
      have hO3 : Only (· = g) w2 w3 := by rw [hw3]; exact hH0
      have h3 : Bst w3 bx g b (upd ps k (noteF p)) ss fs := by rw [hw3, HE.out]; exact (H2.out.below (Below.refl _ _).drew).put (j := 48) (by omega) (rowP_put_48 _ _)
      have h3x : w3.heap[gx]? = some (.cells #[.pointer (some ⟨bx, 0, none⟩), .int .i64 k, .pointer (some ⟨g, k * 89, none⟩), .pointer (some ⟨g, k * 89 + 22, none⟩)] 57 (0, 0)) := (hO3.block _ lx2 ngx).trans HX2.out
      have H3 := Lib.hid h3
      have HO3 := Lib.hid (HO2.out.trans hO3)
      have HX3 := Lib.hid h3x
      clear hH0 hw3 hO3 h3 h3x c48 c87 f48 x2 x3 HO2
      have x0 : w3.cell? ⟨gx, 0, none⟩ = some (.pointer (some ⟨bx, 0, none⟩)) := cells_of HX3.out 0
      have x1 : w3.cell? ⟨gx, 1, none⟩ = some (.int .i64 k) := cells_of HX3.out 1
      have x2 : w3.cell? ⟨gx, 2, none⟩ = some (.pointer (some ⟨g, k * 89, none⟩)) := cells_of HX3.out 2
      have x3 : w3.cell? ⟨gx, 3, none⟩ = some (.pointer (some ⟨g, k * 89 + 22, none⟩)) := cells_of HX3.out 3
      go_wp2_with fail
      refine (told_any w3 bx g k b _ ss fs H3.out hn).mono ?_
      rw [told_upd]
      rintro e w4 ⟨rfl, h4, ho4⟩
      have H4 := Lib.hid h4
      have HO4 := Lib.hid (HO3.out.trans ho4)
      clear h4 ho4
      go_wp2_with fail
      go_end0
      exact ⟨rfl, H4.out, HO4.out⟩
    | false =>
      rw [e1, e2, Bool.false_or] at hE
      rw [e1] at c48
      clear e1
      have HE := Lib.hid hE
      clear hE
      refine wp_region_held_drew (S := fun w' => Only (· = g) w2 w') (by kernel_rfl) (Only.refl _ _).drew (fun hH => ?_)
      refine wpAnyH_take (i := 0) (v := .pointer (some ⟨gx, 3, none⟩)) rfl (by kernel_rfl) (by kernel_rfl) (by kernel_rfl) (fun _ _ _ h => h) (Or.inl ⟨by rfl, fun z _ => by simp [go_sem, execOp]⟩) hH ?_
      simp only [List.getElem_toArray, List.getElem_cons_succ, List.getElem_cons_zero, Act.put, List.setIfInBounds_toArray, List.set_cons_zero, List.set_cons_succ]
      refine wpAnyH_take (i := 1) (v := .pointer (some ⟨g, k * 89 + 22, none⟩)) rfl (by kernel_rfl) (by kernel_rfl) (by kernel_rfl) (fun _ _ _ h => h) (Or.inl ⟨by rfl, fun z hz => by simp [go_sem, execOp, (show z.cell? ⟨gx, 3, none⟩ = some (.pointer (some ⟨g, k * 89 + 22, none⟩)) from (hz.cell (p := ⟨gx, 3, none⟩) lx2 (by show ¬ gx = g; exact ngx)).trans x3)]⟩) hH ?_
      simp only [List.getElem_toArray, List.getElem_cons_succ, List.getElem_cons_zero, Act.put, List.setIfInBounds_toArray, List.set_cons_zero, List.set_cons_succ]
      refine wpAnyH_take (i := 2) (v := .pointer (some ⟨gx, 3, none⟩)) rfl (by kernel_rfl) (by kernel_rfl) (by kernel_rfl) (fun _ _ _ h => h) (Or.inl ⟨by rfl, fun z _ => by simp [go_sem, execOp]⟩) hH ?_
      simp only [List.getElem_toArray, List.getElem_cons_succ, List.getElem_cons_zero, Act.put, List.setIfInBounds_toArray, List.set_cons_zero, List.set_cons_succ]
      refine wpAnyH_take (i := 3) (v := .pointer (some ⟨g, k * 89 + 22, none⟩)) rfl (by kernel_rfl) (by kernel_rfl) (by kernel_rfl) (fun _ _ _ h => h) (Or.inl ⟨by rfl, fun z hz => by simp [go_sem, execOp, (show z.cell? ⟨gx, 3, none⟩ = some (.pointer (some ⟨g, k * 89 + 22, none⟩)) from (hz.cell (p := ⟨gx, 3, none⟩) lx2 (by show ¬ gx = g; exact ngx)).trans x3)]⟩) hH ?_
      simp only [List.getElem_toArray, List.getElem_cons_succ, List.getElem_cons_zero, Act.put, List.setIfInBounds_toArray, List.set_cons_zero, List.set_cons_succ]
      refine wpAnyH_take (i := 4) (v := .pointer (some ⟨g, k * 89 + 22, none⟩)) rfl (by kernel_rfl) (by kernel_rfl) (by kernel_rfl) (fun _ _ _ h => h) (Or.inl ⟨by rfl, fun z _ => by simp [go_sem, execOp]⟩) hH ?_
      simp only [List.getElem_toArray, List.getElem_cons_succ, List.getElem_cons_zero, Act.put, List.setIfInBounds_toArray, List.set_cons_zero, List.set_cons_succ]
      refine wpAnyH_take (i := 5) (v := .pointer (some ⟨g, k * 89 + 22 + 26, none⟩)) rfl (by kernel_rfl) (by kernel_rfl) (by kernel_rfl) (fun _ _ _ h => h) (Or.inl ⟨by rfl, fun z _ => by simp [go_sem, execOp]⟩) hH ?_
      simp only [List.getElem_toArray, List.getElem_cons_succ, List.getElem_cons_zero, Act.put, List.setIfInBounds_toArray, List.set_cons_zero, List.set_cons_succ]
      refine wpAnyH_ready (rs := [6]) (by kernel_rfl) (by simp) (AllReadyH.cons rfl (fun K hK => ?_) AllReadyH.nil)
      go_simp
      refine hK.out _ _ hH (fun _ => ?_)
      clear hK K
      refine wpAnyH_take (i := 7) (v := .bool false) rfl (by kernel_rfl) (by kernel_rfl) (by kernel_rfl) (fun _ _ _ h => h) (Or.inl ⟨by rfl, fun z _ => rfl⟩) hH ?_
      simp only [List.getElem_toArray, List.getElem_cons_succ, List.getElem_cons_zero, Act.put, List.setIfInBounds_toArray, List.set_cons_zero, List.set_cons_succ]
      refine wpAnyH_take (i := 8) (v := .pointer (some ⟨gx, 2, none⟩)) rfl (by kernel_rfl) (by kernel_rfl) (by kernel_rfl) (fun _ _ _ h => h) (Or.inl ⟨by rfl, fun z _ => by simp [go_sem, execOp]⟩) hH ?_
      simp only [List.getElem_toArray, List.getElem_cons_succ, List.getElem_cons_zero, Act.put, List.setIfInBounds_toArray, List.set_cons_zero, List.set_cons_succ]
      refine wpAnyH_take (i := 9) (v := .pointer (some ⟨g, k * 89, none⟩)) rfl (by kernel_rfl) (by kernel_rfl) (by kernel_rfl) (fun _ _ _ h => h) (Or.inl ⟨by rfl, fun z hz => by simp [go_sem, execOp, (show z.cell? ⟨gx, 2, none⟩ = some (.pointer (some ⟨g, k * 89, none⟩)) from (hz.cell (p := ⟨gx, 2, none⟩) lx2 (by show ¬ gx = g; exact ngx)).trans x2)]⟩) hH ?_
      simp only [List.getElem_toArray, List.getElem_cons_succ, List.getElem_cons_zero, Act.put, List.setIfInBounds_toArray, List.set_cons_zero, List.set_cons_succ]
      refine wpAnyH_take (i := 10) (v := .pointer (some ⟨g, k * 89, none⟩)) rfl (by kernel_rfl) (by kernel_rfl) (by kernel_rfl) (fun _ _ _ h => h) (Or.inl ⟨by rfl, fun z _ => by simp [go_sem, execOp]⟩) hH ?_
      simp only [List.getElem_toArray, List.getElem_cons_succ, List.getElem_cons_zero, Act.put, List.setIfInBounds_toArray, List.set_cons_zero, List.set_cons_succ]
      refine wpAnyH_take (i := 11) (v := .pointer (some ⟨g, k * 89 + 87, none⟩)) rfl (by kernel_rfl) (by kernel_rfl) (by kernel_rfl) (fun _ _ _ h => h) (Or.inl ⟨by rfl, fun z _ => by simp [go_sem, execOp]⟩) hH ?_
      simp only [List.getElem_toArray, List.getElem_cons_succ, List.getElem_cons_zero, Act.put, List.setIfInBounds_toArray, List.set_cons_zero, List.set_cons_succ]
      refine wpAnyH_ready (rs := [12]) (by kernel_rfl) (by simp) (AllReadyH.cons rfl (fun K hK => ?_) AllReadyH.nil)
      go_simp
      refine hK.out _ _ hH (fun _ => ?_)
      clear hK K
      refine wpAnyH_take (i := 13) (v := .bool false) rfl (by kernel_rfl) (by kernel_rfl) (by kernel_rfl) (fun _ _ _ h => h) (Or.inl ⟨by rfl, fun z _ => by simp [go_sem, execOp, e2]⟩) hH ?_
      simp only [List.getElem_toArray, List.getElem_cons_succ, List.getElem_cons_zero, Act.put, List.setIfInBounds_toArray, List.set_cons_zero, List.set_cons_succ]
      refine wpAnyH_take (i := 14) rfl (by kernel_rfl) (by kernel_rfl) (by kernel_rfl) (fun _ _ _ h => h) (Or.inl ⟨by rfl, fun z _ => rfl⟩) hH ?_
      simp only [List.getElem_toArray, List.getElem_cons_succ, List.getElem_cons_zero, Act.put, List.setIfInBounds_toArray, List.set_cons_zero, List.set_cons_succ]
      refine wpAnyH_take (i := 15) (v := .pointer (some ⟨g, k * 89 + 22, none⟩)) rfl (by kernel_rfl) (by kernel_rfl) (by kernel_rfl) (fun _ _ _ h => h) (Or.inl ⟨by rfl, fun z _ => by simp [go_sem, execOp]⟩) hH ?_
      simp only [List.getElem_toArray, List.getElem_cons_succ, List.getElem_cons_zero, Act.put, List.setIfInBounds_toArray, List.set_cons_zero, List.set_cons_succ]
      refine wpAnyH_take (i := 16) (v := .pointer (some ⟨g, k * 89 + 22 + 26, none⟩)) rfl (by kernel_rfl) (by kernel_rfl) (by kernel_rfl) (fun _ _ _ h => h) (Or.inl ⟨by rfl, fun z _ => by simp [go_sem, execOp]⟩) hH ?_
      simp only [List.getElem_toArray, List.getElem_cons_succ, List.getElem_cons_zero, Act.put, List.setIfInBounds_toArray, List.set_cons_zero, List.set_cons_succ]
      refine wpAnyH_ready (rs := [17]) (by kernel_rfl) (by simp) (AllReadyH.cons rfl (fun K hK => ?_) AllReadyH.nil)
      go_simp
      refine hK.out _ _ (hH.setCell (Or.inl rfl) _) (fun hH0 => ?_)
      clear hK K hH
      refine wpAnyH_done (by kernel_rfl) ?_ _
      refine ((?_ : ∀ x, x = w2.drew.setCell ⟨g, k * 89 + 22 + 26, none⟩ (.bool false) → Exit.then _ _ _ _ x) _ rfl)
      intro w3 hw3
      have hO3 : Only (· = g) w2 w3 := by rw [hw3]; exact hH0
      have h3 : Bst w3 bx g b (upd ps k (noteF p)) ss fs := by rw [hw3, HE.out]; exact (H2.out.below (Below.refl _ _).drew).put (j := 48) (by omega) (rowP_put_48 _ _)
      have h3x : w3.heap[gx]? = some (.cells #[.pointer (some ⟨bx, 0, none⟩), .int .i64 k, .pointer (some ⟨g, k * 89, none⟩), .pointer (some ⟨g, k * 89 + 22, none⟩)] 57 (0, 0)) := (hO3.block _ lx2 ngx).trans HX2.out
      have H3 := Lib.hid h3
      have HO3 := Lib.hid (HO2.out.trans hO3)
      have HX3 := Lib.hid h3x
      clear hH0 hw3 hO3 h3 h3x c48 c87 f48 x2 x3 HO2
      have x0 : w3.cell? ⟨gx, 0, none⟩ = some (.pointer (some ⟨bx, 0, none⟩)) := cells_of HX3.out 0
      have x1 : w3.cell? ⟨gx, 1, none⟩ = some (.int .i64 k) := cells_of HX3.out 1
      have x2 : w3.cell? ⟨gx, 2, none⟩ = some (.pointer (some ⟨g, k * 89, none⟩)) := cells_of HX3.out 2
      have x3 : w3.cell? ⟨gx, 3, none⟩ = some (.pointer (some ⟨g, k * 89 + 22, none⟩)) := cells_of HX3.out 3
      go_wp2_with fail
      refine (told_any w3 bx g k b _ ss fs H3.out hn).mono ?_
      rw [told_upd]
      rintro e w4 ⟨rfl, h4, ho4⟩
      have H4 := Lib.hid h4
      have HO4 := Lib.hid (HO3.out.trans ho4)
      clear h4 ho4
      go_wp2_with fail
      go_end0
      exact ⟨rfl, H4.out, HO4.out⟩
end Go.Proofs.Ytbbjoelcbppfoaa.Br
