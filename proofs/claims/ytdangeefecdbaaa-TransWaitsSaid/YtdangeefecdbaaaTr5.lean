/- Chapter 15: the rows' function values do what they should; how they are made; whether a port that rests isn't at rest; operations under a guard. Conditions: the bridge lies in memory. -/
import Derived.Test.YtdangeefecdbaaaTr4
set_option linter.unusedSimpArgs false
set_option linter.unusedVariables false
namespace Go.Proofs.Ytdangeefecdbaaa.Br
open Go.RowKit
theorem yields_bif {P : Program} {ops : Array Oper} {S : World → Prop} {o : Oper} {a : Act} {c : Bool} {v : Value} (hw : Region.wanted o (yielded ops a.tmps) = c) (hy : c = true → ∀ w, S w → (execOp a.eval o).run P w = .ok (.value v) w) : YieldsIf P ops S o (bif c then v else undef) a := by
  cases c
  · exact .inr ⟨hw, rfl⟩
  · exact .inl ⟨hw, hy rfl⟩
theorem wpList_bif {P : Program} {ops : Array Oper} {rest : List Oper} {o : Oper} {a : Act} {w : World} {Q : Exit → Act → World → Prop} {c : Bool} {v : Value} (hw : Region.wanted o (yielded ops a.tmps) = c) (hy : c = true → (execOp a.eval o).run P w = .ok (.value v) w) (hk : wpList P ops Q rest (a.put o.dst (bif c then v else undef)) w) : wpList P ops Q (o :: rest) a w :=
  wpList_step fun K hK => by
    cases c
    · rw [hw, if_neg (by simp)]
      exact hK _ _ hk
    · rw [if_pos hw]
      unfold Oper.wp
      rw [hy rfl]
      exact hK _ _ hk
theorem wpList_val {P : Program} {ops : Array Oper} {rest : List Oper} {o : Oper} {a : Act} {w : World} {Q : Exit → Act → World → Prop} (hw : Region.wanted o (yielded ops a.tmps) = true) (v : Value) (h : (execOp a.eval o).run P w = .ok (.value v) w) (hk : wpList P ops Q rest (a.put o.dst v) w) : wpList P ops Q (o :: rest) a w :=
  wpList_step fun _ hK => by
    rw [if_pos hw]
    unfold Oper.wp
    rw [h]
    exact hK _ _ hk
theorem wanted_t {o : Oper} {ops : Array Oper} {tmps : Array Value} {j : Nat} {d : Bool} (hg : o.guard = some (j, true)) (hy : yielded ops tmps j = some d) : Region.wanted o (yielded ops tmps) = d := by
  unfold Region.wanted
  rw [hg]
  simp only [hy]
  cases d <;> rfl
theorem wanted_f {o : Oper} {ops : Array Oper} {tmps : Array Value} {j : Nat} {d : Bool} (hg : o.guard = some (j, false)) (hy : yielded ops tmps j = some d) : Region.wanted o (yielded ops tmps) = !d := by
  unfold Region.wanted
  rw [hg]
  simp only [hy]
  cases d <;> rfl
theorem yielded_bif {ops : Array Oper} {tmps : Array Value} {j : Nat} {c d : Bool} (h : ((ops[j]?).bind (·.dst)).bind (tmps[·]?) = some (bif c then .bool d else undef)) : yielded ops tmps j = bif c then some d else none := by
  unfold yielded
  rw [h]
  cases c <;> rfl
theorem wanted_ct {o : Oper} {ops : Array Oper} {tmps : Array Value} {j : Nat} {c d : Bool} (hg : o.guard = some (j, true)) (hy : yielded ops tmps j = bif c then some d else none) : Region.wanted o (yielded ops tmps) = (c && d) := by
  unfold Region.wanted
  rw [hg]
  simp only [hy]
  cases c <;> cases d <;> rfl
theorem wanted_cf {o : Oper} {ops : Array Oper} {tmps : Array Value} {j : Nat} {c d : Bool} (hg : o.guard = some (j, false)) (hy : yielded ops tmps j = bif c then some d else none) : Region.wanted o (yielded ops tmps) = (c && !d) := by
  unfold Region.wanted
  rw [hg]
  simp only [hy]
  cases c <;> cases d <;> rfl
theorem bldRow (x : Bool) (f : Nat) (bnd caps : Array Value) (w : World) : Sem.run Try.prog (Instr.build 61 #[(0, .bool x), (1, .func (.func f) bnd caps)]) w = .ok (.agg #[.bool x, .func (.func f) bnd caps]) w := by kernel_rfl
theorem mkRows1 (x0 : Bool) (f0 : Nat) (b0 c0 : Array Value) (w : World) : Sem.run Try.prog (Instr.buildSlice 58 1 #[(0, .agg #[.bool x0, .func (.func f0) b0 c0])]) w = .ok (.slice (some ⟨w.heap.size, 0, none⟩) 1 1) (w.alloc (.cells #[.bool x0, .func (.func f0) b0 c0] 61)) := by kernel_rfl
theorem mkRows2 (x0 : Bool) (f0 : Nat) (b0 c0 : Array Value) (x1 : Bool) (f1 : Nat) (b1 c1 : Array Value) (w : World) : Sem.run Try.prog (Instr.buildSlice 58 2 #[(0, .agg #[.bool x0, .func (.func f0) b0 c0]), (1, .agg #[.bool x1, .func (.func f1) b1 c1])]) w = .ok (.slice (some ⟨w.heap.size, 0, none⟩) 2 2) (w.alloc (.cells #[.bool x0, .func (.func f0) b0 c0, .bool x1, .func (.func f1) b1 c1] 61)) := by kernel_rfl
theorem mkRows4 (x0 : Bool) (f0 : Nat) (b0 c0 : Array Value) (x1 : Bool) (f1 : Nat) (b1 c1 : Array Value) (x2 : Bool) (f2 : Nat) (b2 c2 : Array Value) (x3 : Bool) (f3 : Nat) (b3 c3 : Array Value) (w : World) : Sem.run Try.prog (Instr.buildSlice 58 4 #[(0, .agg #[.bool x0, .func (.func f0) b0 c0]), (1, .agg #[.bool x1, .func (.func f1) b1 c1]), (2, .agg #[.bool x2, .func (.func f2) b2 c2]), (3, .agg #[.bool x3, .func (.func f3) b3 c3])]) w = .ok (.slice (some ⟨w.heap.size, 0, none⟩) 4 4) (w.alloc (.cells #[.bool x0, .func (.func f0) b0 c0, .bool x1, .func (.func f1) b1 c1, .bool x2, .func (.func f2) b2 c2, .bool x3, .func (.func f3) b3 c3] 61)) := by kernel_rfl
theorem mkRows5 (x0 : Bool) (f0 : Nat) (b0 c0 : Array Value) (x1 : Bool) (f1 : Nat) (b1 c1 : Array Value) (x2 : Bool) (f2 : Nat) (b2 c2 : Array Value) (x3 : Bool) (f3 : Nat) (b3 c3 : Array Value) (x4 : Bool) (f4 : Nat) (b4 c4 : Array Value) (w : World) : Sem.run Try.prog (Instr.buildSlice 58 5 #[(0, .agg #[.bool x0, .func (.func f0) b0 c0]), (1, .agg #[.bool x1, .func (.func f1) b1 c1]), (2, .agg #[.bool x2, .func (.func f2) b2 c2]), (3, .agg #[.bool x3, .func (.func f3) b3 c3]), (4, .agg #[.bool x4, .func (.func f4) b4 c4])]) w = .ok (.slice (some ⟨w.heap.size, 0, none⟩) 5 5) (w.alloc (.cells #[.bool x0, .func (.func f0) b0 c0, .bool x1, .func (.func f1) b1 c1, .bool x2, .func (.func f2) b2 c2, .bool x3, .func (.func f3) b3 c3, .bool x4, .func (.func f4) b4 c4] 61)) := by kernel_rfl
theorem mkRows6 (x0 : Bool) (f0 : Nat) (b0 c0 : Array Value) (x1 : Bool) (f1 : Nat) (b1 c1 : Array Value) (x2 : Bool) (f2 : Nat) (b2 c2 : Array Value) (x3 : Bool) (f3 : Nat) (b3 c3 : Array Value) (x4 : Bool) (f4 : Nat) (b4 c4 : Array Value) (x5 : Bool) (f5 : Nat) (b5 c5 : Array Value) (w : World) : Sem.run Try.prog (Instr.buildSlice 58 6 #[(0, .agg #[.bool x0, .func (.func f0) b0 c0]), (1, .agg #[.bool x1, .func (.func f1) b1 c1]), (2, .agg #[.bool x2, .func (.func f2) b2 c2]), (3, .agg #[.bool x3, .func (.func f3) b3 c3]), (4, .agg #[.bool x4, .func (.func f4) b4 c4]), (5, .agg #[.bool x5, .func (.func f5) b5 c5])]) w = .ok (.slice (some ⟨w.heap.size, 0, none⟩) 6 6) (w.alloc (.cells #[.bool x0, .func (.func f0) b0 c0, .bool x1, .func (.func f1) b1 c1, .bool x2, .func (.func f2) b2 c2, .bool x3, .func (.func f3) b3 c3, .bool x4, .func (.func f4) b4 c4, .bool x5, .func (.func f5) b5 c5] 61)) := by kernel_rfl
theorem does_agrees {W : World} {bx g k : Nat} {b : Bri} {ps ss : Nat → Rec} {fs : Nat → Int} {p : Rec} (h : Bst W bx g b (upd ps k p) ss fs) (hk : k < b.n) : Does bx g b ss fs W (.func (.func 41) #[.agg #[.pointer (some ⟨bx, 0, none⟩), .int .i64 k, .pointer (some ⟨g, k * 89, none⟩), .pointer (some ⟨g, k * 89 + 22, none⟩), .pointer (some ⟨g, k * 89 + 6, none⟩)]] #[]) (upd ps k (agreeF p)) :=
  ⟨_, _, _, rfl, fun args w => enters Try.func41 (by kernel_rfl) rfl args w, fun w' hb => agrees_any w' bx g k b ps ss fs p (h.below hb) hk⟩
theorem does_learns {W : World} {bx g k : Nat} {b : Bri} {ps ss : Nat → Rec} {fs : Nat → Int} {p : Rec} (h : Bst W bx g b (upd ps k p) ss fs) (hk : k < b.n) : Does bx g b ss fs W (.func (.func 46) #[.agg #[.pointer (some ⟨bx, 0, none⟩), .int .i64 k, .pointer (some ⟨g, k * 89, none⟩), .pointer (some ⟨g, k * 89 + 22, none⟩), .pointer (some ⟨g, k * 89 + 6, none⟩)]] #[]) (upd ps k ((p.setB 28 true).setI 7 (fwdN b p))) :=
  ⟨_, _, _, rfl, fun args w => enters Try.func46 (by kernel_rfl) rfl args w, fun w' hb => learns_any w' bx g k b ps ss fs p (h.below hb) hk⟩
theorem does_reroots {W : World} {bx g k : Nat} {b : Bri} {ps ss : Nat → Rec} {fs : Nat → Int} {p : Rec} (h : Bst W bx g b (upd ps k p) ss fs) (hk : k < b.n) (hn : b.n ≤ 1000) : Does bx g b ss fs W (.func (.func 45) #[.agg #[.pointer (some ⟨bx, 0, none⟩), .int .i64 k, .pointer (some ⟨g, k * 89, none⟩), .pointer (some ⟨g, k * 89 + 22, none⟩), .pointer (some ⟨g, k * 89 + 6, none⟩)]] #[]) (upd (allB 42 ps) k (p.setB 42 true)) :=
  ⟨_, _, _, rfl, fun args w => enters Try.func45 (by kernel_rfl) rfl args w, fun w' hb => reroots_any w' bx g k b ps ss fs p (h.below hb) hk hn⟩
theorem does_syncs {W : World} {bx g k : Nat} {b : Bri} {ps ss : Nat → Rec} {fs : Nat → Int} {p : Rec} (h : Bst W bx g b (upd ps k p) ss fs) (hk : k < b.n) (hn : b.n ≤ 1000) : Does bx g b ss fs W (.func (.func 56) #[.agg #[.pointer (some ⟨bx, 0, none⟩), .int .i64 k, .pointer (some ⟨g, k * 89, none⟩), .pointer (some ⟨g, k * 89 + 22, none⟩), .pointer (some ⟨g, k * 89 + 6, none⟩)]] #[]) (upd (allB 46 ps) k ((p.setB 46 true).setB 33 false)) :=
  ⟨_, _, _, rfl, fun args w => enters Try.func56 (by kernel_rfl) rfl args w, fun w' hb => syncs_any w' bx g k b ps ss fs p (h.below hb) hk hn⟩
theorem does_enter {W : World} {bx g k : Nat} {b : Bri} {ps ss : Nat → Rec} {fs : Nat → Int} {p : Rec} (h : Bst W bx g b (upd ps k p) ss fs) (hk : k < b.n) {gx : Nat} (hX : W.heap[gx]? = some (.cells #[.pointer (some ⟨bx, 0, none⟩), .int .i64 k, .pointer (some ⟨g, k * 89, none⟩), .pointer (some ⟨g, k * 89 + 22, none⟩), .pointer (some ⟨g, k * 89 + 6, none⟩)] 57 (0, 0))) (ngx : ¬ gx = g) {gs : Nat} {s : Int} (hs : W.cell? ⟨gs, 0, none⟩ = some (.int .i64 s)) (nS : ¬ gs = g) (hs4 : s = 0 ∨ s = 2 ∨ s = 3 ∨ s = 4) : Does bx g b ss fs W (.func (.func 38) #[] #[.pointer (some ⟨gx, 0, none⟩), .pointer (some ⟨gs, 0, none⟩)]) (upd ps k (enterF b s p)) :=
  ⟨_, _, _, rfl, fun args w => enters Try.func38 (by kernel_rfl) rfl args w, fun w' hb => enter1_any w' bx g k b ps ss fs p (h.below hb) hk gx ((hb.block _ (Array.getElem?_eq_some_iff.1 hX).1).trans hX) ngx gs s ((hb.cell (p := ⟨gs, 0, none⟩) (cell_lt hs)).trans hs) nS hs4⟩
theorem does_rest {W : World} {bx g k : Nat} {b : Bri} {ps ss : Nat → Rec} {fs : Nat → Int} {p : Rec} (h : Bst W bx g b (upd ps k p) ss fs) (hk : k < b.n) {gx : Nat} (hX : W.heap[gx]? = some (.cells #[.pointer (some ⟨bx, 0, none⟩), .int .i64 k, .pointer (some ⟨g, k * 89, none⟩), .pointer (some ⟨g, k * 89 + 22, none⟩), .pointer (some ⟨g, k * 89 + 6, none⟩)] 57 (0, 0))) (ngx : ¬ gx = g) {gs : Nat} {s : Int} (hs : W.cell? ⟨gs, 0, none⟩ = some (.int .i64 s)) (nS : ¬ gs = g) {gd : Nat} {fd : Int} (hd : W.cell? ⟨gd, 0, none⟩ = some (.int .i64 fd)) (nD : ¬ gd = g) : Does bx g b ss fs W (.func (.func 39) #[] #[.pointer (some ⟨gd, 0, none⟩), .pointer (some ⟨gx, 0, none⟩), .pointer (some ⟨gs, 0, none⟩)]) (upd ps k (restF s fd p)) :=
  ⟨_, _, _, rfl, fun args w => enters Try.func39 (by kernel_rfl) rfl args w, fun w' hb => rest1_any w' bx g k b ps ss fs p (h.below hb) hk gx ((hb.block _ (Array.getElem?_eq_some_iff.1 hX).1).trans hX) ngx gs s ((hb.cell (p := ⟨gs, 0, none⟩) (cell_lt hs)).trans hs) nS gd fd ((hb.cell (p := ⟨gd, 0, none⟩) (cell_lt hd)).trans hd) nD⟩
theorem does_alt1 {W : World} {bx g k : Nat} {b : Bri} {ps ss : Nat → Rec} {fs : Nat → Int} {p : Rec} (h : Bst W bx g b (upd ps k p) ss fs) (hk : k < b.n) {gx : Nat} (hX : W.heap[gx]? = some (.cells #[.pointer (some ⟨bx, 0, none⟩), .int .i64 k, .pointer (some ⟨g, k * 89, none⟩), .pointer (some ⟨g, k * 89 + 22, none⟩), .pointer (some ⟨g, k * 89 + 6, none⟩)] 57 (0, 0))) (ngx : ¬ gx = g) {gs : Nat} {s : Int} (hs : W.cell? ⟨gs, 0, none⟩ = some (.int .i64 s)) (nS : ¬ gs = g) : Does bx g b ss fs W (.func (.func 42) #[] #[.pointer (some ⟨gs, 0, none⟩), .pointer (some ⟨gx, 0, none⟩)]) (upd ps k (p.setI 10 s)) :=
  ⟨_, _, _, rfl, fun args w => enters Try.func42 (by kernel_rfl) rfl args w, fun w' hb => alt1_any w' bx g k b ps ss fs p (h.below hb) hk gx ((hb.block _ (Array.getElem?_eq_some_iff.1 hX).1).trans hX) ngx gs s ((hb.cell (p := ⟨gs, 0, none⟩) (cell_lt hs)).trans hs) nS⟩
theorem does_root1 {W : World} {bx g k : Nat} {b : Bri} {ps ss : Nat → Rec} {fs : Nat → Int} {p : Rec} (h : Bst W bx g b (upd ps k p) ss fs) (hk : k < b.n) {gx : Nat} (hX : W.heap[gx]? = some (.cells #[.pointer (some ⟨bx, 0, none⟩), .int .i64 k, .pointer (some ⟨g, k * 89, none⟩), .pointer (some ⟨g, k * 89 + 22, none⟩), .pointer (some ⟨g, k * 89 + 6, none⟩)] 57 (0, 0))) (ngx : ¬ gx = g) {gf : Nat} (hF : W.cell? ⟨gf, 0, none⟩ = some (.pointer (some ⟨g, k * 89 + 22, none⟩))) (nF : ¬ gf = g) : Does bx g b ss fs W (.func (.func 44) #[] #[.pointer (some ⟨gx, 0, none⟩), .pointer (some ⟨gf, 0, none⟩)]) (upd ps k ((agreeF p).setB 46 false)) :=
  ⟨_, _, _, rfl, fun args w => enters Try.func44 (by kernel_rfl) rfl args w, fun w' hb => root1_any w' bx g k b ps ss fs p (h.below hb) hk gx ((hb.block _ (Array.getElem?_eq_some_iff.1 hX).1).trans hX) ngx gf ((hb.cell (p := ⟨gf, 0, none⟩) (cell_lt hF)).trans hF) nF⟩
theorem does_root2 {W : World} {bx g k : Nat} {b : Bri} {ps ss : Nat → Rec} {fs : Nat → Int} {p : Rec} (h : Bst W bx g b (upd ps k p) ss fs) (hk : k < b.n) {gx : Nat} (hX : W.heap[gx]? = some (.cells #[.pointer (some ⟨bx, 0, none⟩), .int .i64 k, .pointer (some ⟨g, k * 89, none⟩), .pointer (some ⟨g, k * 89 + 22, none⟩), .pointer (some ⟨g, k * 89 + 6, none⟩)] 57 (0, 0))) (ngx : ¬ gx = g) {gf : Nat} (hF : W.cell? ⟨gf, 0, none⟩ = some (.pointer (some ⟨g, k * 89 + 22, none⟩))) (nF : ¬ gf = g) : Does bx g b ss fs W (.func (.func 47) #[] #[.pointer (some ⟨gx, 0, none⟩), .pointer (some ⟨gf, 0, none⟩)]) (upd ps k ((p.setI 7 0).setB 26 true)) :=
  ⟨_, _, _, rfl, fun args w => enters Try.func47 (by kernel_rfl) rfl args w, fun w' hb => root2_any w' bx g k b ps ss fs p (h.below hb) hk gx ((hb.block _ (Array.getElem?_eq_some_iff.1 hX).1).trans hX) ngx gf ((hb.cell (p := ⟨gf, 0, none⟩) (cell_lt hF)).trans hF) nF⟩
theorem does_root3 {W : World} {bx g k : Nat} {b : Bri} {ps ss : Nat → Rec} {fs : Nat → Int} {p : Rec} (h : Bst W bx g b (upd ps k p) ss fs) (hk : k < b.n) {gf : Nat} (hF : W.cell? ⟨gf, 0, none⟩ = some (.pointer (some ⟨g, k * 89 + 22, none⟩))) (nF : ¬ gf = g) : Does bx g b ss fs W (.func (.func 48) #[] #[.pointer (some ⟨gf, 0, none⟩)]) (upd ps k (p.setB 42 false)) :=
  ⟨_, _, _, rfl, fun args w => enters Try.func48 (by kernel_rfl) rfl args w, fun w' hb => root3_any w' bx g k b ps ss fs p (h.below hb) hk gf ((hb.cell (p := ⟨gf, 0, none⟩) (cell_lt hF)).trans hF) nF⟩
theorem does_root4 {W : World} {bx g k : Nat} {b : Bri} {ps ss : Nat → Rec} {fs : Nat → Int} {p : Rec} (h : Bst W bx g b (upd ps k p) ss fs) (hk : k < b.n) {gx : Nat} (hX : W.heap[gx]? = some (.cells #[.pointer (some ⟨bx, 0, none⟩), .int .i64 k, .pointer (some ⟨g, k * 89, none⟩), .pointer (some ⟨g, k * 89 + 22, none⟩), .pointer (some ⟨g, k * 89 + 6, none⟩)] 57 (0, 0))) (ngx : ¬ gx = g) {gs : Nat} {s : Int} (hs : W.cell? ⟨gs, 0, none⟩ = some (.int .i64 s)) (nS : ¬ gs = g) : Does bx g b ss fs W (.func (.func 49) #[] #[.pointer (some ⟨gs, 0, none⟩), .pointer (some ⟨gx, 0, none⟩)]) (upd ps k (p.setI 12 s)) :=
  ⟨_, _, _, rfl, fun args w => enters Try.func49 (by kernel_rfl) rfl args w, fun w' hb => root4_any w' bx g k b ps ss fs p (h.below hb) hk gx ((hb.block _ (Array.getElem?_eq_some_iff.1 hX).1).trans hX) ngx gs s ((hb.cell (p := ⟨gs, 0, none⟩) (cell_lt hs)).trans hs) nS⟩
theorem does_des1 {W : World} {bx g k : Nat} {b : Bri} {ps ss : Nat → Rec} {fs : Nat → Int} {p : Rec} (h : Bst W bx g b (upd ps k p) ss fs) (hk : k < b.n) {gx : Nat} (hX : W.heap[gx]? = some (.cells #[.pointer (some ⟨bx, 0, none⟩), .int .i64 k, .pointer (some ⟨g, k * 89, none⟩), .pointer (some ⟨g, k * 89 + 22, none⟩), .pointer (some ⟨g, k * 89 + 6, none⟩)] 57 (0, 0))) (ngx : ¬ gx = g) {gf : Nat} (hF : W.cell? ⟨gf, 0, none⟩ = some (.pointer (some ⟨g, k * 89 + 22, none⟩))) (nF : ¬ gf = g) {gc : Nat} (hC : W.cell? ⟨gc, 0, none⟩ = some (.pointer (some ⟨g, k * 89 + 6, none⟩))) (nC : ¬ gc = g) : Does bx g b ss fs W (.func (.func 50) #[] #[.pointer (some ⟨gx, 0, none⟩), .pointer (some ⟨gf, 0, none⟩), .pointer (some ⟨gc, 0, none⟩)]) (upd ps k (propF b p)) :=
  ⟨_, _, _, rfl, fun args w => enters Try.func50 (by kernel_rfl) rfl args w, fun w' hb => des1_any w' bx g k b ps ss fs p (h.below hb) hk gx ((hb.block _ (Array.getElem?_eq_some_iff.1 hX).1).trans hX) ngx gf ((hb.cell (p := ⟨gf, 0, none⟩) (cell_lt hF)).trans hF) nF gc ((hb.cell (p := ⟨gc, 0, none⟩) (cell_lt hC)).trans hC) nC⟩
theorem does_des2 {W : World} {bx g k : Nat} {b : Bri} {ps ss : Nat → Rec} {fs : Nat → Int} {p : Rec} (h : Bst W bx g b (upd ps k p) ss fs) (hk : k < b.n) {gf : Nat} (hF : W.cell? ⟨gf, 0, none⟩ = some (.pointer (some ⟨g, k * 89 + 22, none⟩))) (nF : ¬ gf = g) {gc : Nat} (hC : W.cell? ⟨gc, 0, none⟩ = some (.pointer (some ⟨g, k * 89 + 6, none⟩))) (nC : ¬ gc = g) : Does bx g b ss fs W (.func (.func 52) #[] #[.pointer (some ⟨gc, 0, none⟩), .pointer (some ⟨gf, 0, none⟩)]) (upd ps k (syncedF p)) :=
  ⟨_, _, _, rfl, fun args w => enters Try.func52 (by kernel_rfl) rfl args w, fun w' hb => des2_any w' bx g k b ps ss fs p (h.below hb) hk gf ((hb.cell (p := ⟨gf, 0, none⟩) (cell_lt hF)).trans hF) nF gc ((hb.cell (p := ⟨gc, 0, none⟩) (cell_lt hC)).trans hC) nC⟩
theorem does_des3 {W : World} {bx g k : Nat} {b : Bri} {ps ss : Nat → Rec} {fs : Nat → Int} {p : Rec} (h : Bst W bx g b (upd ps k p) ss fs) (hk : k < b.n) {gf : Nat} (hF : W.cell? ⟨gf, 0, none⟩ = some (.pointer (some ⟨g, k * 89 + 22, none⟩))) (nF : ¬ gf = g) : Does bx g b ss fs W (.func (.func 53) #[] #[.pointer (some ⟨gf, 0, none⟩)]) (upd ps k (p.setB 42 false)) :=
  ⟨_, _, _, rfl, fun args w => enters Try.func53 (by kernel_rfl) rfl args w, fun w' hb => des3_any w' bx g k b ps ss fs p (h.below hb) hk gf ((hb.cell (p := ⟨gf, 0, none⟩) (cell_lt hF)).trans hF) nF⟩
theorem does_des4 {W : World} {bx g k : Nat} {b : Bri} {ps ss : Nat → Rec} {fs : Nat → Int} {p : Rec} (h : Bst W bx g b (upd ps k p) ss fs) (hk : k < b.n) {gx : Nat} (hX : W.heap[gx]? = some (.cells #[.pointer (some ⟨bx, 0, none⟩), .int .i64 k, .pointer (some ⟨g, k * 89, none⟩), .pointer (some ⟨g, k * 89 + 22, none⟩), .pointer (some ⟨g, k * 89 + 6, none⟩)] 57 (0, 0))) (ngx : ¬ gx = g) {gf : Nat} (hF : W.cell? ⟨gf, 0, none⟩ = some (.pointer (some ⟨g, k * 89 + 22, none⟩))) (nF : ¬ gf = g) {gc : Nat} (hC : W.cell? ⟨gc, 0, none⟩ = some (.pointer (some ⟨g, k * 89 + 6, none⟩))) (nC : ¬ gc = g) : Does bx g b ss fs W (.func (.func 54) #[] #[.pointer (some ⟨gf, 0, none⟩), .pointer (some ⟨gx, 0, none⟩), .pointer (some ⟨gc, 0, none⟩)]) (upd ps k (stopF b p)) :=
  ⟨_, _, _, rfl, fun args w => enters Try.func54 (by kernel_rfl) rfl args w, fun w' hb => des4_any w' bx g k b ps ss fs p (h.below hb) hk gx ((hb.block _ (Array.getElem?_eq_some_iff.1 hX).1).trans hX) ngx gf ((hb.cell (p := ⟨gf, 0, none⟩) (cell_lt hF)).trans hF) nF gc ((hb.cell (p := ⟨gc, 0, none⟩) (cell_lt hC)).trans hC) nC⟩
theorem does_des5 {W : World} {bx g k : Nat} {b : Bri} {ps ss : Nat → Rec} {fs : Nat → Int} {p : Rec} (h : Bst W bx g b (upd ps k p) ss fs) (hk : k < b.n) {gf : Nat} (hF : W.cell? ⟨gf, 0, none⟩ = some (.pointer (some ⟨g, k * 89 + 22, none⟩))) (nF : ¬ gf = g) {gc : Nat} (hC : W.cell? ⟨gc, 0, none⟩ = some (.pointer (some ⟨g, k * 89 + 6, none⟩))) (nC : ¬ gc = g) : Does bx g b ss fs W (.func (.func 55) #[] #[.pointer (some ⟨gf, 0, none⟩), .pointer (some ⟨gc, 0, none⟩)]) (upd ps k (openF p)) :=
  ⟨_, _, _, rfl, fun args w => enters Try.func55 (by kernel_rfl) rfl args w, fun w' hb => des5_any w' bx g k b ps ss fs p (h.below hb) hk gf ((hb.cell (p := ⟨gf, 0, none⟩) (cell_lt hF)).trans hF) nF gc ((hb.cell (p := ⟨gc, 0, none⟩) (cell_lt hC)).trans hC) nC⟩
set_option maxRecDepth 100000 in
set_option maxHeartbeats 4000000 in
theorem enter_any (w : World) (bx g k : Nat) (b : Bri) (ps ss : Nat → Rec) (fs : Nat → Int) (p : Rec) (h : Bst w bx g b (upd ps k p) ss fs) (hk : k < b.n) (s : Int) (hs4 : s = 0 ∨ s = 2 ∨ s = 3 ∨ s = 4) : Calls Try.prog 27 #[.agg #[.pointer (some ⟨bx, 0, none⟩), .int .i64 k, .pointer (some ⟨g, k * 89, none⟩), .pointer (some ⟨g, k * 89 + 22, none⟩), .pointer (some ⟨g, k * 89 + 6, none⟩)], .int .i64 s] w fun e w' => ∃ f bnd caps, e = .returned (.func (.func f) bnd caps) ∧ Does bx g b ss fs w' (.func (.func f) bnd caps) (upd ps k (enterF b s p)) ∧ Below w.heap.size w w' := by
  have hgl := h.p.lt
  have hb2 : Below w.heap.size w ((w.alloc (.cells #[.pointer (some ⟨bx, 0, none⟩), .int .i64 k, .pointer (some ⟨g, k * 89, none⟩), .pointer (some ⟨g, k * 89 + 22, none⟩), .pointer (some ⟨g, k * 89 + 6, none⟩)] 57)).alloc (.cells #[.int .i64 s] 3)) := more (more (Below.refl _ _) _) _
  have HB2 := Lib.hid hb2
  have HD := Lib.hid (does_enter (h.below hb2) hk (gx := w.heap.size) (gs := w.heap.size + 1) (at_old (by simp) (at_new rfl)) (by omega) (s := s) (by simp [go_sem]) (by omega) hs4)
  clear h hb2
  go_enter Try.func27, Try.ntmps27
  go_wp2_with fail
  go_ret
  exact ⟨_, _, _, rfl, HD.out, HB2.out⟩
set_option maxRecDepth 100000 in
set_option maxHeartbeats 4000000 in
theorem rest_any (w : World) (bx g k : Nat) (b : Bri) (ps ss : Nat → Rec) (fs : Nat → Int) (p : Rec) (h : Bst w bx g b (upd ps k p) ss fs) (hk : k < b.n) (s fd : Int) : Calls Try.prog 28 #[.agg #[.pointer (some ⟨bx, 0, none⟩), .int .i64 k, .pointer (some ⟨g, k * 89, none⟩), .pointer (some ⟨g, k * 89 + 22, none⟩), .pointer (some ⟨g, k * 89 + 6, none⟩)], .int .i64 s, .int .i64 fd] w fun e w' => ∃ f bnd caps, e = .returned (.func (.func f) bnd caps) ∧ Does bx g b ss fs w' (.func (.func f) bnd caps) (upd ps k (restF s fd p)) ∧ Below w.heap.size w w' := by
  have hgl := h.p.lt
  have hb2 : Below w.heap.size w (((w.alloc (.cells #[.pointer (some ⟨bx, 0, none⟩), .int .i64 k, .pointer (some ⟨g, k * 89, none⟩), .pointer (some ⟨g, k * 89 + 22, none⟩), .pointer (some ⟨g, k * 89 + 6, none⟩)] 57)).alloc (.cells #[.int .i64 s] 3)).alloc (.cells #[.int .i64 fd] 3)) := more (more (more (Below.refl _ _) _) _) _
  have HB2 := Lib.hid hb2
  have HD := Lib.hid (does_rest (h.below hb2) hk (gx := w.heap.size) (gs := w.heap.size + 1) (gd := w.heap.size + 1 + 1) (at_old (by simp; omega) (at_old (by simp) (at_new rfl))) (by omega) (s := s) (by simp [go_sem]) (by omega) (fd := fd) (by simp [go_sem]) (by omega))
  clear h hb2
  go_enter Try.func28, Try.ntmps28
  go_wp2_with fail
  go_ret
  exact ⟨_, _, _, rfl, HD.out, HB2.out⟩
/-- Is a port that rests not at rest? -/
def restlessF (fd : Int) (p : Rec) : Bool := p.i 7 != fd || p.b 46 || p.b 42 || !p.b 47
set_option maxRecDepth 100000 in
set_option maxHeartbeats 4000000 in
theorem restless_any (w : World) (bx g k : Nat) (b : Bri) (ps ss : Nat → Rec) (fs : Nat → Int) (p : Rec) (h : Bst w bx g b (upd ps k p) ss fs) (hk : k < b.n) (fd : Int) : Calls Try.prog 29 #[.agg #[.pointer (some ⟨bx, 0, none⟩), .int .i64 k, .pointer (some ⟨g, k * 89, none⟩), .pointer (some ⟨g, k * 89 + 22, none⟩), .pointer (some ⟨g, k * 89 + 6, none⟩)], .int .i64 fd] w fun e w' => e = .returned (.bool (restlessF fd p)) ∧ Below w.heap.size w w' := by
  obtain ⟨vv, hvv⟩ : ∃ x, x = restlessF fd p := ⟨_, rfl⟩
  rw [← hvv]
  have HV := Lib.hid hvv
  clear hvv
  go_enter Try.func29, Try.ntmps29
  go_upto_region 1 with (fail)
  refine ((?_ : ∀ x, x = w.alloc (.cells #[.pointer (some ⟨bx, 0, none⟩), .int .i64 k, .pointer (some ⟨g, k * 89, none⟩), .pointer (some ⟨g, k * 89 + 22, none⟩), .pointer (some ⟨g, k * 89 + 6, none⟩)] 57) → Code.wp _ _ _ _ x) _ rfl)
  intro w1 hw1
  obtain ⟨gx, hgx⟩ : ∃ x, x = w.heap.size := ⟨_, rfl⟩
  rw [← hgx]
  have hX1 : w1.heap[gx]? = some (.cells #[.pointer (some ⟨bx, 0, none⟩), .int .i64 k, .pointer (some ⟨g, k * 89, none⟩), .pointer (some ⟨g, k * 89 + 22, none⟩), .pointer (some ⟨g, k * 89 + 6, none⟩)] 57 (0, 0)) := by rw [hw1, hgx]; exact heap_alloc_new _ _
  have h1 : Bst w1 bx g b (upd ps k p) ss fs := by rw [hw1]; exact h.below (more (Below.refl _ _) _)
  have hbw : Below w.heap.size w w1 := by rw [hw1]; exact more (Below.refl _ _) _
  have HBW := Lib.hid hbw
  have HGX := Lib.hid hgx
  have ho1 : Only (· = g) w w1 := by rw [hw1]; exact (Only.refl _ _).alloc _
  have ngx : ¬ gx = g := by have := h.p.lt; omega
  have nxg : ¬ g = gx := by have := h.p.lt; omega
  have nxb : ¬ gx = bx := by have := h.lt; omega
  have H1 := Lib.hid h1
  have HO1 := Lib.hid ho1
  have lx := (Array.getElem?_eq_some_iff.1 hX1).1
  have HX1 := Lib.hid hX1
  clear hw1 hgx hX1 h1 ho1 h hbw
  have x0 : w1.cell? ⟨gx, 0, none⟩ = some (.pointer (some ⟨bx, 0, none⟩)) := cells_of HX1.out 0
  have x1 : w1.cell? ⟨gx, 1, none⟩ = some (.int .i64 k) := cells_of HX1.out 1
  have x2 : w1.cell? ⟨gx, 2, none⟩ = some (.pointer (some ⟨g, k * 89, none⟩)) := cells_of HX1.out 2
  have x3 : w1.cell? ⟨gx, 3, none⟩ = some (.pointer (some ⟨g, k * 89 + 22, none⟩)) := cells_of HX1.out 3
  have x4 : w1.cell? ⟨gx, 4, none⟩ = some (.pointer (some ⟨g, k * 89 + 6, none⟩)) := cells_of HX1.out 4
  clear x0 x1 x2 HO1 ngx nxg nxb
  have c7 : w1.cell? ⟨g, k * 89 + 6 + 1, none⟩ = some (.int .i64 (p.i 7)) := (H1.out.p.cell hk (j := 7) (by omega)).trans (by rw [upd_same]; rfl)
  have c46 : w1.cell? ⟨g, k * 89 + 22 + 24, none⟩ = some (.bool (p.b 46)) := (H1.out.p.cell hk (j := 46) (by omega)).trans (by rw [upd_same]; rfl)
  have c42 : w1.cell? ⟨g, k * 89 + 22 + 20, none⟩ = some (.bool (p.b 42)) := (H1.out.p.cell hk (j := 42) (by omega)).trans (by rw [upd_same]; rfl)
  have c47 : w1.cell? ⟨g, k * 89 + 22 + 25, none⟩ = some (.bool (p.b 47)) := (H1.out.p.cell hk (j := 47) (by omega)).trans (by rw [upd_same]; rfl)
  cases e1 : (p.i 7 != fd) <;> cases e2 : p.b 46 <;> cases e3 : p.b 42 <;> cases e4 : p.b 47
  all_goals
    have hE := HV.out
    unfold restlessF at hE
    rw [e1, e2, e3, e4] at hE
    have HE := Lib.hid hE
    clear hE
    rw [e2] at c46
    rw [e3] at c42
    rw [e4] at c47
    clear HV e2 e3 e4
    go_wp2_with fail
    go_ret
    exact ⟨by rw [HE.out]; rfl, HBW.out⟩
end Go.Proofs.Ytdangeefecdbaaa.Br
