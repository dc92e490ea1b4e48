/- Chapter 5: a map of numbers to bytes that the call has made; flags, roles, seconds as a message tells them (ford/bpdu.bit, told, flags, meant, ford/times.To, From). No condition but that 256ths are below 65536. -/
import Derived.Test.YtehapoilfmgjgaaMg
import Derived.Deep.QuietTactic
import Derived.BigQuiet
import Derived.Deep.MidRow
set_option linter.unusedSimpArgs false
set_option linter.unusedVariables false
namespace Go.Proofs.Ytehapoilfmgjgaa.Oct
open Go.RowKit
/-! ### A region that draws its order, in all worlds that hold what one held -/
section
variable {P : Program} {C : World → Prop} {K : Act → Prop} {a : Act} {o : Oper}
theorem quiet_row (ty : TypeId) (x : Operand) (ho : o.op = .load ty x) (b off : Nat) (hx : a.eval x = .pointer (some ⟨b, off, none⟩)) (cs : Array Value) (d : TypeDesc) (hc : ∀ w, C w → w.rangeAt b off cs.toList)
    (hu : P.underlying ty = some d) (hd : d.isRow = true) (hi : (P.info? ty).map (·.size) = some cs.size) (hk : K (a.put o.dst (.agg cs))) : o.quiet P a C K :=
  ⟨_, fun w hw => by
    unfold Oper.quietAt execOp
    simp only [ho, hx, Instr.loadAt, Instr.sureAddr, Sem.run_bind, Sem.run_pure, Result.andThen_ok, run_loadVar_mid w b off ty cs.toList d (hc w hw) hu hd (by simpa using hi)]
    exact ⟨rfl, rfl⟩, hk⟩
end
/-- A world that holds, below block B, what W holds. -/
structure Old (B : Nat) (W : World) where
  w : World
  h : Below B W w
theorem Old.some (B : Nat) (W : World) : Nonempty (Old B W) := ⟨⟨W, Below.refl _ _⟩⟩
/-- A region that draws its order: all its operations read, or call what makes new memory alone. -/
theorem wp_region_old {P : Program} {id : Nat} {Q : Exit → Act → World → Prop} {a : Act} {w : World} {l : List Oper} (B : Nat) (hm : P.follows .mixedOrders = true) (hB : Region.lexB .any l.toArray = true)
    (h : wpQuiet P l.toArray (fun w' => ∃ y : Old B w, w' = y.w) (fun a' => ∀ w', (∃ y : Old B w, w' = y.w) → Q .normal a' w') l a) : (Code.region id l.toArray true).wp P Q a w :=
  wp_region_quiet (C := fun w' => ∃ y : Old B w, w' = y.w) hm hB ⟨⟨_, (Below.refl B w).drew⟩, rfl⟩ (by simpa using h)
/-- A callee that makes new memory alone. -/
theorem Calls.old {P : Program} {f : FuncId} {args : Array Value} {B : Nat} {W : World} {y : Old B W} {v : Value} (hB : B ≤ W.heap.size)
    (h : Calls P f args y.w fun e w' => e = .returned v ∧ Below y.w.heap.size y.w w') : Calls P f args y.w fun e w' => e = .returned v ∧ ∃ z : Old B W, w' = z.w :=
  h.mono fun _ w' ⟨he, hb⟩ => ⟨he, ⟨w', y.h.trans (hb.mono (Nat.le_trans hB y.h.size))⟩, rfl⟩
/-! ### A whole thing, loaded out of the midst of a block, stored into a new block -/
section
variable {P : Program} {ops : Array Oper} {rest : List Oper} {o : Oper} {a : Act} {w : World} {Q : Exit → Act → World → Prop}
theorem wpList_row (hgd : o.guard = none) (ty : TypeId) (x : Operand) (ho : o.op = .load ty x) (b off : Nat) (hx : a.eval x = .pointer (some ⟨b, off, none⟩)) (cs : Array Value) (d : TypeDesc) (hc : w.rangeAt b off cs.toList)
    (hu : P.underlying ty = some d) (hd : d.isRow = true) (hi : (P.info? ty).map (·.size) = some cs.size) (h : wpList P ops Q rest (a.put o.dst (.agg cs)) w) : wpList P ops Q (o :: rest) a w :=
  wpList_load_mid hgd ty x ho b off hx cs.toList d hc hu hd (by simpa using hi) (by simpa using h)
theorem setRow_alloc (w : World) (C cs : Array Value) (T : TypeId) : (w.alloc (.cells C T)).setRow w.heap.size cs = w.alloc (.cells cs T) := by
  unfold World.setRow World.alloc
  congr 1
  apply Array.ext_getElem?
  intro i
  rw [Array.getElem?_modify, Array.getElem?_push, Array.getElem?_push]
  by_cases h : i = w.heap.size
  · subst h
    simp
  · rw [if_neg (fun e => h e.symm), if_neg h, if_neg h]
theorem wpList_store_new (hgd : o.guard = none) (ty : TypeId) (x y : Operand) (ho : o.op = .store ty x y) (w0 : World) (C : Array Value) (T : TypeId) (cells : Array Value) (hw : w = w0.alloc (.cells C T))
    (hx : a.eval x = .pointer (some ⟨w0.heap.size, 0, none⟩)) (hy : a.eval y = .agg cells) (hi : (P.info? ty).map (·.size) = some cells.size) (hold : C.size = cells.size) (h1 : cells.all (·.oneCell') = true)
    (h : wpList P ops Q rest (a.put o.dst undef) (w0.alloc (.cells cells T))) : wpList P ops Q (o :: rest) a w := by
  subst hw
  refine wpList_store_row hgd ty x y ho w0.heap.size cells hx hy T C (heap_alloc_new _ _) hi hold h1 ?_
  rw [setRow_alloc]
  exact h
end
/-! ### A map -/
theorem ck (e : Bool) (n : Nat) (k : Int) (w : World) : Sem.run Try.prog (Instr.checkKey e (n + 1) 3 (.int .i64 k)) w = .ok () w := by
  unfold Instr.checkKey
  simp [go_sem, Try.underlying3]
theorem fk (es : Array MapEntry) (k : Int) (r : Option (Nat × Value)) (w : World) (hf : Instr.findNow (.int .i64) (.int .i64 k) es.toList 0 = some r) : Sem.run Try.prog (Instr.findKey 3 (.int .i64 k) es.toList) w = .ok r w := by
  unfold Instr.findKey
  simp [go_sem, Try.underlying3, hf]
theorem gm (w : World) (r : Nat) (es : Array MapEntry) (clock : Nat) (h : w.heap[r]? = some (.map es clock)) : (getObj r).run Try.prog w = .ok (.map es clock) w := by simp [getObj, Sem.run, h]
/-- A block holds another thing. -/
def setObjW (w : World) (r : Nat) (o : Obj) : World := { w with heap := w.heap.setIfInBounds r o }
theorem smp (w : World) (r : Nat) (es : Array MapEntry) (clock : Nat) (o : Obj) (h : w.heap[r]? = some (.map es clock)) : (setObj r o).run Try.prog w = .ok () (setObjW w r o) := by simp [setObj, Sem.run, h, setObjW]
theorem setObjW_at {w : World} {r : Nat} {o o' : Obj} (h : w.heap[r]? = some o') : (setObjW w r o).heap[r]? = some o := by
  unfold setObjW
  have := (Array.getElem?_eq_some_iff.1 h).1
  simp [Array.getElem?_setIfInBounds, this]
theorem setObjW_other {w : World} {r j : Nat} {o : Obj} (h : r ≠ j) : (setObjW w r o).heap[j]? = w.heap[j]? := by
  unfold setObjW
  simp [Array.getElem?_setIfInBounds, h]
theorem setObjW_size (w : World) (r : Nat) (o : Obj) : (setObjW w r o).heap.size = w.heap.size := by simp [setObjW]
theorem Below.setObjW {B : Nat} {w w' : World} {r : Nat} {o : Obj} (h : Below B w w') (hr : B ≤ r) : Below B w (setObjW w' r o) :=
  ⟨h.os, h.tape, h.output, by rw [setObjW_size]; exact h.size, fun k hk => by rw [setObjW_other (by omega)]; exact h.block k hk⟩
theorem map_get (w : World) (r : Nat) (es : Array MapEntry) (clock : Nat) (h : w.heap[r]? = some (.map es clock)) (k : Int) (i : Nat) (v : Value) (hf : Instr.findNow (.int .i64) (.int .i64 k) es.toList 0 = some (some (i, v))) : Sem.run Try.prog (Instr.lookup 53 (.map (some r)) (.int .i64 k) false) w = .ok v w := by
  have hc : ∀ e, Sem.run Try.prog (Instr.checkKey e 10000 3 (.int .i64 k)) w = .ok () w := fun e => ck e 9999 k w
  have hk := fk es k _ w hf
  unfold Instr.lookup
  simp [go_sem, gm w r es clock h, hc, hk, Try.underlying53]
theorem map_none (w : World) (r : Nat) (es : Array MapEntry) (clock : Nat) (h : w.heap[r]? = some (.map es clock)) (k : Int) (hf : Instr.findNow (.int .i64) (.int .i64 k) es.toList 0 = some none) : Sem.run Try.prog (Instr.lookup 53 (.map (some r)) (.int .i64 k) false) w = .ok (.slice none 0 0) w := by
  have hc : ∀ e, Sem.run Try.prog (Instr.checkKey e 10000 3 (.int .i64 k)) w = .ok () w := fun e => ck e 9999 k w
  have hk := fk es k _ w hf
  unfold Instr.lookup
  simp [go_sem, gm w r es clock h, hc, hk, Try.underlying53]
theorem map_put (w : World) (r : Nat) (es : Array MapEntry) (clock : Nat) (h : w.heap[r]? = some (.map es clock)) (k : Int) (v : Value) (hf : Instr.findNow (.int .i64) (.int .i64 k) es.toList 0 = some none) : Sem.run Try.prog (Instr.mapUpdate 53 (.map (some r)) (.int .i64 k) v) w = .ok () (setObjW w r (.map (es.push ⟨.int .i64 k, v, clock⟩) (clock + 1))) := by
  have hc : ∀ e, Sem.run Try.prog (Instr.checkKey e 10000 3 (.int .i64 k)) w = .ok () w := fun e => ck e 9999 k w
  have hk := fk es k _ w hf
  unfold Instr.mapUpdate
  simp [go_sem, gm w r es clock h, smp w r es clock _ h, hc, hk, Try.underlying53]
theorem wpList_insert {ops : Array Oper} {rest : List Oper} {o : Oper} {a : Act} {w : World} {Q : Exit → Act → World → Prop} (hgd : o.guard = none) (m k x : Operand) (ho : o.op = .insert 53 m k x) (r : Nat) (es : Array MapEntry) (clock : Nat) (kk : Int) (v : Value)
    (hm : a.eval m = .map (some r)) (hk : a.eval k = .int .i64 kk) (hx : a.eval x = v) (h : w.heap[r]? = some (.map es clock)) (hf : Instr.findNow (.int .i64) (.int .i64 kk) es.toList 0 = some none)
    (hn : wpList Try.prog ops Q rest (a.put o.dst undef) (setObjW w r (.map (es.push ⟨.int .i64 kk, v, clock⟩) (clock + 1)))) : wpList Try.prog ops Q (o :: rest) a w :=
  wpList_plain hgd fun _ hK => by
    unfold Oper.wp execOp
    simp only [ho, hm, hk, hx, Sem.run_bind, map_put w r es clock h kk v hf, Result.andThen_ok, Sem.run_pure]
    exact hK _ _ hn
/-! ### Flags, roles, seconds -/
theorem bit_any (is : Bool) (n : Int) (w : World) : Calls Try.prog 28 #[.bool is, .int .i64 n] w fun e w' => e = .returned (.int .i64 (bitN is n)) ∧ Below w.heap.size w w' := by
  unfold bitN
  cases is <;>
    (go_enter Try.func28, Try.ntmps28
     go_wp2_with fail
     go_ret
     exact ⟨rfl, Below.refl _ _⟩)
theorem told_any (r : Int) (w : World) : Calls Try.prog 29 #[.int .i64 r] w fun e w' => e = .returned (.int .i64 (toldN r)) ∧ Below w.heap.size w w' := by
  obtain ⟨vv, hvv⟩ : ∃ x, x = toldN r := ⟨_, rfl⟩
  rw [← hvv]
  have HV := Lib.hid hvv
  clear hvv
  go_enter Try.func29, Try.ntmps29
  by_cases h1 : r = 1
  · have HE := Lib.hid (show vv = 1 by rw [HV.out, h1]; rfl)
    subst h1
    go_wp2_with fail
    go_ret
    exact ⟨by rw [HE.out]; rfl, Below.refl _ _⟩
  by_cases h2 : r = 2
  · have HE := Lib.hid (show vv = 1 by rw [HV.out, h2]; rfl)
    subst h2
    go_wp2_with fail
    go_ret
    exact ⟨by rw [HE.out]; rfl, Below.refl _ _⟩
  by_cases h3 : r = 3
  · have HE := Lib.hid (show vv = 2 by rw [HV.out, h3]; rfl)
    subst h3
    go_wp2_with fail
    go_ret
    exact ⟨by rw [HE.out]; rfl, Below.refl _ _⟩
  by_cases h4 : r = 4
  · have HE := Lib.hid (show vv = 3 by rw [HV.out, h4]; rfl)
    subst h4
    go_wp2_with fail
    go_ret
    exact ⟨by rw [HE.out]; rfl, Below.refl _ _⟩
  have HE := Lib.hid (show vv = 0 by rw [HV.out]; unfold toldN; rw [if_neg (by omega), if_neg h3, if_neg h4])
  have d1 : (r == 1) = false := by simp [h1]
  have d2 : (r == 2) = false := by simp [h2]
  have d3 : (r == 3) = false := by simp [h3]
  have d4 : (r == 4) = false := by simp [h4]
  clear h1 h2 h3 h4
  go_wp2_with fail
  go_ret
  exact ⟨by rw [HE.out]; rfl, Below.refl _ _⟩
theorem exec_max {o : Oper} {a : Act} {w : World} (x y : Operand) (t u : TypeId) (ho : o.op = .call { callee := .builtin .max, args := #[x, y], argTypes := #[t, u] }) (m n : Int) (hx : a.eval x = .int .i64 m) (hy : a.eval y = .int .i64 n) : (execOp a.eval o).run Try.prog w = .ok (.value (.int .i64 (max m n))) w := by
  unfold execOp
  have hr : Sem.run Try.prog (Builtin.max_ #[t, u] o.type #[.int .i64 m, .int .i64 n]) w = .ok (.int .i64 (max m n)) w := by
    simp [go_sem]
    split <;> omega
  simp only [ho, resolve, invoke, builtin, Sem.run_bind, Sem.run_pure, Result.andThen_ok, List.map_toArray, List.map_cons, List.map_nil, hx, hy, hr]
theorem exec_min {o : Oper} {a : Act} {w : World} (x y : Operand) (t u : TypeId) (ho : o.op = .call { callee := .builtin .min, args := #[x, y], argTypes := #[t, u] }) (m n : Int) (hx : a.eval x = .int .i64 m) (hy : a.eval y = .int .i64 n) : (execOp a.eval o).run Try.prog w = .ok (.value (.int .i64 (min m n))) w := by
  have hr : Sem.run Try.prog (Builtin.min_ #[t, u] o.type #[.int .i64 m, .int .i64 n]) w = .ok (.int .i64 (min m n)) w := by
    simp [go_sem]
    split <;> omega
  simp only [execOp, ho, resolve, invoke, builtin, Sem.run_bind, Sem.run_pure, Result.andThen_ok, List.map_toArray, List.map_cons, List.map_nil, hx, hy, hr]
theorem to_any (x : Int) (w : World) : Calls Try.prog 22 #[.int .i64 x] w fun e w' => e = .returned (.int .u16 (toN x)) ∧ Below w.heap.size w w' := by
  obtain ⟨y, hy⟩ : ∃ y, y = min (max x 0) 255 := ⟨_, rfl⟩
  have hy0 : 0 ≤ y := by omega
  have hy1 : y ≤ 255 := by omega
  have HE := Lib.hid (show toN x = y * 256 by unfold toN; rw [← hy])
  have HY := Lib.hid hy
  have w1 : IntKind.i64.wrap (y * 256) = y * 256 := by unfold IntKind.wrap; simp [IntKind.signed, IntKind.bits]; omega
  have w2 : IntKind.u16.wrap (y * 256) = y * 256 := by unfold IntKind.wrap; simp [IntKind.signed, IntKind.bits]; omega
  clear hy
  go_enter Try.func22, Try.ntmps22
  go_wp2_with (first | (refine wpList_val (by rfl) _ (exec_max _ _ _ _ rfl _ _ rfl rfl) ?_; simp only [Act.put, List.setIfInBounds_toArray, List.set_cons_zero, List.set_cons_succ]) | (refine wpList_val (by rfl) (.int .i64 y) ((exec_min _ _ _ _ rfl _ _ rfl rfl).trans (by rw [← HY.out])) ?_; simp only [Act.put, List.setIfInBounds_toArray, List.set_cons_zero, List.set_cons_succ]) | fail)
  go_ret
  exact ⟨by rw [HE.out]; rfl, Below.refl _ _⟩
theorem from_any (x : Int) (hx : 0 ≤ x ∧ x < 65536) (w : World) : Calls Try.prog 21 #[.int .u16 x] w fun e w' => e = .returned (.int .i64 (fromN x)) ∧ Below w.heap.size w w' := by
  obtain ⟨h0, h1⟩ := hx
  have w0 : IntKind.i64.wrap x = x := by unfold IntKind.wrap; simp [IntKind.signed, IntKind.bits]; omega
  have w1 : IntKind.i64.wrap (x + 128) = x + 128 := by unfold IntKind.wrap; simp [IntKind.signed, IntKind.bits]; omega
  unfold fromN
  go_enter Try.func21, Try.ntmps21
  go_wp2_with fail
  go_ret
  exact ⟨rfl, Below.refl _ _⟩
end Go.Proofs.Ytehapoilfmgjgaa.Oct
