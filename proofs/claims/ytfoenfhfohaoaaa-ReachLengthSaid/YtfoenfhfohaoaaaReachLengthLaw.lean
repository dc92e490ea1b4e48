/- Law ReachLength of chapter 22: the walk joined with the plain law. -/
import Derived.Test.YtfoenfhfohaoaaaAwake22
import Derived.Test.YtfoenfhfohaoaaaRefFar
import Derived.StillTailTactics
set_option linter.unusedSimpArgs false
namespace Go.Proofs.Ytfoenfhfohaoaaa.Rea
open Go.RowKit
theorem bldW (n : Nat) (w : World) : Sem.run Try.prog (Instr.build 34 #[(1, .int .u64 n), (2, .bool true)]) w = .ok (.agg (rowW (some (0, n)))) w := by kernel_rfl
theorem mkU0 (w : World) : Sem.run Try.prog (Instr.buildSlice 37 0 #[]) w = .ok (.slice (some ⟨w.heap.size, 0, none⟩) 0 0) (w.alloc (.cells #[] 38)) := by kernel_rfl
theorem infoU : (Try.prog.info? 38).map (fun i => (i.zero, i.size, i.bytes)) = some (some (.int .u32 0), 1, 4) := by kernel_rfl
/-- A way that lies in a block of its own. -/
def XB (w : World) (g c n : Nat) : Prop := w.heap[g]? = some (.cells (rowW (some (c, n))) 34 (0, 0))
theorem XB.lt {w : World} {g c n : Nat} (h : XB w g c n) : g < w.heap.size := (Array.getElem?_eq_some_iff.1 h).1
theorem XB.put {w : World} {g c n : Nat} (h : XB w g c n) (c' : Nat) : XB (w.setCell ⟨g, 0, none⟩ (.int .u64 c')) g c' n := by
  unfold XB at h ⊢
  simp [World.setCell, Array.getElem?_modify, h]
  rfl
theorem XB.other {w : World} {g c n : Nat} (h : XB w g c n) {a : Addr} (ha : g ≠ a.block) (v : Value) : XB (w.setCell a v) g c n := (Below.heap_setCell _ _ _ _ ha).trans h
theorem XB.below {w w' : World} {g c n : Nat} (h : XB w g c n) (hb : Below w.heap.size w w') : XB w' g c n := (hb.block g h.lt).trans h
theorem XB.free {w : World} {g c n : Nat} (h : XB w g c n) (j : Nat) : w.frozen? ⟨g, j, none⟩ = false := by
  unfold XB at h
  simp [World.frozen?, h]
theorem wpList_store_at {P : Program} {ops : Array Oper} {rest : List Oper} {o : Oper} {a : Act} {w : World} {Q : Exit → Act → World → Prop} (hgd : o.guard = none) (ty : TypeId) (x y : Operand) (ho : o.op = .store ty x y) (w0 : World) (C : Array Value) (T : TypeId) (cells : Array Value) (g : Nat) (hw : w = w0.alloc (.cells C T))
    (hx : a.eval x = .pointer (some ⟨g, 0, none⟩)) (hg : g = w0.heap.size) (hy : a.eval y = .agg cells) (hi : (P.info? ty).map (·.size) = some cells.size) (hold : C.size = cells.size) (h1 : cells.all (·.oneCell') = true)
    (h : wpList P ops Q rest (a.put o.dst undef) (w0.alloc (.cells cells T))) : wpList P ops Q (o :: rest) a w := by
  subst hg
  exact wpList_store_new hgd ty x y ho w0 C T cells hw hx hy hi hold h1 h
/-- A slice that can be read, behind a slice of the call's own. -/
theorem wpList_append_any {P : Program} {ops : Array Oper} {rest : List Oper} {o : Oper} {a : Act} {w : World} {Q : Exit → Act → World → Prop} (hgd : o.guard = none) (s x : Operand) (t : TypeId)
    (ho : o.op = .call { callee := .builtin .append, args := #[s, x], argTypes := #[t, t] })
    (base : Nat) (e : TypeId) (i : TypeInfo) (z : Value) (size bytes : Nat) (ht : P.underlying t = some (.slice e)) (hi : P.info? e = some i) (hz : i.zero = some z)
    (hsize : i.size = size) (hby : i.bytes = bytes) (hzs : z.cells.size = size) (hsz : 0 < size)
    (v : Value) (n : Nat) (xs : List Value) (hs : a.eval s = v) (hown : w.ownsRow base e size v n xs)
    (ao : Option Addr) (m c : Nat) (f : Nat → Nat → Value) (hx : a.eval x = .slice ao m c) (hnil : ao = none → m = 0 ∧ c = 0) (hv : View w ao size m f) (h1 : ∀ u ∈ grid size m f, u.oneCell' = true)
    (h63 : n + m ≤ maxLen) (hbytes : (n + m) * bytes ≤ 140737488355328) (hbase : base ≤ w.heap.size)
    (h : ∀ v' w', w'.ownsRow base e size v' (n + m) (xs ++ grid size m f) → w.grownBy w' v.ownBlock → wpList P ops Q rest (a.put o.dst v') w') : wpList P ops Q (o :: rest) a w := by
  cases ao with
  | none =>
    obtain ⟨rfl, rfl⟩ := hnil rfl
    refine wpList_append_own_none hgd s x t ho base e i size ht hi _ n xs hs hown hx ?_
    exact h v w (by simpa [grid] using hown) ⟨rfl, rfl, rfl, Nat.le_refl _, fun _ _ _ => rfl⟩
  | some ad =>
    exact wpList_append_own w hgd s x t ho base e i z size bytes ht hi hz hsize hby hzs hsz v n xs hs hown ad m c (grid size m f) hx (grid_length _ _ _) (hv.news hsz ad rfl) h1 h63 hbytes hbase (fun v' w' h2 h3 _ => h v' w' h2 h3)
theorem grown_below {w w' : World} {base e size n : Nat} {v : Value} {xs : List Value} (h : w.ownsRow base e size v n xs) (hw : base ≤ w.heap.size) (hg : w.grownBy w' v.ownBlock) : Below base w w' := by
  refine ⟨hg.os, hg.tape, hg.output, hg.size, fun x hx => hg.block x (by omega) (fun e => ?_)⟩
  obtain ⟨_, ⟨rfl, _⟩ | ⟨g, c, cur, rfl, hg, _⟩⟩ := h
  · cases e
  · simp only [Value.ownBlock, Option.some.injEq] at e
    omega
theorem own_view {w : World} {base e n : Nat} {v : Value} {xs : List Value} (h : w.ownsRow base e 1 v n xs) (f : Nat → Value) (hf : ∀ k, k < n → xs[k]? = some (f k)) : ∃ a c, v = .slice a n c ∧ View w a 1 n (fun k _ => f k) := by
  obtain ⟨h1, ⟨rfl, h2⟩ | ⟨g, c, cur, rfl, hg, hh, h3, h4, h5, h6⟩⟩ := h
  · exact ⟨none, 0, by rw [h2], .inl h2⟩
  · refine ⟨_, _, rfl, .inr ⟨g, 0, rfl, fun k hk j hj => ?_⟩⟩
    obtain rfl : j = 0 := by omega
    rw [Nat.zero_add, Nat.mul_one, Nat.add_zero, cells_of hh]
    have h7 : (cur.toList.take (n * 1))[k]? = xs[k]? := by rw [h6]
    rw [List.getElem?_take, if_pos (by omega), hf k hk] at h7
    simpa using h7
theorem sumc_cat (f g : Nat → Nat) (n : Nat) : ∀ m, sumc (fun k => if k < n then f k else g (k - n)) (n + m) = sumc f n + sumc g m
  | 0 => by
    have h : ∀ j, j ≤ n → sumc (fun k => if k < n then f k else g (k - n)) j = sumc f j := fun j => by
      induction j with
      | zero => intro _; rfl
      | succ j ih =>
        intro hj
        show sumc _ j + (if j < n then f j else g (j - n)) = sumc f j + f j
        rw [ih (by omega), if_pos (by omega)]
    exact (h n (Nat.le_refl _))
  | m + 1 => by
    show sumc _ (n + m) + (if n + m < n then f (n + m) else g (n + m - n)) = sumc f n + (sumc g m + g m)
    rw [sumc_cat f g n m, if_neg (by omega), Nat.add_sub_cancel_left]
    omega
attribute [local go_sem] bldW mkU0 zeroW_run
set_option maxRecDepth 100000 in
set_option maxHeartbeats 8000000 in
theorem lenlaw_any (w : World) (aa : Option Addr) (na ca : Nat) (af : Nat → Nat) (hA : View w aa 1 na (fun k _ => .int .u32 (af k))) (hAB : ∀ k, af k ≤ 4294967295) (hAN : aa = none → na = 0 ∧ ca = 0)
    (ba : Option Addr) (nb cb : Nat) (bf : Nat → Nat) (hB : View w ba 1 nb (fun k _ => .int .u32 (bf k))) (hBB : ∀ k, bf k ≤ 4294967295) (hBN : ba = none → nb = 0 ∧ cb = 0) :
    Calls Try.prog 4 #[.slice aa na ca, .slice ba nb cb] w fun e w' => e = .returned (.bool true) ∧ Below w.heap.size w w' := by
  have HA := Lib.hid hA
  have HAB := Lib.hid hAB
  have HAN := Lib.hid hAN
  have HBV := Lib.hid hB
  have HBB := Lib.hid hBB
  have HBN := Lib.hid hBN
  obtain ⟨iU, hiU, hzU, hsU, hbU⟩ := info_parts infoU
  have HU := Lib.hid (And.intro hiU (And.intro hzU (And.intro hsU hbU)))
  have HSA := Lib.hid (sumc_le hAB)
  have HSB := Lib.hid (sumc_le hBB)
  clear hA hAB hAN hB hBB hBN hiU hzU hsU hbU
  by_cases hbig : 60 < na ∨ 60 < nb
  · by_cases h0 : 60 < na
    · have d0 : decide ((60 : Int) < na) = true := decide_eq_true (by omega)
      clear hbig h0
      go_enter Try.func4, Try.ntmps4
      go_wp2_with fail
      refine (awake_any _).mono ?_
      rintro e w1 ⟨rfl, hb1⟩
      have HB1 := Lib.hid hb1
      clear hb1
      go_wp2_with fail
      go_ret
      exact ⟨rfl, HB1.out⟩
    · have d0 : decide ((60 : Int) < na) = false := decide_eq_false (by omega)
      have d1 : decide ((60 : Int) < nb) = true := decide_eq_true (by omega)
      clear hbig h0
      go_enter Try.func4, Try.ntmps4
      go_wp2_with fail
      refine (awake_any _).mono ?_
      rintro e w1 ⟨rfl, hb1⟩
      have HB1 := Lib.hid hb1
      clear hb1
      go_wp2_with fail
      go_ret
      exact ⟨rfl, HB1.out⟩
  have hna : na ≤ 60 := by omega
  have hnb : nb ≤ 60 := by omega
  have d0 : decide ((60 : Int) < na) = false := decide_eq_false (by omega)
  have d1 : decide ((60 : Int) < nb) = false := decide_eq_false (by omega)
  have wna : IntKind.u64.wrap (na : Int) = na := by unfold IntKind.wrap; simp [IntKind.signed, IntKind.bits]; omega
  have wnb : IntKind.u64.wrap (nb : Int) = nb := by unfold IntKind.wrap; simp [IntKind.signed, IntKind.bits]; omega
  clear hbig
  go_enter Try.func4, Try.ntmps4
  go_wp2_with fail
  refine (awake_any _).mono ?_
  rintro e w1 ⟨rfl, hb1⟩
  have HB1 := Lib.hid hb1
  clear hb1
  go_wp2_with (first
    | (refine wpList_store_new rfl 34 _ _ rfl w1 (rowW none) 34 (rowW (some (0, na))) rfl rfl rfl (sizeW _) rfl (rowW_one _) ?_; simp only [Act.put])
    | (refine wpList_store_at rfl 34 _ _ rfl (w1.alloc (.cells (rowW (some (0, na))) 34)) (rowW none) 34 (rowW (some (0, nb))) (w1.heap.size + 1) rfl rfl (by simp) rfl (sizeW _) rfl (rowW_one _) ?_; simp only [Act.put])
    | fail)
  obtain ⟨w2, hw2⟩ : ∃ x, x = (w1.alloc (.cells (rowW (some (0, na))) 34)).alloc (.cells (rowW (some (0, nb))) 34) := ⟨_, rfl⟩
  obtain ⟨gx, hgx⟩ : ∃ x, x = w1.heap.size := ⟨_, rfl⟩
  rw [← hw2, ← hgx]
  have HX2 := Lib.hid (show XB w2 gx (sumc af 0) na by rw [hw2, hgx]; exact (Below.heap_alloc _ _ _ (by simp)).trans (heap_alloc_new _ _))
  have HY2 := Lib.hid (show XB w2 (gx + 1) (sumc bf 0) nb by rw [hw2, hgx]; exact at_new (by simp))
  have HB2 := Lib.hid (show Below w.heap.size w w2 by rw [hw2]; exact more (more HB1.out _) _)
  have hgxw : w.heap.size ≤ gx := by rw [hgx]; exact HB1.out.size
  clear hw2 hgx wna wnb d0 d1
  go_loopw [8] (fun i wr => ∃ q : Nat, q ≤ na ∧ i = .int .i64 q ∧ Hid (XB wr gx (sumc af q) na) ∧ Hid (XB wr (gx + 1) (sumc bf 0) nb) ∧ Hid (Below w.heap.size w wr)) (fun i _ => na - (intOf i).toNat)
  case atStart => exact ⟨0, by omega, rfl, HX2, HY2, HB2⟩
  case round =>
    clear HX2 HY2 HB2
    obtain ⟨q, hq, rfl, hX, hY, hB⟩ := hrel
    by_cases hlt : q < na
    · have hq0 : (0 : Int) ≤ q := by omega
      have hq1 : (q : Int) < na := by omega
      rcases HA.out with h0 | ⟨lg, lo, rfl, hlc⟩
      · omega
      have hlg : lg < w.heap.size := cell_lt (hlc q hlt 0 (by omega))
      have ca0 : wr.cell? ⟨lg, lo + q, none⟩ = some (.int .u32 (af q)) := by
        have h1 := hlc q hlt 0 (by omega)
        rw [Nat.mul_one, Nat.add_zero] at h1
        rw [hB.out.cell (p := ⟨lg, lo + q, none⟩) hlg]
        exact h1
      have cx : wr.cell? ⟨gx, 0, none⟩ = some (.int .u64 (sumc af q)) := cells_of hX.out 0
      have fx := hX.out.free 0
      have hbs := HSA.out q
      have hbf := HAB.out q
      obtain ⟨s1, hs1⟩ : ∃ x, x = sumc af q + af q := ⟨_, rfl⟩
      have wc : IntKind.u64.wrap (af q : Int) = af q := by unfold IntKind.wrap; simp [IntKind.signed, IntKind.bits]; omega
      have ws : IntKind.u64.wrap ((sumc af q : Int) + af q) = s1 := by unfold IntKind.wrap; simp [IntKind.signed, IntKind.bits]; omega
      have hgl := hX.out.lt
      have hlw : lg < wr.heap.size := cell_lt ca0
      have Hs1 := Lib.hid hs1
      clear hlc hbs hbf hs1
      go_wp2_with fail
      go_still_tail 9, (by kernel_rfl)
      change wpList _ _ _ _ _ (World.drew _)
      go_wp2_with fail
      obtain ⟨w9, hw9⟩ : ∃ x, x = (wr.setCell ⟨gx, 0, none⟩ (.int .u64 s1)).drew := ⟨_, rfl⟩
      have HX9 := Lib.hid (show XB w9 gx (sumc af (q + 1)) na by rw [hw9, show sumc af (q + 1) = s1 from Hs1.out.symm]; exact hX.out.put s1)
      have HY9 := Lib.hid (show XB w9 (gx + 1) (sumc bf 0) nb by rw [hw9]; exact hY.out.other (by simp) _)
      have HB9 := Lib.hid (show Below w.heap.size w w9 by rw [hw9]; exact (hB.out.setCell (by show _ ≤ gx; omega) _).drew)
      rw [← hw9]
      clear hw9 hX hY hB wc ws ca0 cx fx
      go_wp2_with fail
      go_roundw
      case rel => exact ⟨q + 1, by omega, by go_num, HX9, HY9, HB9⟩
      case measure => simp [intOf]; omega
    · obtain rfl : q = na := by omega
      go_wp2_with fail
      go_loopw [9] (fun i wr => ∃ p : Nat, p ≤ nb ∧ i = .int .i64 p ∧ Hid (XB wr gx (sumc af q) q) ∧ Hid (XB wr (gx + 1) (sumc bf p) nb) ∧ Hid (Below w.heap.size w wr)) (fun i _ => nb - (intOf i).toNat)
      case atStart => exact ⟨0, by omega, rfl, hX, hY, hB⟩
      case round =>
        clear hX hY hB
        obtain ⟨p, hp, rfl, hX, hY, hB⟩ := hrel
        by_cases hlt : p < nb
        · have hq0 : (0 : Int) ≤ p := by omega
          have hq1 : (p : Int) < nb := by omega
          rcases HBV.out with h0 | ⟨lg, lo, rfl, hlc⟩
          · omega
          have hlg : lg < w.heap.size := cell_lt (hlc p hlt 0 (by omega))
          have ca0 : wr.cell? ⟨lg, lo + p, none⟩ = some (.int .u32 (bf p)) := by
            have h1 := hlc p hlt 0 (by omega)
            rw [Nat.mul_one, Nat.add_zero] at h1
            rw [hB.out.cell (p := ⟨lg, lo + p, none⟩) hlg]
            exact h1
          have cx : wr.cell? ⟨gx + 1, 0, none⟩ = some (.int .u64 (sumc bf p)) := cells_of hY.out 0
          have fx := hY.out.free 0
          have hbs := HSB.out p
          have hbf := HBB.out p
          obtain ⟨s1, hs1⟩ : ∃ x, x = sumc bf p + bf p := ⟨_, rfl⟩
          have wc : IntKind.u64.wrap (bf p : Int) = bf p := by unfold IntKind.wrap; simp [IntKind.signed, IntKind.bits]; omega
          have ws : IntKind.u64.wrap ((sumc bf p : Int) + bf p) = s1 := by unfold IntKind.wrap; simp [IntKind.signed, IntKind.bits]; omega
          have hgl := hY.out.lt
          have hlw : lg < wr.heap.size := cell_lt ca0
          have Hs1 := Lib.hid hs1
          clear hlc hbs hbf hs1
          go_wp2_with fail
          go_still_tail 9, (by kernel_rfl)
          change wpList _ _ _ _ _ (World.drew _)
          go_wp2_with fail
          obtain ⟨w9, hw9⟩ : ∃ x, x = (wr.setCell ⟨gx + 1, 0, none⟩ (.int .u64 s1)).drew := ⟨_, rfl⟩
          have HX9 := Lib.hid (show XB w9 (gx + 1) (sumc bf (p + 1)) nb by rw [hw9, show sumc bf (p + 1) = s1 from Hs1.out.symm]; exact hY.out.put s1)
          have HY9 := Lib.hid (show XB w9 gx (sumc af q) q by rw [hw9]; exact hX.out.other (by simp) _)
          have HB9 := Lib.hid (show Below w.heap.size w w9 by rw [hw9]; exact (hB.out.setCell (by show _ ≤ gx + 1; omega) _).drew)
          rw [← hw9]
          clear hw9 hX hY hB wc ws ca0 cx fx
          go_wp2_with fail
          go_roundw
          case rel => exact ⟨p + 1, by omega, by go_num, HY9, HX9, HB9⟩
          case measure => simp [intOf]; omega
        · obtain rfl : p = nb := by omega
          have hsa := HSA.out q
          have hsb := HSB.out p
          go_wp2_with fail
          refine (length_any wr aa q ca af (HA.out.below hB.out) HAB.out (by omega)).mono ?_
          rintro e w' ⟨rfl, rfl⟩
          go_wp2_with fail
          refine (length_any w' ba p cb bf (HBV.out.below hB.out) HBB.out (by omega)).mono ?_
          rintro e w'' ⟨rfl, rfl⟩
          have hB' := Lib.hid (more hB.out (.cells #[] 38))
          have hown0 : (w''.alloc (.cells #[] 38)).ownsRow w''.heap.size 38 1 (.slice (some ⟨w''.heap.size, 0, none⟩) 0 0) 0 [] := World.ownsRow_made w'' #[] 0 (Nat.le_refl _) (by simp [maxLen]) rfl
          have Hown0 := Lib.hid hown0
          clear hown0
          go_upto_region 17 with (first
            | (at_builtin; refine wpList_append_any rfl (.tmp 65) (.tmp 66) 37 rfl w''.heap.size 38 iU _ 1 4 Try.underlying37 HU.out.1 HU.out.2.1 HU.out.2.2.1 HU.out.2.2.2 rfl (by decide) _ 0 [] rfl Hown0.out aa q ca (fun k _ => .int .u32 (af k)) rfl HAN.out (HA.out.below hB'.out) (grid_one (by decide) fun _ _ _ => rfl) (by unfold maxLen; omega) (by omega) (by simp) ?_; intro v1 w3 hown1 hg1; simp only [Act.put, List.setIfInBounds_toArray, List.set_cons_zero, List.set_cons_succ]; have hb1 := grown_below Hown0.out (by simp) hg1; have Hown1 := Lib.hid hown1; have HC3 := Lib.hid ((more (Below.refl w''.heap.size w'') (.cells #[] 38)).trans hb1); have HB3 := Lib.hid (hB'.out.trans (hb1.mono hB.out.size)); have hw3 : w''.heap.size ≤ w3.heap.size := (by have := hb1.size; simp at this; omega); clear hown1 hg1 hb1)
            | (at_builtin; refine wpList_append_any rfl (.tmp 67) (.tmp 68) 37 rfl w''.heap.size 38 iU _ 1 4 Try.underlying37 HU.out.1 HU.out.2.1 HU.out.2.2.1 HU.out.2.2.2 rfl (by decide) _ _ _ rfl Hown1.out ba p cb (fun k _ => .int .u32 (bf k)) rfl HBN.out (HBV.out.below HB3.out) (grid_one (by decide) fun _ _ _ => rfl) (by unfold maxLen; omega) (by omega) hw3 ?_; intro v2 w4 hown2 hg2; simp only [Act.put, List.setIfInBounds_toArray, List.set_cons_zero, List.set_cons_succ]; have hb2 := grown_below Hown1.out hw3 hg2; have HC4 := Lib.hid (HC3.out.trans hb2); have HB4 := Lib.hid (HB3.out.trans (hb2.mono hB.out.size)); have Hown2 := Lib.hid hown2; clear hown2 hg2 hb2)
            | fail)
          obtain ⟨a4, c4, rfl, hv4⟩ := own_view Hown2.out (fun k => .int .u32 ((if k < q then af k else bf (k - q) : Nat) : Int)) (fun k hk => by
            have hk' : k < q + p := by omega
            rw [List.nil_append]
            by_cases h : k < q
            · rw [if_pos h, List.getElem?_append_left (by rw [grid_length]; omega)]
              have h2 := grid_at (sz := 1) (c := fun k (_ : Nat) => Value.int .u32 (af k)) h (show 0 < 1 by omega)
              rw [Nat.mul_one, Nat.add_zero] at h2
              exact h2
            · rw [if_neg h, List.getElem?_append_right (by rw [grid_length]; omega), grid_length, Nat.mul_one]
              have h2 := grid_at (sz := 1) (c := fun k (_ : Nat) => Value.int .u32 (bf k)) (show k - q < p by omega) (show 0 < 1 by omega)
              rw [Nat.mul_one, Nat.add_zero] at h2
              exact h2)
          rw [Nat.zero_add] at hv4 ⊢
          have Hv4 := Lib.hid hv4
          clear hv4
          refine (length_any w4 a4 (q + p) c4 (fun k => if k < q then af k else bf (k - q)) Hv4.out (fun k => by have h1 := HAB.out k; have h2 := HBB.out (k - q); show (if k < q then af k else bf (k - q)) ≤ _; split <;> omega) (by omega)).mono ?_
          rintro e w5 ⟨rfl, rfl⟩
          rw [sumc_cat]
          have hX4 := Lib.hid (hX.out.below HC4.out)
          have hY4 := Lib.hid (hY.out.below HC4.out)
          have hxl := hX4.out.lt
          have hyl := hY4.out.lt
          have ss1 : Short2 (sumc af q, q) := ⟨by show sumc af q < _; omega, by show q < _; omega⟩
          have ss2 : Short2 (sumc bf p, p) := ⟨by show sumc bf p < _; omega, by show p < _; omega⟩
          have hadd := fun w => add_cv (stands (sumc af q) ss1.1) (stands q ss1.2) (show sumc af q + sumc bf p < 2 ^ 53 by omega) (show q + p < 2 ^ 53 by omega) 30 w
          have o1 := ord_self (sumc af q) ss1.1
          have o2 := ord_self q ss1.2
          have o3 := ord_self (sumc bf p) ss2.1
          have o4 := ord_self p ss2.2
          have o5 := ord_self (sumc af q + sumc bf p) (by omega)
          have o6 := ord_self (q + p) (by omega)
          have eqx : ∀ t w, Sem.run Try.prog (binOp .eql t (.complex .f64 (flt (sumc af q)) (flt q)) (.complex .f64 (flt (sumc af q)) (flt q))) w = .ok (.bool true) w := fun t w => by rw [run_eql_complex, o1, o2]; rfl
          have eqy : ∀ t w, Sem.run Try.prog (binOp .eql t (.complex .f64 (flt (sumc bf p)) (flt p)) (.complex .f64 (flt (sumc bf p)) (flt p))) w = .ok (.bool true) w := fun t w => by rw [run_eql_complex, o3, o4]; rfl
          have eqz : ∀ t w, Sem.run Try.prog (binOp .eql t (.complex .f64 (flt (sumc af q + sumc bf p)) (flt (q + p))) (.complex .f64 (flt (sumc af q + sumc bf p)) (flt (q + p)))) w = .ok (.bool true) w := fun t w => by rw [run_eql_complex, o5, o6]; rfl
          clear hsa hsb hX hY
          go_wp2_with fail
          refine wp_region_held_drew (S := fun w' => Below w5.heap.size w5 w') (by kernel_rfl) (Below.refl _ _).drew (fun hH => ?_)
          refine wpAnyH_take (i := 0) (v := .bool true) rfl (by kernel_rfl) (by kernel_rfl) (by kernel_rfl) (fun _ _ _ h => h) (Or.inl ⟨by rfl, fun z _ => rfl⟩) hH ?_
          simp only [List.getElem_toArray, List.getElem_cons_succ, List.getElem_cons_zero, Act.put, List.setIfInBounds_toArray, List.set_cons_zero, List.set_cons_succ]
          refine wpAnyH_take (i := 1) (v := .bool true) rfl (by kernel_rfl) (by kernel_rfl) (by kernel_rfl) (fun _ _ _ h => h) (Or.inl ⟨by rfl, fun z _ => rfl⟩) hH ?_
          simp only [List.getElem_toArray, List.getElem_cons_succ, List.getElem_cons_zero, Act.put, List.setIfInBounds_toArray, List.set_cons_zero, List.set_cons_succ]
          refine wpAnyH_take (i := 2) (v := .complex .f64 (flt (sumc af q)) (flt q)) rfl (by kernel_rfl) (by kernel_rfl) (by kernel_rfl) (fun _ _ _ h => h) (Or.inl ⟨by rfl, fun z _ => rfl⟩) hH ?_
          simp only [List.getElem_toArray, List.getElem_cons_succ, List.getElem_cons_zero, Act.put, List.setIfInBounds_toArray, List.set_cons_zero, List.set_cons_succ]
          refine wpAnyH_take (i := 3) rfl (by kernel_rfl) (by kernel_rfl) (by kernel_rfl) (fun _ _ _ h => h) ((yieldsIf_load_mid (by rfl) 34 _ rfl gx (0) rfl (rowW (some (sumc af q, q))).toList _ (row_held hX4.out hxl) Try.underlying34 rfl (sizeW _))) hH ?_
          simp only [List.getElem_toArray, List.getElem_cons_succ, List.getElem_cons_zero, Act.put, List.setIfInBounds_toArray, List.set_cons_zero, List.set_cons_succ]
          refine wpAnyH_ready (rs := [4]) (by kernel_rfl) (by simp) (AllReadyH.cons rfl (fun K hK => ?_) AllReadyH.nil)
          go_simp
          refine (complex_any (some (sumc af q, q)) w5.drew).mono ?_
          rintro e w6 ⟨rfl, hb6⟩
          have h6 : Below w5.heap.size w5 w6 := (Below.refl w5.heap.size w5).drew.trans hb6
          refine hK.out _ _ (h6) (fun hH6 => ?_)
          clear hK K hb6 hH
          refine wpAnyH_take (i := 5) (v := .bool true) rfl (by kernel_rfl) (by kernel_rfl) (by kernel_rfl) (fun _ _ _ h => h) (Or.inl ⟨by rfl, fun z _ => by simp [go_sem, execOp, cv, eqx, o1, o2]⟩) hH6 ?_
          simp only [List.getElem_toArray, List.getElem_cons_succ, List.getElem_cons_zero, Act.put, List.setIfInBounds_toArray, List.set_cons_zero, List.set_cons_succ]
          refine wpAnyH_take (i := 6) rfl (by kernel_rfl) (by kernel_rfl) (by kernel_rfl) (fun _ _ _ h => h) (Or.inl ⟨by rfl, fun z _ => rfl⟩) hH6 ?_
          simp only [List.getElem_toArray, List.getElem_cons_succ, List.getElem_cons_zero, Act.put, List.setIfInBounds_toArray, List.set_cons_zero, List.set_cons_succ]
          refine wpAnyH_take (i := 7) rfl (by kernel_rfl) (by kernel_rfl) (by kernel_rfl) (fun _ _ _ h => h) (Or.inl ⟨by rfl, fun z _ => rfl⟩) hH6 ?_
          simp only [List.getElem_toArray, List.getElem_cons_succ, List.getElem_cons_zero, Act.put, List.setIfInBounds_toArray, List.set_cons_zero, List.set_cons_succ]
          refine wpAnyH_take (i := 8) (v := .complex .f64 (flt (sumc bf p)) (flt p)) rfl (by kernel_rfl) (by kernel_rfl) (by kernel_rfl) (fun _ _ _ h => h) (Or.inl ⟨by rfl, fun z _ => rfl⟩) hH6 ?_
          simp only [List.getElem_toArray, List.getElem_cons_succ, List.getElem_cons_zero, Act.put, List.setIfInBounds_toArray, List.set_cons_zero, List.set_cons_succ]
          refine wpAnyH_take (i := 9) rfl (by kernel_rfl) (by kernel_rfl) (by kernel_rfl) (fun _ _ _ h => h) ((yieldsIf_load_mid (by rfl) 34 _ rfl (gx + 1) (0) rfl (rowW (some (sumc bf p, p))).toList _ (row_held hY4.out hyl) Try.underlying34 rfl (sizeW _))) hH6 ?_
          simp only [List.getElem_toArray, List.getElem_cons_succ, List.getElem_cons_zero, Act.put, List.setIfInBounds_toArray, List.set_cons_zero, List.set_cons_succ]
          refine wpAnyH_ready (rs := [10]) (by kernel_rfl) (by simp) (AllReadyH.cons rfl (fun K hK => ?_) AllReadyH.nil)
          go_simp
          refine (complex_any (some (sumc bf p, p)) w6).mono ?_
          rintro e w7 ⟨rfl, hb7⟩
          have h7 : Below w5.heap.size w5 w7 := h6.trans (hb7.mono h6.size)
          refine hK.out _ _ (h7) (fun hH7 => ?_)
          clear hK K hb7 hH6
          refine wpAnyH_take (i := 11) (v := .bool true) rfl (by kernel_rfl) (by kernel_rfl) (by kernel_rfl) (fun _ _ _ h => h) (Or.inl ⟨by rfl, fun z _ => by simp [go_sem, execOp, cv, eqy, o3, o4]⟩) hH7 ?_
          simp only [List.getElem_toArray, List.getElem_cons_succ, List.getElem_cons_zero, Act.put, List.setIfInBounds_toArray, List.set_cons_zero, List.set_cons_succ]
          refine wpAnyH_take (i := 12) rfl (by kernel_rfl) (by kernel_rfl) (by kernel_rfl) (fun _ _ _ h => h) (Or.inl ⟨by rfl, fun z _ => rfl⟩) hH7 ?_
          simp only [List.getElem_toArray, List.getElem_cons_succ, List.getElem_cons_zero, Act.put, List.setIfInBounds_toArray, List.set_cons_zero, List.set_cons_succ]
          refine wpAnyH_take (i := 13) rfl (by kernel_rfl) (by kernel_rfl) (by kernel_rfl) (fun _ _ _ h => h) (Or.inl ⟨by rfl, fun z _ => rfl⟩) hH7 ?_
          simp only [List.getElem_toArray, List.getElem_cons_succ, List.getElem_cons_zero, Act.put, List.setIfInBounds_toArray, List.set_cons_zero, List.set_cons_succ]
          refine wpAnyH_take (i := 14) (v := .complex .f64 (flt (sumc af q + sumc bf p)) (flt (q + p))) rfl (by kernel_rfl) (by kernel_rfl) (by kernel_rfl) (fun _ _ _ h => h) (Or.inl ⟨by rfl, fun z _ => rfl⟩) hH7 ?_
          simp only [List.getElem_toArray, List.getElem_cons_succ, List.getElem_cons_zero, Act.put, List.setIfInBounds_toArray, List.set_cons_zero, List.set_cons_succ]
          refine wpAnyH_take (i := 15) (v := .complex .f64 (flt (sumc af q)) (flt q)) rfl (by kernel_rfl) (by kernel_rfl) (by kernel_rfl) (fun _ _ _ h => h) (Or.inl ⟨by rfl, fun z _ => rfl⟩) hH7 ?_
          simp only [List.getElem_toArray, List.getElem_cons_succ, List.getElem_cons_zero, Act.put, List.setIfInBounds_toArray, List.set_cons_zero, List.set_cons_succ]
          refine wpAnyH_take (i := 16) (v := .complex .f64 (flt (sumc bf p)) (flt p)) rfl (by kernel_rfl) (by kernel_rfl) (by kernel_rfl) (fun _ _ _ h => h) (Or.inl ⟨by rfl, fun z _ => rfl⟩) hH7 ?_
          simp only [List.getElem_toArray, List.getElem_cons_succ, List.getElem_cons_zero, Act.put, List.setIfInBounds_toArray, List.set_cons_zero, List.set_cons_succ]
          refine wpAnyH_take (i := 17) (v := .complex .f64 (flt (sumc af q + sumc bf p)) (flt (q + p))) rfl (by kernel_rfl) (by kernel_rfl) (by kernel_rfl) (fun _ _ _ h => h) (Or.inl ⟨by rfl, fun z _ => by simp [go_sem, execOp, hadd]⟩) hH7 ?_
          simp only [List.getElem_toArray, List.getElem_cons_succ, List.getElem_cons_zero, Act.put, List.setIfInBounds_toArray, List.set_cons_zero, List.set_cons_succ]
          refine wpAnyH_take (i := 18) (v := .bool true) rfl (by kernel_rfl) (by kernel_rfl) (by kernel_rfl) (fun _ _ _ h => h) (Or.inl ⟨by rfl, fun z _ => by simp [go_sem, execOp, cv, eqz, o5, o6]⟩) hH7 ?_
          simp only [List.getElem_toArray, List.getElem_cons_succ, List.getElem_cons_zero, Act.put, List.setIfInBounds_toArray, List.set_cons_zero, List.set_cons_succ]
          refine wpAnyH_take (i := 19) rfl (by kernel_rfl) (by kernel_rfl) (by kernel_rfl) (fun _ _ _ h => h) (Or.inl ⟨by rfl, fun z _ => rfl⟩) hH7 ?_
          simp only [List.getElem_toArray, List.getElem_cons_succ, List.getElem_cons_zero, Act.put, List.setIfInBounds_toArray, List.set_cons_zero, List.set_cons_succ]
          refine wpAnyH_take (i := 20) rfl (by kernel_rfl) (by kernel_rfl) (by kernel_rfl) (fun _ _ _ h => h) (Or.inl ⟨by rfl, fun z _ => rfl⟩) hH7 ?_
          simp only [List.getElem_toArray, List.getElem_cons_succ, List.getElem_cons_zero, Act.put, List.setIfInBounds_toArray, List.set_cons_zero, List.set_cons_succ]
          refine wpAnyH_take (i := 21) (v := .complex .f64 (flt (sumc af q)) (flt q)) rfl (by kernel_rfl) (by kernel_rfl) (by kernel_rfl) (fun _ _ _ h => h) (Or.inl ⟨by rfl, fun z _ => rfl⟩) hH7 ?_
          simp only [List.getElem_toArray, List.getElem_cons_succ, List.getElem_cons_zero, Act.put, List.setIfInBounds_toArray, List.set_cons_zero, List.set_cons_succ]
          refine wpAnyH_take (i := 22) (v := .complex .f64 (flt (sumc bf p)) (flt p)) rfl (by kernel_rfl) (by kernel_rfl) (by kernel_rfl) (fun _ _ _ h => h) (Or.inl ⟨by rfl, fun z _ => rfl⟩) hH7 ?_
          simp only [List.getElem_toArray, List.getElem_cons_succ, List.getElem_cons_zero, Act.put, List.setIfInBounds_toArray, List.set_cons_zero, List.set_cons_succ]
          refine wpAnyH_take (i := 24) rfl (by kernel_rfl) (by kernel_rfl) (by kernel_rfl) (fun _ _ _ h => h) ((yieldsIf_load_mid (by rfl) 34 _ rfl gx (0) rfl (rowW (some (sumc af q, q))).toList _ (row_held hX4.out hxl) Try.underlying34 rfl (sizeW _))) hH7 ?_
          simp only [List.getElem_toArray, List.getElem_cons_succ, List.getElem_cons_zero, Act.put, List.setIfInBounds_toArray, List.set_cons_zero, List.set_cons_succ]
          refine wpAnyH_take (i := 25) rfl (by kernel_rfl) (by kernel_rfl) (by kernel_rfl) (fun _ _ _ h => h) ((yieldsIf_load_mid (by rfl) 34 _ rfl (gx + 1) (0) rfl (rowW (some (sumc bf p, p))).toList _ (row_held hY4.out hyl) Try.underlying34 rfl (sizeW _))) hH7 ?_
          simp only [List.getElem_toArray, List.getElem_cons_succ, List.getElem_cons_zero, Act.put, List.setIfInBounds_toArray, List.set_cons_zero, List.set_cons_succ]
          refine wpAnyH_ready (rs := [23]) (by kernel_rfl) (by simp) (AllReadyH.cons rfl (fun K hK => ?_) AllReadyH.nil)
          go_simp
          refine (less_any (sumc af q, q) (sumc bf p, p) ss1 ss2 w7).mono ?_
          rintro e w8 ⟨rfl, rfl⟩
          refine hK.out _ _ (h7) (fun hH8 => ?_)
          clear hK K hH7
          refine wpAnyH_ready (rs := [26]) (by kernel_rfl) (by simp) (AllReadyH.cons rfl (fun K hK => ?_) AllReadyH.nil)
          go_simp
          refine (rless_way (sumc af q, q) (some (sumc bf p, p)) w8).mono ?_
          rintro e w9 ⟨rfl, hb9⟩
          have h9 : Below w5.heap.size w5 w9 := h7.trans (hb9.mono h7.size)
          refine hK.out _ _ (h9) (fun hH9 => ?_)
          clear hK K hb9 hH8
          refine wpAnyH_take (i := 27) (v := .bool true) rfl (by kernel_rfl) (by kernel_rfl) (by kernel_rfl) (fun _ _ _ h => h) (Or.inl ⟨by rfl, fun z _ => by simp [go_sem, execOp]⟩) hH9 ?_
          simp only [List.getElem_toArray, List.getElem_cons_succ, List.getElem_cons_zero, Act.put, List.setIfInBounds_toArray, List.set_cons_zero, List.set_cons_succ]
          refine wpAnyH_take (i := 28) rfl (by kernel_rfl) (by kernel_rfl) (by kernel_rfl) (fun _ _ _ h => h) (Or.inl ⟨by rfl, fun z _ => rfl⟩) hH9 ?_
          simp only [List.getElem_toArray, List.getElem_cons_succ, List.getElem_cons_zero, Act.put, List.setIfInBounds_toArray, List.set_cons_zero, List.set_cons_succ]
          refine wpAnyH_take (i := 29) rfl (by kernel_rfl) (by kernel_rfl) (by kernel_rfl) (fun _ _ _ h => h) (Or.inl ⟨by rfl, fun z _ => rfl⟩) hH9 ?_
          simp only [List.getElem_toArray, List.getElem_cons_succ, List.getElem_cons_zero, Act.put, List.setIfInBounds_toArray, List.set_cons_zero, List.set_cons_succ]
          refine wpAnyH_take (i := 30) (v := .complex .f64 (flt (sumc af q)) (flt q)) rfl (by kernel_rfl) (by kernel_rfl) (by kernel_rfl) (fun _ _ _ h => h) (Or.inl ⟨by rfl, fun z _ => rfl⟩) hH9 ?_
          simp only [List.getElem_toArray, List.getElem_cons_succ, List.getElem_cons_zero, Act.put, List.setIfInBounds_toArray, List.set_cons_zero, List.set_cons_succ]
          refine wpAnyH_ready (rs := [31]) (by kernel_rfl) (by simp) (AllReadyH.cons rfl (fun K hK => ?_) AllReadyH.nil)
          go_simp
          refine (none_any (some (sumc af q, q)) ss1 w9).mono ?_
          rintro e w10 ⟨rfl, rfl⟩
          have Hlast := Lib.hid h9
          refine hK.out _ _ (h9) (fun hH10 => ?_)
          clear hK K hH9
          refine wpAnyH_take (i := 32) (v := .bool true) rfl (by kernel_rfl) (by kernel_rfl) (by kernel_rfl) (fun _ _ _ h => h) (Or.inl ⟨by rfl, fun z _ => rfl⟩) hH10 ?_
          simp only [List.getElem_toArray, List.getElem_cons_succ, List.getElem_cons_zero, Act.put, List.setIfInBounds_toArray, List.set_cons_zero, List.set_cons_succ]
          refine wpAnyH_take (i := 33) rfl (by kernel_rfl) (by kernel_rfl) (by kernel_rfl) (fun _ _ _ h => h) (Or.inl ⟨by rfl, fun z _ => rfl⟩) hH10 ?_
          simp only [List.getElem_toArray, List.getElem_cons_succ, List.getElem_cons_zero, Act.put, List.setIfInBounds_toArray, List.set_cons_zero, List.set_cons_succ]
          refine wpAnyH_take (i := 34) rfl (by kernel_rfl) (by kernel_rfl) (by kernel_rfl) (fun _ _ _ h => h) (Or.inl ⟨by rfl, fun z _ => rfl⟩) hH10 ?_
          simp only [List.getElem_toArray, List.getElem_cons_succ, List.getElem_cons_zero, Act.put, List.setIfInBounds_toArray, List.set_cons_zero, List.set_cons_succ]
          refine wpAnyH_done (by kernel_rfl) ?_ _
          clear hadd o1 o2 o3 o4 o5 o6
          go_wp2_with fail
          go_ret
          exact ⟨rfl, HB4.out.trans (Hlast.out.mono HB4.out.size)⟩
end Go.Proofs.Ytfoenfhfohaoaaa.Rea
