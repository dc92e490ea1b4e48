/- Chapter 5: what bytes behind a message's kind are (ford/bpdu.meant, body). Conditions: the reader's bytes can be read; there are enough. -/
import Derived.Test.YtehapoilfmgjgaaEn1
import Derived.Laws.BitsAllLaws
import Derived.Laws.ResultCell
import Derived.Deep.CutRange
set_option linter.unusedSimpArgs false
set_option linter.unusedVariables false
namespace Go.Proofs.Ytehapoilfmgjgaa.Oct
open Go.RowKit
/-- A bit of a number. -/
def bitAt (x k : Int) : Bool := x / k % 2 == 1
theorem and_all : ∀ n : Fin 256, (bits BinOp.and IntKind.i64 (n.val : Int) 1 != 0) = bitAt n.val 1 ∧ (bits BinOp.and IntKind.i64 (n.val : Int) 2 != 0) = bitAt n.val 2 ∧ (bits BinOp.and IntKind.i64 (n.val : Int) 16 != 0) = bitAt n.val 16 ∧
    (bits BinOp.and IntKind.i64 (n.val : Int) 32 != 0) = bitAt n.val 32 ∧ (bits BinOp.and IntKind.i64 (n.val : Int) 64 != 0) = bitAt n.val 64 ∧ (bits BinOp.and IntKind.i64 (n.val : Int) 128 != 0) = bitAt n.val 128 ∧ bits BinOp.and IntKind.i64 (n.val : Int) 3 = (n.val : Int) % 4 := by decide +kernel
theorem and_at (x : Int) (h : 0 ≤ x ∧ x ≤ 255) : (bits BinOp.and IntKind.i64 x 1 != 0) = bitAt x 1 ∧ (bits BinOp.and IntKind.i64 x 2 != 0) = bitAt x 2 ∧ (bits BinOp.and IntKind.i64 x 16 != 0) = bitAt x 16 ∧
    (bits BinOp.and IntKind.i64 x 32 != 0) = bitAt x 32 ∧ (bits BinOp.and IntKind.i64 x 64 != 0) = bitAt x 64 ∧ (bits BinOp.and IntKind.i64 x 128 != 0) = bitAt x 128 ∧ bits BinOp.and IntKind.i64 x 3 = x % 4 := by
  obtain ⟨n, rfl⟩ := Int.eq_ofNat_of_zero_le h.1
  exact and_all ⟨n, by omega⟩
theorem wpList_build {P : Program} {ops : Array Oper} {rest : List Oper} {o : Oper} {a : Act} {w : World} {Q : Exit → Act → World → Prop} (hgd : o.guard = none) (t : TypeId) (parts : Array (Nat × Operand)) (ho : o.op = .build t parts)
    (vs : Array (Nat × Value)) (v : Value) (h : (Instr.build t vs).run P w = .ok v w) (hv : (parts.map fun p => (p.1, a.eval p.2)) = vs) (hk : wpList P ops Q rest (a.put o.dst v) w) : wpList P ops Q (o :: rest) a w :=
  wpList_plain hgd fun _ hK => by
    unfold Oper.wp execOp
    simp only [ho]
    rw [show (parts.map fun x => match x with | (i, x) => (i, a.eval x)) = vs from hv]
    simp only [Sem.run_bind, h, Result.andThen_ok, Sem.run_pure]
    exact hK _ _ hk
theorem meant_any (x : Int) (hx : 0 ≤ x ∧ x ≤ 255) (w : World) : Calls Try.prog 31 #[.int .i64 x] w fun e w' => e = .returned (.int .i64 (roleN (x % 4))) ∧ Below w.heap.size w w' := by
  have h3 := (and_at x hx).2.2.2.2.2.2
  rcases (show x % 4 = 0 ∨ x % 4 = 1 ∨ x % 4 = 2 ∨ x % 4 = 3 by omega) with h | h | h | h
  all_goals
    rw [h] at h3 ⊢
    clear h hx
    have tb : ∀ u : World, (Instr.build 65 #[(0, .int .i64 0), (1, .int .i64 1), (2, .int .i64 3), (3, .int .i64 4)]).run Try.prog u = .ok (.agg #[.int .i64 0, .int .i64 1, .int .i64 3, .int .i64 4]) u := fun u => rfl
    have TB := Lib.hid tb
    clear tb
    go_enter Try.func31, Try.ntmps31
    have ti0 : ∀ u : World, (Instr.index 65 (.agg #[.int .i64 0, .int .i64 1, .int .i64 3, .int .i64 4]) (.int .i64 0)).run Try.prog u = .ok (.int .i64 0) u := fun u => rfl
    have ti1 : ∀ u : World, (Instr.index 65 (.agg #[.int .i64 0, .int .i64 1, .int .i64 3, .int .i64 4]) (.int .i64 1)).run Try.prog u = .ok (.int .i64 1) u := fun u => rfl
    have ti2 : ∀ u : World, (Instr.index 65 (.agg #[.int .i64 0, .int .i64 1, .int .i64 3, .int .i64 4]) (.int .i64 2)).run Try.prog u = .ok (.int .i64 3) u := fun u => rfl
    have ti3 : ∀ u : World, (Instr.index 65 (.agg #[.int .i64 0, .int .i64 1, .int .i64 3, .int .i64 4]) (.int .i64 3)).run Try.prog u = .ok (.int .i64 4) u := fun u => rfl
    go_wp2_with (first | (refine wpList_build rfl 65 _ rfl _ _ (TB.out w) (by kernel_rfl) ?_; simp only [Act.put, List.setIfInBounds_toArray, List.set_cons_zero, List.set_cons_succ]) | fail)
    go_ret
    exact ⟨rfl, Below.refl _ _⟩
/-- The number in some bytes. -/
def numAt (f : Nat → Int) (c k : Nat) : Int := num (fun j => f (c + j)) k
theorem numAt_in {f : Nat → Int} {n : Nat} (hb : ∀ j, j < n → 0 ≤ f j ∧ f j ≤ 255) (c k : Nat) (h : c + k ≤ n) : 0 ≤ numAt f c k ∧ numAt f c k < 256 ^ k := num_lt _ k (fun i hi => hb _ (by omega))
theorem numAt_1 (f : Nat → Int) (c : Nat) : numAt f c 1 = f c := by
  unfold numAt num num
  simp
theorem take_at (w : World) (rg n k c c' : Nat) (f : Nat → Int) (h : Rd w rg n (fun j => f (c + j)) false) (hk : 1 ≤ k ∧ k ≤ 8) (hn : k ≤ n) (hc : c + k = c') : Calls Try.prog 18 #[.pointer (some ⟨rg, 0, none⟩), .int .i64 k] w fun e w' => e = .returned (.int .u64 (numAt f c k)) ∧ Rd w' rg (n - k) (fun j => f (c' + j)) false ∧ Only (· = rg) w w' := by
  refine (take_in w rg n k _ h hk hn).mono ?_
  rintro e w' ⟨rfl, hr, ho⟩
  refine ⟨rfl, ?_, ho⟩
  have e : (fun j => f (c' + j)) = (fun j => (fun j => f (c + j)) (k + j)) := by
    funext j
    show f (c' + j) = f (c + (k + j))
    rw [← hc, Nat.add_assoc]
  rw [e]
  exact hr
/-- A store into a message's block leaves a reader as it was. -/
theorem Rd.keep {w w' : World} {rg gm n : Nat} {f : Nat → Int} {s : Bool} {m : Msg} {S : Nat → Prop} (h : Rd w rg n f s) (hM : w.heap[gm]? = some (.cells (rowM m) 30 (0, 0))) (hne : gm ≠ rg) (hS : ∀ x, S x → x = gm) (ho : Only S w w') : Rd w' rg n f s := by
  obtain ⟨a, c, hr, hv, h1⟩ := h
  refine ⟨a, c, (ho.block _ (Array.getElem?_eq_some_iff.1 hr).1 (fun e => hne (hS _ e).symm)).trans hr, ?_, h1⟩
  rcases hv with h0 | ⟨g, o, ha, hc⟩
  · exact .inl h0
  · by_cases hn : n = 0
    · exact .inl hn
    refine .inr ⟨g, o, ha, fun k hk j hj => ?_⟩
    have hgm : g ≠ gm := by
      rintro rfl
      have h := hc 0 (by omega) 0 (by omega)
      rw [cells_of hM] at h
      match o + (0 * 1 + 0), h with
      | 0, h => simp [rowM] at h
      | 1, h => simp [rowM] at h
      | 2, h => simp [rowM] at h
      | 3, h => simp [rowM] at h
      | 4, h => simp [rowM] at h
      | 5, h => simp [rowM] at h
      | 6, h => simp [rowM] at h
      | 7, h => simp [rowM] at h
      | 8, h => simp [rowM] at h
      | 9, h => simp [rowM] at h
      | 10, h => simp [rowM] at h
      | 11, h => simp [rowM] at h
      | 12, h => simp [rowM] at h
      | 13, h => simp [rowM] at h
      | 14, h => simp [rowM] at h
      | 15, h => simp [rowM] at h
      | 16, h => simp [rowM] at h
      | q + 17, h => simp [rowM] at h
    have h2 := hc k hk j hj
    rw [ho.cell (p := ⟨g, _, none⟩) (cell_lt h2) (fun e => hgm (hS _ e))]
    exact h2
/-- The vector's cells stored. -/
theorem vec_put {w : World} {gm : Nat} {m : Msg} (h : w.heap[gm]? = some (.cells (rowM m) 30 (0, 0))) (a b c d : Int) :
    (w.setCells gm 8 [.int .u64 a, .int .u32 b, .int .u64 c, .int .u16 d, .int .u16 0]).heap[gm]? = some (.cells (rowM { m with root := a, cost := b, bridge := c, port := d, rx := 0 }) 30 (0, 0)) := by
  simp only [World.setCells]
  exact at_set (at_set (at_set (at_set (at_set h (rowM_put_8 _ _)) (rowM_put_9 _ _)) (rowM_put_10 _ _)) (rowM_put_11 _ _)) (rowM_put_12 _ _)
theorem times_put {w : World} {gm : Nat} {m : Msg} (h : w.heap[gm]? = some (.cells (rowM m) 30 (0, 0))) (a b c d : Int) :
    (w.setCells gm 13 [.int .i64 a, .int .i64 b, .int .i64 c, .int .i64 d]).heap[gm]? = some (.cells (rowM { m with age := a, mx := b, hel := c, del := d }) 30 (0, 0)) := by
  simp only [World.setCells]
  exact at_set (at_set (at_set (at_set h (rowM_put_13 _ _)) (rowM_put_14 _ _)) (rowM_put_15 _ _)) (rowM_put_16 _ _)
theorem Only.setCells {S : Nat → Prop} {g : Nat} (hg : S g) : ∀ (vs : List Value) (o : Nat) (w : World), Only S w (w.setCells g o vs)
  | [], _, w => Only.refl S w
  | v :: r, o, w => ((Only.refl S w).setCell (p := ⟨g, o, none⟩) (Or.inl hg) v).trans (Only.setCells hg r (o + 1) _)
theorem room_M {w : World} {gm : Nat} {m : Msg} (h : w.heap[gm]? = some (.cells (rowM m) 30 (0, 0))) (o n : Nat) (ho : o + n ≤ 17) : w.there gm o n := fun j hj => by
  have hs : o + j < (rowM m).size := by rw [rowM_size]; omega
  exact ⟨by rw [cells_of h, Array.getElem?_eq_getElem hs]; rfl, free_block h _⟩
/-- What bytes behind a kind are. -/
def bodyM (f : Nat → Int) (kind : Int) : Msg :=
  { kind := kind, change := bitAt (f 4) 1, ack := bitAt (f 4) 128, prop := kind == 2 && bitAt (f 4) 2, agr := kind == 2 && bitAt (f 4) 64, lrn := kind == 2 && bitAt (f 4) 16, fwd := kind == 2 && bitAt (f 4) 32,
    role := if kind = 2 then roleN (f 4 / 4 % 4) else 4, root := numAt f 5 8, cost := numAt f 13 4, bridge := numAt f 17 8, port := numAt f 25 2, rx := 0, age := fromN (numAt f 27 2), mx := fromN (numAt f 29 2), hel := fromN (numAt f 31 2), del := fromN (numAt f 33 2) }
end Go.Proofs.Ytehapoilfmgjgaa.Oct
