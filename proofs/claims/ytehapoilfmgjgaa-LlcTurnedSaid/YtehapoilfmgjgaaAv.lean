/- Chapters 5, 6: a slice of bytes that can be read, appended to bytes of the call's own. No condition. -/
import Derived.Test.YtehapoilfmgjgaaEn3
import Derived.Test.YtehapoilfmgjgaaPl
set_option linter.unusedSimpArgs false
set_option linter.unusedVariables false
namespace Go.Proofs.Ytehapoilfmgjgaa.Oct
open Go.RowKit
theorem mkE (w : World) : Sem.run Try.prog (Instr.buildSlice 33 0 #[]) w = .ok (.slice (some ⟨w.heap.size, 0, none⟩) 0 0) (w.alloc (.cells (cellsB []) 5)) := by kernel_rfl
/-- Bytes, as a list. -/
def lst (f : Nat → Int) (n : Nat) : List Int := (List.range n).map f
theorem lst_len (f : Nat → Int) (n : Nat) : (lst f n).length = n := by simp [lst]
theorem lst_at (f : Nat → Int) (n : Nat) (j : Nat) (hj : j < (lst f n).length) : (lst f n)[j] = f j := by simp [lst]
theorem lst_ok {f : Nat → Int} {n : Nat} (h : ∀ j, j < n → 0 ≤ f j ∧ f j ≤ 255) : ∀ x ∈ lst f n, 0 ≤ x ∧ x ≤ 255 := by
  intro x hx
  obtain ⟨j, hj, rfl⟩ := List.mem_map.1 hx
  exact h j (List.mem_range.1 hj)
theorem lst_fB (l : List Int) : lst (fB l) l.length = l := by
  apply List.ext_getElem?
  intro j
  unfold lst fB
  by_cases hj : j < l.length
  · rw [List.getElem?_map, List.getElem?_range hj]
    simp [hj]
  · rw [List.getElem?_eq_none (by simp; omega), List.getElem?_eq_none (by omega)]
theorem wpList_appV {ops : Array Oper} {rest : List Oper} {o : Oper} {a : Act} {w : World} {Q : Exit → Act → World → Prop} (hgd : o.guard = none) (s x : Operand) (ho : o.op = .call { callee := .builtin .append, args := #[s, x], argTypes := #[33, 33] })
    (base : Nat) (v : Value) (l : List Int) (hs : a.eval s = v) (hO : OwnB w base v l) (hbase : base ≤ w.heap.size) (ao : Option Addr) (n c : Nat) (f : Nat → Int) (hx : a.eval x = .slice ao n c) (hnil : ao = none → n = 0 ∧ c = 0)
    (hv : View w ao 1 n (fun j _ => .int .u8 (f j))) (hb : l.length + n ≤ 100000)
    (h : ∀ v' w', OwnB w' base v' (l ++ lst f n) → Below base w w' → (∀ (k : Nat) (C : Array Value) (T : TypeId) (fr : Nat × Nat), w.heap[k]? = some (.cells C T fr) → T ≠ 5 → w'.heap[k]? = w.heap[k]?) → wpList Try.prog ops Q rest (a.put o.dst v') w') : wpList Try.prog ops Q (o :: rest) a w := by
  cases ao with
  | none =>
    obtain ⟨rfl, rfl⟩ := hnil rfl
    obtain ⟨i8, hi8, hz8, hs8, hb8⟩ := info_parts info8
    refine wpList_append_own_none hgd s x 33 ho base 5 i8 1 Try.underlying33 hi8 _ _ _ hs hO hx ?_
    exact h v w (by simpa [lst] using hO) (Below.refl _ _) (fun _ _ _ _ _ _ => rfl)
  | some ad =>
    refine wpList_appB hgd s x ho base v l hs hO hbase ad c (lst f n) n (lst_len f n) hx (fun j hj => ?_) hb h
    rw [lst_at]
    rw [lst_len] at hj
    rcases hv with h0 | ⟨g, o', e, hc⟩
    · omega
    · injection e with e
      subst e
      have h1 := hc j hj 0 (by omega)
      rw [Addr.add_mid]
      simpa using h1
end Go.Proofs.Ytehapoilfmgjgaa.Oct
