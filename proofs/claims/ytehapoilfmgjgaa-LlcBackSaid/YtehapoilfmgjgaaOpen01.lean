/- Slices of bytes and of numbers that came in: their cells, and that bytes are bytes. No condition. -/
import Derived.Test.YtehapoilfmgjgaaBase
import Derived.ChangeSlices
import Derived.OpenShut
import Derived.Deep.Slices
namespace Go.Proofs.Ytehapoilfmgjgaa.Oct
open Go.RowKit Go.Deep Go.ChangeShapes Go.WideShapes
section
variable {H : Type} {enc : TypeId × Value → H} {w : World} {base : Nat} {spare : Nat → Bool} {held : Bool}
theorem open_any {t e : TypeId} {k : IntKind} (ht : Try.prog.underlying t = some (.slice e)) (he : Try.prog.underlying e = some (.int k)) (c1 : Try.prog.cellsOf e = 1) {v : Value} {d : DataW H} {p : List MemPlace} {rr : Reach} {b0 : Nat} (hv : Value.okWide Try.prog w rr b0 t v) (h : DataW.Trod enc Try.prog w base spare held t v d p) :
    ∃ (a : Option Addr) (n c : Nat) (f : Nat → Int), v = .slice a n c ∧ View w a 1 n (fun j _ => .int k (f j)) ∧ (∀ j, j < n → (Lit.int k (f j)).wf = true) ∧ (a = none → n = 0 ∧ c = 0) ∧ n ≤ c ∧ c ≤ maxLen := by
  obtain ⟨a1, len, cap, rfl⟩ := okWide_slice ht hv
  obtain ⟨fuel, hf⟩ := h
  rcases open_ints ht he c1 hf with ⟨hcs, hx⟩ | ⟨a, len', cap', zs, hcs, _, hl, hm, hz, hx, hcell, hwz⟩
  · simp [Value.cells] at hcs
    obtain ⟨rfl, rfl, rfl⟩ := hcs
    exact ⟨none, 0, 0, fun _ => 0, rfl, .inl rfl, (fun k hk => by omega), (fun _ => ⟨rfl, rfl⟩), Nat.le_refl _, Nat.zero_le _⟩
  · simp [Value.cells] at hcs
    obtain ⟨rfl, rfl, rfl⟩ := hcs
    have hlen : len ≤ zs.length := by rw [hz]; split <;> omega
    refine ⟨some a, len, cap, fun k => zs.getD k 0, rfl, ?_, (fun k hk => ?_), (fun h => by cases h), hl, hm⟩
    · by_cases h0 : len = 0
      · exact .inl h0
      · obtain ⟨ab, ao, spot⟩ := a
        have hspot : spot = none := by simpa [Addr.add] using World.cell?_spot (hcell 0 (by omega))
        subst hspot
        exact .inr ⟨ab, ao, rfl, fun k hk j hj => by
          obtain rfl : j = 0 := by omega
          have := hcell k (by omega)
          rw [Addr.add_lit] at this
          rw [Nat.mul_one, Nat.add_zero]
          exact this⟩
    · have hk' : k < zs.length := by omega
      have e : zs.getD k 0 = zs[k] := by simp [List.getD, hk']
      show (Lit.int _ (zs.getD k 0)).wf = true
      rw [e]
      exact hwz _ (List.getElem_mem hk')
end
end Go.Proofs.Ytehapoilfmgjgaa.Oct
