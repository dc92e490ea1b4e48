/- A slice of bytes that came in: its cells, and that they are bytes. No condition. -/
import Derived.Test.YtjefonjjgahmgaaOpen
import Derived.ChangeSlices
import Derived.OpenShut
namespace Go.Proofs.Ytjefonjjgahmgaa.Br
open Go.RowKit Go.Deep Go.ChangeShapes Go.WideShapes
section
variable {H : Type} {enc : TypeId × Value → H} {w : World} {base : Nat} {spare : Nat → Bool} {held : Bool}
theorem open_bytes {v : Value} {d : DataW H} {p : List MemPlace} {rr : Reach} {b0 : Nat} (hv : Value.okWide Try.prog w rr b0 42 v) (h : DataW.Trod enc Try.prog w base spare held 42 v d p) :
    ∃ (a : Option Addr) (n c : Nat) (f : Nat → Int), v = .slice a n c ∧ View w a 1 n (fun k _ => .int .u8 (f k)) ∧ ∀ k, k < n → 0 ≤ f k ∧ f k ≤ 255 := by
  obtain ⟨a1, len, cap, rfl⟩ := okWide_slice Try.underlying42 hv
  obtain ⟨fuel, hf⟩ := h
  have c1 : Try.prog.cellsOf 5 = 1 := by kernel_rfl
  rcases open_ints Try.underlying42 Try.underlying5 c1 hf with ⟨hcs, hx⟩ | ⟨a, len', cap', zs, hcs, _, hl, hm, hz, hx, hcell, hwz⟩
  · simp [Value.cells] at hcs
    obtain ⟨rfl, rfl, rfl⟩ := hcs
    exact ⟨none, 0, 0, fun _ => 0, rfl, .inl rfl, fun k hk => by omega⟩
  · simp [Value.cells] at hcs
    obtain ⟨rfl, rfl, rfl⟩ := hcs
    have hlen : len ≤ zs.length := by rw [hz]; split <;> omega
    refine ⟨some a, len, cap, fun k => zs.getD k 0, rfl, ?_, fun k hk => ?_⟩
    · by_cases h0 : len = 0
      · exact .inl h0
      · obtain ⟨ab, ao, spot⟩ := a
        have hspot : spot = none := by simpa [Addr.add] using World.cell?_spot (hcell 0 (by omega))
        subst hspot
        exact .inr ⟨ab, ao, rfl, fun k hk j hj => by
          obtain rfl : j = 0 := by omega
          have := hcell k (by omega)
          rw [Addr.add_lit] at this
          rw [Nat.mul_one, Nat.add_zero]
          exact this⟩
    · simpa [List.getD] using range_u8 hwz k
end
end Go.Proofs.Ytjefonjjgahmgaa.Br
