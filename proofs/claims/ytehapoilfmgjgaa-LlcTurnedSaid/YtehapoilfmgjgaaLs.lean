/- Chapter 6: bytes of the call's own of which one is set. No condition. -/
import Derived.Test.YtehapoilfmgjgaaLf
set_option linter.unusedVariables false
namespace Go.Proofs.Ytehapoilfmgjgaa.Oct
open Go.RowKit
theorem OwnB.set {w : World} {base g c n : Nat} {l : List Int} (h : OwnB w base (.slice (some ⟨g, 0, none⟩) n c) l) (j : Nat) (x : Int) : OwnB (w.setCell ⟨g, j, none⟩ (.int .u8 x)) base (.slice (some ⟨g, 0, none⟩) n c) (l.set j x) := by
  obtain ⟨h1, ⟨h2, _⟩ | ⟨g', c', cur, h2, hg, hh, h3, h4, h5, h6⟩⟩ := h
  · cases h2
  · injection h2 with e1 e2 e3
    injection e1 with e1
    injection e1 with e1
    subst e1
    subst e3
    subst e2
    refine ⟨by simp, .inr ⟨g, c, cur.setIfInBounds j (.int .u8 x), by rw [List.length_set], hg, at_set hh rfl, by rw [List.length_set]; exact h3, h4, by simpa using h5, ?_⟩⟩
    rw [List.length_set, Array.toList_setIfInBounds, List.map_set, ← h6, List.take_set]
theorem OwnB.base_le {w : World} {base g c n : Nat} {l : List Int} (h : OwnB w base (.slice (some ⟨g, 0, none⟩) n c) l) : base ≤ g ∧ g < w.heap.size := by
  obtain ⟨h1, ⟨h2, _⟩ | ⟨g', c', cur, h2, hg, hh, h3, h4, h5, h6⟩⟩ := h
  · cases h2
  · injection h2 with e1 e2 e3
    injection e1 with e1
    injection e1 with e1
    subst e1
    exact ⟨hg, (Array.getElem?_eq_some_iff.1 hh).1⟩
theorem fB_set_same {l : List Int} {j : Nat} {x : Int} (hj : j < l.length) : fB (l.set j x) j = x := by
  unfold fB
  rw [List.getElem?_set_self hj]
  rfl
theorem fB_set_other {l : List Int} {j i : Nat} {x : Int} (h : i ≠ j) : fB (l.set j x) i = fB l i := by
  unfold fB
  rw [List.getElem?_set_ne (fun e => h e.symm)]
theorem set_ok {l : List Int} {j : Nat} {x : Int} (h : ∀ y ∈ l, 0 ≤ y ∧ y ≤ 255) (hx : 0 ≤ x ∧ x ≤ 255) : ∀ y ∈ l.set j x, 0 ≤ y ∧ y ≤ 255 := fun y hy => by
  rcases List.mem_or_eq_of_mem_set hy with h1 | rfl
  · exact h y h1
  · exact hx
end Go.Proofs.Ytehapoilfmgjgaa.Oct
