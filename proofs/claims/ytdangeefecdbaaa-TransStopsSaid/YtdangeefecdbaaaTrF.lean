/- A port's flags, stored whole. No condition. -/
import Derived.Test.YtdangeefecdbaaaTrOn
set_option linter.unusedSimpArgs false
set_option linter.unusedVariables false
namespace Go.Proofs.Ytdangeefecdbaaa.Br
open Go.RowKit
/-- A port with other flags. -/
def putF (p f : Rec) : Rec := ⟨p.i, fun j => if 22 ≤ j ∧ j < 51 then f.b j else p.b j⟩
theorem putF_in (p f : Rec) {j : Nat} (h1 : 22 ≤ j) (h2 : j < 51) : cellP (putF p f) j = cellP f j := by
  rcases (show j = 22 ∨ j = 23 ∨ j = 24 ∨ j = 25 ∨ j = 26 ∨ j = 27 ∨ j = 28 ∨ j = 29 ∨ j = 30 ∨ j = 31 ∨ j = 32 ∨ j = 33 ∨ j = 34 ∨ j = 35 ∨ j = 36 ∨ j = 37 ∨ j = 38 ∨ j = 39 ∨ j = 40 ∨ j = 41 ∨ j = 42 ∨ j = 43 ∨ j = 44 ∨ j = 45 ∨ j = 46 ∨ j = 47 ∨ j = 48 ∨ j = 49 ∨ j = 50 by omega) with rfl | rfl | rfl | rfl | rfl | rfl | rfl | rfl | rfl | rfl | rfl | rfl | rfl | rfl | rfl | rfl | rfl | rfl | rfl | rfl | rfl | rfl | rfl | rfl | rfl | rfl | rfl | rfl | rfl <;> rfl
theorem putF_lo (p f : Rec) {j : Nat} (h : j < 22) : cellP (putF p f) j = cellP p j := by
  rcases (show j = 0 ∨ j = 1 ∨ j = 2 ∨ j = 3 ∨ j = 4 ∨ j = 5 ∨ j = 6 ∨ j = 7 ∨ j = 8 ∨ j = 9 ∨ j = 10 ∨ j = 11 ∨ j = 12 ∨ j = 13 ∨ j = 14 ∨ j = 15 ∨ j = 16 ∨ j = 17 ∨ j = 18 ∨ j = 19 ∨ j = 20 ∨ j = 21 by omega) with rfl | rfl | rfl | rfl | rfl | rfl | rfl | rfl | rfl | rfl | rfl | rfl | rfl | rfl | rfl | rfl | rfl | rfl | rfl | rfl | rfl | rfl <;> rfl
theorem putF_hi (p f : Rec) {j : Nat} (h : j < 38) : cellP (putF p f) (51 + j) = cellP p (51 + j) := by
  rcases (show j = 0 ∨ j = 1 ∨ j = 2 ∨ j = 3 ∨ j = 4 ∨ j = 5 ∨ j = 6 ∨ j = 7 ∨ j = 8 ∨ j = 9 ∨ j = 10 ∨ j = 11 ∨ j = 12 ∨ j = 13 ∨ j = 14 ∨ j = 15 ∨ j = 16 ∨ j = 17 ∨ j = 18 ∨ j = 19 ∨ j = 20 ∨ j = 21 ∨ j = 22 ∨ j = 23 ∨ j = 24 ∨ j = 25 ∨ j = 26 ∨ j = 27 ∨ j = 28 ∨ j = 29 ∨ j = 30 ∨ j = 31 ∨ j = 32 ∨ j = 33 ∨ j = 34 ∨ j = 35 ∨ j = 36 ∨ j = 37 by omega) with rfl | rfl | rfl | rfl | rfl | rfl | rfl | rfl | rfl | rfl | rfl | rfl | rfl | rfl | rfl | rfl | rfl | rfl | rfl | rfl | rfl | rfl | rfl | rfl | rfl | rfl | rfl | rfl | rfl | rfl | rfl | rfl | rfl | rfl | rfl | rfl | rfl | rfl <;> rfl
theorem rowF_size (r : Rec) : (rowF r).size = 29 := rfl
theorem rowF_0 (r : Rec) : (rowF r)[0]? = some (.bool (r.b 22)) := rfl
theorem Ports.flags {w : World} {g n k : Nat} {ps : Nat → Rec} (h : Ports w g n ps) (hk : k < n) (f : Rec) : Ports (w.setCells g (k * 89 + 22) (rowF f).toList) g n (upd ps k (putF (ps k) f)) := by
  have h0 := h
  obtain ⟨C, hg, hc⟩ := h
  obtain ⟨C', hg'⟩ := setCells_block (rowF f).toList (k * 89 + 22) w C hg
  have hl : (rowF f).toList.length = 29 := by simp [rowF_size]
  refine ⟨C', hg', fun x hx j hj => ?_⟩
  rw [← cells_of hg' (x * 89 + j)]
  by_cases e : x = k
  · subst e
    rw [upd_same]
    by_cases h1 : 22 ≤ j ∧ j < 51
    · rw [putF_in _ _ h1.1 h1.2]
      have := World.cell?_setCells_in g (rowF f).toList (x * 89 + 22) w (fun i hi => by rw [Nat.add_assoc, h0.cell hx (by omega)]; rfl) (j - 22) (by omega)
      rw [show x * 89 + 22 + (j - 22) = x * 89 + j by omega] at this
      rw [this]
      have hm := rowF_get f (j - 22) (by omega)
      rw [show 22 + (j - 22) = j by omega] at hm
      rw [← hm]
      simp
    · rw [World.cell?_setCells_out g _ _ w _ (fun _ _ => by
        rw [hl]
        show x * 89 + j < x * 89 + 22 ∨ x * 89 + 22 + 29 ≤ x * 89 + j
        omega)]
      rw [h0.cell hx hj]
      by_cases h2 : j < 22
      · rw [putF_lo _ _ h2]
      · obtain ⟨y, rfl⟩ : ∃ y, j = 51 + y := ⟨j - 51, by omega⟩
        rw [putF_hi _ _ (by omega)]
  · rw [World.cell?_setCells_out g _ _ w _ (fun _ _ => by
      rw [hl]
      show x * 89 + j < k * 89 + 22 ∨ k * 89 + 22 + 29 ≤ x * 89 + j
      omega), upd_other _ _ e]
    exact h0.cell hx hj
theorem Bst.ports {w w' : World} {bx g : Nat} {b : Bri} {ps ps' ss : Nat → Rec} {fs : Nat → Int} (h : Bst w bx g b ps ss fs) (hb : Only (· = g) w w') (hp : Ports w' g b.n ps') : Bst w' bx g b ps' ss fs :=
  ⟨(hb.block _ h.lt h.ne).trans h.h, h.ap, hp, h.s.keep (fun g' o e hg => hb.block _ hg (h.sn g' o e).1), h.f.keep (fun g' o e hg => hb.block _ hg (h.fn g' o e).1), h.ne, h.sn, h.fn, h.so, h.fo, h.sc, h.fc⟩
/-- Flags stored into a port. -/
theorem store_flags {w : World} {bx g k : Nat} {b : Bri} {ps ss : Nat → Rec} {fs : Nat → Int} (h : Bst w bx g b ps ss fs) (hk : k < b.n) (f : Rec) : ∃ w', Sem.run Try.prog (storeCells ⟨g, k * 89 + 22, none⟩ (rowF f).toList) w = .ok () w' ∧ Bst w' bx g b (upd ps k (putF (ps k) f)) ss fs ∧ Only (· = g) w w' := by
  have hr : ∀ j, j < 29 → (w.cell? ⟨g, k * 89 + 22 + j, none⟩).isSome = true ∧ w.frozen? ⟨g, k * 89 + 22 + j, none⟩ = false := fun j hj => ⟨by rw [Nat.add_assoc, h.p.cell hk (by omega)]; rfl, h.p.free _⟩
  have ho : Only (· = g) w (w.setCells g (k * 89 + 22) (rowF f).toList) := Only.setCells (S := (· = g)) rfl _ _ _
  exact ⟨_, run_storeCells_cells (P := Try.prog) g (k * 89 + 22) (rowF f).toList 0 w (fun j hj => (hr j (by simpa [rowF_size] using hj)).1) (fun j hj => (hr j (by simpa [rowF_size] using hj)).2) (fun v hv => by have := rowF_one f; rw [Array.all_eq_true'] at this; exact this v (by simpa using hv)), h.ports ho (h.p.flags hk f), ho⟩
end Go.Proofs.Ytdangeefecdbaaa.Br
