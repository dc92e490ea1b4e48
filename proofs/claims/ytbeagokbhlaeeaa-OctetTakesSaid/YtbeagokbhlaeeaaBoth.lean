/- Law OctetTakes of chapter 1: the walk joined with the plain law. -/
import Derived.Test.YtbeagokbhlaeeaaRefTake
import Derived.Test.YtbeagokbhlaeeaaAwake01
import Derived.Deep.RegionHeld3
import Derived.BigQuiet
set_option linter.unusedSimpArgs false
namespace Go.Proofs.Ytbeagokbhlaeeaa.Oct
open Go.RowKit
theorem RdR.below {w w' : World} {rg n : Nat} {f : Nat → Int} {s : Bool} (h : RdR w rg n f s) (hb : Below w.heap.size w w') : RdR w' rg n f s := by
  obtain ⟨a, c, hr, hv, h1⟩ := h
  exact ⟨a, c, (hb.block _ (Array.getElem?_eq_some_iff.1 hr).1).trans hr, hv.below hb, h1⟩
theorem View.only {S : Nat → Prop} {w w' : World} {a : Option Addr} {sz n : Nat} {c : Nat → Nat → Value} (h : View w a sz n c) (hb : Only S w w') (hn : ∀ g o, a = some ⟨g, o, none⟩ → 0 < n → 0 < sz → ¬ S g) : View w' a sz n c := by
  rcases h with h | ⟨g, o, ha, hc⟩
  · exact .inl h
  · exact .inr ⟨g, o, ha, fun k hk j hj => by rw [hb.cell (p := ⟨g, _, none⟩) (cell_lt (hc k hk j hj)) (hn g o ha (by omega) (by omega))]; exact hc k hk j hj⟩
theorem Rd.lt {w : World} {rg n : Nat} {f : Nat → Int} {s : Bool} (h : Rd w rg n f s) : rg < w.heap.size := by
  obtain ⟨a, c, hr, _⟩ := h
  exact (Array.getElem?_eq_some_iff.1 hr).1
theorem RdR.lt {w : World} {rg n : Nat} {f : Nat → Int} {s : Bool} (h : RdR w rg n f s) : rg < w.heap.size := by
  obtain ⟨a, c, hr, _⟩ := h
  exact (Array.getElem?_eq_some_iff.1 hr).1
/-- A view's cell is no reader. -/
theorem view_ne {w : World} {rg g o n : Nat} {f : Nat → Int} {s : Bool} {T : TypeId} {m c : Nat} {ad : Option Addr} (hr : w.heap[rg]? = some (.cells #[.slice ad m c, .bool s] T (0, 0))) (hc : w.cell? ⟨g, o, none⟩ = some (.int .u8 (f n))) : g ≠ rg := by
  rintro rfl
  rw [cells_of hr] at hc
  match o, hc with
  | 0, h => simp at h
  | 1, h => simp at h
  | q + 2, h => simp at h
theorem Rd.only {w w' : World} {rg rw' n : Nat} {f g : Nat → Int} {s s2 : Bool} {m : Nat} (h : Rd w rg n f s) (hw : RdR w rw' m g s2) (hb : Only (· = rw') w w') (hne : rg ≠ rw') : Rd w' rg n f s := by
  obtain ⟨a, c, hr, hv, h1⟩ := h
  obtain ⟨a2, c2, hr2, _⟩ := hw
  refine ⟨a, c, (hb.block _ (Array.getElem?_eq_some_iff.1 hr).1 hne).trans hr, ?_, h1⟩
  rcases hv with hv | ⟨gg, o, ha, hc⟩
  · exact .inl hv
  · exact .inr ⟨gg, o, ha, fun k hk j hj => by
      have hk' := hc k hk j hj
      rw [hb.cell (p := ⟨gg, _, none⟩) (cell_lt hk') (view_ne (n := k) hr2 hk')]
      exact hk'⟩
theorem RdR.only {w w' : World} {rg rw' n : Nat} {f g : Nat → Int} {s s2 : Bool} {m : Nat} (h : RdR w rg n f s) (hw : Rd w rw' m g s2) (hb : Only (· = rw') w w') (hne : rg ≠ rw') : RdR w' rg n f s := by
  obtain ⟨a, c, hr, hv, h1⟩ := h
  obtain ⟨a2, c2, hr2, _⟩ := hw
  refine ⟨a, c, (hb.block _ (Array.getElem?_eq_some_iff.1 hr).1 hne).trans hr, ?_, h1⟩
  rcases hv with hv | ⟨gg, o, ha, hc⟩
  · exact .inl hv
  · exact .inr ⟨gg, o, ha, fun k hk j hj => by
      have hk' := hc k hk j hj
      rw [hb.cell (p := ⟨gg, _, none⟩) (cell_lt hk') (view_ne (n := k) hr2 hk')]
      exact hk'⟩
/-- What both readers answer, and what they are then. -/
def Taken (n : Nat) (f : Nat → Int) (s : Bool) (i x : Int) (n' : Nat) (f' : Nat → Int) (s' : Bool) : Prop :=
  (∃ k : Nat, i = k ∧ 1 ≤ k ∧ k ≤ 8 ∧ k ≤ n ∧ s = false ∧ x = num f k ∧ n' = n - k ∧ f' = (fun j => f (k + j)) ∧ s' = false) ∨
  ((1 ≤ i ∧ i ≤ 8) ∧ (n : Int) < i ∧ s = false ∧ x = 0 ∧ n' = 0 ∧ f' = f ∧ s' = true) ∨
  ((s = true ∨ i < 1 ∨ 8 < i) ∧ x = 0 ∧ n' = n ∧ f' = f ∧ s' = s)
theorem taken_ex (n : Nat) (f : Nat → Int) (s : Bool) (i : Int) : ∃ x n' f' s', Taken n f s i x n' f' s' := by
  by_cases h : s = true ∨ i < 1 ∨ 8 < i
  · exact ⟨_, _, _, _, .inr (.inr ⟨h, rfl, rfl, rfl, rfl⟩)⟩
  · have hs : s = false := by cases s <;> simp_all
    obtain ⟨k, rfl⟩ : ∃ k : Nat, i = k := Int.eq_ofNat_of_zero_le (by omega)
    by_cases hk : k ≤ n
    · exact ⟨_, _, _, _, .inl ⟨k, rfl, by omega, by omega, hk, hs, rfl, rfl, rfl, rfl⟩⟩
    · exact ⟨_, _, _, _, .inr (.inl ⟨by omega, by omega, hs, rfl, rfl, rfl, rfl⟩)⟩
theorem take_rel (w : World) (rg n : Nat) (f : Nat → Int) (s : Bool) (i x : Int) (n' : Nat) (f' : Nat → Int) (s' : Bool) (ht : Taken n f s i x n' f' s') (h : Rd w rg n f s) :
    Calls Try.prog 13 #[.pointer (some ⟨rg, 0, none⟩), .int .i64 i] w fun e w' => e = .returned (.int .u64 x) ∧ Rd w' rg n' f' s' ∧ Only (· = rg) w w' := by
  rcases ht with ⟨k, rfl, h1, h8, hk, rfl, rfl, rfl, rfl, rfl⟩ | ⟨hi, hn, rfl, rfl, rfl, rfl, rfl⟩ | ⟨hs, rfl, rfl, rfl, rfl⟩
  · exact take_in w rg n k f h ⟨h1, h8⟩ hk
  · exact (take_few w rg n i f' h hi hn).mono fun _ _ ⟨he, hr, ho⟩ => ⟨he, hr _, ho⟩
  · exact (take_no w rg n' s' i f' h hs).mono fun _ _ ⟨he, hw⟩ => by subst hw; exact ⟨he, h, Only.refl _ _⟩
theorem rtake_rel (w : World) (rg n : Nat) (f : Nat → Int) (s : Bool) (i x : Int) (n' : Nat) (f' : Nat → Int) (s' : Bool) (ht : Taken n f s i x n' f' s') (h : RdR w rg n f s) :
    Calls Try.prog 14 #[.pointer (some ⟨rg, 0, none⟩), .int .i64 i] w fun e w' => e = .returned (.int .u64 x) ∧ RdR w' rg n' f' s' ∧ Only (· = rg) w w' := by
  rcases ht with ⟨k, rfl, h1, h8, hk, rfl, rfl, rfl, rfl, rfl⟩ | ⟨hi, hn, rfl, rfl, rfl, rfl, rfl⟩ | ⟨hs, rfl, rfl, rfl, rfl⟩
  · exact rtake_in w rg n k f h ⟨h1, h8⟩ hk
  · exact (rtake_few w rg n i f' h hi hn).mono fun _ _ ⟨he, hr, ho⟩ => ⟨he, hr _, ho⟩
  · exact (rtake_no w rg n' s' i f' h hs).mono fun _ _ ⟨he, hw⟩ => by subst hw; exact ⟨he, h, Only.refl _ _⟩
end Go.Proofs.Ytbeagokbhlaeeaa.Oct
