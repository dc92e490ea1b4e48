/- What the laws of chapter 17 share: a step of a bridge in memory, in short; a clone in a block of its own. No condition. -/
import Derived.Test.YtbbjoelcbppfoaaTo6
import Derived.Test.YtbbjoelcbppfoaaTo7
import Derived.Test.YtbbjoelcbppfoaaFew
set_option linter.unusedSimpArgs false
set_option linter.unusedVariables false
namespace Go.Proofs.Ytbbjoelcbppfoaa.Br
open Go.RowKit
/-- A bridge that was b0, c places later. -/
def Side (b0 b : Bri) (c : Nat) : Prop := b.r = b0.r ∧ b.n = b0.n ∧ b.no = b0.no ∧ b.nf = b0.nf + c ∧ ∃ ga oa, b.af = some ⟨ga, oa, none⟩
/-- Its times. -/
def TimesOk (b : Bri) : Prop := ∀ x, x < 3 → 0 ≤ b.r.i (3 + x) ∧ b.r.i (3 + x) ≤ 1000
theorem times_ok {b : Bri} {ps : Nat → Rec} (h : Looked b ps) : TimesOk b := fun x hx => by
  have := h.1.1
  simp only [right4, decide_eq_true_eq] at this
  rcases (show x = 0 ∨ x = 1 ∨ x = 2 by omega) with rfl | rfl | rfl
  · exact ⟨by show 0 ≤ b.r.i 3; omega, by show b.r.i 3 ≤ 1000; omega⟩
  · exact ⟨by show 0 ≤ b.r.i 4; omega, by show b.r.i 4 ≤ 1000; omega⟩
  · exact ⟨by show 0 ≤ b.r.i 5; omega, by show b.r.i 5 ≤ 1000; omega⟩
theorem topoB_r {b b' : Bri} (h : b'.r = b.r) (p : Rec) : topoB b' p = topoB b p := by
  unfold topoB
  rw [h]
theorem step_is (b0 : Bri) (hT : TimesOk b0) (w : World) (bx g k c : Nat) (b : Bri) (ps ss : Nat → Rec) (fs : Nat → Int) (p q : Rec) (t f d : Bool) (hF : topoB b0 p = (q, t, f, d)) (h : Bst w bx g b (upd ps k p) ss fs) (hS : Side b0 b c) (hk : k < b0.n) (hn : b0.n ≤ 1000) (hc : b0.nf + c ≤ 100000) :
    Calls Try.prog 13 #[.pointer (some ⟨bx, 0, none⟩), .int .i64 k] w fun e w' => ∃ b', e = .returned (.bool d) ∧ Bst w' bx g b' (upd (tellF t k ps) k q) ss (flF f (b0.nf + c) fs k) ∧ Only (fun x => x = g ∨ x = bx) w w' ∧ Side b0 b' (flN f c) := by
  obtain ⟨h1, h2, h3, h4, h5⟩ := hS
  refine (step_any w bx g k b ps ss fs p h (by rw [h2]; exact hk) (by rw [h1]; exact hT) (by rw [h2]; exact hn) (by rw [h4]; exact hc) (fun _ => h5)).mono ?_
  rintro e w' ⟨af, cf, rfl, hb, ho, ha⟩
  rw [topoB_r h1, hF] at hb ⊢
  refine ⟨{ b with af := af, nf := flN f b.nf, cf := cf }, rfl, by rw [← h4]; exact hb, ho, h1, h2, h3, ?_, ?_⟩
  · show flN f b.nf = b0.nf + flN f c
    rw [h4]
    unfold flN
    cases f <;> simp <;> omega
  · rcases ha with e | ⟨g', e, _⟩
    · obtain ⟨ga, oa, h5⟩ := h5
      exact ⟨ga, oa, e.trans h5⟩
    · exact ⟨g', 0, e⟩
theorem step_gen (b0 : Bri) (hT : TimesOk b0) (w : World) (bx g k c : Nat) (b : Bri) (ps ss : Nat → Rec) (fs : Nat → Int) (p : Rec) (h : Bst w bx g b (upd ps k p) ss fs) (hS : Side b0 b c) (hk : k < b0.n) (hn : b0.n ≤ 1000) (hc : b0.nf + c ≤ 100000) :
    Calls Try.prog 13 #[.pointer (some ⟨bx, 0, none⟩), .int .i64 k] w fun e w' => ∃ b', e = .returned (.bool (topoB b0 p).2.2.2) ∧ Bst w' bx g b' (upd (tellF (topoB b0 p).2.1 k ps) k (topoB b0 p).1) ss (flF (topoB b0 p).2.2.1 (b0.nf + c) fs k) ∧ Only (fun x => x = g ∨ x = bx) w w' ∧ Side b0 b' (flN (topoB b0 p).2.2.1 c) :=
  step_is b0 hT w bx g k c b ps ss fs p _ _ _ _ rfl h hS hk hn hc
/-- A clone in a block of its own. -/
theorem clone_bst {w w' : World} {b : Bri} {ps ss : Nat → Rec} {fs : Nat → Int} {gp cp go co gf cf : Nat} (hp : Own w gp 51 89 b.n cp fun k j => cellP (ps k) j) (hs : Own w go 64 18 b.no co fun k j => cellS (ss k) j) (hf : Own w gf 3 1 b.nf cf fun k _ => .int .i64 (fs k))
    (h12 : gp < go) (h23 : go < gf) (hw' : w' = w.alloc (.cells (rowB (b.at gp cp go co gf cf)) 33)) :
    ∃ bb bx, bx = w.heap.size ∧ Bst w' bx gp bb ps ss fs ∧ gp < bx ∧ Side b bb 0 ∧ Below w.heap.size w w' := by
  subst hw'
  have l1 := hp.lt
  exact ⟨b.at gp cp go co gf cf, w.heap.size, rfl, Bst.of_clone hp hs hf h12 h23 _ (more (Below.refl _ _) _) (Nat.le_refl _) (heap_alloc_new _ _), l1, ⟨rfl, rfl, rfl, rfl, gf, 0, rfl⟩, more (Below.refl _ _) _⟩
theorem orig {W wx wz : World} {bx gp : Nat} {b : Bri} (h : wx.heap[W.heap.size]? = some (.cells (rowB b) 33 (0, 0))) (ho : Only (fun x => x = gp ∨ x = bx) wx wz) (h1 : W.heap.size < gp) (h2 : gp < bx) : wz.heap[W.heap.size]? = some (.cells (rowB b) 33 (0, 0)) :=
  (ho.block _ (Array.getElem?_eq_some_iff.1 h).1 (by omega)).trans h
theorem Bst.c17s {w : World} {bx g : Nat} {b b0 : Bri} {c : Nat} {ps ss : Nat → Rec} {fs : Nat → Int} (h : Bst w bx g b ps ss fs) (hS : Side b0 b c) : ∃ cap, w.cell? ⟨bx, 17, none⟩ = some (.slice (some ⟨g, 0, none⟩) b0.n cap) := ⟨b.cp, by rw [← hS.2.1]; exact h.c17⟩
theorem Bst.c19s {w : World} {bx g : Nat} {b b0 : Bri} {c : Nat} {ps ss : Nat → Rec} {fs : Nat → Int} (h : Bst w bx g b ps ss fs) (hS : Side b0 b c) : ∃ ga oa cap, w.cell? ⟨bx, 19, none⟩ = some (.slice (some ⟨ga, oa, none⟩) (b0.nf + c : Nat) cap) ∧ ∀ j, j < b0.nf + c → w.cell? ⟨ga, oa + j, none⟩ = some (.int .i64 (fs j)) := by
  obtain ⟨ga, oa, ha⟩ := hS.2.2.2.2
  refine ⟨ga, oa, b.cf, ?_, fun j hj => ?_⟩
  · rw [← ha, ← hS.2.2.2.1]
    exact cells_of h.h 19
  · rcases h.f with h0 | ⟨g', o', e, hc⟩
    · have := hS.2.2.2.1
      omega
    · rw [ha] at e
      cases e
      have := hc j (by rw [hS.2.2.2.1]; exact hj) 0 (by omega)
      rw [Nat.mul_one, Nat.add_zero] at this
      exact this
end Go.Proofs.Ytbbjoelcbppfoaa.Br
