/- What the laws of chapter 15 share: a step of a bridge in memory, in short; a clone in a block of its own. No condition. -/
import Derived.Test.YtdangeefecdbaaaTr17
import Derived.Test.YtdangeefecdbaaaTr18
import Derived.Test.YtdangeefecdbaaaFew
set_option linter.unusedSimpArgs false
set_option linter.unusedVariables false
namespace Go.Proofs.Ytdangeefecdbaaa.Br
open Go.RowKit
/-- Its times. -/
def TimesOk (b : Bri) : Prop := ∀ x, x < 3 → 0 ≤ b.r.i (3 + x) ∧ b.r.i (3 + x) ≤ 1000
theorem times_ok {b : Bri} {ps : Nat → Rec} (h : Looked b ps) : TimesOk b := fun x hx => by
  have := h.1.1
  simp only [right4, decide_eq_true_eq] at this
  rcases (show x = 0 ∨ x = 1 ∨ x = 2 by omega) with rfl | rfl | rfl
  · exact ⟨by show 0 ≤ b.r.i 3; omega, by show b.r.i 3 ≤ 1000; omega⟩
  · exact ⟨by show 0 ≤ b.r.i 4; omega, by show b.r.i 4 ≤ 1000; omega⟩
  · exact ⟨by show 0 ≤ b.r.i 5; omega, by show b.r.i 5 ≤ 1000; omega⟩
/-- A step: the ports behind it, where it is one. -/
def nextT (b : Bri) (k : Nat) (ps : Nat → Rec) : Option (Nat → Rec) := transT b k (ps k) ps
theorem step_ps (w : World) (bx g k : Nat) (b : Bri) (ps ss : Nat → Rec) (fs : Nat → Int) (h : Bst w bx g b ps ss fs) (hk : k < b.n) (hT : TimesOk b) (hn : b.n ≤ 1000) :
    Calls Try.prog 14 #[.pointer (some ⟨bx, 0, none⟩), .int .i64 k] w fun e w' => e = .returned (.bool (nextT b k ps).isSome) ∧ Bst w' bx g b ((nextT b k ps).getD ps) ss fs ∧ Only (· = g) w w' := by
  have := step_any w bx g k b ps ss fs (ps k) (h.start k) hk hT hn
  rw [upd_self] at this
  exact this
/-- A clone in a block of its own. -/
theorem clone_bst {w w' : World} {b : Bri} {ps ss : Nat → Rec} {fs : Nat → Int} {gp cp go co gf cf : Nat} (hp : Own w gp 51 89 b.n cp fun k j => cellP (ps k) j) (hs : Own w go 67 18 b.no co fun k j => cellS (ss k) j) (hf : Own w gf 3 1 b.nf cf fun k _ => .int .i64 (fs k))
    (h12 : gp < go) (h23 : go < gf) (hw' : w' = w.alloc (.cells (rowB (b.at gp cp go co gf cf)) 33)) :
    ∃ bb bx, bx = w.heap.size ∧ Bst w' bx gp bb ps ss fs ∧ gp < bx ∧ (bb.r = b.r ∧ bb.n = b.n ∧ bb.no = b.no ∧ bb.nf = b.nf) ∧ Below w.heap.size w w' := by
  subst hw'
  have l1 := hp.lt
  exact ⟨b.at gp cp go co gf cf, w.heap.size, rfl, Bst.of_clone hp hs hf h12 h23 _ (more (Below.refl _ _) _) (Nat.le_refl _) (heap_alloc_new _ _), l1, ⟨rfl, rfl, rfl, rfl⟩, more (Below.refl _ _) _⟩
theorem firstOn_map {α β : Type} (f : α → β) : ∀ l : List (Bool × α), firstOn (l.map fun a => (a.1, f a.2)) = (firstOn l).map f
  | [] => rfl
  | a :: l => by
    show (bif a.1 then some (f a.2) else firstOn (l.map fun a => (a.1, f a.2))) = _
    rw [firstOn_map f l]
    show _ = (bif a.1 then some a.2 else firstOn l).map f
    cases a.1 <;> rfl
/-- The rows of a designated port, of the port alone. -/
def desR (b : Bri) (p : Rec) : List (Bool × Rec) :=
  [(((!p.b 26 && !p.b 23) && !p.b 34) && !p.b 32, propF b p), ((!p.b 47 && ((quietF p || p.b 23) || p.b 32)) || (p.b 47 && p.b 46), syncedF p), (p.b 42 && p.i 12 == 0, p.setB 42 false), (((p.b 28 || p.b 26) && !p.b 32) && stopD p, stopF b p), (onD p && !p.b 28, (p.setB 28 true).setI 7 (fwdN b p)), ((onD p && p.b 28) && !p.b 26, openF p)]
theorem transT_same (b : Bri) (k : Nat) (p : Rec) (ps : Nat → Rec) (h1 : p.b 44 = true) (h2 : p.b 50 = false) (h3 : p.i 87 = p.i 88) : transT b k p ps = firstOn (statesL b k p ps) := by
  rw [transT_on b k p ps h1 h2, roles_none b k p ps _ (by rw [h3]; simp)]
/-- A designated port's step. -/
theorem next_des (b : Bri) (k : Nat) (ps : Nat → Rec) (p : Rec) (h1 : p.b 44 = true) (h2 : p.b 50 = false) (h3 : p.i 87 = p.i 88) (h4 : p.i 19 = 3) : nextT b k (upd ps k p) = (firstOn (desR b p)).map (upd ps k) := by
  unfold nextT
  rw [upd_same, transT_same b k p _ h1 h2 h3]
  have e : statesL b k p (upd ps k p) = (desR b p).map fun a => (a.1, upd (upd ps k p) k a.2) := by
    unfold statesL
    rw [if_neg (by omega), if_neg (by omega), if_neg (by omega), if_neg (by omega), if_neg (by omega), if_pos h4]
    rfl
  rw [e, firstOn_map]
  congr 1
  funext q
  exact upd_upd _ _ _ _
end Go.Proofs.Ytdangeefecdbaaa.Br
