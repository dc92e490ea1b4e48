/- What the laws of the sending machine share: a step of a bridge in memory, in short. No condition. -/
import Derived.Test.YtmlhbfkmnbhoeaaTxAwake
import Derived.Test.YtmlhbfkmnbhoeaaOpen
set_option linter.unusedSimpArgs false
namespace Go.Proofs.Ytmlhbfkmnbhoeaa.Br
open Go.RowKit
/-- What is sent behind a step, and how much more. -/
def sentR (b : Bri) (p : Rec) (ss : Nat → Rec) (k : Nat) : Nat → Rec := match (txF b p).2.2 with | none => ss | some kd => fun j => if j = b.no then (msgF p kd).setI 0 k else ss j
def cntR (b : Bri) (p : Rec) : Nat := match (txF b p).2.2 with | none => 0 | some _ => 1
theorem txF_r {b b' : Bri} (h : b'.r = b.r) (p : Rec) : txF b' p = txF b p := by
  unfold txF
  rw [h]
theorem Bst.c17 {w : World} {bx g : Nat} {b : Bri} {ps ss : Nat → Rec} {fs : Nat → Int} (h : Bst w bx g b ps ss fs) : w.cell? ⟨bx, 17, none⟩ = some (.slice (some ⟨g, 0, none⟩) b.n b.cp) := by
  rw [← h.ap]
  exact cells_of h.h 17
theorem step_on (w : World) (bx g k : Nat) (b : Bri) (ps ss : Nat → Rec) (fs : Nat → Int) (p : Rec) (h : Bst w bx g b (upd ps k p) ss fs) (hk : k < b.n) (hT : 0 ≤ p.i 14 ∧ p.i 14 ≤ 1000000) (hno : b.no ≤ 100000) :
    Calls Try.prog 13 #[.pointer (some ⟨bx, 0, none⟩), .int .i64 k] w fun e w' => ∃ b', e = .returned (.bool (txF b p).2.1) ∧ Bst w' bx g b' (upd ps k (txF b p).1) (sentR b p ss k) fs ∧ Only (fun x => x = g ∨ x = bx) w w' ∧ b'.r = b.r ∧ b'.n = b.n ∧ b'.no = b.no + cntR b p ∧ b'.nf = b.nf :=
  (step_any w bx g k b (upd ps k p) ss fs h hk (by rw [upd_same]; exact hT) hno).mono fun _ _ ⟨ao, co, _, he, hb, ho⟩ => by
    have e1 : sentS b (upd ps k p) ss k = sentR b p ss k := by
      unfold sentS sentR
      rw [upd_same]
      cases (txF b p).2.2 <;> rfl
    rw [e1, upd_same] at hb
    rw [upd_same] at he
    rw [upd_upd] at hb
    refine ⟨_, he, hb, ho, rfl, rfl, ?_, rfl⟩
    show sentN b p = _
    unfold sentN cntR
    cases (txF b p).2.2 <;> rfl
/-- A clone in a block of its own. -/
theorem clone_bst {w w' : World} {b : Bri} {ps ss : Nat → Rec} {fs : Nat → Int} {gp cp go co gf cf : Nat} (hp : Own w gp 53 89 b.n cp fun k j => cellP (ps k) j) (hs : Own w go 56 18 b.no co fun k j => cellS (ss k) j) (hf : Own w gf 3 1 b.nf cf fun k _ => .int .i64 (fs k))
    (h12 : gp < go) (h23 : go < gf) (hw' : w' = w.alloc (.cells (rowB (b.at gp cp go co gf cf)) 33)) :
    ∃ bb bx, bx = w.heap.size ∧ Bst w' bx gp bb ps ss fs ∧ gp < bx ∧ bb.r = b.r ∧ bb.n = b.n ∧ bb.no = b.no ∧ bb.nf = b.nf ∧ Below w.heap.size w w' := by
  subst hw'
  have l1 := hp.lt
  exact ⟨b.at gp cp go co gf cf, w.heap.size, rfl, Bst.of_clone hp hs hf h12 h23 _ (more (Below.refl _ _) _) (Nat.le_refl _) (heap_alloc_new _ _), l1, rfl, rfl, rfl, rfl, more (Below.refl _ _) _⟩
theorem orig {W wx wz : World} {bx gp : Nat} {b : Bri} (h : wx.heap[W.heap.size]? = some (.cells (rowB b) 33 (0, 0))) (ho : Only (fun x => x = gp ∨ x = bx) wx wz) (h1 : W.heap.size < gp) (h2 : gp < bx) : wz.heap[W.heap.size]? = some (.cells (rowB b) 33 (0, 0)) :=
  (ho.block _ (Array.getElem?_eq_some_iff.1 h).1 (by omega)).trans h
end Go.Proofs.Ytmlhbfkmnbhoeaa.Br
