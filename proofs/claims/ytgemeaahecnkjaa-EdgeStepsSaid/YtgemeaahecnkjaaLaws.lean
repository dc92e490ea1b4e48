/- Laws of the bridge detection machine over a bridge in memory: what they answer is true, whatever the bridge and the port. -/
import Derived.Test.YtgemeaahecnkjaaAwake
import Derived.Test.YtgemeaahecnkjaaOpen
namespace Go.Proofs.Ytgemeaahecnkjaa.Br
open Go.RowKit
theorem at_17 (b : Bri) (gp cp go co gf cf : Nat) : (rowB (b.at gp cp go co gf cf))[17]? = some (.slice (some ⟨gp, 0, none⟩) b.n cp) := rfl
theorem step_at (w : World) (bx g n cap k : Nat) (ps : Nat → Rec) (p : Rec) (hk : k < n)
    (hb : w.cell? ⟨bx, 17, none⟩ = some (.slice (some ⟨g, 0, none⟩) n cap)) (hp : Ports w g n (upd ps k p)) :
    Calls Try.prog 12 #[.pointer (some ⟨bx, 0, none⟩), .int .i64 k] w fun e w' => e = .returned (.bool (edgeF p).2) ∧ Ports w' g n (upd ps k (edgeF p).1) ∧ Only (· = g) w w' :=
  (step_any w bx g n cap k (upd ps k p) hk hb hp).mono fun _ _ ⟨he, hp', ho⟩ => by
    rw [upd_same] at he hp'
    rw [upd_upd] at hp'
    exact ⟨he, hp', ho⟩
attribute [local go_sem] zeroP zeroBr at_17 rowP_17 rowP_32 rowP_2 rowP_4

theorem edgeF_0 (p : Rec) (h : p.i 17 = 0) : edgeF p = if leavesB p = true then ((p.setI 17 1).setB 32 false, true) else (p, false) := by
  unfold edgeF
  rw [if_pos h]
theorem edgeF_1 (p : Rec) (h : p.i 17 = 1) : edgeF p = if entersB p = true then ((p.setI 17 0).setB 32 true, true) else (p, false) := by
  unfold edgeF
  rw [if_neg (by omega), if_pos h]
/-- It stays an edge. -/
theorem edge_a (p : Rec) (h : (p.b 2 || p.b 4) = true) (h0 : p.i 17 = 0) (hb : p.b 32 = true) : edgeF p = (p, false) := by
  rw [edgeF_0 p h0, if_neg]
  unfold leavesB
  rw [hb]
  cases e2 : p.b 2 <;> cases e4 : p.b 4 <;> simp_all
/-- Two more steps of one that is none. -/
theorem edge_b (p : Rec) (h : (p.b 2 || p.b 4) = true) (h1 : p.i 17 = 1) (hb : p.b 32 = false) : (edgeF (edgeF p).1).2 = false ∧ (edgeF (edgeF p).1).1.b 32 = ((edgeF (edgeF p).1).1.i 17 == 0) := by
  have e := edgeF_1 p h1
  by_cases he : entersB p = true
  · rw [if_pos he] at e
    rw [e]
    have e2 := edge_a ((p.setI 17 0).setB 32 true) h rfl rfl
    simp only [e2]
    exact ⟨trivial, rfl⟩
  · rw [if_neg he] at e
    rw [e]
    simp only [e]
    exact ⟨trivial, by rw [hb, h1]; rfl⟩
theorem ends_law (p : Rec) (h : (p.b 2 || p.b 4) = true) (h2 : p.i 17 = 0 ∨ p.i 17 = 1) (h3 : p.b 32 = true → p.i 17 = 0) :
    (edgeF (edgeF (edgeF p).1).1).2 = false ∧ (edgeF (edgeF (edgeF p).1).1).1.b 32 = ((edgeF (edgeF (edgeF p).1).1).1.i 17 == 0) := by
  by_cases hb : p.b 32 = true
  · have e := edge_a p h (h3 hb) hb
    simp only [e]
    exact ⟨trivial, by rw [hb, h3 hb]; rfl⟩
  have hb := Bool.eq_false_iff.2 hb
  rcases h2 with h2 | h2
  · have e := edgeF_0 p h2
    rw [if_pos (by unfold leavesB; rw [hb]; rfl)] at e
    rw [e]
    exact edge_b ((p.setI 17 1).setB 32 false) h rfl rfl
  · have e := edgeF_1 p h2
    by_cases he : entersB p = true
    · rw [if_pos he] at e
      rw [e]
      have e2 := edge_a ((p.setI 17 0).setB 32 true) h rfl rfl
      simp only [e2]
      exact ⟨trivial, rfl⟩
    · rw [if_neg he] at e
      simp only [e]
      exact ⟨trivial, by rw [hb, h2]; rfl⟩
/-- A step, and what holds of the bridge's own cells behind it. -/
theorem step_on (w : World) (bx g n cap k : Nat) (ps : Nat → Rec) (p : Rec) (hk : k < n) (hx : bx < w.heap.size) (hg : bx ≠ g)
    (hb : w.cell? ⟨bx, 17, none⟩ = some (.slice (some ⟨g, 0, none⟩) n cap)) (hp : Ports w g n (upd ps k p)) :
    Calls Try.prog 12 #[.pointer (some ⟨bx, 0, none⟩), .int .i64 k] w fun e w' => e = .returned (.bool (edgeF p).2) ∧ Ports w' g n (upd ps k (edgeF p).1) ∧ Only (· = g) w w' ∧ w'.cell? ⟨bx, 17, none⟩ = some (.slice (some ⟨g, 0, none⟩) n cap) :=
  (step_at w bx g n cap k ps p hk hb hp).mono fun _ _ ⟨he, hp', ho⟩ => ⟨he, hp', ho, (ho.cell hx hg).trans hb⟩
end Go.Proofs.Ytgemeaahecnkjaa.Br
