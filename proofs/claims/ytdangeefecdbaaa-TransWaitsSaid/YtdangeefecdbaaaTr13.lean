/- Chapter 15: the document's rests and sync. Conditions: the bridge lies in memory; there aren't very many ports. -/
import Derived.Test.YtdangeefecdbaaaTr3
set_option linter.unusedSimpArgs false
set_option linter.unusedVariables false
namespace Go.Proofs.Ytdangeefecdbaaa.Br
open Go.RowKit
set_option maxRecDepth 100000 in
set_option maxHeartbeats 4000000 in
theorem refrests_any (w : World) (bx g k : Nat) (b : Bri) (ps ss : Nat → Rec) (fs : Nat → Int) (p : Rec) (h : Bst w bx g b (upd ps k p) ss fs) (hk : k < b.n) (s fd : Int) : Calls Try.prog 21 #[.pointer (some ⟨g, k * 89, none⟩), .int .i64 fd, .int .i64 s] w fun e w' => e = .returned (.tuple #[]) ∧ Bst w' bx g b (upd ps k (restF s fd p)) ss fs ∧ Only (· = g) w w' := by
  have H1 := Lib.hid h
  have c7 : w.cell? ⟨g, k * 89 + 6 + 1, none⟩ = some (.int .i64 (p.i 7)) := (h.p.cell hk (j := 7) (by omega)).trans (by rw [upd_same]; rfl)
  have c12 : w.cell? ⟨g, k * 89 + 6 + 6, none⟩ = some (.int .i64 (p.i 12)) := (h.p.cell hk (j := 12) (by omega)).trans (by rw [upd_same]; rfl)
  have c47 : w.cell? ⟨g, k * 89 + 22 + 25, none⟩ = some (.bool (p.b 47)) := (h.p.cell hk (j := 47) (by omega)).trans (by rw [upd_same]; rfl)
  have f7 : w.frozen? ⟨g, k * 89 + 6 + 1, none⟩ = false := h.p.free _
  have f12 : w.frozen? ⟨g, k * 89 + 6 + 6, none⟩ = false := h.p.free _
  have f47 : w.frozen? ⟨g, k * 89 + 22 + 25, none⟩ = false := h.p.free _
  clear h
  go_enter Try.func21, Try.ntmps21
  go_upto_region 3 with (fail)
  refine ((?_ : ∀ y, y = (((w.setCell ⟨g, k * 89 + 6 + 1, none⟩ (.int .i64 fd)).setCell ⟨g, k * 89 + 6 + 6, none⟩ (.int .i64 0)).setCell ⟨g, k * 89 + 22 + 25, none⟩ (.bool true)) → Code.wp _ _ _ _ y) _ rfl)
  intro w2 hw2
  have H2 := Lib.hid (show Bst w2 bx g b (upd ps k (((p.setI 7 fd).setI 12 0).setB 47 true)) ss fs by rw [hw2]; exact (((H1.out).put (j := 7) (by omega) (rowP_put_7 _ _)).put (j := 12) (by omega) (rowP_put_12 _ _)).put (j := 47) (by omega) (rowP_put_47 _ _))
  have HO2 := Lib.hid (show Only (· = g) w w2 by rw [hw2]; exact ((((Only.refl (· = g) w)).setCell (Or.inl rfl) _).setCell (Or.inl rfl) _).setCell (Or.inl rfl) _)
  clear hw2 f7 f12 f47 c7 c12 c47
  have c46 : w2.cell? ⟨g, k * 89 + 22 + 24, none⟩ = some (.bool ((((p.setI 7 fd).setI 12 0).setB 47 true).b 46)) := (H2.out.p.cell hk (j := 46) (by omega)).trans (by rw [upd_same]; rfl)
  have c42 : w2.cell? ⟨g, k * 89 + 22 + 20, none⟩ = some (.bool ((((p.setI 7 fd).setI 12 0).setB 47 true).b 42)) := (H2.out.p.cell hk (j := 42) (by omega)).trans (by rw [upd_same]; rfl)
  have c19 : w2.cell? ⟨g, k * 89 + 15 + 4, none⟩ = some (.int .i64 ((((p.setI 7 fd).setI 12 0).setB 47 true).i 19)) := (H2.out.p.cell hk (j := 19) (by omega)).trans (by rw [upd_same]; rfl)
  have f46 : w2.frozen? ⟨g, k * 89 + 22 + 24, none⟩ = false := H2.out.p.free _
  have f42 : w2.frozen? ⟨g, k * 89 + 22 + 20, none⟩ = false := H2.out.p.free _
  have f19 : w2.frozen? ⟨g, k * 89 + 15 + 4, none⟩ = false := H2.out.p.free _
  go_wp2_with fail
  go_end0
  have HB := Lib.hid (show Bst (((w2.setCell ⟨g, k * 89 + 22 + 24, none⟩ (.bool false)).setCell ⟨g, k * 89 + 22 + 20, none⟩ (.bool false)).setCell ⟨g, k * 89 + 15 + 4, none⟩ (.int .i64 s)) bx g b (upd ps k ((((((p.setI 7 fd).setI 12 0).setB 47 true).setB 46 false).setB 42 false).setI 19 s)) ss fs from (((H2.out).put (j := 46) (by omega) (rowP_put_46 _ _)).put (j := 42) (by omega) (rowP_put_42 _ _)).put (j := 19) (by omega) (rowP_put_19 _ _))
  exact ⟨rfl, HB.out, (((HO2.out).setCell (Or.inl rfl) _).setCell (Or.inl rfl) _).setCell (Or.inl rfl) _⟩
set_option maxRecDepth 100000 in
set_option maxHeartbeats 4000000 in
theorem refsync_any (w : World) (bx g k : Nat) (b : Bri) (ps ss : Nat → Rec) (fs : Nat → Int) (p : Rec) (h : Bst w bx g b (upd ps k p) ss fs) (hk : k < b.n) (hn : b.n ≤ 1000) : Calls Try.prog 35 #[.pointer (some ⟨bx, 0, none⟩)] w fun e w' => e = .returned (.tuple #[]) ∧ Bst w' bx g b (upd (allB 46 ps) k (p.setB 46 true)) ss fs ∧ Only (· = g) w w' := by
  have H1 := Lib.hid h
  clear h
  go_enter Try.func35, Try.ntmps35
  have hB0 := Lib.hid (Bst.cong (qs := allM 46 0 (upd ps k p)) (fun j _ => allM_0 46 (upd ps k p) j) H1.out)
  have b17 : w.cell? ⟨bx, 17, none⟩ = some (.slice (some ⟨g, 0, none⟩) b.n b.cp) := H1.out.c17
  go_wp2_with fail
  clear b17
  go_loopw [2] (fun i wr => ∃ m : Nat, m ≤ b.n ∧ i = .int .i64 m ∧ Hid (Bst wr bx g b (allM 46 m (upd ps k p)) ss fs) ∧ Hid (Only (· = g) w wr)) (fun i _ => b.n - (intOf i).toNat)
  case atStart => exact ⟨0, by omega, rfl, hB0, Lib.hid (Only.refl _ _)⟩
  case round =>
    clear hB0
    obtain ⟨m, hm, rfl, hB, hO⟩ := hrel
    have hm0 : (0 : Int) ≤ m := by omega
    have b17 : wr.cell? ⟨bx, 17, none⟩ = some (.slice (some ⟨g, 0, none⟩) b.n b.cp) := hB.out.c17
    by_cases hlt : m < b.n
    · have dl : decide ((m : Int) < b.n) = true := decide_eq_true (by omega)
      have hm1 : (m : Int) < b.n := by omega
      have hwm : IntKind.i64.wrap ((m : Int) + 1) = (m + 1 : Nat) := by unfold IntKind.wrap; simp [IntKind.signed, IntKind.bits]; omega
      have cm : wr.cell? ⟨g, m * 89 + 22 + 24, none⟩ = some (.bool ((upd ps k p m).b 46)) := (hB.out.p.cell hlt (j := 46) (by omega)).trans (by rw [allM_at]; rfl)
      have fm : wr.frozen? ⟨g, m * 89 + 22 + 24, none⟩ = false := hB.out.p.free _
      have HB2 := Lib.hid (Bst.cong (fun j _ => allM_put 46 m (upd ps k p) j) (Bst.put (w := wr) (k := m) (j := 46) (p := upd ps k p m) (p' := (upd ps k p m).setB 46 true) (by have h := hB.out.start m; rw [allM_at] at h; exact h) (by omega) (rowP_put_46 _ _)))
      go_wp2_with fail
      exact ⟨⟨m + 1, by omega, rfl, HB2, Lib.hid (hO.out.setCell (Or.inl rfl) _)⟩, by simp [intOf]; omega⟩
    · have dl : decide ((m : Int) < b.n) = false := decide_eq_false (by omega)
      obtain rfl : m = b.n := by omega
      have hBE := Bst.cong (fun j hj => allM_all 46 b.n (upd ps k p) j hj) hB.out
      rw [allB_upd] at hBE
      have HBE := Lib.hid hBE
      clear hBE

      go_wp2_with fail
      go_end0
      exact ⟨rfl, HBE.out, hO.out⟩
end Go.Proofs.Ytdangeefecdbaaa.Br
