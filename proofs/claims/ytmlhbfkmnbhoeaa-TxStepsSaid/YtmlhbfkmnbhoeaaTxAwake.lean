/- What the example of the laws of the sending machine answers: true. -/
import Derived.Test.YtmlhbfkmnbhoeaaTxStep
import Derived.Test.YtmlhbfkmnbhoeaaSame
namespace Go.Proofs.Ytmlhbfkmnbhoeaa.Br
open Go.RowKit
/-- The example's port. -/
def awakeP : Rec := ⟨fun j => if j = 8 then 2 else if j = 87 then 4 else 0, fun j => j == 31 || j == 44 || j == 45⟩
theorem oneP {w : World} {g : Nat} {p : Rec} (h : w.heap[g]? = some (.cells (rowP p) 53 (0, 0))) : Ports w g 1 (fun _ => p) :=
  ⟨rowP p, h, fun k hk j hj => by
    obtain rfl : k = 0 := by omega
    rw [Nat.zero_mul, Nat.zero_add]
    exact rowP_get hj⟩
theorem t0 (w : World) : Sem.run Try.prog (Instr.build 47 #[(22, .bool true), (23, .bool true), (9, .bool true)]) w = .ok (.agg #[.bool false, .bool false, .bool false, .bool false, .bool false, .bool false, .bool false, .bool false, .bool false, .bool true, .bool false, .bool false, .bool false, .bool false, .bool false, .bool false, .bool false, .bool false, .bool false, .bool false, .bool false, .bool false, .bool true, .bool true, .bool false, .bool false, .bool false, .bool false, .bool false]) w := by kernel_rfl
theorem t00 (w : World) : Sem.run Try.prog (Instr.build 49 #[(2, .int .i64 2)]) w = .ok (.agg #[.int .i64 0, .int .i64 0, .int .i64 2, .int .i64 0, .int .i64 0, .int .i64 0, .int .i64 0, .int .i64 0, .int .i64 0]) w := by kernel_rfl
theorem t1 (w : World) : Sem.run Try.prog (Instr.build 53 #[(15, .int .i64 4), (6, .agg #[.int .i64 0, .int .i64 0, .int .i64 2, .int .i64 0, .int .i64 0, .int .i64 0, .int .i64 0, .int .i64 0, .int .i64 0]), (8, .agg #[.bool false, .bool false, .bool false, .bool false, .bool false, .bool false, .bool false, .bool false, .bool false, .bool true, .bool false, .bool false, .bool false, .bool false, .bool false, .bool false, .bool false, .bool false, .bool false, .bool false, .bool false, .bool false, .bool true, .bool true, .bool false, .bool false, .bool false, .bool false, .bool false])]) w = .ok (.agg (rowP awakeP)) w := by kernel_rfl
theorem t2 (w : World) : Sem.run Try.prog (Instr.buildSlice 29 1 #[(0, .agg (rowP awakeP))]) w = .ok (.slice (some ⟨w.heap.size, 0, none⟩) 1 1) (w.alloc (.cells (rowP awakeP) 53)) := by kernel_rfl
/-- The example's bridge. -/
def awakeB (g : Nat) : Bri := ⟨⟨fun j => if j = 3 then 20 else if j = 4 then 2 else if j = 5 then 15 else if j = 6 then 6 else 0, fun _ => false⟩, some ⟨g, 0, none⟩, 1, 1, none, 0, 0, none, 0, 0⟩
theorem t3 (w : World) (g : Nat) : Sem.run Try.prog (Instr.build 33 #[(3, .int .i64 6), (2, .agg #[.int .i64 0, .int .i64 20, .int .i64 2, .int .i64 15]), (7, .slice (some ⟨g, 0, none⟩) 1 1)]) w = .ok (.agg (rowB (awakeB g))) w := by kernel_rfl
theorem awakeF (g : Nat) : txF (awakeB g) awakeP = (((((awakeP.setB 31 false).setI 14 1).setB 48 false).setI 8 2), true, some 2) := by
  unfold txF
  rw [if_neg (by decide), if_neg (by decide)]
  exact (if_neg (show ¬ _ = true from (by decide : ¬ ((!awakeP.b 31) || decide ((6 : Int) ≤ awakeP.i 14) || !(kindF awakeP).2) = true))).trans rfl
theorem awake_p : ∃ p : Rec, (∀ w, Sem.run Try.prog (Instr.build 53 #[(15, .int .i64 4), (6, .agg #[.int .i64 0, .int .i64 0, .int .i64 2, .int .i64 0, .int .i64 0, .int .i64 0, .int .i64 0, .int .i64 0, .int .i64 0]), (8, .agg #[.bool false, .bool false, .bool false, .bool false, .bool false, .bool false, .bool false, .bool false, .bool false, .bool true, .bool false, .bool false, .bool false, .bool false, .bool false, .bool false, .bool false, .bool false, .bool false, .bool false, .bool false, .bool false, .bool true, .bool true, .bool false, .bool false, .bool false, .bool false, .bool false])]) w = .ok (.agg (rowP p)) w) ∧
    (∀ w, Sem.run Try.prog (Instr.buildSlice 29 1 #[(0, .agg (rowP p))]) w = .ok (.slice (some ⟨w.heap.size, 0, none⟩) 1 1) (w.alloc (.cells (rowP p) 53))) ∧ (∀ g, txF (awakeB g) p = (((((p.setB 31 false).setI 14 1).setB 48 false).setI 8 2), true, some 2)) ∧ (0 ≤ p.i 14 ∧ p.i 14 ≤ 1000000) ∧ ((msgF p 2).setI 0 0).i 1 = 2 ∧ ((msgF p 2).setI 0 0).i 8 = 4 :=
  ⟨awakeP, t1, t2, awakeF, ⟨by decide, by decide⟩, by decide, by decide⟩
attribute [local go_sem] zeroBr
set_option maxHeartbeats 2000000 in
theorem awake_any (w : World) : Calls Try.prog 9 #[] w fun e w' => e = .returned (.bool true) ∧ Below w.heap.size w w' := by
  obtain ⟨p, ht1, ht2, hF1, hp14, hm1, hm8⟩ := awake_p
  have T1 := Lib.hid ht1
  have T2 := Lib.hid ht2
  have F1 := Lib.hid hF1
  have M1 := Lib.hid hm1
  have M8 := Lib.hid hm8
  clear ht1 ht2 hF1 hm1 hm8
  go_enter Try.func9, Try.ntmps9
  go_wp2_with (first
    | (refine wpList_build rfl 53 _ rfl _ _ (T1.out w) (by kernel_rfl) ?_; simp only [Act.put, List.setIfInBounds_toArray, List.set_cons_zero, List.set_cons_succ])
    | (refine wpList_build rfl 49 _ rfl _ _ (t00 w) (by kernel_rfl) ?_; simp only [Act.put, List.setIfInBounds_toArray, List.set_cons_zero, List.set_cons_succ])
    | (refine wpList_build rfl 47 _ rfl _ _ (t0 w) (by kernel_rfl) ?_; simp only [Act.put, List.setIfInBounds_toArray, List.set_cons_zero, List.set_cons_succ])
    | (refine wpList_buildSlice rfl 29 _ _ rfl _ _ (T2.out w) (by kernel_rfl) ?_; simp only [Act.put, List.setIfInBounds_toArray, List.set_cons_zero, List.set_cons_succ])
    | (refine wpList_build rfl 33 _ rfl _ _ (t3 _ w.heap.size) (by kernel_rfl) ?_; simp only [Act.put, List.setIfInBounds_toArray, List.set_cons_zero, List.set_cons_succ])
    | (refine wpList_store_at rfl 33 _ _ rfl _ (rowB zeroBri) 33 (rowB (awakeB w.heap.size)) _ rfl rfl (by simp) rfl (sizeB _) rfl (rowB_one _) ?_; simp only [Act.put])
    | fail)
  refine ((?_ : ∀ x, x = (w.alloc (.cells (rowP p) 53)).alloc (.cells (rowB (awakeB w.heap.size)) 33) → Calls Try.prog _ _ x _) _ rfl)
  intro w2 hw2
  have hB2 := Lib.hid (show Below w.heap.size w w2 by rw [hw2]; exact more (more (Below.refl _ _) _) _)
  have hp2 : w2.heap[w.heap.size]? = some (.cells (rowP p) 53 (0, 0)) := by rw [hw2]; exact at_old (by simp) (at_new rfl)
  have hb2 : w2.heap[w.heap.size + 1]? = some (.cells (rowB (awakeB w.heap.size)) 33 (0, 0)) := by rw [hw2]; exact at_new (by simp)
  obtain ⟨g, hg⟩ : ∃ x, x = w.heap.size := ⟨_, rfl⟩
  have hB2' := hB2.out
  clear hB2 hw2
  rw [← hg] at hp2 hb2 hB2' ⊢
  have HB2 := Lib.hid hB2'
  clear hB2'
  have hs : Bst w2 (g + 1) g (awakeB g) (fun _ => p) (fun _ => zeroR) (fun _ => 0) := ⟨hb2, rfl, oneP hp2, .inl rfl, .inl rfl, by omega, (fun _ _ e => by cases e), (fun _ _ e => by cases e), (fun _ => ⟨rfl, rfl⟩), (fun _ => ⟨rfl, rfl⟩), ⟨Nat.le_refl _, by show (0 : Nat) ≤ maxLen; decide⟩, ⟨Nat.le_refl _, by show (0 : Nat) ≤ maxLen; decide⟩⟩
  have hg2 : g ≤ w2.heap.size := by have := hs.p.lt; omega
  refine (step_any w2 (g + 1) g 0 (awakeB g) (fun _ => p) _ _ hs (show 0 < 1 by omega) hp14 (show 0 ≤ 100000 by omega)).mono ?_
  rintro e w3 ⟨ao, co, _, rfl, h3, ho3⟩
  have hB3 := Lib.hid (show Below w.heap.size w w3 by rw [← hg]; exact HB2.out.trans (ho3.below hg2 (fun k hk => by omega)))
  unfold sentN sentS at h3
  rw [F1.out] at h3 ⊢
  have H3 := Lib.hid h3
  clear h3 hs ho3 HB2 hp2 hb2 hg2 hp14 F1
  have n3 : w3.cell? ⟨g + 1, 18, none⟩ = some (.slice ao 1 co) := cells_of H3.out.h 18
  have b17 : w3.cell? ⟨g + 1, 17, none⟩ = some (.slice (some ⟨g, 0, none⟩) 1 1) := cells_of H3.out.h 17
  have c14 : w3.cell? ⟨g, 6 + 8, none⟩ = some (.int .i64 1) := (H3.out.p.cell (k := 0) (j := 14) (show 0 < 1 by omega) (by omega)).trans (by rw [upd_same]; rfl)
  have c31 : w3.cell? ⟨g, 22 + 9, none⟩ = some (.bool false) := (H3.out.p.cell (k := 0) (j := 31) (show 0 < 1 by omega) (by omega)).trans (by rw [upd_same]; rfl)
  rcases H3.out.s with h0 | ⟨go, o, hao, hc⟩
  · exact absurd h0 (by show ¬ (1 = 0); omega)
  have hao' : ao = some ⟨go, o, none⟩ := hao
  rw [hao'] at n3
  have m1 : w3.cell? ⟨go, o + 1, none⟩ = some (.int .i64 2) := (hc 0 (show 0 < 1 by omega) 1 (by omega)).trans (by show some (Value.int .i64 (((msgF p 2).setI 0 0).i 1)) = _; rw [M1.out])
  have m8 : w3.cell? ⟨go, o + 1 + 7, none⟩ = some (.int .i64 4) := (hc 0 (show 0 < 1 by omega) 8 (by omega)).trans (by show some (Value.int .i64 (((msgF p 2).setI 0 0).i 8)) = _; rw [M8.out])
  clear hc hao hao' hg M1 M8
  go_wp2_with fail
  go_ret
  exact ⟨rfl, hB3.out⟩
end Go.Proofs.Ytmlhbfkmnbhoeaa.Br
