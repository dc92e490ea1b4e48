/- Law MigEnds of the protocol migration machine: the walk joined with the plain law. -/
import Derived.Test.YtjefonjjgahmgaaAwake10
import Derived.Test.YtjefonjjgahmgaaOpen
import Derived.Test.YtjefonjjgahmgaaWhole
set_option linter.unusedSimpArgs false
namespace Go.Proofs.Ytjefonjjgahmgaa.Br
open Go.RowKit
theorem at_17 (b : Bri) (gp cp go co gf cf : Nat) : (rowB (b.at gp cp go co gf cf))[17]? = some (.slice (some ⟨gp, 0, none⟩) b.n cp) := rfl
theorem at_1 (b : Bri) (gp cp go co gf cf : Nat) : (rowB (b.at gp cp go co gf cf))[1]? = some (.bool (b.r.b 1)) := rfl
attribute [local go_sem] zeroP zeroBr at_17 at_1
theorem mig_way (rst : Bool) (p : Rec) : migF rst p = (p, false) ∨ migF rst p = ((((p.setB 37 false).setB 38 false).setI 16 2), true) ∨ migF rst p = (((((p.setB 30 false).setB 45 rst).setI 9 3).setI 16 0), true) ∨ (migF rst p = ((((p.setB 45 false).setI 9 3).setI 16 1), true) ∧ p.b 2 = true ∧ p.b 30 = false) := by
  unfold migF
  split
  · exact .inr (.inl rfl)
  split
  · exact .inr (.inr (.inl rfl))
  split
  · exact .inr (.inr (.inl rfl))
  split
  · rename_i h2 h3
    refine .inr (.inr (.inr ⟨rfl, ?_⟩))
    simp only [fires, stateOf, whenF, Bool.and_eq_true, beq_iff_eq] at h2 h3
    rw [h3.1] at h2
    cases e2 : p.b 2 <;> cases e3 : p.b 30 <;> simp_all
  split
  · exact .inr (.inl rfl)
  · exact .inl rfl
theorem mig_a (rst : Bool) (q : Rec) (h : q.i 16 = 0) (h9 : q.i 9 = 3) : migF rst q = (q, false) := by
  simp [migF, fires, stateOf, whenF, h, h9]
theorem mig_b (rst : Bool) (q : Rec) (h : q.i 16 = 2) (h8 : q.b 38 = false) : migF rst q = (q, false) ∨ migF rst q = (((((q.setB 30 false).setB 45 rst).setI 9 3).setI 16 0), true) := by
  by_cases hw : whenF rst q 2 = true
  · right
    simp [migF, fires, stateOf, h, hw]
  · left
    have h3 : whenF rst q 3 = false := by simp [whenF, h8]
    simp [migF, fires, stateOf, h, h3, hw]
theorem mig_c (rst : Bool) (q : Rec) (h : q.i 16 = 1) (h9 : q.i 9 = 3) (h2 : q.b 2 = true) (h3 : q.b 30 = false) : migF rst q = (q, false) := by
  simp [migF, fires, stateOf, whenF, h, h9, h2, h3]
theorem ends_law (rst : Bool) (p : Rec) : (migF rst (migF rst (migF rst (migF rst p).1).1).1).2 = false := by
  rcases mig_way rst p with h | h | h | ⟨h, h2, h3⟩
  · simp only [h]
  · simp only [h]
    rcases mig_b rst ((((p.setB 37 false).setB 38 false).setI 16 2)) rfl rfl with h | h
    · simp only [h]
    · simp only [h]
      have := mig_a rst ((((((((p.setB 37 false).setB 38 false).setI 16 2).setB 30 false).setB 45 rst).setI 9 3).setI 16 0)) rfl rfl
      simp only [this]
  · simp only [h]
    have := mig_a rst (((((p.setB 30 false).setB 45 rst).setI 9 3).setI 16 0)) rfl rfl
    simp only [this]
  · simp only [h]
    have := mig_c rst ((((p.setB 45 false).setI 9 3).setI 16 1)) rfl rfl h2 h3
    simp only [this]
set_option maxRecDepth 100000 in
set_option maxHeartbeats 8000000 in
theorem ends_any (b : Bri) (ps ss : Nat → Rec) (fs : Nat → Int) (w : World) (i : Nat) (hi : i ≤ 255) (h : Reads0 w b ps ss fs) :
    Calls Try.prog 4 #[.agg (rowB b), .int .u8 i] w fun e w' => e = .returned (.bool true) ∧ Below w.heap.size w w' := by
  have HR := Lib.hid h
  clear h
  go_enter Try.func4, Try.ntmps4
  go_wp2_with fail
  refine (awake_any _).mono ?_
  rintro e w1 ⟨rfl, hb1⟩
  have HB : Hid (w1.heap[w.heap.size]? = some (.cells (rowB b) 33 (0, 0))) := (hb1.block _ (by simp)).trans (at_new rfl)
  have HW1 := Lib.hid (andthen (more (Below.refl w.heap.size w) _) hb1)
  clear hb1
  go_wp2_with (first | (refine loadB rfl rfl _ rfl w.heap.size rfl b HB.out ?_; simp only [Act.put, List.setIfInBounds_toArray, List.set_cons_zero, List.set_cons_succ]) | fail)
  refine (few_any b ps _ (HR.out.below HW1.out).p).mono ?_
  rintro e w2 ⟨r, rfl, hr, hb2⟩
  have HB' : Hid (w2.heap[w.heap.size]? = some (.cells (rowB b) 33 (0, 0))) := (hb2.block _ (Array.getElem?_eq_some_iff.1 HB.out).1).trans HB.out
  have HW2 := Lib.hid (andthen HW1.out hb2)
  have Hr := Lib.hid hr
  clear hb2 hr HB HW1
  cases r
  · go_wp2_with fail
    go_ret
    exact ⟨rfl, HW2.out⟩
  have HL := Lib.hid (Hr.out rfl)
  clear Hr
  have HB := HB'
  clear HB'
  have hn1 : 0 < b.n := HL.out.2.1
  have hn8 : b.n ≤ 8 := HL.out.2.2.1
  go_wp2_with (first | (refine loadB rfl rfl _ rfl w.heap.size rfl b HB.out ?_; simp only [Act.put, List.setIfInBounds_toArray, List.set_cons_zero, List.set_cons_succ]) | fail)
  refine (at_any b i _ hi hn1 hn8).mono ?_
  rintro e w3 ⟨rfl, hb3⟩
  have HB' : Hid (w3.heap[w.heap.size]? = some (.cells (rowB b) 33 (0, 0))) := (hb3.block _ (Array.getElem?_eq_some_iff.1 HB.out).1).trans HB.out
  have HW3 := Lib.hid (andthen HW2.out hb3)
  clear hb3 HB HW2
  have HB := HB'
  clear HB'
  obtain ⟨k, hk⟩ : ∃ k, k = i % b.n := ⟨_, rfl⟩
  have hkn : k < b.n := by rw [hk]; exact Nat.mod_lt _ hn1
  rw [← hk]
  have Hk := Lib.hid hk
  clear hk
  go_wp2_with (first | (refine loadB rfl rfl _ rfl w.heap.size rfl b HB.out ?_; simp only [Act.put, List.setIfInBounds_toArray, List.set_cons_zero, List.set_cons_succ]) | fail)
  refine (clone_any b ps ss fs _ ((HR.out.below HW3.out).looked HL.out)).mono ?_
  rintro e w4 ⟨gp, cp, go, co, gf, cf, rfl, hp1, hp2, hp3, op, os, of, hb⟩
  have HP := Lib.hid op.ports
  have hgl := op.lt
  have HW4 := Lib.hid (andthen HW3.out hb)
  have hge : w.heap.size ≤ gp := Nat.le_trans HW3.out.size hp1
  clear op os of hb hp1 hp2 hp3 HB
  go_wp2_with (first | (refine wpList_store_at rfl 33 _ _ rfl _ (rowB zeroBri) 33 (rowB (b.at gp cp go co gf cf)) _ rfl rfl rfl rfl (sizeB _) rfl (rowB_one _) ?_; simp only [Act.put]) | fail)
  refine (step_on _ _ gp b.n cp k ps (ps k) (b.r.b 1) hkn (by simp) (by simp; omega) ?hb ?hr ?hp).mono ?_
  case hp => exact ((HP.out.start k).alloc _)
  case hb => simp [go_sem]
  case hr => simp [go_sem]
  rintro e w5 ⟨rfl, hp5, ho5, hb5, hr5⟩
  have hA5 := (Only.refl (· = gp) w4).alloc _ |>.trans ho5
  have d5 : w4.heap.size < w5.heap.size := by have := ho5.size; simp at this; omega
  go_wp2_with fail
  refine (step_on _ _ gp b.n cp k ps _ (b.r.b 1) hkn d5 (by omega) hb5 hr5 hp5).mono ?_
  rintro e w6 ⟨rfl, hp6, ho6, hb6, hr6⟩
  have hA6 := hA5.trans ho6
  have d6 : w4.heap.size < w6.heap.size := by have := ho6.size; omega
  go_wp2_with fail
  refine (step_on _ _ gp b.n cp k ps _ (b.r.b 1) hkn d6 (by omega) hb6 hr6 hp6).mono ?_
  rintro e w7 ⟨rfl, hp7, ho7, hb7, hr7⟩
  have hA7 := hA6.trans ho7
  have d7 : w4.heap.size < w7.heap.size := by have := ho7.size; omega
  go_wp2_with fail
  refine (step_on _ _ gp b.n cp k ps _ (b.r.b 1) hkn d7 (by omega) hb7 hr7 hp7).mono ?_
  rintro e w8 ⟨rfl, hp8, ho8, hb8, hr8⟩
  have hA8 := hA7.trans ho8
  have d8 : w4.heap.size < w8.heap.size := by have := ho8.size; omega
  rw [ends_law (b.r.b 1) (ps k)]
  go_wp2_with fail
  go_ret
  exact ⟨rfl, HW4.out.trans (hA8.below (B := w.heap.size) HW4.out.size (fun k hk => by omega))⟩
end Go.Proofs.Ytjefonjjgahmgaa.Br
