/- Law TopoEnds of chapter 17: the walk joined with the plain law. -/
import Derived.Test.YtbbjoelcbppfoaaToOn
import Derived.Test.YtbbjoelcbppfoaaOpen
set_option linter.unusedSimpArgs false
set_option linter.unusedVariables false
namespace Go.Proofs.Ytbbjoelcbppfoaa.Br
open Go.RowKit
/-- Some steps of a port. -/
def iterP (b : Bri) : Nat → Rec → Rec
  | 0, p => p
  | n + 1, p => (topoB b (iterP b n p)).1
def goesF (p : Rec) : Bool := countsF p && (p.b 26 && !p.b 32)
def leavesF (p : Rec) : Bool := !countsF p && (!p.b 28 && !p.b 29)
def flagsN (p : Rec) : Nat := (p.b 41 || p.b 39).toNat + 2 * (p.b 49).toNat + (p.b 40).toNat
/-- How many steps there are at most. -/
def leftN (p : Rec) : Nat := (p.b 25).toNat + (
  if p.i 21 = 0 then (if p.b 28 = true then 1 + (goesF p).toNat else 0)
  else if p.i 21 = 1 then (if goesF p = true then 1 + flagsN p else (four4 p).toNat + 2 * (leavesF p).toNat)
  else if p.i 21 = 2 then (if (countsF p && !p.b 32) = true then flagsN p else 1 + 2 * (leavesF p).toNat)
  else 0)
theorem bt (x : Bool) : x.toNat ≤ 1 := by cases x <;> decide
theorem left_le (p : Rec) : leftN p ≤ 10 := by
  have h1 := bt (p.b 25)
  have h2 := bt (goesF p)
  have h3 := bt (four4 p)
  have h4 := bt (leavesF p)
  have h5 := bt (p.b 41 || p.b 39)
  have h6 := bt (p.b 49)
  have h7 := bt (p.b 40)
  unfold leftN flagsN
  repeat' split
  all_goals omega
theorem begin_b (h m d : Int) (p : Rec) (j : Nat) (hj : j ≠ 31) : (beginF h m d p).b j = p.b j := by
  unfold beginF
  split
  · rfl
  · split
    · show (if j = 31 then true else p.b j) = _
      rw [if_neg hj]
    · rfl
theorem begin_i (h m d : Int) (p : Rec) (j : Nat) (hj : j ≠ 13) : (beginF h m d p).i j = p.i j := by
  unfold beginF
  split
  · rfl
  · split
    · show (if j = 13 then _ else p.i j) = _
      rw [if_neg hj]
    · show (if j = 13 then _ else p.i j) = _
      rw [if_neg hj]
theorem four_b (p : Rec) : (clear4 p).i = p.i ∧ (clear4 p).b 25 = p.b 25 ∧ (clear4 p).b 26 = p.b 26 ∧ (clear4 p).b 32 = p.b 32 ∧ (clear4 p).b 28 = p.b 28 ∧ (clear4 p).b 29 = p.b 29 ∧ (clear4 p).b 41 = false ∧ (clear4 p).b 39 = false ∧ (clear4 p).b 40 = false ∧ (clear4 p).b 49 = false := ⟨rfl, rfl, rfl, rfl, rfl, rfl, rfl, rfl, rfl, rfl⟩
/-- A step that is one leaves fewer; where there is none nothing changes, and nothing is to be flushed. -/
theorem left_step (b : Bri) (p : Rec) : ((topoB b p).2.2.2 = true ∧ leftN (topoB b p).1 < leftN p) ∨ ((topoB b p).2.2.2 = false ∧ (topoB b p).1 = p ∧ p.b 25 = false) := by
  unfold topoB topoP
  split
  · rename_i h25
    left
    refine ⟨rfl, ?_⟩
    simp only [leftN, goesF, leavesF, flagsN, four4, countsF, Rec.setB_b, Rec.setB_i, h25]
    simp
  rename_i h25
  have h25 := Bool.eq_false_iff.2 h25
  split
  · rename_i h0
    left
    refine ⟨rfl, ?_⟩
    have e1 : leftN ((clear4 p).setI 21 1) = (goesF p).toNat := by
      unfold leftN
      have a1 : ((clear4 p).setI 21 1).i 21 = 1 := rfl
      have a2 : goesF ((clear4 p).setI 21 1) = goesF p := rfl
      have a3 : four4 ((clear4 p).setI 21 1) = false := rfl
      have a4 : leavesF ((clear4 p).setI 21 1) = false := by
        show (!countsF p && (!p.b 28 && !p.b 29)) = false
        rw [h0.2]
        simp
      have a5 : ((clear4 p).setI 21 1).b 25 = p.b 25 := rfl
      have a6 : flagsN ((clear4 p).setI 21 1) = 0 := rfl
      rw [a1, a2, a3, a4, a5, a6, h25, if_neg (by decide), if_pos rfl]
      cases goesF p <;> rfl
    have e2 : leftN p = 1 + (goesF p).toNat := by
      unfold leftN
      rw [if_pos h0.1, if_pos h0.2, h25]
      simp
    show leftN ((clear4 p).setI 21 1) < leftN p
    rw [e1, e2]
    omega
  rename_i h0
  split
  · rename_i h1
    unfold learnP
    split
    · rename_i hg
      left
      refine ⟨rfl, ?_⟩
      have hg' : goesF p = true := hg
      simp only [Bool.and_eq_true, Bool.not_eq_true'] at hg
      have hl : leftN (((beginF (b.r.i 4) (b.r.i 3) (b.r.i 5) p).setB 31 true).setI 21 2) = flagsN p := by
        simp only [leftN, goesF, leavesF, flagsN, four4, countsF, Rec.setB_b, Rec.setB_i, Rec.setI_b, Rec.setI_i, begin_b _ _ _ _ _ (show (25 : Nat) ≠ 31 by decide), begin_b _ _ _ _ _ (show (32 : Nat) ≠ 31 by decide), begin_b _ _ _ _ _ (show (41 : Nat) ≠ 31 by decide), begin_b _ _ _ _ _ (show (39 : Nat) ≠ 31 by decide), begin_b _ _ _ _ _ (show (49 : Nat) ≠ 31 by decide), begin_b _ _ _ _ _ (show (40 : Nat) ≠ 31 by decide), begin_i _ _ _ _ _ (show (87 : Nat) ≠ 13 by decide), h25]
        have hc := hg.1
        unfold countsF at hc
        simp [hc, hg.2.2]
      rw [hl]
      unfold leftN
      rw [if_neg (by omega), if_pos h1, if_pos hg']
      omega
    rename_i hg
    have hg' : goesF p = false := Bool.eq_false_iff.2 hg
    split
    · rename_i hl
      left
      refine ⟨rfl, ?_⟩
      simp only [Bool.and_eq_true, Bool.not_eq_true'] at hl
      have hlv : leavesF p = true := by unfold leavesF; simp [hl.1, hl.2.1, hl.2.2.1]
      have e1 : leftN ((((p.setB 25 true).setB 48 false).setI 13 0).setI 21 0) = 1 := by
        simp [leftN, Rec.setB_b, Rec.setB_i, Rec.setI_b, Rec.setI_i, hl.2.1]
      have e2 : leftN p = 2 := by
        unfold leftN
        rw [if_neg (by omega), if_pos h1, hg', if_neg (by decide), h25, hlv, hl.2.2.2]
        rfl
      rw [e1, e2]
      decide
    rename_i hl
    split
    · rename_i h4
      left
      refine ⟨rfl, ?_⟩
      have e1 : leftN ((clear4 p).setI 21 1) = 2 * (leavesF p).toNat := by
        unfold leftN
        have a1 : ((clear4 p).setI 21 1).i 21 = 1 := rfl
        have a2 : goesF ((clear4 p).setI 21 1) = goesF p := rfl
        have a3 : four4 ((clear4 p).setI 21 1) = false := rfl
        have a4 : leavesF ((clear4 p).setI 21 1) = leavesF p := rfl
        have a5 : ((clear4 p).setI 21 1).b 25 = p.b 25 := rfl
        rw [a1, a2, a3, a4, a5, h25, hg', if_neg (by decide), if_pos rfl, if_neg (by decide)]
        simp
      have e2 : leftN p = 1 + 2 * (leavesF p).toNat := by
        unfold leftN
        rw [if_neg (by omega), if_pos h1, hg', if_neg (by decide), h25, h4]
        simp
      rw [e1, e2]
      omega
    · right
      exact ⟨rfl, rfl, h25⟩
  rename_i h1
  split
  · rename_i h2
    have lp : leftN p = if (countsF p && !p.b 32) = true then flagsN p else 1 + 2 * (leavesF p).toNat := by
      unfold leftN
      rw [if_neg (by omega), if_neg (by omega), if_pos h2, h25]
      simp
    unfold activeP
    split
    · rename_i hg
      left
      refine ⟨rfl, ?_⟩
      have hn : (countsF p && !p.b 32) = false := by
        cases e1 : countsF p <;> cases e2 : p.b 32 <;> simp_all
      have hgo : goesF p = false := by
        unfold goesF
        cases e1 : countsF p <;> cases e2 : p.b 32 <;> simp_all
      have e1 : leftN ((clear4 p).setI 21 1) = 2 * (leavesF p).toNat := by
        unfold leftN
        have a1 : ((clear4 p).setI 21 1).i 21 = 1 := rfl
        have a2 : goesF ((clear4 p).setI 21 1) = goesF p := rfl
        have a3 : four4 ((clear4 p).setI 21 1) = false := rfl
        have a4 : leavesF ((clear4 p).setI 21 1) = leavesF p := rfl
        have a5 : ((clear4 p).setI 21 1).b 25 = p.b 25 := rfl
        rw [a1, a2, a3, a4, a5, h25, hgo, if_neg (by decide), if_pos rfl, if_neg (by decide)]
        simp
      rw [e1, lp, hn, if_neg (by decide)]
      omega
    rename_i hg
    have hn : (countsF p && !p.b 32) = true := by
      cases e1 : countsF p <;> cases e2 : p.b 32 <;> simp_all
    rw [hn, if_pos rfl] at lp
    have act : ∀ q : Rec, q.i 21 = p.i 21 → q.i 87 = p.i 87 → q.b 32 = p.b 32 → leftN q = (q.b 25).toNat + flagsN q := fun q q21 q87 q32 => by
      have hc : (countsF q && !q.b 32) = true := by unfold countsF at hn ⊢; rw [q87, q32]; exact hn
      unfold leftN
      rw [q21, if_neg (by omega), if_neg (by omega), if_pos h2, hc, if_pos rfl]
    split
    · rename_i h41
      left
      refine ⟨rfl, ?_⟩
      rw [act _ (by show (beginF _ _ _ p).i 21 = _; exact begin_i _ _ _ _ _ (by decide)) (by show (beginF _ _ _ p).i 87 = _; exact begin_i _ _ _ _ _ (by decide)) (by show (beginF _ _ _ p).b 32 = _; exact begin_b _ _ _ _ _ (by decide)), lp]
      have f1 : (noteF (beginF (b.r.i 4) (b.r.i 3) (b.r.i 5) p)).b 25 = false := (begin_b _ _ _ _ _ (by decide)).trans h25
      have f2 : (noteF (beginF (b.r.i 4) (b.r.i 3) (b.r.i 5) p)).b 49 = p.b 49 := begin_b _ _ _ _ _ (by decide)
      have f3 : (noteF (beginF (b.r.i 4) (b.r.i 3) (b.r.i 5) p)).b 40 = p.b 40 := begin_b _ _ _ _ _ (by decide)
      have f4 : (noteF (beginF (b.r.i 4) (b.r.i 3) (b.r.i 5) p)).b 41 = false := rfl
      have f5 : (noteF (beginF (b.r.i 4) (b.r.i 3) (b.r.i 5) p)).b 39 = false := rfl
      unfold flagsN
      rw [f1, f2, f3, f4, f5, h41]
      simp
    rename_i h41
    have h41 := Bool.eq_false_iff.2 h41
    split
    · rename_i h39
      left
      refine ⟨rfl, ?_⟩
      show leftN (noteF p) < leftN p
      rw [act (noteF p) rfl rfl rfl, lp]
      have f1 : (noteF p).b 25 = false := h25
      have f2 : (noteF p).b 49 = p.b 49 := rfl
      have f3 : (noteF p).b 40 = p.b 40 := rfl
      have f4 : (noteF p).b 41 = false := rfl
      have f5 : (noteF p).b 39 = false := rfl
      unfold flagsN
      rw [f1, f2, f3, f4, f5, h41, h39]
      simp
    rename_i h39
    have h39 := Bool.eq_false_iff.2 h39
    split
    · rename_i h49
      left
      refine ⟨rfl, ?_⟩
      rw [act _ (by show (beginF _ _ _ p).i 21 = _; exact begin_i _ _ _ _ _ (by decide)) (by show (beginF _ _ _ p).i 87 = _; exact begin_i _ _ _ _ _ (by decide)) (by show (beginF _ _ _ p).b 32 = _; exact begin_b _ _ _ _ _ (by decide)), lp]
      have f1 : (((beginF (b.r.i 4) (b.r.i 3) (b.r.i 5) p).setB 25 true).setB 49 false).b 25 = true := rfl
      have f2 : (((beginF (b.r.i 4) (b.r.i 3) (b.r.i 5) p).setB 25 true).setB 49 false).b 49 = false := rfl
      have f3 : (((beginF (b.r.i 4) (b.r.i 3) (b.r.i 5) p).setB 25 true).setB 49 false).b 40 = p.b 40 := begin_b _ _ _ _ _ (by decide)
      have f4 : (((beginF (b.r.i 4) (b.r.i 3) (b.r.i 5) p).setB 25 true).setB 49 false).b 41 = p.b 41 := begin_b _ _ _ _ _ (by decide)
      have f5 : (((beginF (b.r.i 4) (b.r.i 3) (b.r.i 5) p).setB 25 true).setB 49 false).b 39 = p.b 39 := begin_b _ _ _ _ _ (by decide)
      unfold flagsN
      rw [f1, f2, f3, f4, f5, h49]
      simp
      omega
    rename_i h49
    have h49 := Bool.eq_false_iff.2 h49
    split
    · rename_i h40
      left
      refine ⟨rfl, ?_⟩
      show leftN ((p.setI 13 0).setB 40 false) < leftN p
      rw [act ((p.setI 13 0).setB 40 false) rfl rfl rfl, lp]
      have f1 : ((p.setI 13 0).setB 40 false).b 25 = false := h25
      have f2 : ((p.setI 13 0).setB 40 false).b 49 = p.b 49 := rfl
      have f3 : ((p.setI 13 0).setB 40 false).b 40 = false := rfl
      have f4 : ((p.setI 13 0).setB 40 false).b 41 = p.b 41 := rfl
      have f5 : ((p.setI 13 0).setB 40 false).b 39 = p.b 39 := rfl
      unfold flagsN
      rw [f1, f2, f3, f4, f5, h40]
      simp
    · right
      exact ⟨rfl, rfl, h25⟩
  · right
    exact ⟨rfl, rfl, h25⟩
theorem iter_left (b : Bri) (p : Rec) (n : Nat) : leftN (iterP b n p) + n ≤ leftN p ∨ ((topoB b (iterP b n p)).2.2.2 = false ∧ (topoB b (iterP b n p)).1 = iterP b n p ∧ (iterP b n p).b 25 = false) := by
  induction n with
  | zero => exact .inl (Nat.le_refl _)
  | succ n ih =>
    rcases ih with ih | ih
    · rcases left_step b (iterP b n p) with h | h
      · left
        show leftN (topoB b (iterP b n p)).1 + (n + 1) ≤ leftN p
        omega
      · right
        show (topoB b (topoB b (iterP b n p)).1).2.2.2 = false ∧ (topoB b (topoB b (iterP b n p)).1).1 = (topoB b (iterP b n p)).1 ∧ (topoB b (iterP b n p)).1.b 25 = false
        rw [h.2.1]
        exact h
    · right
      show (topoB b (topoB b (iterP b n p)).1).2.2.2 = false ∧ (topoB b (topoB b (iterP b n p)).1).1 = (topoB b (iterP b n p)).1 ∧ (topoB b (iterP b n p)).1.b 25 = false
      rw [ih.2.1]
      exact ih
theorem ends_law (b : Bri) (p : Rec) : ∃ t f, topoB b (iterP b 10 p) = (iterP b 10 p, t, f, false) ∧ (iterP b 10 p).b 25 = false := by
  have key : (topoB b (iterP b 10 p)).2.2.2 = false ∧ (topoB b (iterP b 10 p)).1 = iterP b 10 p ∧ (iterP b 10 p).b 25 = false := by
    rcases iter_left b p 10 with h | h
    · rcases left_step b (iterP b 10 p) with h2 | h2
      · have := left_le p
        omega
      · exact h2
    · exact h
  refine ⟨(topoB b (iterP b 10 p)).2.1, (topoB b (iterP b 10 p)).2.2.1, ?_, key.2.2⟩
  have e : topoB b (iterP b 10 p) = ((topoB b (iterP b 10 p)).1, (topoB b (iterP b 10 p)).2.1, (topoB b (iterP b 10 p)).2.2.1, (topoB b (iterP b 10 p)).2.2.2) := rfl
  rw [key.1, key.2.1] at e
  exact e
attribute [local go_sem] zeroBr
set_option maxRecDepth 100000 in
set_option maxHeartbeats 8000000 in
theorem ends_any (b : Bri) (ps ss : Nat → Rec) (fs : Nat → Int) (w : World) (i : Nat) (hi : i ≤ 255) (h : Reads0 w b ps ss fs) :
    Calls Try.prog 4 #[.agg (rowB b), .int .u8 i] w fun e w' => e = .returned (.bool true) ∧ Below w.heap.size w w' := by
  have HR := Lib.hid h
  clear h
  go_enter Try.func4, Try.ntmps4
  go_wp2_with fail
  refine (awake_any _).mono ?_
  rintro e w1 ⟨rfl, hb1⟩
  have HB : Hid (w1.heap[w.heap.size]? = some (.cells (rowB b) 33 (0, 0))) := (hb1.block _ (by simp)).trans (at_new rfl)
  have HW1 := Lib.hid (andthen (more (Below.refl w.heap.size w) _) hb1)
  clear hb1
  go_wp2_with (first | (refine loadB rfl rfl _ rfl w.heap.size rfl b HB.out ?_; simp only [Act.put, List.setIfInBounds_toArray, List.set_cons_zero, List.set_cons_succ]) | fail)
  refine (few_any b ps _ (HR.out.below HW1.out).p).mono ?_
  rintro e w2 ⟨r, rfl, hr, hb2⟩
  have HB' : Hid (w2.heap[w.heap.size]? = some (.cells (rowB b) 33 (0, 0))) := (hb2.block _ (Array.getElem?_eq_some_iff.1 HB.out).1).trans HB.out
  have HW2 := Lib.hid (andthen HW1.out hb2)
  have Hr := Lib.hid hr
  clear hb2 hr HB HW1
  cases r
  · go_wp2_with fail
    go_ret
    exact ⟨rfl, HW2.out⟩
  have HL := Lib.hid (Hr.out rfl)
  clear Hr
  have HB := HB'
  clear HB'
  have hn1 : 0 < b.n := HL.out.2.1
  have hn8 : b.n ≤ 8 := HL.out.2.2.1
  go_wp2_with (first | (refine loadB rfl rfl _ rfl w.heap.size rfl b HB.out ?_; simp only [Act.put, List.setIfInBounds_toArray, List.set_cons_zero, List.set_cons_succ]) | fail)
  refine (at_any b i _ hi hn1 hn8).mono ?_
  rintro e w3 ⟨rfl, hb3⟩
  have HB' : Hid (w3.heap[w.heap.size]? = some (.cells (rowB b) 33 (0, 0))) := (hb3.block _ (Array.getElem?_eq_some_iff.1 HB.out).1).trans HB.out
  have HW3 := Lib.hid (andthen HW2.out hb3)
  clear hb3 HB HW2
  have HB := HB'
  clear HB'
  obtain ⟨k, hk⟩ : ∃ k, k = i % b.n := ⟨_, rfl⟩
  have hkn : k < b.n := by rw [hk]; exact Nat.mod_lt _ hn1
  rw [← hk]
  have Hk := Lib.hid hk
  clear hk
  go_wp2_with (first | (refine loadB rfl rfl _ rfl w.heap.size rfl b HB.out ?_; simp only [Act.put, List.setIfInBounds_toArray, List.set_cons_zero, List.set_cons_succ]) | fail)
  refine (clone_any b ps ss fs _ ((HR.out.below HW3.out).looked HL.out)).mono ?_
  rintro e w4 ⟨gp, cp, go, co, gf, cf, rfl, hp1, hp2, hp3, op, os, of, hb⟩
  go_upto_region 7 with (first | (refine wpList_store_at rfl 33 _ _ rfl _ (rowB zeroBri) 33 (rowB (b.at gp cp go co gf cf)) _ rfl rfl rfl rfl (sizeB _) rfl (rowB_one _) ?_; simp only [Act.put]) | fail)
  refine ((?_ : ∀ x, x = w4.alloc (.cells (rowB (b.at gp cp go co gf cf)) 33) → Code.wp _ _ _ _ x) _ rfl)
  intro wx hwx
  obtain ⟨bb, bx, hbx, hX, hgx, hSd, hwx'⟩ := clone_bst op os of hp2 hp3 hwx
  rw [← hbx]
  have hw4 := HW3.out.size
  have HX := Lib.hid hX
  have HSD := Lib.hid hSd
  have HWX := Lib.hid (andthen (andthen HW3.out hb) hwx')
  have hlt3 : w.heap.size < w3.heap.size := (Array.getElem?_eq_some_iff.1 HB.out).1
  have hge : w.heap.size < gp := Nat.lt_of_lt_of_le hlt3 hp1
  have HBX := Lib.hid ((hwx'.block _ (Nat.lt_of_lt_of_le hlt3 hb.size)).trans ((hb.block _ hlt3).trans HB.out))
  have HTO := Lib.hid (times_ok HL.out)
  have hn1000 : b.n ≤ 1000 := by omega
  have hnf20 : b.nf ≤ 20 := HL.out.2.2.2.2
  have hnn : bb.n = b.n := hSd.2.1
  have HNN := Lib.hid hnn
  have hkb : k < bb.n := by rw [hnn]; exact hkn
  have hk0 : (0 : Int) ≤ k := by omega
  have hk1 : (k : Int) < b.n := by omega
  obtain ⟨cpx, d17⟩ := hX.c17s hSd
  have hgl := hX.p.lt
  have hbl := hX.lt
  have nbg : ¬ bx = gp := hX.ne
  have ngb : ¬ gp = bx := fun e => hX.ne e.symm
  clear op os of hb hp1 hp2 hp3 HB hX hwx hwx' hbx hSd hw4 hlt3 hnn
  clear d17
  go_wp2_with fail
  go_loopw [9] (fun i wr => ∃ m : Nat, m ≤ 10 ∧ i = .int .i64 m ∧ Hid (∃ bb' qs c fs', Bst wr bx gp bb' (upd qs k (iterP b m (ps k))) ss fs' ∧ Side b bb' c ∧ c ≤ m) ∧ Hid (Only (fun x => x = gp ∨ x = bx) wx wr)) (fun i _ => 10 - (intOf i).toNat)
  case atStart => exact ⟨0, by omega, rfl, Lib.hid ⟨bb, ps, 0, fs, HX.out.start k, HSD.out, Nat.le_refl _⟩, Lib.hid (Only.refl _ _)⟩
  case round =>
    obtain ⟨m, hm, rfl, hE, hO⟩ := hrel
    have hm0 : (0 : Int) ≤ m := by omega
    obtain ⟨bb1, qs, c, fs1, hX1, hS1, hcm⟩ := hE.out
    have HX1 := Lib.hid hX1
    have HS1 := Lib.hid hS1
    clear hX1 hS1 hE
    by_cases hlt : m < 10
    · have dl : decide ((m : Int) < 10) = true := decide_eq_true (by omega)
      have hwm : IntKind.i64.wrap ((m : Int) + 1) = (m + 1 : Nat) := by unfold IntKind.wrap; simp [IntKind.signed, IntKind.bits]; omega
      go_wp2_with fail
      refine (step_gen b HTO.out _ bx gp k c bb1 qs ss fs1 _ HX1.out HS1.out hkn hn1000 (by omega)).mono ?_
      rintro e w6 ⟨bb2, rfl, hX2, hO2, hS2⟩
      have HE2 := Lib.hid (show ∃ bb' qs c fs', Bst w6 bx gp bb' (upd qs k (iterP b (m + 1) (ps k))) ss fs' ∧ Side b bb' c ∧ c ≤ m + 1 from ⟨bb2, _, _, _, hX2, hS2, by unfold flN; split <;> omega⟩)
      have HO2 := Lib.hid (hO.out.trans hO2)
      clear hX2 hO2 hS2
      go_wp2_with fail
      exact ⟨⟨m + 1, by omega, rfl, HE2, HO2⟩, by simp [intOf]; omega⟩
    · have dl : decide ((m : Int) < 10) = false := decide_eq_false (by omega)
      obtain rfl : m = 10 := by omega
      obtain ⟨tt, ff, hF, h25⟩ := ends_law b (ps k)
      have HF := Lib.hid hF
      have H25 := Lib.hid h25
      clear hF h25
      go_wp2_with fail
      refine (step_is b HTO.out _ bx gp k c bb1 qs ss fs1 _ _ tt ff false HF.out HX1.out HS1.out hkn hn1000 (by omega)).mono ?_
      rintro e w6 ⟨bb2, rfl, hX2, hO2, hS2⟩
      have hkb2 : k < bb2.n := by rw [hS2.2.1]; exact hkn
      obtain ⟨cpx2, d172⟩ := hX2.c17s hS2
      have c25 : w6.cell? ⟨gp, k * 89 + 22 + 3, none⟩ = some (.bool false) := (hX2.p.cell hkb2 (j := 25) (by omega)).trans (by rw [upd_same]; show some (Value.bool ((iterP b 10 (ps k)).b 25)) = _; rw [H25.out])
      have HO2 := Lib.hid (hO.out.trans hO2)
      clear hX2 hO2 hS2
      go_wp2_with fail
      go_ret
      exact ⟨rfl, HWX.out.trans (HO2.out.below HWX.out.size (fun k hk => by omega))⟩
end Go.Proofs.Ytbbjoelcbppfoaa.Br
