/- Law TransEnds of chapter 15: the walk joined with the plain law. -/
import Derived.Test.YtdangeefecdbaaaTrOn
import Derived.Test.YtdangeefecdbaaaOpen
set_option linter.unusedSimpArgs false
set_option linter.unusedVariables false
namespace Go.Proofs.Ytdangeefecdbaaa.Br
open Go.RowKit
def iterT (b : Bri) (k : Nat) : Nat → (Nat → Rec) → (Nat → Rec)
  | 0, ps => ps
  | n + 1, ps => (nextT b k (iterT b k n ps)).getD (iterT b k n ps)
/-- What a designated port has ahead of it: where it is stopped by what was heard, where not. -/
def aheadD (p : Rec) : Nat := bif p.b 24 && !p.b 32 then (bif p.b 28 || p.b 26 then 3 else 4) else (!p.b 28).toNat + (!p.b 26).toNat
def heldD (p : Rec) : Bool := (p.b 46 && !p.b 47) || (p.b 42 && p.i 12 != 0)
def openD (p : Rec) : Bool := (p.b 28 || p.b 26) && !p.b 32
def rank3 (p : Rec) : Nat := (!p.b 34).toNat + (p.b 42).toNat + (bif p.b 47 && !p.b 46 then (bif heldD p then (openD p).toNat else aheadD p) else 1 + (bif heldD p && openD p then 3 else aheadD p))
def rank2 (b : Bri) (p : Rec) : Nat := (p.b 33).toNat + (!p.b 22).toNat + (!p.b 28).toNat + (bif p.b 26 then (p.b 42).toNat else (bif p.b 42 then 2 else 3)) + (p.i 12 != b.r.i 5).toNat
def rank5 (b : Bri) (p : Rec) : Nat := 2 * (p.b 33).toNat + (!p.b 22).toNat + (p.i 10 != 2 * b.r.i 4).toNat + (restlessF (fwdN b p) p).toNat
/-- How many steps there are at most, in the state that the port is in. -/
def rankS (b : Bri) (p : Rec) : Nat :=
  if p.i 19 = 0 then 1 else if p.i 19 = 1 then (restlessF (b.r.i 3) p).toNat else if p.i 19 = 4 then 6 else if p.i 19 = 5 then rank5 b p else if p.i 19 = 2 then rank2 b p else if p.i 19 = 3 then rank3 p else 0
def roleB (p : Rec) : Bool := ((p.i 87 != p.i 88) && decide (0 ≤ p.i 88)) && decide (p.i 88 ≤ 4)
def rankT (b : Bri) (p : Rec) : Nat := bif roleB p then 10 else rankS b p
theorem bt (x : Bool) : x.toNat ≤ 1 := by cases x <;> decide
theorem rank3_le (p : Rec) : rank3 p ≤ 7 := by
  have h1 := bt (!p.b 34)
  have h2 := bt (p.b 42)
  have h3 := bt (openD p)
  have h4 : aheadD p ≤ 4 := by
    unfold aheadD
    cases (p.b 24 && !p.b 32) <;> cases p.b 28 <;> cases p.b 26 <;> decide
  unfold rank3
  cases (p.b 47 && !p.b 46) <;> cases heldD p <;> cases hq : openD p <;> simp [hq] at h3 ⊢ <;> omega
theorem rank2_le (b : Bri) (p : Rec) : rank2 b p ≤ 7 := by
  have h1 := bt (p.b 33)
  have h2 := bt (!p.b 22)
  have h3 := bt (!p.b 28)
  have h4 := bt (p.i 12 != b.r.i 5)
  have h5 : (bif p.b 26 then (p.b 42).toNat else (bif p.b 42 then 2 else 3)) ≤ 3 := by cases p.b 26 <;> cases p.b 42 <;> decide
  unfold rank2
  omega
theorem rank5_le (b : Bri) (p : Rec) : rank5 b p ≤ 5 := by
  have h1 := bt (p.b 33)
  have h2 := bt (!p.b 22)
  have h3 := bt (p.i 10 != 2 * b.r.i 4)
  have h4 := bt (restlessF (fwdN b p) p)
  unfold rank5
  omega
theorem rankS_le (b : Bri) (p : Rec) : rankS b p ≤ 9 := by
  have h1 := bt (restlessF (b.r.i 3) p)
  have h2 := rank2_le b p
  have h3 := rank3_le p
  have h5 := rank5_le b p
  unfold rankS
  repeat' split
  all_goals omega
theorem rankT_le (b : Bri) (p : Rec) : rankT b p ≤ 10 := by
  have := rankS_le b p
  unfold rankT
  cases roleB p <;> simp <;> omega
theorem first_or {α : Type} {c : Bool} {r q : α} {l : List (Bool × α)} (h : firstOn ((c, r) :: l) = some q) : (c = true ∧ q = r) ∨ (c = false ∧ firstOn l = some q) := by
  have h' : (bif c then some r else firstOn l) = some q := h
  cases c with
  | true => exact .inl ⟨rfl, (Option.some.inj h').symm⟩
  | false => exact .inr ⟨rfl, h'⟩
/-- rank3 as a number of flags. -/
def r3 (pr rr sd sy dp ed l f rn : Bool) : Nat := (!pr).toNat + rr.toNat + (bif sd && !sy then (bif ((sy && !sd) || (rr && rn)) then ((l || f) && !ed).toNat else (bif dp && !ed then (bif l || f then 3 else 4) else (!l).toNat + (!f).toNat)) else 1 + (bif ((sy && !sd) || (rr && rn)) && ((l || f) && !ed) then 3 else (bif dp && !ed then (bif l || f then 3 else 4) else (!l).toNat + (!f).toNat)))
theorem rank3_is (p : Rec) : rank3 p = r3 (p.b 34) (p.b 42) (p.b 47) (p.b 46) (p.b 24) (p.b 32) (p.b 28) (p.b 26) (p.i 12 != 0) := rfl
theorem r3_1 : ∀ rr sd sy dp ed l f rn : Bool, r3 true rr sd sy dp ed l f rn < r3 false rr sd sy dp ed l f rn := by decide
theorem r3_2 : ∀ pr rr sd sy dp ed l f rn : Bool, (sd && !sy) = false → r3 pr rr true false dp ed l f false < r3 pr rr sd sy dp ed l f rn := by decide
theorem r3_3 : ∀ pr sd sy dp ed l f : Bool, r3 pr false sd sy dp ed l f false < r3 pr true sd sy dp ed l f false := by decide
theorem r3_4 : ∀ pr rr sd sy dp ed l f rn : Bool, (((l || f) && !ed) && (((sy && !sd) || (rr && rn)) || dp)) = true → r3 pr rr sd sy false ed false false rn < r3 pr rr sd sy dp ed l f rn := by decide
theorem r3_5 : ∀ pr rr sd dp ed f rn : Bool, (!rr || !rn) = true → (((false || f) && !ed) && (((false && !sd) || (rr && rn)) || dp)) = false → r3 pr rr sd false dp ed true f rn < r3 pr rr sd false dp ed false f rn := by decide
theorem r3_6 : ∀ pr rr sd dp ed rn : Bool, (!rr || !rn) = true → (((true || false) && !ed) && (((false && !sd) || (rr && rn)) || dp)) = false → r3 pr rr sd false dp ed true true rn < r3 pr rr sd false dp ed true false rn := by decide
theorem des_rank (b : Bri) (p q : Rec) (h : firstOn (desR b p) = some q) : rank3 q < rank3 p ∧ q.i 87 = p.i 87 ∧ q.i 88 = p.i 88 ∧ q.i 19 = p.i 19 := by
  rcases first_or h with ⟨e1, rfl⟩ | ⟨e1, h⟩
  · simp only [Bool.and_eq_true, Bool.not_eq_true'] at e1
    refine ⟨?_, rfl, rfl, rfl⟩
    rw [rank3_is p, e1.1.2]
    exact r3_1 _ _ _ _ _ _ _ _
  rcases first_or h with ⟨e2, rfl⟩ | ⟨e2, h⟩
  · refine ⟨?_, rfl, rfl, rfl⟩
    rw [rank3_is p]
    exact r3_2 _ _ _ _ _ _ _ _ _ (by cases h1 : p.b 47 <;> cases h2 : p.b 46 <;> simp_all)
  rcases first_or h with ⟨e3, rfl⟩ | ⟨e3, h⟩
  · simp only [Bool.and_eq_true, beq_iff_eq] at e3
    have hz : (p.i 12 != 0) = false := by simp [e3.2]
    refine ⟨?_, rfl, rfl, rfl⟩
    rw [rank3_is p, e3.1, hz]
    show r3 (p.b 34) false (p.b 47) (p.b 46) (p.b 24) (p.b 32) (p.b 28) (p.b 26) (p.i 12 != 0) < _
    rw [hz]
    exact r3_3 _ _ _ _ _ _ _
  rcases first_or h with ⟨e4, rfl⟩ | ⟨e4, h⟩
  · refine ⟨?_, rfl, rfl, rfl⟩
    rw [rank3_is p]
    exact r3_4 _ _ _ _ _ _ _ _ _ e4
  rcases first_or h with ⟨e5, rfl⟩ | ⟨e5, h⟩
  · simp only [Bool.and_eq_true, Bool.not_eq_true'] at e5
    obtain ⟨ho, hl⟩ := e5
    unfold onD at ho
    simp only [Bool.and_eq_true, Bool.not_eq_true'] at ho
    obtain ⟨⟨_, hr⟩, hy⟩ := ho
    have e4' : (((p.b 28 || p.b 26) && !p.b 32) && (((p.b 46 && !p.b 47) || (p.b 42 && p.i 12 != 0)) || p.b 24)) = false := e4
    rw [hl, hy] at e4'
    refine ⟨?_, rfl, rfl, rfl⟩
    rw [rank3_is p, hl, hy]
    show r3 (p.b 34) (p.b 42) (p.b 47) (p.b 46) (p.b 24) (p.b 32) true (p.b 26) (p.i 12 != 0) < _
    rw [hy]
    exact r3_5 _ _ _ _ _ _ _ (by cases h1 : p.b 42 <;> simp_all) e4'
  rcases first_or h with ⟨e6, rfl⟩ | ⟨e6, h⟩
  · simp only [Bool.and_eq_true, Bool.not_eq_true'] at e6
    obtain ⟨⟨ho, hl⟩, hf⟩ := e6
    unfold onD at ho
    simp only [Bool.and_eq_true, Bool.not_eq_true'] at ho
    obtain ⟨⟨_, hr⟩, hy⟩ := ho
    have e4' : (((p.b 28 || p.b 26) && !p.b 32) && (((p.b 46 && !p.b 47) || (p.b 42 && p.i 12 != 0)) || p.b 24)) = false := e4
    rw [hl, hy, hf] at e4'
    refine ⟨?_, rfl, rfl, rfl⟩
    rw [rank3_is p, hl, hy, hf]
    show r3 (p.b 34) (p.b 42) (p.b 47) (p.b 46) (p.b 24) (p.b 32) (p.b 28) true (p.i 12 != 0) < _
    rw [hy, hl]
    exact r3_6 _ _ _ _ _ _ (by cases h1 : p.b 42 <;> simp_all) e4'
  · cases h
def r2 (P A L F R d : Bool) : Nat := P.toNat + (!A).toNat + (!L).toNat + (bif F then R.toNat else (bif R then 2 else 3)) + d.toNat
theorem rank2_is (b : Bri) (p : Rec) : rank2 b p = r2 (p.b 33) (p.b 22) (p.b 28) (p.b 26) (p.b 42) (p.i 12 != b.r.i 5) := rfl
theorem r2_1 : ∀ A L F R d : Bool, r2 false A L F R d < r2 true A L F R d := by decide
theorem r2_2 : ∀ S P A L F R d : Bool, ((S && !A) || (P && A)) = true → r2 false true L F R d < r2 P A L F R d := by decide
theorem r2_3 : ∀ P A L d : Bool, r2 P A L false true d < r2 P A L false false d := by decide
theorem r2_4 : ∀ P A F R d : Bool, r2 P A true F R d < r2 P A false F R d := by decide
theorem r2_5 : ∀ P A L R d : Bool, r2 P A L true R d < r2 P A L false R d := by decide
theorem r2_6 : ∀ P A L d : Bool, r2 P A L true false d < r2 P A L true true d := by decide
theorem r2_7 : ∀ P A L F R : Bool, r2 P A L F R false < r2 P A L F R true := by decide
theorem root_rank (b : Bri) (k : Nat) (p : Rec) (ps q : Nat → Rec) (h : firstOn (rootL b k p ps) = some q) : rank2 b (q k) < rank2 b p ∧ (q k).i 87 = p.i 87 ∧ (q k).i 88 = p.i 88 ∧ (q k).i 19 = p.i 19 := by
  rcases first_or h with ⟨e1, rfl⟩ | ⟨e1, h⟩
  · rw [upd_same]
    simp only [Bool.and_eq_true, Bool.not_eq_true'] at e1
    refine ⟨?_, rfl, rfl, rfl⟩
    rw [rank2_is b p, e1.1]
    exact r2_1 _ _ _ _ _
  rcases first_or h with ⟨e2, rfl⟩ | ⟨e2, h⟩
  · rw [upd_same]
    refine ⟨?_, rfl, rfl, rfl⟩
    rw [rank2_is b p]
    exact r2_2 _ _ _ _ _ _ _ e2
  rcases first_or h with ⟨e3, rfl⟩ | ⟨e3, h⟩
  · rw [upd_same]
    simp only [Bool.and_eq_true, Bool.not_eq_true'] at e3
    refine ⟨?_, rfl, rfl, rfl⟩
    rw [rank2_is b p, e3.1, e3.2]
    show r2 (p.b 33) (p.b 22) (p.b 28) (p.b 26) true (p.i 12 != b.r.i 5) < _
    rw [e3.1]
    exact r2_3 _ _ _ _
  rcases first_or h with ⟨e4, rfl⟩ | ⟨e4, h⟩
  · rw [upd_same]
    simp only [Bool.and_eq_true, Bool.not_eq_true'] at e4
    refine ⟨?_, rfl, rfl, rfl⟩
    rw [rank2_is b p, e4.2]
    exact r2_4 _ _ _ _ _
  rcases first_or h with ⟨e5, rfl⟩ | ⟨e5, h⟩
  · rw [upd_same]
    simp only [Bool.and_eq_true, Bool.not_eq_true'] at e5
    refine ⟨?_, rfl, rfl, rfl⟩
    rw [rank2_is b p, e5.2]
    exact r2_5 _ _ _ _ _
  rcases first_or h with ⟨e6, rfl⟩ | ⟨e6, h⟩
  · rw [upd_same]
    simp only [Bool.and_eq_true] at e6
    refine ⟨?_, rfl, rfl, rfl⟩
    rw [rank2_is b p, e6.1, e6.2]
    show r2 (p.b 33) (p.b 22) (p.b 28) (p.b 26) false (p.i 12 != b.r.i 5) < _
    rw [e6.2]
    exact r2_6 _ _ _ _
  rcases first_or h with ⟨e7, rfl⟩ | ⟨e7, h⟩
  · rw [upd_same]
    refine ⟨?_, rfl, rfl, rfl⟩
    rw [rank2_is b p, e7]
    show r2 (p.b 33) (p.b 22) (p.b 28) (p.b 26) (p.b 42) (b.r.i 5 != b.r.i 5) < _
    rw [show (b.r.i 5 != b.r.i 5) = false by simp]
    exact r2_7 _ _ _ _ _
  · cases h
theorem rested (b : Bri) (s fd : Int) (p : Rec) : restlessF fd (restF s fd p) = false := by
  show ((fd != fd) || false || false || !true) = false
  simp
def r5 (P A d r : Bool) : Nat := 2 * P.toNat + (!A).toNat + d.toNat + r.toNat
theorem rank5_is (b : Bri) (p : Rec) : rank5 b p = r5 (p.b 33) (p.b 22) (p.i 10 != 2 * b.r.i 4) (restlessF (fwdN b p) p) := rfl
theorem r5_1 : ∀ A d r r' : Bool, r5 false A d r' < r5 true A d r := by decide
theorem r5_2 : ∀ S P A d r : Bool, ((S && !A) || (P && A)) = true → r5 false true d r < r5 P A d r := by decide
theorem r5_3 : ∀ P A r : Bool, r5 P A false r < r5 P A true r := by decide
theorem r5_4 : ∀ P A d : Bool, r5 P A d false < r5 P A d true := by decide
theorem alt_rank (b : Bri) (k : Nat) (p : Rec) (ps q : Nat → Rec) (h19 : p.i 19 = 5) (h : firstOn (altL b k p ps) = some q) : rank5 b (q k) < rank5 b p ∧ (q k).i 87 = p.i 87 ∧ (q k).i 88 = p.i 88 ∧ (q k).i 19 = 5 := by
  rcases first_or h with ⟨e1, rfl⟩ | ⟨e1, h⟩
  · rw [upd_same]
    simp only [Bool.and_eq_true, Bool.not_eq_true'] at e1
    refine ⟨?_, rfl, rfl, h19⟩
    rw [rank5_is b p, e1.1]
    exact r5_1 _ _ _ _
  rcases first_or h with ⟨e2, rfl⟩ | ⟨e2, h⟩
  · rw [upd_same]
    refine ⟨?_, rfl, rfl, h19⟩
    rw [rank5_is b p]
    exact r5_2 _ _ _ _ _ e2
  rcases first_or h with ⟨e3, rfl⟩ | ⟨e3, h⟩
  · rw [upd_same]
    simp only [Bool.and_eq_true] at e3
    refine ⟨?_, rfl, rfl, h19⟩
    rw [rank5_is b p, e3.2]
    show r5 (p.b 33) (p.b 22) (2 * b.r.i 4 != 2 * b.r.i 4) (restlessF (fwdN b p) p) < _
    rw [show (2 * b.r.i 4 != 2 * b.r.i 4) = false by simp]
    exact r5_3 _ _ _
  rcases first_or h with ⟨e4, rfl⟩ | ⟨e4, h⟩
  · rw [upd_same]
    refine ⟨?_, rfl, rfl, rfl⟩
    rw [rank5_is b p, e4]
    show r5 (p.b 33) (p.b 22) (p.i 10 != 2 * b.r.i 4) (restlessF (fwdN b p) (restF 5 (fwdN b p) p)) < _
    rw [rested b]
    exact r5_4 _ _ _
  · cases h
theorem rankS_5 (b : Bri) (q : Rec) (h : q.i 19 = 5) : rankS b q = rank5 b q := by
  unfold rankS
  rw [if_neg (by omega), if_neg (by omega), if_neg (by omega), if_pos h]
theorem role_same (p q : Rec) (h1 : q.i 87 = p.i 87) (h2 : q.i 88 = p.i 88) : roleB q = roleB p := by
  unfold roleB
  rw [h1, h2]
theorem states_rank (b : Bri) (k : Nat) (p : Rec) (ps q : Nat → Rec) (h : firstOn (statesL b k p ps) = some q) : rankS b (q k) < rankS b p ∧ (q k).i 87 = p.i 87 ∧ (q k).i 88 = p.i 88 := by
  unfold statesL at h
  split at h
  · rename_i h0
    rcases first_or h with ⟨e1, rfl⟩ | ⟨e1, h⟩
    · rw [upd_same]
      refine ⟨?_, rfl, rfl⟩
      unfold rankS
      rw [if_neg (by show ¬ (1 : Int) = 0; decide), if_pos (show (restF 1 (b.r.i 3) p).i 19 = 1 from rfl), if_pos h0, rested b]
      decide
    · cases h
  rename_i h0
  split at h
  · rename_i h1
    rcases first_or h with ⟨e1, rfl⟩ | ⟨e1, h⟩
    · rw [upd_same]
      refine ⟨?_, rfl, rfl⟩
      unfold rankS
      rw [if_neg (by show ¬ (1 : Int) = 0; decide), if_pos (show (restF 1 (b.r.i 3) p).i 19 = 1 from rfl), if_neg h0, if_pos h1, rested b, e1]
      decide
    · cases h
  rename_i h1
  split at h
  · rename_i h4
    rcases first_or h with ⟨e1, rfl⟩ | ⟨e1, h⟩
    · rw [upd_same]
      refine ⟨?_, rfl, rfl⟩
      rw [rankS_5 b _ rfl]
      have := rank5_le b (restF 5 (fwdN b p) p)
      have e : rankS b p = 6 := by
        unfold rankS
        rw [if_neg h0, if_neg h1, if_pos h4]
      omega
    · cases h
  rename_i h4
  split at h
  · rename_i h5
    obtain ⟨k1, k2, k3, k4⟩ := alt_rank b k p ps q h5 h
    exact ⟨by rw [rankS_5 b _ k4, rankS_5 b _ h5]; exact k1, k2, k3⟩
  rename_i h5
  split at h
  · rename_i h2
    obtain ⟨k1, k2, k3, k4⟩ := root_rank b k p ps q h
    refine ⟨?_, k2, k3⟩
    unfold rankS
    rw [k4, if_neg h0, if_neg h1, if_neg h4, if_neg h5, if_pos h2, if_neg h0, if_neg h1, if_neg h4, if_neg h5, if_pos h2]
    exact k1
  rename_i h2
  split at h
  · rename_i h3
    have e : desL b k p ps = (desR b p).map fun a => (a.1, upd ps k a.2) := rfl
    rw [e, firstOn_map] at h
    cases hd : firstOn (desR b p) with
    | none => rw [hd] at h; cases h
    | some q0 =>
      rw [hd] at h
      obtain rfl : upd ps k q0 = q := Option.some.inj h
      obtain ⟨k1, k2, k3, k4⟩ := des_rank b p q0 hd
      rw [upd_same]
      refine ⟨?_, k2, k3⟩
      unfold rankS
      rw [k4, if_neg h0, if_neg h1, if_neg h4, if_neg h5, if_neg h2, if_pos h3, if_neg h0, if_neg h1, if_neg h4, if_neg h5, if_neg h2, if_pos h3]
      exact k1
  · cases h
theorem entered (b : Bri) (s : Int) (p : Rec) : roleB (enterF b s p) = false := by
  have e : (enterF b s p).i 87 = (enterF b s p).i 88 := by
    unfold enterF
    split
    · rfl
    split <;> rfl
  unfold roleB
  rw [e]
  simp
/-- A step leaves fewer. -/
theorem rank_step (b : Bri) (k : Nat) (ps q : Nat → Rec) (h : nextT b k ps = some q) : rankT b (q k) < rankT b (ps k) := by
  unfold nextT transT at h
  split at h
  · cases h
  cases hr : roleB (ps k) with
  | false =>
    rw [roles_none b k (ps k) ps _ hr] at h
    obtain ⟨h1, h2, h3⟩ := states_rank b k (ps k) ps q h
    unfold rankT
    rw [role_same _ _ h2 h3, hr]
    exact h1
  | true =>
    have hr' := hr
    unfold roleB at hr'
    simp only [Bool.and_eq_true, decide_eq_true_eq, bne_iff_ne, ne_eq] at hr'
    have key : ∃ s, q = upd ps k (enterF b s (ps k)) := by
      rw [roles_pick b k (ps k) ps _ _ _ _ _ hr'.1.1 rfl rfl rfl rfl] at h
      cases c0 : ((ps k).i 88 == 0) with
      | true => rw [c0] at h; exact ⟨_, (Option.some.inj h).symm⟩
      | false =>
        rw [c0] at h
        cases c3 : ((ps k).i 88 == 3) with
        | true => rw [c3] at h; exact ⟨_, (Option.some.inj h).symm⟩
        | false =>
          rw [c3] at h
          cases c4 : ((ps k).i 88 == 4) with
          | true => rw [c4] at h; exact ⟨_, (Option.some.inj h).symm⟩
          | false =>
            rw [c4] at h
            have c12 : (((ps k).i 88 == 1) || ((ps k).i 88 == 2)) = true := by
              simp at c0 c3 c4 ⊢
              omega
            rw [c12] at h
            exact ⟨_, (Option.some.inj h).symm⟩
    obtain ⟨s, rfl⟩ := key
    rw [upd_same]
    have := rankS_le b (enterF b s (ps k))
    unfold rankT
    rw [entered, hr]
    show rankS b _ < 10
    omega
theorem iter_left (b : Bri) (k : Nat) (ps : Nat → Rec) (n : Nat) : rankT b (iterT b k n ps k) + n ≤ rankT b (ps k) ∨ nextT b k (iterT b k n ps) = none := by
  induction n with
  | zero => exact .inl (Nat.le_refl _)
  | succ n ih =>
    rcases ih with ih | ih
    · cases hq : nextT b k (iterT b k n ps) with
      | none =>
        right
        show nextT b k ((nextT b k (iterT b k n ps)).getD (iterT b k n ps)) = none
        rw [hq]
        exact hq
      | some q =>
        left
        show rankT b (((nextT b k (iterT b k n ps)).getD (iterT b k n ps)) k) + (n + 1) ≤ _
        have := rank_step b k _ q hq
        rw [hq]
        show rankT b (q k) + (n + 1) ≤ _
        omega
    · right
      show nextT b k ((nextT b k (iterT b k n ps)).getD (iterT b k n ps)) = none
      rw [ih]
      exact ih
theorem ends_law (b : Bri) (k : Nat) (ps : Nat → Rec) : nextT b k (iterT b k 10 ps) = none := by
  rcases iter_left b k ps 10 with h | h
  · cases hq : nextT b k (iterT b k 10 ps) with
    | none => rfl
    | some q =>
      have := rank_step b k _ q hq
      have := rankT_le b (ps k)
      omega
  · exact h
attribute [local go_sem] zeroBr
set_option maxRecDepth 100000 in
set_option maxHeartbeats 8000000 in
theorem ends_any (b : Bri) (ps ss : Nat → Rec) (fs : Nat → Int) (w : World) (i : Nat) (hi : i ≤ 255) (h : Reads0 w b ps ss fs) :
    Calls Try.prog 6 #[.agg (rowB b), .int .u8 i] w fun e w' => e = .returned (.bool true) ∧ Below w.heap.size w w' := by
  have HR := Lib.hid h
  clear h
  go_enter Try.func6, Try.ntmps6
  go_wp2_with fail
  refine (awake_any _).mono ?_
  rintro e w1 ⟨rfl, hb1⟩
  have HB : Hid (w1.heap[w.heap.size]? = some (.cells (rowB b) 33 (0, 0))) := (hb1.block _ (by simp)).trans (at_new rfl)
  have HW1 := Lib.hid (andthen (more (Below.refl w.heap.size w) _) hb1)
  clear hb1
  go_wp2_with (first | (refine loadB rfl rfl _ rfl w.heap.size rfl b HB.out ?_; simp only [Act.put, List.setIfInBounds_toArray, List.set_cons_zero, List.set_cons_succ]) | fail)
  refine (few_any b ps _ (HR.out.below HW1.out).p).mono ?_
  rintro e w2 ⟨r, rfl, hr, hb2⟩
  have HB' : Hid (w2.heap[w.heap.size]? = some (.cells (rowB b) 33 (0, 0))) := (hb2.block _ (Array.getElem?_eq_some_iff.1 HB.out).1).trans HB.out
  have HW2 := Lib.hid (andthen HW1.out hb2)
  have Hr := Lib.hid hr
  clear hb2 hr HB HW1
  cases r
  · go_wp2_with fail
    go_ret
    exact ⟨rfl, HW2.out⟩
  have HL := Lib.hid (Hr.out rfl)
  clear Hr
  have HB := HB'
  clear HB'
  have hn1 : 0 < b.n := HL.out.2.1
  have hn8 : b.n ≤ 8 := HL.out.2.2.1
  go_wp2_with (first | (refine loadB rfl rfl _ rfl w.heap.size rfl b HB.out ?_; simp only [Act.put, List.setIfInBounds_toArray, List.set_cons_zero, List.set_cons_succ]) | fail)
  refine (at_any b i _ hi hn1 hn8).mono ?_
  rintro e w3 ⟨rfl, hb3⟩
  have HB' : Hid (w3.heap[w.heap.size]? = some (.cells (rowB b) 33 (0, 0))) := (hb3.block _ (Array.getElem?_eq_some_iff.1 HB.out).1).trans HB.out
  have HW3 := Lib.hid (andthen HW2.out hb3)
  clear hb3 HB HW2
  have HB := HB'
  clear HB'
  obtain ⟨k, hk⟩ : ∃ k, k = i % b.n := ⟨_, rfl⟩
  have hkn : k < b.n := by rw [hk]; exact Nat.mod_lt _ hn1
  rw [← hk]
  have Hk := Lib.hid hk
  clear hk
  go_wp2_with (first | (refine loadB rfl rfl _ rfl w.heap.size rfl b HB.out ?_; simp only [Act.put, List.setIfInBounds_toArray, List.set_cons_zero, List.set_cons_succ]) | fail)
  refine (clone_any b ps ss fs _ ((HR.out.below HW3.out).looked HL.out)).mono ?_
  rintro e w4 ⟨gp, cp, go, co, gf, cf, rfl, hp1, hp2, hp3, op, os, of, hb⟩
  go_upto_region 7 with (first | (refine wpList_store_at rfl 33 _ _ rfl _ (rowB zeroBri) 33 (rowB (b.at gp cp go co gf cf)) _ rfl rfl rfl rfl (sizeB _) rfl (rowB_one _) ?_; simp only [Act.put]) | fail)
  refine ((?_ : ∀ x, x = w4.alloc (.cells (rowB (b.at gp cp go co gf cf)) 33) → Code.wp _ _ _ _ x) _ rfl)
  intro wx hwx
  obtain ⟨bb, bx, hbx, hX, hgx, hSd, hwx'⟩ := clone_bst op os of hp2 hp3 hwx
  rw [← hbx]
  have hw4 := HW3.out.size
  have HX := Lib.hid hX
  have HWX := Lib.hid (andthen (andthen HW3.out hb) hwx')
  have hlt3 : w.heap.size < w3.heap.size := (Array.getElem?_eq_some_iff.1 HB.out).1
  have hge : w.heap.size < gp := Nat.lt_of_lt_of_le hlt3 hp1
  have HTO := Lib.hid (show TimesOk bb from fun x hx => by rw [hSd.1]; exact times_ok HL.out x hx)
  have hn1000 : bb.n ≤ 1000 := by rw [hSd.2.1]; omega
  have hkb : k < bb.n := by rw [hSd.2.1]; exact hkn
  have hk0 : (0 : Int) ≤ k := by omega
  have hk1 : (k : Int) < bb.n := by omega
  have HSD := Lib.hid hSd
  have d17 := hX.c17
  have hgl := hX.p.lt
  have hbl := hX.lt
  have nbg : ¬ bx = gp := hX.ne
  have ngb : ¬ gp = bx := fun e => hX.ne e.symm
  clear op os of hb hp1 hp2 hp3 HB hX hwx hwx' hbx hSd hw4 hlt3
  clear d17
  go_wp2_with fail
  go_loopw [9] (fun i wr => ∃ m : Nat, m ≤ 10 ∧ i = .int .i64 m ∧ Hid (Bst wr bx gp bb (iterT bb k m ps) ss fs) ∧ Hid (Only (· = gp) wx wr)) (fun i _ => 10 - (intOf i).toNat)
  case atStart => exact ⟨0, by omega, rfl, HX, Lib.hid (Only.refl _ _)⟩
  case round =>
    obtain ⟨m, hm, rfl, hE, hO⟩ := hrel
    have hm0 : (0 : Int) ≤ m := by omega
    by_cases hlt : m < 10
    · have dl : decide ((m : Int) < 10) = true := decide_eq_true (by omega)
      have hwm : IntKind.i64.wrap ((m : Int) + 1) = (m + 1 : Nat) := by unfold IntKind.wrap; simp [IntKind.signed, IntKind.bits]; omega
      go_wp2_with fail
      refine (step_ps _ bx gp k bb _ ss fs hE.out hkb HTO.out hn1000).mono ?_
      rintro e w6 ⟨rfl, hX2, hO2⟩
      have HE2 := Lib.hid (show Bst w6 bx gp bb (iterT bb k (m + 1) ps) ss fs from hX2)
      have HO2 := Lib.hid (hO.out.trans hO2)
      clear hX2 hO2
      go_wp2_with fail
      exact ⟨⟨m + 1, by omega, rfl, HE2, HO2⟩, by simp [intOf]; omega⟩
    · have dl : decide ((m : Int) < 10) = false := decide_eq_false (by omega)
      obtain rfl : m = 10 := by omega
      go_wp2_with fail
      refine (step_ps _ bx gp k bb _ ss fs hE.out hkb HTO.out hn1000).mono ?_
      rintro e w6 ⟨rfl, hX2, hO2⟩
      rw [ends_law bb k ps]
      have HO2 := Lib.hid (hO.out.trans hO2)
      clear hX2 hO2
      go_wp2_with fail
      go_ret
      exact ⟨rfl, HWX.out.trans (HO2.out.below HWX.out.size (fun k hk => by omega))⟩
end Go.Proofs.Ytdangeefecdbaaa.Br
