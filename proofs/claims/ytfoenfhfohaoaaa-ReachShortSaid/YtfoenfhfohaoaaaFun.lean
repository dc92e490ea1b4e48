/- What the small functions of the ways answer: None, Less, hop, Length, and the document's Less and Complex; floats of whole numbers below 2 to the 53rd. -/
import Derived.Test.YtfoenfhfohaoaaaBase22
set_option linter.unusedSimpArgs false
namespace Go.Proofs.Ytfoenfhfohaoaaa.Rea
open Go.RowKit
/-- The word of one. -/
theorem flt_1 : flt 1 = 4607182418800017408 := by decide
/-- A way as a number. -/
def cv : Way → Value
  | none => .complex .f64 minus minus
  | some (c, h) => .complex .f64 (flt c) (flt h)
/-- So short that its parts are told exactly. -/
def Short : Way → Prop
  | none => True
  | some (c, h) => c < 2 ^ 53 ∧ h < 2 ^ 53
def Short2 (x : Nat × Nat) : Prop := x.1 < 2 ^ 53 ∧ x.2 < 2 ^ 53
theorem fmt64 : FloatKind.f64.format = Ieee.double := rfl
theorem nearest_int (n : Nat) : floatOfInt .f64 (n : Int) = flt n := by
  unfold floatOfInt FloatKind.nearest FloatKind.encode
  rw [fmt64]
  have e : decide ((n : Int) < 0) = false := decide_eq_false (by omega)
  rw [e]
  rfl
theorem hself : (Ieee.double.order minus minus == some .eq) = true := by rw [order_minus_self]; rfl
theorem eq_cv (x y : Way) (hx : Short x) (hy : Short y) (t : TypeId) (w : World) : Sem.run Try.prog (binOp .eql t (cv x) (cv y)) w = .ok (.bool (x == y)) w := by
  cases x with
  | none =>
    cases y with
    | none =>
      show Sem.run Try.prog (binOp .eql t (.complex .f64 minus minus) (.complex .f64 minus minus)) w = _
      rw [run_eql_complex, fmt64, hself]
      rfl
    | some b =>
      obtain ⟨c, h⟩ := b
      show Sem.run Try.prog (binOp .eql t (.complex .f64 minus minus) (.complex .f64 (flt c) (flt h))) w = _
      rw [run_eql_complex, fmt64, order_minus_lt (stands c hy.1)]
      rfl
  | some a =>
    obtain ⟨c, h⟩ := a
    cases y with
    | none =>
      show Sem.run Try.prog (binOp .eql t (.complex .f64 (flt c) (flt h)) (.complex .f64 minus minus)) w = _
      rw [run_eql_complex, fmt64, order_minus (stands c hx.1)]
      rfl
    | some b =>
      obtain ⟨c', h'⟩ := b
      show Sem.run Try.prog (binOp .eql t (.complex .f64 (flt c) (flt h)) (.complex .f64 (flt c') (flt h'))) w = _
      rw [run_eql_complex, fmt64, order_flt (stands c hx.1) (stands c' hy.1), order_flt (stands h hx.2) (stands h' hy.2)]
      congr 2
      rw [Bool.eq_iff_iff]
      simp [Int.compare_eq_eq]
      omega
theorem none_any (x : Way) (hx : Short x) (w : World) : Calls Try.prog 12 #[cv x] w fun e w' => e = .returned (.bool x.isNone) ∧ w' = w := by
  cases x with
  | none =>
    have h1 : (FloatKind.f64.format.order 13830554455654793216 13830554455654793216 == some .eq) = true := by
      rw [fmt64]
      exact hself
    show Calls Try.prog 12 #[.complex .f64 13830554455654793216 13830554455654793216] w _
    go_enter Try.func12, Try.ntmps12
    go_wp2_with fail
    go_ret
    exact ⟨rfl, rfl⟩
  | some a =>
    obtain ⟨c, h⟩ := a
    have h1 := order_minus (stands c hx.1)
    show Calls Try.prog 12 #[.complex .f64 (flt c) (flt h)] w _
    obtain ⟨x, hx⟩ : ∃ x, x = flt c := ⟨_, rfl⟩
    obtain ⟨y, hy⟩ : ∃ x, x = flt h := ⟨_, rfl⟩
    rw [← hx] at h1
    rw [← hx, ← hy]
    have h2 : (FloatKind.f64.format.order x 13830554455654793216 == some .eq) = false := by
      rw [fmt64, show Ieee.double.order x 13830554455654793216 = some .gt from h1]
      rfl
    clear hx hy h1
    go_enter Try.func12, Try.ntmps12
    go_wp2_with fail
    go_ret
    exact ⟨rfl, rfl⟩
theorem cmp_lt (a b : Nat) : (some (compare (a : Int) (b : Int)) == some Ordering.lt) = decide (a < b) := by
  rw [Bool.eq_iff_iff]
  simp [Int.compare_eq_lt]
theorem cmp_eq (a b : Nat) : (some (compare (a : Int) (b : Int)) == some Ordering.eq) = decide (a = b) := by
  rw [Bool.eq_iff_iff]
  simp [Int.compare_eq_eq]
  omega
theorem less_any (a b : Nat × Nat) (ha : Short2 a) (hb : Short2 b) (w : World) : Calls Try.prog 14 #[cv (some a), cv (some b)] w fun e w' => e = .returned (.bool (lt a b)) ∧ w' = w := by
  obtain ⟨c, h⟩ := a
  obtain ⟨c', h'⟩ := b
  have h1 := order_flt (stands c ha.1) (stands c' hb.1)
  have h2 := order_flt (stands h ha.2) (stands h' hb.2)
  show Calls Try.prog 14 #[.complex .f64 (flt c) (flt h), .complex .f64 (flt c') (flt h')] w _
  obtain ⟨x, hx⟩ : ∃ x, x = flt c := ⟨_, rfl⟩
  obtain ⟨y, hy⟩ : ∃ x, x = flt h := ⟨_, rfl⟩
  obtain ⟨x', hx'⟩ : ∃ x, x = flt c' := ⟨_, rfl⟩
  obtain ⟨y', hy'⟩ : ∃ x, x = flt h' := ⟨_, rfl⟩
  rw [← hx, ← hx'] at h1
  rw [← hy, ← hy'] at h2
  rw [← hx, ← hx', ← hy, ← hy']
  have e1 : (FloatKind.f64.format.order x x' == some .lt) = decide (c < c') := by rw [fmt64, h1, cmp_lt]
  have e2 : (FloatKind.f64.format.order x x' == some .eq) = decide (c = c') := by rw [fmt64, h1, cmp_eq]
  have e3 : (FloatKind.f64.format.order y y' == some .lt) = decide (h < h') := by rw [fmt64, h2, cmp_lt]
  clear h1 h2 hx hx' hy hy' ha hb
  rcases Nat.lt_trichotomy c c' with hc | hc | hc
  all_goals
    have d1 : decide (c < c') = decide (c < c') := rfl
    first
      | (rw [decide_eq_true (show c < c' by omega)] at e1)
      | (rw [decide_eq_false (show ¬ c < c' by omega)] at e1)
    first
      | (rw [decide_eq_true (show c = c' by omega)] at e2)
      | (rw [decide_eq_false (show ¬ c = c' by omega)] at e2)
    clear d1
    have hl : lt (c, h) (c', h') = (decide (c < c') || (decide (c = c') && decide (h < h'))) := by
      unfold lt
      simp
    have Hl := Lib.hid hl
    have Hc := Lib.hid hc
    clear hl hc
    go_enter Try.func14, Try.ntmps14
    go_wp2_with fail
    go_ret
    refine ⟨?_, rfl⟩
    have hc := Hc.out
    rw [Hl.out]
    simp [*]
    try omega
/-- What a hop's length is. -/
theorem hop_any (c : Nat) (w : World) : Calls Try.prog 16 #[.int .u32 c] w fun e w' => e = .returned (.complex .f64 (flt c) (flt 1)) ∧ w' = w := by
  have hc : ∀ w, (convert 38 50 (.int .u32 c)).run Try.prog w = .ok (.float .f64 (flt c)) w := fun w => by
    rw [← nearest_int]
    exact run_convert_int_float w 38 50 _ _ _ (by rw [Try.underlying38]; rfl) Try.underlying50
  rw [flt_1]
  go_enter Try.func16, Try.ntmps16
  go_wp2_with fail
  go_ret
  exact ⟨rfl, rfl⟩
theorem add_cv {x y a b c d : Nat} (hx : Stands x a) (hy : Stands y b) (hc : a + c < 2 ^ 53) (hd : b + d < 2 ^ 53) (t : TypeId) (w : World) : Sem.run Try.prog (binOp .add t (.complex .f64 x y) (.complex .f64 (flt c) (flt d))) w = .ok (.complex .f64 (flt (a + c)) (flt (b + d))) w := by
  refine run_complex_sum w .add (Or.inl rfl) t .f64 _ _ _ _ _ _ ?_
  unfold cSumBits floatBits
  rw [fmt64, add_flt hx (stands c (by omega)) hc, add_flt hy (stands d (by omega)) hd]
  rfl
end Go.Proofs.Ytfoenfhfohaoaaa.Rea
