/- Law TxKinds of the sending machine: the walk joined with the plain law. -/
import Derived.Test.YtmlhbfkmnbhoeaaTxOn
import Derived.Test.YtmlhbfkmnbhoeaaTxMsg
import Derived.Test.YtmlhbfkmnbhoeaaOpen
import Derived.Deep.RegionHeld
set_option linter.unusedSimpArgs false
namespace Go.Proofs.Ytmlhbfkmnbhoeaa.Br
open Go.RowKit
theorem row_held1 {W : World} {g B : Nat} {C : Array Value} {T : TypeId} {fr : Nat × Nat} (h : W.heap[g]? = some (.cells C T fr)) (hB : g < B) : ∀ w, Below B W w → w.rangeAt g 0 C.toList := fun w hw j v hv => by
  rw [Nat.zero_add, cells_of ((hw.block g hB).trans h) j]
  simpa using hv

theorem exec_neqS {o : Oper} {a : Act} {w : World} (x y : Operand) (ho : o.op = .binOp .neq 56 x y 56) (p : Rec) (hx : a.eval x = .agg (rowS p)) (hy : a.eval y = .agg (rowS p)) : (execOp a.eval o).run Try.prog w = .ok (.value (.bool false)) w := by
  unfold execOp
  simp only [ho, hx, hy, Sem.run_bind, run_eqGuard_agg w .neq 56 x y _ _ guardS, Result.andThen_ok, run_neq_struct, eqS, Sem.run_pure]
  rfl
theorem exec_neqP {o : Oper} {a : Act} {w : World} (x y : Operand) (ho : o.op = .binOp .neq 53 x y 53) (p : Rec) (hx : a.eval x = .agg (rowP p)) (hy : a.eval y = .agg (rowP p)) : (execOp a.eval o).run Try.prog w = .ok (.value (.bool false)) w := by
  unfold execOp
  simp only [ho, hx, hy, Sem.run_bind, run_eqGuard_agg w .neq 53 x y _ _ guardP, Result.andThen_ok, run_neq_struct, eqP, Sem.run_pure]
  rfl
theorem range_below {W : World} {g B o : Nat} {cs : List Value} (h : W.rangeAt g o cs) (hB : g < B) : ∀ w, Below B W w → w.rangeAt g o cs := fun _ hw j v hv => (hw.cell (p := ⟨g, _, none⟩) hB).trans (h j v hv)
theorem msgF_kind (p : Rec) (kd : Int) (h : kd = 0 ∨ kd = 1 ∨ kd = 2) : (msgF p kd).i 1 = kd := by
  rcases h with rfl | rfl | rfl
  · rw [msgF_0]; rfl
  · rw [msgF_1]; rfl
  · rw [msgF_2]; rfl
theorem kind_step (b : Bri) (p : Rec) (k : Nat) : (txF b p).1.b 45 = p.b 45 ∧ (txF b p).1.i 14 ≤ p.i 14 + 1 ∧ p.i 14 ≤ (txF b p).1.i 14 ∧ ∀ kd, (txF b p).2.2 = some kd → ((msgF p kd).setI 0 k).i 0 = k ∧ (((msgF p kd).setI 0 k).i 1 == 2) = p.b 45 := by
  unfold txF
  by_cases h1 : (!p.b 44 || p.b 50) = true
  · rw [if_pos h1]
    exact ⟨rfl, by show p.i 14 ≤ p.i 14 + 1; omega, Int.le_refl _, fun _ h => by cases h⟩
  rw [if_neg h1]
  by_cases h2 : p.i 8 = 0
  · rw [if_pos h2]
    exact ⟨by simp [Rec.setB_b, Rec.setI_b], by simp [Rec.setB_i, Rec.setI_i] <;> omega, by simp [Rec.setB_i, Rec.setI_i] <;> omega, fun _ h => by cases h⟩
  rw [if_neg h2]
  by_cases h3 : (!p.b 31 || decide (b.r.i 6 ≤ p.i 14) || !(kindF p).2) = true
  · rw [if_pos h3]
    exact ⟨rfl, by show p.i 14 ≤ p.i 14 + 1; omega, Int.le_refl _, fun _ h => by cases h⟩
  rw [if_neg h3]
  refine ⟨by simp [Rec.setB_b, Rec.setI_b], by simp [Rec.setB_i, Rec.setI_i] <;> omega, by simp [Rec.setB_i, Rec.setI_i] <;> omega, fun kd h => ?_⟩
  obtain rfl : (kindF p).1 = kd := Option.some.inj h
  refine ⟨by simp [Rec.setI_i], ?_⟩
  have e : ∀ kd : Int, ((msgF p kd).setI 0 k).i 1 = (msgF p kd).i 1 := fun kd => by simp [Rec.setI_i]
  rw [e]
  unfold kindF
  cases h45 : p.b 45 with
  | true => rw [if_pos rfl, msgF_kind p 2 (by omega)]; rfl
  | false =>
    rw [if_neg (by simp)]
    by_cases h4 : p.i 87 = 4
    · rw [if_pos h4, msgF_kind p 0 (by omega)]; rfl
    · rw [if_neg h4, msgF_kind p 1 (by omega)]; rfl
/-- A bridge whose port k has sent up to N more. -/
structure Kept (b : Bri) (ps ss : Nat → Rec) (fs : Nat → Int) (bx gp k : Nat) (wr : World) (N : Nat) (p : Rec) (b' : Bri) (ss' : Nat → Rec) : Prop where
  h : Bst wr bx gp b' (upd ps k p) ss' fs
  r : b'.r = b.r
  n : b'.n = b.n
  lo : b.no ≤ b'.no
  hi : b'.no ≤ b.no + N
  t0 : 0 ≤ p.i 14
  t1 : p.i 14 ≤ 1000 + N
  b45 : p.b 45 = (ps k).b 45
  old : ∀ j, j < b.no → ss' j = ss j
  new : ∀ j, b.no ≤ j → j < b'.no → (ss' j).i 0 = k ∧ ((ss' j).i 1 == 2) = (ps k).b 45
theorem kept_on {b : Bri} {ps ss ss' : Nat → Rec} {fs : Nat → Int} {bx gp k N : Nat} {wr : World} {p : Rec} {b' : Bri} (h : Kept b ps ss fs bx gp k wr N p b' ss') (hk : k < b.n) (hN : N ≤ 100) (hno : b.no ≤ 20) :
    Calls Try.prog 13 #[.pointer (some ⟨bx, 0, none⟩), .int .i64 k] wr fun e w' => e = .returned (.bool (txF b p).2.1) ∧ Only (fun x => x = gp ∨ x = bx) wr w' ∧ ∃ p' b'' ss'', Kept b ps ss fs bx gp k w' (N + 1) p' b'' ss'' := by
  have t0 := h.t0
  have t1 := h.t1
  have lo := h.lo
  have hi := h.hi
  refine (step_on wr bx gp k b' ps ss' fs p h.h (by rw [h.n]; exact hk) ⟨by omega, by omega⟩ (by omega)).mono ?_
  rintro e w' ⟨b'', rfl, hB', hO, hr', hn', ho', _⟩
  obtain ⟨e1, e2, e3, e4⟩ := kind_step b p k
  have hF := txF_r h.r p
  unfold sentR at hB'
  unfold cntR at ho'
  rw [hF] at hB' ho' ⊢
  cases hkd : (txF b p).2.2 with
  | none =>
    rw [hkd] at hB' ho'
    have hno' : b''.no = b'.no := ho'
    exact ⟨rfl, hO, _, b'', ss', hB', hr'.trans h.r, hn'.trans h.n, by omega, by omega, by omega, by omega, e1.trans h.b45, h.old, fun j h1 h2 => h.new j h1 (by omega)⟩
  | some kd =>
    rw [hkd] at hB' ho'
    have hno' : b''.no = b'.no + 1 := ho'
    obtain ⟨e5, e6⟩ := e4 kd hkd
    refine ⟨rfl, hO, _, b'', (fun j => if j = b'.no then (msgF p kd).setI 0 k else ss' j), hB', hr'.trans h.r, hn'.trans h.n, by omega, by omega, by omega, by omega, e1.trans h.b45, fun j hj => ?_, fun j h1 h2 => ?_⟩
    · simp only [if_neg (show ¬ j = b'.no by omega)]
      exact h.old j hj
    · by_cases hj : j = b'.no
      · simp only [if_pos hj]
        exact ⟨e5, e6.trans h.b45⟩
      · simp only [if_neg hj]
        exact h.new j h1 (by omega)
theorem snV {w : World} {g o n k : Nat} {ss : Nat → Rec} (h : ∀ k, k < n → ∀ j, j < 18 → w.cell? ⟨g, o + (k * 18 + j), none⟩ = some (cellS (ss k) j)) (hk : k < n) : w.rangeAt g (o + k * 18) (rowS (ss k)).toList := fun j v hv => by
  have hj : j < 18 := (List.getElem?_eq_some_iff.1 hv).1
  rw [Nat.add_assoc, h k hk j hj, ← rowS_get hj, ← hv]
  simp
attribute [local go_sem] zeroBr
set_option maxRecDepth 100000 in
set_option maxHeartbeats 8000000 in
theorem kinds_any (b : Bri) (ps ss : Nat → Rec) (fs : Nat → Int) (w : World) (i : Nat) (hi : i ≤ 255) (h : Reads0 w b ps ss fs) :
    Calls Try.prog 6 #[.agg (rowB b), .int .u8 i] w fun e w' => e = .returned (.bool true) ∧ Below w.heap.size w w' := by
  have HR := Lib.hid h
  clear h
  go_enter Try.func6, Try.ntmps6
  go_wp2_with fail
  refine (awake_any _).mono ?_
  rintro e w1 ⟨rfl, hb1⟩
  have HB : Hid (w1.heap[w.heap.size]? = some (.cells (rowB b) 33 (0, 0))) := (hb1.block _ (by simp)).trans (at_new rfl)
  have HW1 := Lib.hid (andthen (more (Below.refl w.heap.size w) _) hb1)
  clear hb1
  go_wp2_with (first | (refine loadB rfl rfl _ rfl w.heap.size rfl b HB.out ?_; simp only [Act.put, List.setIfInBounds_toArray, List.set_cons_zero, List.set_cons_succ]) | fail)
  refine (few_any b ps _ (HR.out.below HW1.out).p).mono ?_
  rintro e w2 ⟨r, rfl, hr, hb2⟩
  have HB' : Hid (w2.heap[w.heap.size]? = some (.cells (rowB b) 33 (0, 0))) := (hb2.block _ (Array.getElem?_eq_some_iff.1 HB.out).1).trans HB.out
  have HW2 := Lib.hid (andthen HW1.out hb2)
  have Hr := Lib.hid hr
  clear hb2 hr HB HW1
  cases r
  · go_wp2_with fail
    go_ret
    exact ⟨rfl, HW2.out⟩
  have HL := Lib.hid (Hr.out rfl)
  clear Hr
  have HB := HB'
  clear HB'
  have hn1 : 0 < b.n := HL.out.2.1
  have hn8 : b.n ≤ 8 := HL.out.2.2.1
  go_wp2_with (first | (refine loadB rfl rfl _ rfl w.heap.size rfl b HB.out ?_; simp only [Act.put, List.setIfInBounds_toArray, List.set_cons_zero, List.set_cons_succ]) | fail)
  refine (at_any b i _ hi hn1 hn8).mono ?_
  rintro e w3 ⟨rfl, hb3⟩
  have HB' : Hid (w3.heap[w.heap.size]? = some (.cells (rowB b) 33 (0, 0))) := (hb3.block _ (Array.getElem?_eq_some_iff.1 HB.out).1).trans HB.out
  have HW3 := Lib.hid (andthen HW2.out hb3)
  clear hb3 HB HW2
  have HB := HB'
  clear HB'
  obtain ⟨k, hk⟩ : ∃ k, k = i % b.n := ⟨_, rfl⟩
  have hkn : k < b.n := by rw [hk]; exact Nat.mod_lt _ hn1
  rw [← hk]
  have Hk := Lib.hid hk
  clear hk
  go_wp2_with (first | (refine loadB rfl rfl _ rfl w.heap.size rfl b HB.out ?_; simp only [Act.put, List.setIfInBounds_toArray, List.set_cons_zero, List.set_cons_succ]) | fail)
  refine (clone_any b ps ss fs _ ((HR.out.below HW3.out).looked HL.out)).mono ?_
  rintro e w4 ⟨gp, cp, go, co, gf, cf, rfl, hp1, hp2, hp3, op, os, of, hb⟩
  go_upto_region 7 with (first | (refine wpList_store_at rfl 33 _ _ rfl _ (rowB zeroBri) 33 (rowB (b.at gp cp go co gf cf)) _ rfl rfl rfl rfl (sizeB _) rfl (rowB_one _) ?_; simp only [Act.put]) | fail)
  refine ((?_ : ∀ x, x = w4.alloc (.cells (rowB (b.at gp cp go co gf cf)) 33) → Code.wp _ _ _ _ x) _ rfl)
  intro wx hwx
  obtain ⟨bb, bx, hbx, hX, hgx, hbr, hbn, hbo, hbf, hwx'⟩ := clone_bst op os of hp2 hp3 hwx
  rw [← hbx]
  have hw4 := HW3.out.size
  have HX := Lib.hid hX
  have HWX := Lib.hid (andthen (andthen HW3.out hb) hwx')
  have hlt3 : w.heap.size < w3.heap.size := (Array.getElem?_eq_some_iff.1 HB.out).1
  have hge : w.heap.size < gp := Nat.lt_of_lt_of_le hlt3 hp1
  have HBX := Lib.hid ((hwx'.block _ (Nat.lt_of_lt_of_le hlt3 hb.size)).trans ((hb.block _ hlt3).trans HB.out))
  have HBR := Lib.hid hbr
  have HBN := Lib.hid hbn
  have HBO := Lib.hid hbo
  have HBF := Lib.hid hbf
  have hkb : k < bb.n := by rw [hbn]; exact hkn
  have hnob : bb.no ≤ 20 := by rw [hbo]; exact HL.out.2.2.2.1
  have hk0 : (0 : Int) ≤ k := by omega
  have hk1 : (k : Int) < bb.n := by omega
  clear op os of hb hp1 hp2 hp3 HB hX hwx hwx' hbx hbr hbn hbo hbf hw4 hlt3
  have d17 := HX.out.c17
  have hgl := HX.out.p.lt
  have hPk := HL.out.1.2.2.2.2.2.2.2.2 k hkn
  have ht0 : 0 ≤ (ps k).i 14 := (hPk.1 8 (by omega)).1
  have ht1 : (ps k).i 14 ≤ 1000 := (hPk.1 8 (by omega)).2
  have hno20 : b.no ≤ 20 := HL.out.2.2.2.1
  clear hPk d17
  have hlo : b.no ≤ bb.no := by rw [HBO.out]; omega
  have hhi : bb.no ≤ b.no + 0 := by rw [HBO.out]; omega
  have H0 : Kept b ps ss fs bx gp k wx 0 (ps k) bb ss := ⟨HX.out.start k, HBR.out, HBN.out, hlo, hhi, ht0, by omega, rfl, fun _ _ => rfl, fun j h1 h2 => by rw [HBO.out] at h2; omega⟩
  go_wp2_with fail
  refine (kept_on H0 hkn (by omega) hno20).mono ?_
  rintro e w5 ⟨rfl, hO5, p5, b5, ss5, hH5⟩
  have HH5 := Lib.hid hH5
  clear hH5 H0 hlo hhi
  go_wp2_with fail
  refine (kept_on HH5.out hkn (by omega) hno20).mono ?_
  rintro e wz ⟨rfl, hO6, p6, b6, s6, hH6⟩
  have H6 := Lib.hid hH6
  have HO := Lib.hid (hO5.trans hO6)
  clear hH6 HH5 hO5 hO6 ht0 ht1
  have hlo := H6.out.lo
  have hhi := H6.out.hi
  have d18 : wz.cell? ⟨bx, 18, none⟩ = some (.slice b6.ao b6.no b6.co) := cells_of H6.out.h.h 18
  have d17 := H6.out.h.c17
  rw [H6.out.n] at d17
  have hB7 := orig HBX.out HO.out hge hgx
  have o18 : wz.cell? ⟨w.heap.size, 18, none⟩ = some (.slice b.ao b.no b.co) := cells_of hB7 18
  have hW7 := HWX.out.trans (HO.out.below HWX.out.size (fun k hk => by omega))
  rcases (HR.out.below hW7).p with h0 | ⟨g0, o0, hap, hc0⟩
  · omega
  have o17 : wz.cell? ⟨w.heap.size, 17, none⟩ = some (.slice (some ⟨g0, o0, none⟩) b.n b.cp) := by rw [← hap]; exact cells_of hB7 17
  have o45 : wz.cell? ⟨g0, o0 + k * 89 + 22 + 23, none⟩ = some (.bool ((ps k).b 45)) := by rw [Nat.add_assoc, Nat.add_assoc]; exact hc0 k hkn 45 (by omega)
  have hk1' : (k : Int) < b.n := by omega
  have hg0 : g0 < wz.heap.size := cell_lt o45
  have hwl : w.heap.size < wz.heap.size := cell_lt o17
  have hbl : bx < wz.heap.size := cell_lt d18
  have hpl : gp < wz.heap.size := H6.out.h.p.lt
  have HW7 := Lib.hid hW7
  have HC0 := Lib.hid hc0
  clear hap hc0 hB7 hW7
  have dlo : decide ((b6.no : Int) < b.no) = false := decide_eq_false (by omega)
  go_wp2_with fail
  have hB0 : Below wz.heap.size wz wz := Below.refl _ _
  go_loopw [9] (fun i wr => ∃ m : Nat, m ≤ b6.no ∧ i = .int .i64 m ∧ Hid (Below wz.heap.size wz wr)) (fun i _ => b6.no - (intOf i).toNat)
  case atStart => exact ⟨0, by omega, rfl, Lib.hid hB0⟩
  case round =>
    clear hB0
    obtain ⟨m, hm, rfl, hBr⟩ := hrel
    have hm0 : (0 : Int) ≤ m := by omega
    have r18 : wr.cell? ⟨bx, 18, none⟩ = some (.slice b6.ao b6.no b6.co) := (hBr.out.cell (p := ⟨bx, 18, none⟩) hbl).trans d18
    have q18 : wr.cell? ⟨w.heap.size, 18, none⟩ = some (.slice b.ao b.no b.co) := (hBr.out.cell (p := ⟨w.heap.size, 18, none⟩) hwl).trans o18
    by_cases hlt : m < b6.no
    · have dl : decide ((m : Int) < b6.no) = true := decide_eq_true (by omega)
      have hm1 : (m : Int) < b6.no := by omega
      have hwm : IntKind.i64.wrap ((m : Int) + 1) = (m + 1 : Nat) := by unfold IntKind.wrap; simp [IntKind.signed, IntKind.bits]; omega
      rcases H6.out.h.s with hz | ⟨gs, os, hos, hcs⟩
      · omega
      rw [hos] at d18
      have hgs : gs < wz.heap.size := cell_lt (hcs m hlt 0 (by omega))
      by_cases hlt2 : m < b.no
      · have dl2 : decide ((m : Int) < b.no) = true := decide_eq_true (by omega)
        have hm2 : (m : Int) < b.no := by omega
        rcases (HR.out.below HW7.out).s with hz | ⟨g1, o1, ho1, hc1⟩
        · omega
        rw [ho1] at o18
        have hg1 : g1 < wz.heap.size := cell_lt (hc1 m hlt2 0 (by omega))
        have hrs := snV hcs hlt
        rw [H6.out.old m hlt2] at hrs
        have hr1 := snV hc1 hlt2
        have Hos := Lib.hid hos
        have Ho1 := Lib.hid ho1
        clear hcs hc1 hos ho1
        go_upto_region 15 with (fail)
        refine wp_region_held_drew (S := fun w' => Below wz.heap.size wz w') (by kernel_rfl) hBr.out.drew (fun hH => ?_)
        refine wpAnyH_take (i := 0) (v := .pointer (some ⟨bx, 18, none⟩)) rfl (by kernel_rfl) (by kernel_rfl) (by kernel_rfl) (fun _ _ _ h => h) (Or.inl ⟨by rfl, fun z _ => by simp [go_sem, execOp]⟩) hH ?_
        simp only [List.getElem_toArray, List.getElem_cons_succ, List.getElem_cons_zero, Act.put, List.setIfInBounds_toArray, List.set_cons_zero, List.set_cons_succ]
        refine wpAnyH_take (i := 1) (v := .slice (some ⟨gs, os, none⟩) b6.no b6.co) rfl (by kernel_rfl) (by kernel_rfl) (by kernel_rfl) (fun _ _ _ h => h) (Or.inl ⟨by rfl, fun z hz => by simp [go_sem, execOp, (show z.cell? ⟨bx, 18, none⟩ = some (.slice (some ⟨gs, os, none⟩) b6.no b6.co) from (hz.cell (p := ⟨bx, 18, none⟩) hbl).trans d18)]⟩) hH ?_
        simp only [List.getElem_toArray, List.getElem_cons_succ, List.getElem_cons_zero, Act.put, List.setIfInBounds_toArray, List.set_cons_zero, List.set_cons_succ]
        refine wpAnyH_take (i := 2) (v := .int .i64 m) rfl (by kernel_rfl) (by kernel_rfl) (by kernel_rfl) (fun _ _ _ h => h) (Or.inl ⟨by rfl, fun z _ => rfl⟩) hH ?_
        simp only [List.getElem_toArray, List.getElem_cons_succ, List.getElem_cons_zero, Act.put, List.setIfInBounds_toArray, List.set_cons_zero, List.set_cons_succ]
        refine wpAnyH_take (i := 3) (v := .pointer (some ⟨gs, os + m * 18, none⟩)) rfl (by kernel_rfl) (by kernel_rfl) (by kernel_rfl) (fun _ _ _ h => h) (Or.inl ⟨by rfl, fun z _ => by simp [go_sem, execOp, hm0, hm1, hm2]⟩) hH ?_
        simp only [List.getElem_toArray, List.getElem_cons_succ, List.getElem_cons_zero, Act.put, List.setIfInBounds_toArray, List.set_cons_zero, List.set_cons_succ]
        refine wpAnyH_take (i := 4) rfl (by kernel_rfl) (by kernel_rfl) (by kernel_rfl) (fun _ _ _ h => h) ((yieldsIf_load_mid (by rfl) 56 _ rfl gs (os + m * 18) rfl (rowS (ss m)).toList _ (range_below hrs hgs) Try.underlying56 rfl (sizeS _))) hH ?_
        simp only [List.getElem_toArray, List.getElem_cons_succ, List.getElem_cons_zero, Act.put, List.setIfInBounds_toArray, List.set_cons_zero, List.set_cons_succ]
        refine wpAnyH_take (i := 5) (v := .pointer (some ⟨w.heap.size, 18, none⟩)) rfl (by kernel_rfl) (by kernel_rfl) (by kernel_rfl) (fun _ _ _ h => h) (Or.inl ⟨by rfl, fun z _ => by simp [go_sem, execOp]⟩) hH ?_
        simp only [List.getElem_toArray, List.getElem_cons_succ, List.getElem_cons_zero, Act.put, List.setIfInBounds_toArray, List.set_cons_zero, List.set_cons_succ]
        refine wpAnyH_take (i := 6) (v := .slice (some ⟨g1, o1, none⟩) b.no b.co) rfl (by kernel_rfl) (by kernel_rfl) (by kernel_rfl) (fun _ _ _ h => h) (Or.inl ⟨by rfl, fun z hz => by simp [go_sem, execOp, (show z.cell? ⟨w.heap.size, 18, none⟩ = some (.slice (some ⟨g1, o1, none⟩) b.no b.co) from (hz.cell (p := ⟨w.heap.size, 18, none⟩) hwl).trans o18)]⟩) hH ?_
        simp only [List.getElem_toArray, List.getElem_cons_succ, List.getElem_cons_zero, Act.put, List.setIfInBounds_toArray, List.set_cons_zero, List.set_cons_succ]
        refine wpAnyH_take (i := 7) (v := .int .i64 m) rfl (by kernel_rfl) (by kernel_rfl) (by kernel_rfl) (fun _ _ _ h => h) (Or.inl ⟨by rfl, fun z _ => rfl⟩) hH ?_
        simp only [List.getElem_toArray, List.getElem_cons_succ, List.getElem_cons_zero, Act.put, List.setIfInBounds_toArray, List.set_cons_zero, List.set_cons_succ]
        refine wpAnyH_take (i := 8) (v := .pointer (some ⟨g1, o1 + m * 18, none⟩)) rfl (by kernel_rfl) (by kernel_rfl) (by kernel_rfl) (fun _ _ _ h => h) (Or.inl ⟨by rfl, fun z _ => by simp [go_sem, execOp, hm0, hm1, hm2]⟩) hH ?_
        simp only [List.getElem_toArray, List.getElem_cons_succ, List.getElem_cons_zero, Act.put, List.setIfInBounds_toArray, List.set_cons_zero, List.set_cons_succ]
        refine wpAnyH_take (i := 9) rfl (by kernel_rfl) (by kernel_rfl) (by kernel_rfl) (fun _ _ _ h => h) ((yieldsIf_load_mid (by rfl) 56 _ rfl g1 (o1 + m * 18) rfl (rowS (ss m)).toList _ (range_below hr1 hg1) Try.underlying56 rfl (sizeS _))) hH ?_
        simp only [List.getElem_toArray, List.getElem_cons_succ, List.getElem_cons_zero, Act.put, List.setIfInBounds_toArray, List.set_cons_zero, List.set_cons_succ]
        refine wpAnyH_take (i := 10) (v := .bool false) rfl (by kernel_rfl) (by kernel_rfl) (by kernel_rfl) (fun _ _ _ h => h) (Or.inl ⟨by rfl, fun z _ => exec_neqS _ _ rfl (ss m) rfl rfl⟩) hH ?_
        simp only [List.getElem_toArray, List.getElem_cons_succ, List.getElem_cons_zero, Act.put, List.setIfInBounds_toArray, List.set_cons_zero, List.set_cons_succ]
        refine wpAnyH_done (by kernel_rfl) ?_ _
        have HH := Lib.hid hH
        clear hH hrs hr1
        go_wp2_with fail
        exact ⟨⟨m + 1, by omega, rfl, HH⟩, by simp [intOf]; omega⟩
      · have dl2 : decide ((m : Int) < b.no) = false := decide_eq_false (by omega)
        obtain ⟨hn0, hn1⟩ := H6.out.new m (by omega) hlt
        have s0 : wz.cell? ⟨gs, os + m * 18, none⟩ = some (.int .i64 k) := (hcs m hlt 0 (by omega)).trans (by show some (Value.int .i64 ((s6 m).i 0)) = _; rw [hn0])
        have s1 : wz.cell? ⟨gs, os + m * 18 + 1, none⟩ = some (.int .i64 ((s6 m).i 1)) := hcs m hlt 1 (by omega)
        have Hos := Lib.hid hos
        obtain ⟨z1, hz1⟩ : ∃ x, x = (s6 m).i 1 := ⟨_, rfl⟩
        rw [← hz1] at s1 hn1
        obtain ⟨z45, hz45⟩ : ∃ x, x = (ps k).b 45 := ⟨_, rfl⟩
        rw [← hz45] at o45 hn1
        clear hcs hos hn0 hz1 hz45
        go_upto_region 17 with (fail)
        refine wp_region_held_drew (S := fun w' => Below wz.heap.size wz w') (by kernel_rfl) hBr.out.drew (fun hH => ?_)
        refine wpAnyH_take (i := 0) (v := .pointer (some ⟨bx, 18, none⟩)) rfl (by kernel_rfl) (by kernel_rfl) (by kernel_rfl) (fun _ _ _ h => h) (Or.inl ⟨by rfl, fun z _ => by simp [go_sem, execOp]⟩) hH ?_
        simp only [List.getElem_toArray, List.getElem_cons_succ, List.getElem_cons_zero, Act.put, List.setIfInBounds_toArray, List.set_cons_zero, List.set_cons_succ]
        refine wpAnyH_take (i := 1) (v := .slice (some ⟨gs, os, none⟩) b6.no b6.co) rfl (by kernel_rfl) (by kernel_rfl) (by kernel_rfl) (fun _ _ _ h => h) (Or.inl ⟨by rfl, fun z hz => by simp [go_sem, execOp, (show z.cell? ⟨bx, 18, none⟩ = some (.slice (some ⟨gs, os, none⟩) b6.no b6.co) from (hz.cell (p := ⟨bx, 18, none⟩) hbl).trans d18)]⟩) hH ?_
        simp only [List.getElem_toArray, List.getElem_cons_succ, List.getElem_cons_zero, Act.put, List.setIfInBounds_toArray, List.set_cons_zero, List.set_cons_succ]
        refine wpAnyH_take (i := 2) (v := .int .i64 m) rfl (by kernel_rfl) (by kernel_rfl) (by kernel_rfl) (fun _ _ _ h => h) (Or.inl ⟨by rfl, fun z _ => rfl⟩) hH ?_
        simp only [List.getElem_toArray, List.getElem_cons_succ, List.getElem_cons_zero, Act.put, List.setIfInBounds_toArray, List.set_cons_zero, List.set_cons_succ]
        refine wpAnyH_take (i := 3) (v := .pointer (some ⟨gs, os + m * 18, none⟩)) rfl (by kernel_rfl) (by kernel_rfl) (by kernel_rfl) (fun _ _ _ h => h) (Or.inl ⟨by rfl, fun z _ => by simp [go_sem, execOp, hm0, hm1]⟩) hH ?_
        simp only [List.getElem_toArray, List.getElem_cons_succ, List.getElem_cons_zero, Act.put, List.setIfInBounds_toArray, List.set_cons_zero, List.set_cons_succ]
        refine wpAnyH_take (i := 4) (v := .pointer (some ⟨gs, os + m * 18, none⟩)) rfl (by kernel_rfl) (by kernel_rfl) (by kernel_rfl) (fun _ _ _ h => h) (Or.inl ⟨by rfl, fun z _ => by simp [go_sem, execOp]⟩) hH ?_
        simp only [List.getElem_toArray, List.getElem_cons_succ, List.getElem_cons_zero, Act.put, List.setIfInBounds_toArray, List.set_cons_zero, List.set_cons_succ]
        refine wpAnyH_take (i := 5) (v := .int .i64 k) rfl (by kernel_rfl) (by kernel_rfl) (by kernel_rfl) (fun _ _ _ h => h) (Or.inl ⟨by rfl, fun z hz => by simp [go_sem, execOp, (show z.cell? ⟨gs, os + m * 18, none⟩ = some (.int .i64 k) from (hz.cell (p := ⟨gs, os + m * 18, none⟩) hgs).trans s0)]⟩) hH ?_
        simp only [List.getElem_toArray, List.getElem_cons_succ, List.getElem_cons_zero, Act.put, List.setIfInBounds_toArray, List.set_cons_zero, List.set_cons_succ]
        refine wpAnyH_take (i := 6) (v := .int .i64 k) rfl (by kernel_rfl) (by kernel_rfl) (by kernel_rfl) (fun _ _ _ h => h) (Or.inl ⟨by rfl, fun z _ => rfl⟩) hH ?_
        simp only [List.getElem_toArray, List.getElem_cons_succ, List.getElem_cons_zero, Act.put, List.setIfInBounds_toArray, List.set_cons_zero, List.set_cons_succ]
        refine wpAnyH_take (i := 7) (v := .bool false) rfl (by kernel_rfl) (by kernel_rfl) (by kernel_rfl) (fun _ _ _ h => h) (Or.inl ⟨by rfl, fun z _ => by simp [go_sem, execOp]⟩) hH ?_
        simp only [List.getElem_toArray, List.getElem_cons_succ, List.getElem_cons_zero, Act.put, List.setIfInBounds_toArray, List.set_cons_zero, List.set_cons_succ]
        refine wpAnyH_take (i := 8) (v := .bool false) rfl (by kernel_rfl) (by kernel_rfl) (by kernel_rfl) (fun _ _ _ h => h) (Or.inl ⟨by rfl, fun z _ => rfl⟩) hH ?_
        simp only [List.getElem_toArray, List.getElem_cons_succ, List.getElem_cons_zero, Act.put, List.setIfInBounds_toArray, List.set_cons_zero, List.set_cons_succ]
        refine wpAnyH_take (i := 9) (v := .pointer (some ⟨bx, 18, none⟩)) rfl (by kernel_rfl) (by kernel_rfl) (by kernel_rfl) (fun _ _ _ h => h) (Or.inl ⟨by rfl, fun z _ => by simp [go_sem, execOp]⟩) hH ?_
        simp only [List.getElem_toArray, List.getElem_cons_succ, List.getElem_cons_zero, Act.put, List.setIfInBounds_toArray, List.set_cons_zero, List.set_cons_succ]
        refine wpAnyH_take (i := 10) (v := .slice (some ⟨gs, os, none⟩) b6.no b6.co) rfl (by kernel_rfl) (by kernel_rfl) (by kernel_rfl) (fun _ _ _ h => h) (Or.inl ⟨by rfl, fun z hz => by simp [go_sem, execOp, (show z.cell? ⟨bx, 18, none⟩ = some (.slice (some ⟨gs, os, none⟩) b6.no b6.co) from (hz.cell (p := ⟨bx, 18, none⟩) hbl).trans d18)]⟩) hH ?_
        simp only [List.getElem_toArray, List.getElem_cons_succ, List.getElem_cons_zero, Act.put, List.setIfInBounds_toArray, List.set_cons_zero, List.set_cons_succ]
        refine wpAnyH_take (i := 11) (v := .int .i64 m) rfl (by kernel_rfl) (by kernel_rfl) (by kernel_rfl) (fun _ _ _ h => h) (Or.inl ⟨by rfl, fun z _ => rfl⟩) hH ?_
        simp only [List.getElem_toArray, List.getElem_cons_succ, List.getElem_cons_zero, Act.put, List.setIfInBounds_toArray, List.set_cons_zero, List.set_cons_succ]
        refine wpAnyH_take (i := 12) (v := .pointer (some ⟨gs, os + m * 18, none⟩)) rfl (by kernel_rfl) (by kernel_rfl) (by kernel_rfl) (fun _ _ _ h => h) (Or.inl ⟨by rfl, fun z _ => by simp [go_sem, execOp, hm0, hm1]⟩) hH ?_
        simp only [List.getElem_toArray, List.getElem_cons_succ, List.getElem_cons_zero, Act.put, List.setIfInBounds_toArray, List.set_cons_zero, List.set_cons_succ]
        refine wpAnyH_take (i := 13) (v := .pointer (some ⟨gs, os + m * 18 + 1, none⟩)) rfl (by kernel_rfl) (by kernel_rfl) (by kernel_rfl) (fun _ _ _ h => h) (Or.inl ⟨by rfl, fun z _ => by simp [go_sem, execOp]⟩) hH ?_
        simp only [List.getElem_toArray, List.getElem_cons_succ, List.getElem_cons_zero, Act.put, List.setIfInBounds_toArray, List.set_cons_zero, List.set_cons_succ]
        refine wpAnyH_take (i := 14) (v := .pointer (some ⟨gs, os + m * 18 + 1, none⟩)) rfl (by kernel_rfl) (by kernel_rfl) (by kernel_rfl) (fun _ _ _ h => h) (Or.inl ⟨by rfl, fun z _ => by simp [go_sem, execOp]⟩) hH ?_
        simp only [List.getElem_toArray, List.getElem_cons_succ, List.getElem_cons_zero, Act.put, List.setIfInBounds_toArray, List.set_cons_zero, List.set_cons_succ]
        refine wpAnyH_take (i := 15) (v := .int .i64 z1) rfl (by kernel_rfl) (by kernel_rfl) (by kernel_rfl) (fun _ _ _ h => h) (Or.inl ⟨by rfl, fun z hz => by simp [go_sem, execOp, (show z.cell? ⟨gs, os + m * 18 + 1, none⟩ = some (.int .i64 z1) from (hz.cell (p := ⟨gs, os + m * 18 + 1, none⟩) hgs).trans s1)]⟩) hH ?_
        simp only [List.getElem_toArray, List.getElem_cons_succ, List.getElem_cons_zero, Act.put, List.setIfInBounds_toArray, List.set_cons_zero, List.set_cons_succ]
        refine wpAnyH_take (i := 16) (v := .bool z45) rfl (by kernel_rfl) (by kernel_rfl) (by kernel_rfl) (fun _ _ _ h => h) (Or.inl ⟨by rfl, fun z _ => by simp [go_sem, execOp, hn1]⟩) hH ?_
        simp only [List.getElem_toArray, List.getElem_cons_succ, List.getElem_cons_zero, Act.put, List.setIfInBounds_toArray, List.set_cons_zero, List.set_cons_succ]
        refine wpAnyH_take (i := 17) (v := .pointer (some ⟨w.heap.size, 17, none⟩)) rfl (by kernel_rfl) (by kernel_rfl) (by kernel_rfl) (fun _ _ _ h => h) (Or.inl ⟨by rfl, fun z _ => by simp [go_sem, execOp]⟩) hH ?_
        simp only [List.getElem_toArray, List.getElem_cons_succ, List.getElem_cons_zero, Act.put, List.setIfInBounds_toArray, List.set_cons_zero, List.set_cons_succ]
        refine wpAnyH_take (i := 18) (v := .slice (some ⟨g0, o0, none⟩) b.n b.cp) rfl (by kernel_rfl) (by kernel_rfl) (by kernel_rfl) (fun _ _ _ h => h) (Or.inl ⟨by rfl, fun z hz => by simp [go_sem, execOp, (show z.cell? ⟨w.heap.size, 17, none⟩ = some (.slice (some ⟨g0, o0, none⟩) b.n b.cp) from (hz.cell (p := ⟨w.heap.size, 17, none⟩) hwl).trans o17)]⟩) hH ?_
        simp only [List.getElem_toArray, List.getElem_cons_succ, List.getElem_cons_zero, Act.put, List.setIfInBounds_toArray, List.set_cons_zero, List.set_cons_succ]
        refine wpAnyH_take (i := 19) (v := .int .i64 k) rfl (by kernel_rfl) (by kernel_rfl) (by kernel_rfl) (fun _ _ _ h => h) (Or.inl ⟨by rfl, fun z _ => rfl⟩) hH ?_
        simp only [List.getElem_toArray, List.getElem_cons_succ, List.getElem_cons_zero, Act.put, List.setIfInBounds_toArray, List.set_cons_zero, List.set_cons_succ]
        refine wpAnyH_take (i := 20) (v := .pointer (some ⟨g0, o0 + k * 89, none⟩)) rfl (by kernel_rfl) (by kernel_rfl) (by kernel_rfl) (fun _ _ _ h => h) (Or.inl ⟨by rfl, fun z _ => by simp [go_sem, execOp, hk0, hk1']⟩) hH ?_
        simp only [List.getElem_toArray, List.getElem_cons_succ, List.getElem_cons_zero, Act.put, List.setIfInBounds_toArray, List.set_cons_zero, List.set_cons_succ]
        refine wpAnyH_take (i := 21) (v := .pointer (some ⟨g0, o0 + k * 89 + 22, none⟩)) rfl (by kernel_rfl) (by kernel_rfl) (by kernel_rfl) (fun _ _ _ h => h) (Or.inl ⟨by rfl, fun z _ => by simp [go_sem, execOp]⟩) hH ?_
        simp only [List.getElem_toArray, List.getElem_cons_succ, List.getElem_cons_zero, Act.put, List.setIfInBounds_toArray, List.set_cons_zero, List.set_cons_succ]
        refine wpAnyH_take (i := 22) (v := .pointer (some ⟨g0, o0 + k * 89 + 22 + 23, none⟩)) rfl (by kernel_rfl) (by kernel_rfl) (by kernel_rfl) (fun _ _ _ h => h) (Or.inl ⟨by rfl, fun z _ => by simp [go_sem, execOp]⟩) hH ?_
        simp only [List.getElem_toArray, List.getElem_cons_succ, List.getElem_cons_zero, Act.put, List.setIfInBounds_toArray, List.set_cons_zero, List.set_cons_succ]
        refine wpAnyH_take (i := 23) (v := .bool z45) rfl (by kernel_rfl) (by kernel_rfl) (by kernel_rfl) (fun _ _ _ h => h) (Or.inl ⟨by rfl, fun z hz => by simp [go_sem, execOp, (show z.cell? ⟨g0, o0 + k * 89 + 22 + 23, none⟩ = some (.bool z45) from (hz.cell (p := ⟨g0, o0 + k * 89 + 22 + 23, none⟩) hg0).trans o45)]⟩) hH ?_
        simp only [List.getElem_toArray, List.getElem_cons_succ, List.getElem_cons_zero, Act.put, List.setIfInBounds_toArray, List.set_cons_zero, List.set_cons_succ]
        refine wpAnyH_take (i := 24) (v := .bool false) rfl (by kernel_rfl) (by kernel_rfl) (by kernel_rfl) (fun _ _ _ h => h) (Or.inl ⟨by rfl, fun z _ => by simp [go_sem, execOp]⟩) hH ?_
        simp only [List.getElem_toArray, List.getElem_cons_succ, List.getElem_cons_zero, Act.put, List.setIfInBounds_toArray, List.set_cons_zero, List.set_cons_succ]
        refine wpAnyH_take (i := 25) rfl (by kernel_rfl) (by kernel_rfl) (by kernel_rfl) (fun _ _ _ h => h) (Or.inl ⟨by rfl, fun z _ => rfl⟩) hH ?_
        simp only [List.getElem_toArray, List.getElem_cons_succ, List.getElem_cons_zero, Act.put, List.setIfInBounds_toArray, List.set_cons_zero, List.set_cons_succ]
        refine wpAnyH_done (by kernel_rfl) ?_ _
        have HH := Lib.hid hH
        clear hH
        go_wp2_with fail
        exact ⟨⟨m + 1, by omega, rfl, HH⟩, by simp [intOf]; omega⟩
    · have dl : decide ((m : Int) < b6.no) = false := decide_eq_false (by omega)
      go_wp2_with fail
      have hB0 : Below wz.heap.size wz wr := hBr.out
      go_loopw [10] (fun i wt => ∃ m : Nat, m ≤ b.n ∧ i = .int .i64 m ∧ Hid (Below wz.heap.size wz wt)) (fun i _ => b.n - (intOf i).toNat)
      case atStart => exact ⟨0, by omega, rfl, Lib.hid hB0⟩
      case round =>
        clear hB0 dl hm0 hm r18 q18 hBr hlt
        obtain ⟨q, hm', rfl, hBt⟩ := hrel
        have hm0 : (0 : Int) ≤ q := by omega
        have t17 : wr.cell? ⟨bx, 17, none⟩ = some (.slice (some ⟨gp, 0, none⟩) b.n b6.cp) := (hBt.out.cell (p := ⟨bx, 17, none⟩) hbl).trans d17
        by_cases hlt : q < b.n
        · have dl : decide ((q : Int) < b.n) = true := decide_eq_true (by omega)
          have hm1 : (q : Int) < b.n := by omega
          have hwm : IntKind.i64.wrap ((q : Int) + 1) = (q + 1 : Nat) := by have := HL.out.2.2.1; unfold IntKind.wrap; simp [IntKind.signed, IntKind.bits]; omega
          by_cases hmk : q = k
          · have dk : ((q : Int) != k) = false := by simp [hmk]
            clear hmk
            go_upto_region 22 with (fail)
            refine wp_region_held_drew (S := fun w' => Below wz.heap.size wz w') (by kernel_rfl) hBt.out.drew (fun hH => ?_)
            refine wpAnyH_take (i := 0) (v := .int .i64 q) rfl (by kernel_rfl) (by kernel_rfl) (by kernel_rfl) (fun _ _ _ h => h) (Or.inl ⟨by rfl, fun z _ => rfl⟩) hH ?_
            simp only [List.getElem_toArray, List.getElem_cons_succ, List.getElem_cons_zero, Act.put, List.setIfInBounds_toArray, List.set_cons_zero, List.set_cons_succ]
            refine wpAnyH_take (i := 1) (v := .int .i64 k) rfl (by kernel_rfl) (by kernel_rfl) (by kernel_rfl) (fun _ _ _ h => h) (Or.inl ⟨by rfl, fun z _ => rfl⟩) hH ?_
            simp only [List.getElem_toArray, List.getElem_cons_succ, List.getElem_cons_zero, Act.put, List.setIfInBounds_toArray, List.set_cons_zero, List.set_cons_succ]
            refine wpAnyH_take (i := 2) (v := .bool false) rfl (by kernel_rfl) (by kernel_rfl) (by kernel_rfl) (fun _ _ _ h => h) (Or.inl ⟨by rfl, fun z _ => by simp [go_sem, execOp, dk]⟩) hH ?_
            simp only [List.getElem_toArray, List.getElem_cons_succ, List.getElem_cons_zero, Act.put, List.setIfInBounds_toArray, List.set_cons_zero, List.set_cons_succ]
            refine wpAnyH_take (i := 3) (v := .bool false) rfl (by kernel_rfl) (by kernel_rfl) (by kernel_rfl) (fun _ _ _ h => h) (Or.inl ⟨by rfl, fun z _ => rfl⟩) hH ?_
            simp only [List.getElem_toArray, List.getElem_cons_succ, List.getElem_cons_zero, Act.put, List.setIfInBounds_toArray, List.set_cons_zero, List.set_cons_succ]
            refine wpAnyH_take (i := 4) (v := undef) rfl (by kernel_rfl) (by kernel_rfl) (by kernel_rfl) (fun _ _ _ h => h) (Or.inr ⟨by rfl, rfl⟩) hH ?_
            simp only [List.getElem_toArray, List.getElem_cons_succ, List.getElem_cons_zero, Act.put, List.setIfInBounds_toArray, List.set_cons_zero, List.set_cons_succ]
            refine wpAnyH_take (i := 5) (v := undef) rfl (by kernel_rfl) (by kernel_rfl) (by kernel_rfl) (fun _ _ _ h => h) (Or.inr ⟨by rfl, rfl⟩) hH ?_
            simp only [List.getElem_toArray, List.getElem_cons_succ, List.getElem_cons_zero, Act.put, List.setIfInBounds_toArray, List.set_cons_zero, List.set_cons_succ]
            refine wpAnyH_take (i := 6) (v := undef) rfl (by kernel_rfl) (by kernel_rfl) (by kernel_rfl) (fun _ _ _ h => h) (Or.inr ⟨by rfl, rfl⟩) hH ?_
            simp only [List.getElem_toArray, List.getElem_cons_succ, List.getElem_cons_zero, Act.put, List.setIfInBounds_toArray, List.set_cons_zero, List.set_cons_succ]
            refine wpAnyH_take (i := 7) (v := undef) rfl (by kernel_rfl) (by kernel_rfl) (by kernel_rfl) (fun _ _ _ h => h) (Or.inr ⟨by rfl, rfl⟩) hH ?_
            simp only [List.getElem_toArray, List.getElem_cons_succ, List.getElem_cons_zero, Act.put, List.setIfInBounds_toArray, List.set_cons_zero, List.set_cons_succ]
            refine wpAnyH_take (i := 8) (v := undef) rfl (by kernel_rfl) (by kernel_rfl) (by kernel_rfl) (fun _ _ _ h => h) (Or.inr ⟨by rfl, rfl⟩) hH ?_
            simp only [List.getElem_toArray, List.getElem_cons_succ, List.getElem_cons_zero, Act.put, List.setIfInBounds_toArray, List.set_cons_zero, List.set_cons_succ]
            refine wpAnyH_take (i := 9) (v := undef) rfl (by kernel_rfl) (by kernel_rfl) (by kernel_rfl) (fun _ _ _ h => h) (Or.inr ⟨by rfl, rfl⟩) hH ?_
            simp only [List.getElem_toArray, List.getElem_cons_succ, List.getElem_cons_zero, Act.put, List.setIfInBounds_toArray, List.set_cons_zero, List.set_cons_succ]
            refine wpAnyH_take (i := 10) (v := undef) rfl (by kernel_rfl) (by kernel_rfl) (by kernel_rfl) (fun _ _ _ h => h) (Or.inr ⟨by rfl, rfl⟩) hH ?_
            simp only [List.getElem_toArray, List.getElem_cons_succ, List.getElem_cons_zero, Act.put, List.setIfInBounds_toArray, List.set_cons_zero, List.set_cons_succ]
            refine wpAnyH_take (i := 11) (v := undef) rfl (by kernel_rfl) (by kernel_rfl) (by kernel_rfl) (fun _ _ _ h => h) (Or.inr ⟨by rfl, rfl⟩) hH ?_
            simp only [List.getElem_toArray, List.getElem_cons_succ, List.getElem_cons_zero, Act.put, List.setIfInBounds_toArray, List.set_cons_zero, List.set_cons_succ]
            refine wpAnyH_take (i := 12) (v := undef) rfl (by kernel_rfl) (by kernel_rfl) (by kernel_rfl) (fun _ _ _ h => h) (Or.inr ⟨by rfl, rfl⟩) hH ?_
            simp only [List.getElem_toArray, List.getElem_cons_succ, List.getElem_cons_zero, Act.put, List.setIfInBounds_toArray, List.set_cons_zero, List.set_cons_succ]
            refine wpAnyH_take (i := 13) (v := undef) rfl (by kernel_rfl) (by kernel_rfl) (by kernel_rfl) (fun _ _ _ h => h) (Or.inr ⟨by rfl, rfl⟩) hH ?_
            simp only [List.getElem_toArray, List.getElem_cons_succ, List.getElem_cons_zero, Act.put, List.setIfInBounds_toArray, List.set_cons_zero, List.set_cons_succ]
            refine wpAnyH_take (i := 14) (v := undef) rfl (by kernel_rfl) (by kernel_rfl) (by kernel_rfl) (fun _ _ _ h => h) (Or.inr ⟨by rfl, rfl⟩) hH ?_
            simp only [List.getElem_toArray, List.getElem_cons_succ, List.getElem_cons_zero, Act.put, List.setIfInBounds_toArray, List.set_cons_zero, List.set_cons_succ]
            refine wpAnyH_take (i := 15) rfl (by kernel_rfl) (by kernel_rfl) (by kernel_rfl) (fun _ _ _ h => h) (Or.inl ⟨by rfl, fun z _ => rfl⟩) hH ?_
            simp only [List.getElem_toArray, List.getElem_cons_succ, List.getElem_cons_zero, Act.put, List.setIfInBounds_toArray, List.set_cons_zero, List.set_cons_succ]
            refine wpAnyH_done (by kernel_rfl) ?_ _
            have HH := Lib.hid hH
            clear hH
            go_wp2_with fail
            exact ⟨⟨q + 1, by omega, rfl, HH⟩, by simp [intOf]; omega⟩
          · have dk : ((q : Int) != k) = true := by simp; omega
            have hrp : wz.rangeAt gp (q * 89) (rowP (ps q)).toList := by
              have h := H6.out.h.p.range (k := q) (by rw [H6.out.n]; exact hlt)
              rw [show upd ps k p6 q = ps q by unfold upd; rw [if_neg hmk]] at h
              exact h
            have hro := portV HC0.out hlt
            clear hmk
            go_upto_region 22 with (fail)
            refine wp_region_held_drew (S := fun w' => Below wz.heap.size wz w') (by kernel_rfl) hBt.out.drew (fun hH => ?_)
            refine wpAnyH_take (i := 0) (v := .int .i64 q) rfl (by kernel_rfl) (by kernel_rfl) (by kernel_rfl) (fun _ _ _ h => h) (Or.inl ⟨by rfl, fun z _ => rfl⟩) hH ?_
            simp only [List.getElem_toArray, List.getElem_cons_succ, List.getElem_cons_zero, Act.put, List.setIfInBounds_toArray, List.set_cons_zero, List.set_cons_succ]
            refine wpAnyH_take (i := 1) (v := .int .i64 k) rfl (by kernel_rfl) (by kernel_rfl) (by kernel_rfl) (fun _ _ _ h => h) (Or.inl ⟨by rfl, fun z _ => rfl⟩) hH ?_
            simp only [List.getElem_toArray, List.getElem_cons_succ, List.getElem_cons_zero, Act.put, List.setIfInBounds_toArray, List.set_cons_zero, List.set_cons_succ]
            refine wpAnyH_take (i := 2) (v := .bool true) rfl (by kernel_rfl) (by kernel_rfl) (by kernel_rfl) (fun _ _ _ h => h) (Or.inl ⟨by rfl, fun z _ => by simp [go_sem, execOp, dk]⟩) hH ?_
            simp only [List.getElem_toArray, List.getElem_cons_succ, List.getElem_cons_zero, Act.put, List.setIfInBounds_toArray, List.set_cons_zero, List.set_cons_succ]
            refine wpAnyH_take (i := 3) (v := .bool true) rfl (by kernel_rfl) (by kernel_rfl) (by kernel_rfl) (fun _ _ _ h => h) (Or.inl ⟨by rfl, fun z _ => rfl⟩) hH ?_
            simp only [List.getElem_toArray, List.getElem_cons_succ, List.getElem_cons_zero, Act.put, List.setIfInBounds_toArray, List.set_cons_zero, List.set_cons_succ]
            refine wpAnyH_take (i := 4) (v := .pointer (some ⟨bx, 17, none⟩)) rfl (by kernel_rfl) (by kernel_rfl) (by kernel_rfl) (fun _ _ _ h => h) (Or.inl ⟨by rfl, fun z _ => by simp [go_sem, execOp]⟩) hH ?_
            simp only [List.getElem_toArray, List.getElem_cons_succ, List.getElem_cons_zero, Act.put, List.setIfInBounds_toArray, List.set_cons_zero, List.set_cons_succ]
            refine wpAnyH_take (i := 5) (v := .slice (some ⟨gp, 0, none⟩) b.n b6.cp) rfl (by kernel_rfl) (by kernel_rfl) (by kernel_rfl) (fun _ _ _ h => h) (Or.inl ⟨by rfl, fun z hz => by simp [go_sem, execOp, (show z.cell? ⟨bx, 17, none⟩ = some (.slice (some ⟨gp, 0, none⟩) b.n b6.cp) from (hz.cell (p := ⟨bx, 17, none⟩) hbl).trans d17)]⟩) hH ?_
            simp only [List.getElem_toArray, List.getElem_cons_succ, List.getElem_cons_zero, Act.put, List.setIfInBounds_toArray, List.set_cons_zero, List.set_cons_succ]
            refine wpAnyH_take (i := 6) (v := .int .i64 q) rfl (by kernel_rfl) (by kernel_rfl) (by kernel_rfl) (fun _ _ _ h => h) (Or.inl ⟨by rfl, fun z _ => rfl⟩) hH ?_
            simp only [List.getElem_toArray, List.getElem_cons_succ, List.getElem_cons_zero, Act.put, List.setIfInBounds_toArray, List.set_cons_zero, List.set_cons_succ]
            refine wpAnyH_take (i := 7) (v := .pointer (some ⟨gp, q * 89, none⟩)) rfl (by kernel_rfl) (by kernel_rfl) (by kernel_rfl) (fun _ _ _ h => h) (Or.inl ⟨by rfl, fun z _ => by simp [go_sem, execOp, hm0, hm1]⟩) hH ?_
            simp only [List.getElem_toArray, List.getElem_cons_succ, List.getElem_cons_zero, Act.put, List.setIfInBounds_toArray, List.set_cons_zero, List.set_cons_succ]
            refine wpAnyH_take (i := 8) rfl (by kernel_rfl) (by kernel_rfl) (by kernel_rfl) (fun _ _ _ h => h) ((yieldsIf_load_mid (by rfl) 53 _ rfl gp (q * 89) rfl (rowP (ps q)).toList _ (range_below hrp hpl) Try.underlying53 rfl (sizeP _))) hH ?_
            simp only [List.getElem_toArray, List.getElem_cons_succ, List.getElem_cons_zero, Act.put, List.setIfInBounds_toArray, List.set_cons_zero, List.set_cons_succ]
            refine wpAnyH_take (i := 9) (v := .pointer (some ⟨w.heap.size, 17, none⟩)) rfl (by kernel_rfl) (by kernel_rfl) (by kernel_rfl) (fun _ _ _ h => h) (Or.inl ⟨by rfl, fun z _ => by simp [go_sem, execOp]⟩) hH ?_
            simp only [List.getElem_toArray, List.getElem_cons_succ, List.getElem_cons_zero, Act.put, List.setIfInBounds_toArray, List.set_cons_zero, List.set_cons_succ]
            refine wpAnyH_take (i := 10) (v := .slice (some ⟨g0, o0, none⟩) b.n b.cp) rfl (by kernel_rfl) (by kernel_rfl) (by kernel_rfl) (fun _ _ _ h => h) (Or.inl ⟨by rfl, fun z hz => by simp [go_sem, execOp, (show z.cell? ⟨w.heap.size, 17, none⟩ = some (.slice (some ⟨g0, o0, none⟩) b.n b.cp) from (hz.cell (p := ⟨w.heap.size, 17, none⟩) hwl).trans o17)]⟩) hH ?_
            simp only [List.getElem_toArray, List.getElem_cons_succ, List.getElem_cons_zero, Act.put, List.setIfInBounds_toArray, List.set_cons_zero, List.set_cons_succ]
            refine wpAnyH_take (i := 11) (v := .int .i64 q) rfl (by kernel_rfl) (by kernel_rfl) (by kernel_rfl) (fun _ _ _ h => h) (Or.inl ⟨by rfl, fun z _ => rfl⟩) hH ?_
            simp only [List.getElem_toArray, List.getElem_cons_succ, List.getElem_cons_zero, Act.put, List.setIfInBounds_toArray, List.set_cons_zero, List.set_cons_succ]
            refine wpAnyH_take (i := 12) (v := .pointer (some ⟨g0, o0 + q * 89, none⟩)) rfl (by kernel_rfl) (by kernel_rfl) (by kernel_rfl) (fun _ _ _ h => h) (Or.inl ⟨by rfl, fun z _ => by simp [go_sem, execOp, hm0, hm1]⟩) hH ?_
            simp only [List.getElem_toArray, List.getElem_cons_succ, List.getElem_cons_zero, Act.put, List.setIfInBounds_toArray, List.set_cons_zero, List.set_cons_succ]
            refine wpAnyH_take (i := 13) rfl (by kernel_rfl) (by kernel_rfl) (by kernel_rfl) (fun _ _ _ h => h) ((yieldsIf_load_mid (by rfl) 53 _ rfl g0 (o0 + q * 89) rfl (rowP (ps q)).toList _ (range_below hro hg0) Try.underlying53 rfl (sizeP _))) hH ?_
            simp only [List.getElem_toArray, List.getElem_cons_succ, List.getElem_cons_zero, Act.put, List.setIfInBounds_toArray, List.set_cons_zero, List.set_cons_succ]
            refine wpAnyH_take (i := 14) (v := .bool false) rfl (by kernel_rfl) (by kernel_rfl) (by kernel_rfl) (fun _ _ _ h => h) (Or.inl ⟨by rfl, fun z _ => exec_neqP _ _ rfl (ps q) rfl rfl⟩) hH ?_
            simp only [List.getElem_toArray, List.getElem_cons_succ, List.getElem_cons_zero, Act.put, List.setIfInBounds_toArray, List.set_cons_zero, List.set_cons_succ]
            refine wpAnyH_take (i := 15) rfl (by kernel_rfl) (by kernel_rfl) (by kernel_rfl) (fun _ _ _ h => h) (Or.inl ⟨by rfl, fun z _ => rfl⟩) hH ?_
            simp only [List.getElem_toArray, List.getElem_cons_succ, List.getElem_cons_zero, Act.put, List.setIfInBounds_toArray, List.set_cons_zero, List.set_cons_succ]
            refine wpAnyH_done (by kernel_rfl) ?_ _
            have HH := Lib.hid hH
            clear hH hrp hro
            go_wp2_with fail
            exact ⟨⟨q + 1, by omega, rfl, HH⟩, by simp [intOf]; omega⟩
        · have dl : decide ((q : Int) < b.n) = false := decide_eq_false (by omega)
          go_wp2_with fail
          go_ret
          exact ⟨rfl, HW7.out.trans (hBt.out.mono HW7.out.size)⟩
end Go.Proofs.Ytmlhbfkmnbhoeaa.Br
