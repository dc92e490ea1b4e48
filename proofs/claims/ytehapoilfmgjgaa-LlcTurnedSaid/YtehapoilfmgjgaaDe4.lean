/- Chapter 5: the message of any bytes, or why there is none (ford/bpdu.Decode), as a plain function of the bytes. Conditions: the bytes can be read; there aren't very many. -/
import Derived.Test.YtehapoilfmgjgaaDe2
import Derived.Test.YtehapoilfmgjgaaDe3
import Derived.Test.YtehapoilfmgjgaaDp
import Derived.WalkMore
import Derived.Scope
set_option linter.unusedSimpArgs false
set_option linter.unusedVariables false
namespace Go.Proofs.Ytehapoilfmgjgaa.Oct
open Go.RowKit
/-- As Q; by a goto: what stands at the label, from there on, without another one. -/
def Exit.fwd (P : Program) (c : Code) (Q : Exit → Act → World → Prop) : Exit → Act → World → Prop
  | .goto l, a, w => ∃ rest, findLabel c l = some rest ∧ rest.wp P (Exit.noGoto Q) a w
  | e, a, w => Q e a w
section
variable {P : Program} {a : Act} {w : World} {Q : Exit → Act → World → Prop} {c : Code}
theorem fwd_normal : Exit.fwd P c Q .normal a w = Q .normal a w := rfl
theorem fwd_exit (id : Nat) : Exit.fwd P c Q (.exit id) a w = Q (.exit id) a w := rfl
theorem fwd_ret : Exit.fwd P c Q .ret a w = Q .ret a w := rfl
theorem fwd_panic (ch : List PanicEntry) : Exit.fwd P c Q (.panic ch) a w = Q (.panic ch) a w := rfl
theorem wp_scope_fwd (h : ∀ c0, c0 = c → c.wp P (Exit.fwd P c0 Q) a w) : (Code.scope c).wp P Q a w := by
  have h := h c rfl
  intro b k cs
  have hg : ∀ l rest, findLabel c l = some rest → gotoIn l (.inScope c :: k) = some (.code rest :: .inScope c :: k) := fun l rest hf => by simp [gotoIn, hf]
  obtain ⟨e, a₁, w₁, hq, harr⟩ := h b (.inScope c :: k) cs
  cases e with
  | normal => exact ⟨.normal, a₁, w₁, hq, .head step_scope (Steps.trans harr (.one step_inScope))⟩
  | exit id => exact ⟨.exit id, a₁, w₁, hq, fun k' hk => .head step_scope (harr k' (by simp [exitTo, hk]))⟩
  | goto l =>
    obtain ⟨rest, hf, hr⟩ := hq
    obtain ⟨e₂, a₂, w₂, hq₂, harr₂⟩ := hr b (.inScope c :: k) cs
    have hto := harr _ (hg l rest hf)
    cases e₂ with
    | normal => exact ⟨.normal, a₂, w₂, hq₂, .head step_scope (Steps.trans hto (Steps.trans harr₂ (.one step_inScope)))⟩
    | exit id => exact ⟨.exit id, a₂, w₂, hq₂, fun k' hk => .head step_scope (Steps.trans hto (harr₂ k' (by simp [exitTo, hk])))⟩
    | goto l' => exact hq₂.elim
    | ret => exact ⟨_, a₂, w₂, hq₂, .of_steps (.head step_scope hto) harr₂⟩
    | panic ch => exact ⟨_, a₂, w₂, hq₂, .of_steps (.head step_scope hto) harr₂⟩
    | outgrown => exact ⟨_, a₂, w₂, hq₂, .of_steps (.head step_scope hto) harr₂⟩
  | ret => exact ⟨_, a₁, w₁, hq, .of_steps (.one step_scope) harr⟩
  | panic ch => exact ⟨_, a₁, w₁, hq, .of_steps (.one step_scope) harr⟩
  | outgrown => exact ⟨_, a₁, w₁, hq, .of_steps (.one step_scope) harr⟩
end
theorem Below.setRow {B : Nat} {w w' : World} {g : Nat} {cs : Array Value} (h : Below B w w') (hg : B ≤ g) : Below B w (w'.setRow g cs) :=
  ⟨h.os, h.tape, h.output, by have := h.size; simpa [World.setRow] using this, fun k hk => (setRow_other _ g k _ (by omega)).trans (h.block k hk)⟩
theorem results_row_tmp {fn : Func} {p u : Tmp} {ty : TypeId} (h : fn.results = #[.cell p ty, .tmp u]) (tmps : Array Value) (w : World) (g : Nat) (t : TypeId) (cs : Array Value) (fr : Nat × Nat) (d : TypeDesc)
    (hp : tmps.getD p undef = .pointer (some ⟨g, 0, none⟩)) (hg : w.heap[g]? = some (.cells cs t fr))
    (hu : Try.prog.underlying ty = some d) (hd : d.isRow = true) (hi : (Try.prog.info? ty).map (·.size) = some cs.size) :
    (results fn tmps).run Try.prog w = .ok (.tuple #[.agg cs, tmps.getD u undef]) w := by
  have hp' : tmps[p]?.getD undef = .pointer (some ⟨g, 0, none⟩) := by simpa using hp
  rw [results_cell_tmp h]
  simp [hp', asAddr, run_loadVar_row w g t ty cs fr d hg hu (by cases d <;> first | rfl | cases hd) hi]
theorem bldZ (w : World) : Sem.run Try.prog (Instr.build 30 #[]) w = .ok (.agg (rowM zeroMsg)) w := by kernel_rfl
theorem bld1 (w : World) : Sem.run Try.prog (Instr.build 30 #[(0, .int .i64 1)]) w = .ok (.agg (rowM { zeroMsg with kind := 1 })) w := by kernel_rfl
/-- What is told of Decode. -/
def DecTells (f : Nat → Int) (n : Nat) (w : World) (e : Ending) (w' : World) : Prop := e = .returned (.tuple #[.agg (rowM (decP f n).1), .int .i64 (decP f n).2]) ∧ Below w.heap.size w w'
theorem DecTells.mk {f : Nat → Int} {n : Nat} {w w' : World} {m : Msg} {x : Int} (h : decP f n = (m, x)) (hb : Below w.heap.size w w') : DecTells f n w (.returned (.tuple #[.agg (rowM m), .int .i64 x])) w' := ⟨by rw [h], hb⟩
attribute [local go_sem] zeroM bldZ bld1
set_option maxRecDepth 100000 in
set_option maxHeartbeats 16000000 in
theorem dec_any (w : World) (a : Option Addr) (n c : Nat) (f : Nat → Int) (hv : View w a 1 n (fun j _ => .int .u8 (f j))) (hb : ∀ j, j < n → 0 ≤ f j ∧ f j ≤ 255) (hnil : a = none → n = 0 ∧ c = 0) (hn : n ≤ 100000) :
    Calls Try.prog 20 #[.slice a n c] w (DecTells f n w) := by
  have HV := Lib.hid (hv.below (more (more (Below.refl _ _) (.cells (rowM zeroMsg) 30)) (.cells (rowM zeroMsg) 30)))
  have HB := Lib.hid hb
  have HNIL := Lib.hid hnil
  clear hv hb hnil
  go_enter Try.func20, Try.ntmps20
  go_wp2_with fail
  refine wp_scope_fwd (fun c0 hc0 => ?_)
  have Hc0 := Lib.hid hc0
  clear hc0
  go_wp2_with fail
  refine (new_any _ a n c f HV.out HB.out HNIL.out hn).mono ?_
  rintro e w3 ⟨rg, rfl, hrg, hr3, hb3⟩
  obtain ⟨gr, hgr⟩ : ∃ x, x = w.heap.size := ⟨_, rfl⟩
  have hrg' : gr + 1 + 1 ≤ rg := by simp at hrg; omega
  have HG3 := Lib.hid (show w3.heap[gr]? = some (.cells (rowM zeroMsg) 30 (0, 0)) by rw [hgr]; exact (hb3.block _ (by simp <;> omega)).trans (at_old (by simp) (at_new rfl)))
  have HM3 := Lib.hid (show w3.heap[gr + 1]? = some (.cells (rowM zeroMsg) 30 (0, 0)) by rw [hgr]; exact (hb3.block _ (by simp)).trans (at_new (by simp)))
  have HW3 := Lib.hid (show Below gr w w3 by rw [hgr]; exact (more (more (Below.refl _ _) _) _).trans (hb3.mono (by simp <;> omega)))
  have HR3 := Lib.hid (show Rd w3 rg n (fun j => f (0 + j)) false by simpa using hr3)
  have ngr : ¬ gr = rg := by omega
  have ngm : ¬ gr + 1 = rg := by omega
  have hs3 : gr ≤ w3.heap.size := by have := HW3.out.size; omega
  rw [← hgr]
  have HGR := Lib.hid hgr
  clear hrg hr3 hb3 hgr HV HNIL
  by_cases hlt : n < 4
  · go_wp2_with fail
    by_cases h2 : n < 2
    · refine (take_few w3 rg (n) 2 _ HR3.out (by omega) (by omega)).mono ?_
      rintro e w4 ⟨rfl, hr, ho⟩
      have HR4 := Lib.hid (hr f)
      have HG4 := Lib.hid ((ho.block _ (Array.getElem?_eq_some_iff.1 HG3.out).1 ngr).trans HG3.out)
      have HM4 := Lib.hid ((ho.block _ (Array.getElem?_eq_some_iff.1 HM3.out).1 ngm).trans HM3.out)
      have HW4 := Lib.hid (HW3.out.trans (ho.below (B := gr) (by have := HW3.out.size; have := HGR.out; omega) (fun x hx => by omega)))
      clear hr ho HR3 HG3 HM3 HW3
      go_wp2_with fail
      refine (take_no w4 rg _ true 1 f HR4.out (Or.inl rfl)).mono ?_
      rintro e wx ⟨rfl, hwx⟩
      have hwx := hwx.symm
      subst hwx
      go_wp2_with fail
      refine (take_no w4 rg _ true 1 f HR4.out (Or.inl rfl)).mono ?_
      rintro e wx ⟨rfl, hwx⟩
      have hwx := hwx.symm
      subst hwx
      go_wp2_with fail
      refine (short_any _ rg _ true _ HR4.out).mono ?_
      rintro e wx ⟨rfl, hwx⟩
      have hwx := hwx.symm
      subst hwx
      go_wp2_with fail
      go_step3
      refine ⟨_, by rw [Hc0.out]; rfl, ?_⟩
      go_wp2_with (first | (refine wpList_store_row rfl 30 _ _ rfl gr (rowM zeroMsg) rfl rfl 30 (rowM zeroMsg) HG4.out (sizeM _) rfl (rowM_one _) ?_; simp only [Act.put]) | fail)
      simp only [Exit.noGoto_ret]
      refine bodyPost_ret (results_row_tmp rfl _ _ gr 30 (rowM zeroMsg) (0, 0) _ rfl (setRow_heap _ _ (rowM zeroMsg) _ _ _ HG4.out) Try.underlying30 rfl (sizeM _)) rfl ?_
      exact DecTells.mk (m := zeroMsg) (x := 2) (by unfold decP; rw [if_pos hlt]) (by rw [← HGR.out]; exact Below.setRow HW4.out (Nat.le_refl _))
    by_cases h3 : n = 2
    · refine (take_at w3 rg (n) 2 0 2 f HR3.out (by omega) (by omega) rfl).mono ?_
      rintro e w4 ⟨rfl, hr, ho⟩
      have HR4 := Lib.hid hr
      have HG4 := Lib.hid ((ho.block _ (Array.getElem?_eq_some_iff.1 HG3.out).1 ngr).trans HG3.out)
      have HM4 := Lib.hid ((ho.block _ (Array.getElem?_eq_some_iff.1 HM3.out).1 ngm).trans HM3.out)
      have HW4 := Lib.hid (HW3.out.trans (ho.below (B := gr) (by have := HW3.out.size; have := HGR.out; omega) (fun x hx => by omega)))
      clear hr ho HR3 HG3 HM3 HW3
      go_wp2_with fail
      refine (take_few w4 rg (n - 2) 1 _ HR4.out (by omega) (by omega)).mono ?_
      rintro e w5 ⟨rfl, hr, ho⟩
      have HR5 := Lib.hid (hr f)
      have HG5 := Lib.hid ((ho.block _ (Array.getElem?_eq_some_iff.1 HG4.out).1 ngr).trans HG4.out)
      have HM5 := Lib.hid ((ho.block _ (Array.getElem?_eq_some_iff.1 HM4.out).1 ngm).trans HM4.out)
      have HW5 := Lib.hid (HW4.out.trans (ho.below (B := gr) (by have := HW4.out.size; have := HGR.out; omega) (fun x hx => by omega)))
      clear hr ho HR4 HG4 HM4 HW4
      go_wp2_with fail
      refine (take_no w5 rg _ true 1 f HR5.out (Or.inl rfl)).mono ?_
      rintro e wx ⟨rfl, hwx⟩
      have hwx := hwx.symm
      subst hwx
      go_wp2_with fail
      refine (short_any _ rg _ true _ HR5.out).mono ?_
      rintro e wx ⟨rfl, hwx⟩
      have hwx := hwx.symm
      subst hwx
      go_wp2_with fail
      go_step3
      refine ⟨_, by rw [Hc0.out]; rfl, ?_⟩
      go_wp2_with (first | (refine wpList_store_row rfl 30 _ _ rfl gr (rowM zeroMsg) rfl rfl 30 (rowM zeroMsg) HG5.out (sizeM _) rfl (rowM_one _) ?_; simp only [Act.put]) | fail)
      simp only [Exit.noGoto_ret]
      refine bodyPost_ret (results_row_tmp rfl _ _ gr 30 (rowM zeroMsg) (0, 0) _ rfl (setRow_heap _ _ (rowM zeroMsg) _ _ _ HG5.out) Try.underlying30 rfl (sizeM _)) rfl ?_
      exact DecTells.mk (m := zeroMsg) (x := 2) (by unfold decP; rw [if_pos hlt]) (by rw [← HGR.out]; exact Below.setRow HW5.out (Nat.le_refl _))
    have h4 : n = 3 := by omega
    refine (take_at w3 rg (n) 2 0 2 f HR3.out (by omega) (by omega) rfl).mono ?_
    rintro e w4 ⟨rfl, hr, ho⟩
    have HR4 := Lib.hid hr
    have HG4 := Lib.hid ((ho.block _ (Array.getElem?_eq_some_iff.1 HG3.out).1 ngr).trans HG3.out)
    have HM4 := Lib.hid ((ho.block _ (Array.getElem?_eq_some_iff.1 HM3.out).1 ngm).trans HM3.out)
    have HW4 := Lib.hid (HW3.out.trans (ho.below (B := gr) (by have := HW3.out.size; have := HGR.out; omega) (fun x hx => by omega)))
    clear hr ho HR3 HG3 HM3 HW3
    go_wp2_with fail
    refine (take_at w4 rg (n - 2) 1 2 3 f HR4.out (by omega) (by omega) rfl).mono ?_
    rintro e w5 ⟨rfl, hr, ho⟩
    have HR5 := Lib.hid hr
    have HG5 := Lib.hid ((ho.block _ (Array.getElem?_eq_some_iff.1 HG4.out).1 ngr).trans HG4.out)
    have HM5 := Lib.hid ((ho.block _ (Array.getElem?_eq_some_iff.1 HM4.out).1 ngm).trans HM4.out)
    have HW5 := Lib.hid (HW4.out.trans (ho.below (B := gr) (by have := HW4.out.size; have := HGR.out; omega) (fun x hx => by omega)))
    clear hr ho HR4 HG4 HM4 HW4
    go_wp2_with fail
    refine (take_few w5 rg (n - 2 - 1) 1 _ HR5.out (by omega) (by omega)).mono ?_
    rintro e w6 ⟨rfl, hr, ho⟩
    have HR6 := Lib.hid (hr f)
    have HG6 := Lib.hid ((ho.block _ (Array.getElem?_eq_some_iff.1 HG5.out).1 ngr).trans HG5.out)
    have HM6 := Lib.hid ((ho.block _ (Array.getElem?_eq_some_iff.1 HM5.out).1 ngm).trans HM5.out)
    have HW6 := Lib.hid (HW5.out.trans (ho.below (B := gr) (by have := HW5.out.size; have := HGR.out; omega) (fun x hx => by omega)))
    clear hr ho HR5 HG5 HM5 HW5
    go_wp2_with fail
    refine (short_any _ rg _ true _ HR6.out).mono ?_
    rintro e wx ⟨rfl, hwx⟩
    have hwx := hwx.symm
    subst hwx
    go_wp2_with fail
    go_step3
    refine ⟨_, by rw [Hc0.out]; rfl, ?_⟩
    go_wp2_with (first | (refine wpList_store_row rfl 30 _ _ rfl gr (rowM zeroMsg) rfl rfl 30 (rowM zeroMsg) HG6.out (sizeM _) rfl (rowM_one _) ?_; simp only [Act.put]) | fail)
    simp only [Exit.noGoto_ret]
    refine bodyPost_ret (results_row_tmp rfl _ _ gr 30 (rowM zeroMsg) (0, 0) _ rfl (setRow_heap _ _ (rowM zeroMsg) _ _ _ HG6.out) Try.underlying30 rfl (sizeM _)) rfl ?_
    exact DecTells.mk (m := zeroMsg) (x := 2) (by unfold decP; rw [if_pos hlt]) (by rw [← HGR.out]; exact Below.setRow HW6.out (Nat.le_refl _))
  go_wp2_with fail
  refine (take_at w3 rg (n) 2 0 2 f HR3.out (by omega) (by omega) rfl).mono ?_
  rintro e w4 ⟨rfl, hr, ho⟩
  have HR4 := Lib.hid hr
  have HG4 := Lib.hid ((ho.block _ (Array.getElem?_eq_some_iff.1 HG3.out).1 ngr).trans HG3.out)
  have HM4 := Lib.hid ((ho.block _ (Array.getElem?_eq_some_iff.1 HM3.out).1 ngm).trans HM3.out)
  have HW4 := Lib.hid (HW3.out.trans (ho.below (B := gr) (by have := HW3.out.size; have := HGR.out; omega) (fun x hx => by omega)))
  clear hr ho HR3 HG3 HM3 HW3
  go_wp2_with fail
  refine (take_at w4 rg (n - 2) 1 2 3 f HR4.out (by omega) (by omega) rfl).mono ?_
  rintro e w5 ⟨rfl, hr, ho⟩
  have HR5 := Lib.hid hr
  have HG5 := Lib.hid ((ho.block _ (Array.getElem?_eq_some_iff.1 HG4.out).1 ngr).trans HG4.out)
  have HM5 := Lib.hid ((ho.block _ (Array.getElem?_eq_some_iff.1 HM4.out).1 ngm).trans HM4.out)
  have HW5 := Lib.hid (HW4.out.trans (ho.below (B := gr) (by have := HW4.out.size; have := HGR.out; omega) (fun x hx => by omega)))
  clear hr ho HR4 HG4 HM4 HW4
  go_wp2_with fail
  refine (take_at w5 rg (n - 2 - 1) 1 3 4 f HR5.out (by omega) (by omega) rfl).mono ?_
  rintro e w6 ⟨rfl, hr, ho⟩
  have HR6 := Lib.hid hr
  have HG6 := Lib.hid ((ho.block _ (Array.getElem?_eq_some_iff.1 HG5.out).1 ngr).trans HG5.out)
  have HM6 := Lib.hid ((ho.block _ (Array.getElem?_eq_some_iff.1 HM5.out).1 ngm).trans HM5.out)
  have HW6 := Lib.hid (HW5.out.trans (ho.below (B := gr) (by have := HW5.out.size; have := HGR.out; omega) (fun x hx => by omega)))
  clear hr ho HR5 HG5 HM5 HW5
  go_wp2_with fail
  refine (short_any _ rg _ false _ HR6.out).mono ?_
  rintro e wx ⟨rfl, hwx⟩
  have hwx := hwx.symm
  subst hwx
  rw [numAt_1, numAt_1]
  have hp2 := numAt_in HB.out 0 2 (by omega)
  obtain ⟨pp, hpp⟩ : ∃ x, x = numAt f 0 2 := ⟨_, rfl⟩
  rw [← hpp] at hp2 ⊢
  have HPP := Lib.hid hpp
  obtain ⟨kd, hkd⟩ : ∃ x, x = f 3 := ⟨_, rfl⟩
  obtain ⟨vs, hvs⟩ : ∃ x, x = f 2 := ⟨_, rfl⟩
  have hk3 := HB.out 3 (by omega)
  have hv2 := HB.out 2 (by omega)
  rw [← hkd] at hk3 ⊢
  rw [← hvs] at hv2 ⊢
  have HKD := Lib.hid hkd
  have HVS := Lib.hid hvs
  have hk0 := hk3.1
  have hv0 := hv2.1
  have hkk : rg = rg := rfl
  have HLT := Lib.hid hlt
  clear hpp hkd hvs hk3 hv2 hkk hlt hp2
  by_cases hP : pp = 0
  rotate_left
  · have dP : (pp != 0) = true := by simp [hP]
    have HPN := Lib.hid (show numAt f 0 2 ≠ 0 by rw [← HPP.out]; exact hP)
    clear hP
    go_wp2_with fail
    go_step3
    refine ⟨_, by rw [Hc0.out]; rfl, ?_⟩
    go_wp2_with (first | (refine wpList_store_row rfl 30 _ _ rfl gr (rowM zeroMsg) rfl rfl 30 (rowM zeroMsg) HG6.out (sizeM _) rfl (rowM_one _) ?_; simp only [Act.put]) | fail)
    simp only [Exit.noGoto_ret]
    refine bodyPost_ret (results_row_tmp rfl _ _ gr 30 (rowM zeroMsg) (0, 0) _ rfl (setRow_heap _ _ (rowM zeroMsg) _ _ _ HG6.out) Try.underlying30 rfl (sizeM _)) rfl ?_
    exact DecTells.mk (m := zeroMsg) (x := 3) (by unfold decP; rw [if_neg HLT.out, if_pos HPN.out]) (by rw [← HGR.out]; exact Below.setRow HW6.out (Nat.le_refl _))
  have dP : (pp != 0) = false := by simp [hP]
  have HP0 := Lib.hid (show ¬ (numAt f 0 2 ≠ 0) by rw [← HPP.out, hP]; simp)
  clear hP
  by_cases h128 : kd = 128
  · have d128 : (kd == 128) = true := by simp [h128]
    have H128 := Lib.hid (show f 3 = 128 by rw [← HKD.out]; exact h128)
    clear h128
    go_wp2_with (first | (refine wpList_store_row rfl 30 _ _ rfl gr (rowM { zeroMsg with kind := 1 }) rfl rfl 30 (rowM zeroMsg) HG6.out (sizeM _) rfl (rowM_one _) ?_; simp only [Act.put]) | fail)
    refine bodyPost_ret (results_row_tmp rfl _ _ gr 30 (rowM { zeroMsg with kind := 1 }) (0, 0) _ rfl (setRow_heap _ _ (rowM zeroMsg) _ _ _ HG6.out) Try.underlying30 rfl (sizeM _)) rfl ?_
    exact DecTells.mk (m := { zeroMsg with kind := 1 }) (x := 0) (by unfold decP; rw [if_neg HLT.out, if_neg HP0.out, if_pos H128.out]) (by rw [← HGR.out]; exact Below.setRow HW6.out (Nat.le_refl _))
  have d128 : (kd == 128) = false := by simp [h128]
  have H128 := Lib.hid (show ¬ f 3 = 128 by rw [← HKD.out]; exact h128)
  clear h128
  have c0 : w6.cell? ⟨gr + 1, 0, none⟩ = some (.int .i64 0) := cells_of HM6.out 0
  have f0 : w6.frozen? ⟨gr + 1, 0, none⟩ = false := free_block HM6.out _
  by_cases hR : kd = 2 ∧ 2 ≤ vs
  · have dk2 : (kd == 2) = true := by simp [hR.1]
    have dv2 : decide (2 ≤ vs) = true := decide_eq_true hR.2
    have HRR := Lib.hid (show f 3 = 2 ∧ 2 ≤ f 2 by rw [← HKD.out, ← HVS.out]; exact hR)
    clear hR
    by_cases h36 : n < 36
    · have d36 : decide ((n : Int) < 36) = true := decide_eq_true (by omega)
      have HG7 := Lib.hid (show (w6.setCell ⟨gr + 1, 0, none⟩ (.int .i64 2)).heap[gr]? = some (.cells (rowM zeroMsg) 30 (0, 0)) from at_far (by simp) HG6.out)
      have HW7 := Lib.hid (HW6.out.setCell (p := ⟨gr + 1, 0, none⟩) (by show gr ≤ gr + 1; omega) (.int .i64 2))
      go_wp2_with fail
      go_step3
      refine ⟨_, by rw [Hc0.out]; rfl, ?_⟩
      go_wp2_with (first | (refine wpList_store_row rfl 30 _ _ rfl gr (rowM zeroMsg) rfl rfl 30 (rowM zeroMsg) HG7.out (sizeM _) rfl (rowM_one _) ?_; simp only [Act.put]) | fail)
      simp only [Exit.noGoto_ret]
      refine bodyPost_ret (results_row_tmp rfl _ _ gr 30 (rowM zeroMsg) (0, 0) _ rfl (setRow_heap _ _ (rowM zeroMsg) _ _ _ HG7.out) Try.underlying30 rfl (sizeM _)) rfl ?_
      exact DecTells.mk (m := zeroMsg) (x := 2) (by unfold decP; rw [if_neg HLT.out, if_neg HP0.out, if_neg H128.out, if_pos HRR.out, if_pos h36]) (by rw [← HGR.out]; exact Below.setRow HW7.out (Nat.le_refl _))
    have d36 : decide ((n : Int) < 36) = false := decide_eq_false (by omega)
    have H36 := Lib.hid h36
    clear h36
    go_upto_region 16 with (fail)
    refine ((?_ : ∀ x, x = w6.setCell ⟨gr + 1, 0, none⟩ (.int .i64 2) → Code.wp _ _ _ _ x) _ rfl)
    intro w7 hw7
    have ho7 : Only (· = gr + 1) w6 w7 := by rw [hw7]; exact (Only.refl (· = gr + 1) w6).setCell (Or.inl rfl) _
    have HM7 := Lib.hid (show w7.heap[gr + 1]? = some (.cells (rowM { zeroMsg with kind := 2 }) 30 (0, 0)) by rw [hw7]; exact at_set HM6.out (rowM_put_0 _ _))
    have HG7 := Lib.hid ((ho7.block _ (Array.getElem?_eq_some_iff.1 HG6.out).1 (by omega)).trans HG6.out)
    have HW7 := Lib.hid (HW6.out.trans (ho7.below (B := gr) (by have := HW6.out.size; have := HGR.out; omega) (fun x hx => by omega)))
    have HR7 := Lib.hid (HR6.out.keep HM6.out ngm (fun _ h => h) ho7)
    clear hw7 ho7 c0 f0 HM6 HG6 HW6 HR6
    go_wp2_with fail
    refine (body_2 w7 rg (gr + 1) (n - 2 - 1 - 1) f HR7.out (by have := H36.out; omega) (fun j hj => HB.out j (by have := H36.out; omega)) HM7.out ngm).mono ?_
    rintro e w8 ⟨rfl, hm8, ho8⟩
    have HM8 := Lib.hid hm8
    have HG8 := Lib.hid ((ho8.block _ (Array.getElem?_eq_some_iff.1 HG7.out).1 (by omega)).trans HG7.out)
    have HW8 := Lib.hid (HW7.out.trans (ho8.below (B := gr) (by have := HW7.out.size; have := HGR.out; omega) (fun x hx => by omega)))
    have c0 : w8.cell? ⟨gr + 1, 0, none⟩ = some (.int .i64 2) := cells_of HM8.out 0
    clear hm8 ho8 HM7 HG7 HW7 HR7
    go_wp2_with (first | (refine wpList_load_row rfl 30 _ rfl (gr + 1) rfl 30 (rowM (bodyM f 2)) (0, 0) _ HM8.out Try.underlying30 rfl (sizeM _) ?_; simp only [Act.put, List.setIfInBounds_toArray, List.set_cons_zero, List.set_cons_succ]) | (refine wpList_store_row rfl 30 _ _ rfl gr (rowM (bodyM f 2)) rfl rfl 30 (rowM zeroMsg) HG8.out (sizeM _) rfl (rowM_one _) ?_; simp only [Act.put]) | fail)
    refine bodyPost_ret (results_row_tmp rfl _ _ gr 30 (rowM (bodyM f 2)) (0, 0) _ rfl (setRow_heap _ _ (rowM zeroMsg) _ _ _ HG8.out) Try.underlying30 rfl (sizeM _)) rfl ?_
    exact DecTells.mk (m := (bodyM f 2)) (x := 0) (by unfold decP; rw [if_neg HLT.out, if_neg HP0.out, if_neg H128.out, if_pos HRR.out, if_neg H36.out]) (by rw [← HGR.out]; exact Below.setRow HW8.out (Nat.le_refl _))
  have HRR := Lib.hid (show ¬ (f 3 = 2 ∧ 2 ≤ f 2) by rw [← HKD.out, ← HVS.out]; exact hR)
  by_cases h0 : kd = 0
  rotate_left
  · have d0 : (kd != 0) = true := by simp [h0]
    have HN0 := Lib.hid (show f 3 ≠ 0 by rw [← HKD.out]; exact h0)
    by_cases hk2 : kd = 2
    · have dk2 : (kd == 2) = true := by simp [hk2]
      have dv2 : decide (2 ≤ vs) = false := decide_eq_false (fun h => hR ⟨hk2, h⟩)
      clear hR h0 hk2
      go_wp2_with fail
      go_step3
      refine ⟨_, by rw [Hc0.out]; rfl, ?_⟩
      go_wp2_with (first | (refine wpList_store_row rfl 30 _ _ rfl gr (rowM zeroMsg) rfl rfl 30 (rowM zeroMsg) HG6.out (sizeM _) rfl (rowM_one _) ?_; simp only [Act.put]) | fail)
      simp only [Exit.noGoto_ret]
      refine bodyPost_ret (results_row_tmp rfl _ _ gr 30 (rowM zeroMsg) (0, 0) _ rfl (setRow_heap _ _ (rowM zeroMsg) _ _ _ HG6.out) Try.underlying30 rfl (sizeM _)) rfl ?_
      exact DecTells.mk (m := zeroMsg) (x := 4) (by unfold decP; rw [if_neg HLT.out, if_neg HP0.out, if_neg H128.out, if_neg HRR.out, if_pos HN0.out]) (by rw [← HGR.out]; exact Below.setRow HW6.out (Nat.le_refl _))
    · have dk2 : (kd == 2) = false := by simp [hk2]
      clear hR h0 hk2
      go_wp2_with fail
      go_step3
      refine ⟨_, by rw [Hc0.out]; rfl, ?_⟩
      go_wp2_with (first | (refine wpList_store_row rfl 30 _ _ rfl gr (rowM zeroMsg) rfl rfl 30 (rowM zeroMsg) HG6.out (sizeM _) rfl (rowM_one _) ?_; simp only [Act.put]) | fail)
      simp only [Exit.noGoto_ret]
      refine bodyPost_ret (results_row_tmp rfl _ _ gr 30 (rowM zeroMsg) (0, 0) _ rfl (setRow_heap _ _ (rowM zeroMsg) _ _ _ HG6.out) Try.underlying30 rfl (sizeM _)) rfl ?_
      exact DecTells.mk (m := zeroMsg) (x := 4) (by unfold decP; rw [if_neg HLT.out, if_neg HP0.out, if_neg H128.out, if_neg HRR.out, if_pos HN0.out]) (by rw [← HGR.out]; exact Below.setRow HW6.out (Nat.le_refl _))
  have d0 : (kd != 0) = false := by simp [h0]
  have dk2 : (kd == 2) = false := by simp [h0]
  have HN0 := Lib.hid (show ¬ (f 3 ≠ 0) by rw [← HKD.out, h0]; simp)
  clear hR h0
  by_cases h35 : n < 35
  · have d35 : decide ((n : Int) < 35) = true := decide_eq_true (by omega)
    go_wp2_with fail
    go_step3
    refine ⟨_, by rw [Hc0.out]; rfl, ?_⟩
    go_wp2_with (first | (refine wpList_store_row rfl 30 _ _ rfl gr (rowM zeroMsg) rfl rfl 30 (rowM zeroMsg) HG6.out (sizeM _) rfl (rowM_one _) ?_; simp only [Act.put]) | fail)
    simp only [Exit.noGoto_ret]
    refine bodyPost_ret (results_row_tmp rfl _ _ gr 30 (rowM zeroMsg) (0, 0) _ rfl (setRow_heap _ _ (rowM zeroMsg) _ _ _ HG6.out) Try.underlying30 rfl (sizeM _)) rfl ?_
    exact DecTells.mk (m := zeroMsg) (x := 2) (by unfold decP; rw [if_neg HLT.out, if_neg HP0.out, if_neg H128.out, if_neg HRR.out, if_neg HN0.out, if_pos h35]) (by rw [← HGR.out]; exact Below.setRow HW6.out (Nat.le_refl _))
  have d35 : decide ((n : Int) < 35) = false := decide_eq_false (by omega)
  have H35 := Lib.hid h35
  clear h35 c0 f0
  go_wp2_with fail
  refine (body_0 w6 rg (gr + 1) (n - 2 - 1 - 1) f HR6.out (by have := H35.out; omega) (fun j hj => HB.out j (by have := H35.out; omega)) HM6.out ngm).mono ?_
  rintro e w8 ⟨rfl, hm8, ho8⟩
  have HM8 := Lib.hid hm8
  have HG8 := Lib.hid ((ho8.block _ (Array.getElem?_eq_some_iff.1 HG6.out).1 (by omega)).trans HG6.out)
  have HW8 := Lib.hid (HW6.out.trans (ho8.below (B := gr) (by have := HW6.out.size; have := HGR.out; omega) (fun x hx => by omega)))
  have c0 : w8.cell? ⟨gr + 1, 0, none⟩ = some (.int .i64 0) := cells_of HM8.out 0
  clear hm8 ho8 HM6 HG6 HW6 HR6
  have hc27 := numAt_in HB.out 27 2 (by have := H35.out; omega)
  have hc29 := numAt_in HB.out 29 2 (by have := H35.out; omega)
  by_cases hA : numAt f 29 2 ≤ numAt f 27 2
  · have dA : decide (numAt f 29 2 ≤ numAt f 27 2) = true := decide_eq_true hA
    go_wp2_with fail
    go_step3
    refine ⟨_, by rw [Hc0.out]; rfl, ?_⟩
    go_wp2_with (first | (refine wpList_store_row rfl 30 _ _ rfl gr (rowM zeroMsg) rfl rfl 30 (rowM zeroMsg) HG8.out (sizeM _) rfl (rowM_one _) ?_; simp only [Act.put]) | fail)
    simp only [Exit.noGoto_ret]
    refine bodyPost_ret (results_row_tmp rfl _ _ gr 30 (rowM zeroMsg) (0, 0) _ rfl (setRow_heap _ _ (rowM zeroMsg) _ _ _ HG8.out) Try.underlying30 rfl (sizeM _)) rfl ?_
    exact DecTells.mk (m := zeroMsg) (x := 5) (by unfold decP; rw [if_neg HLT.out, if_neg HP0.out, if_neg H128.out, if_neg HRR.out, if_neg HN0.out, if_neg H35.out, if_pos hA]) (by rw [← HGR.out]; exact Below.setRow HW8.out (Nat.le_refl _))
  have dA : decide (numAt f 29 2 ≤ numAt f 27 2) = false := decide_eq_false hA
  go_wp2_with (first | (refine wpList_load_row rfl 30 _ rfl (gr + 1) rfl 30 (rowM (bodyM f 0)) (0, 0) _ HM8.out Try.underlying30 rfl (sizeM _) ?_; simp only [Act.put, List.setIfInBounds_toArray, List.set_cons_zero, List.set_cons_succ]) | (refine wpList_store_row rfl 30 _ _ rfl gr (rowM (bodyM f 0)) rfl rfl 30 (rowM zeroMsg) HG8.out (sizeM _) rfl (rowM_one _) ?_; simp only [Act.put]) | fail)
  refine bodyPost_ret (results_row_tmp rfl _ _ gr 30 (rowM (bodyM f 0)) (0, 0) _ rfl (setRow_heap _ _ (rowM zeroMsg) _ _ _ HG8.out) Try.underlying30 rfl (sizeM _)) rfl ?_
  exact DecTells.mk (m := (bodyM f 0)) (x := 0) (by unfold decP; rw [if_neg HLT.out, if_neg HP0.out, if_neg H128.out, if_neg HRR.out, if_neg HN0.out, if_neg H35.out, if_neg (by omega)]) (by rw [← HGR.out]; exact Below.setRow HW8.out (Nat.le_refl _))
end Go.Proofs.Ytehapoilfmgjgaa.Oct
