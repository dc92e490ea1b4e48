/- Chapter 15: a step of the port role transitions machine (ford/trans.Step) as a plain function of the ports. Conditions: the bridge lies in memory; there aren't very many ports; its times aren't very much. -/
import Derived.Test.YtdangeefecdbaaaTr11
import Derived.WalkMore
import Derived.ScopeJumps
set_option linter.unusedSimpArgs false
set_option linter.unusedVariables false
namespace Go.Proofs.Ytdangeefecdbaaa.Br
open Go.RowKit
/-- What the first row makes whose condition holds. -/
def firstOn {α : Type} : List (Bool × α) → Option α
  | [] => none
  | a :: r => bif a.1 then some a.2 else firstOn r
theorem firstOn_drop {α : Type} : ∀ (l : List (Bool × α)) (i : Nat) (c : Bool) (q : α), l[i]? = some (c, q) → firstOn (l.drop i) = bif c then some q else firstOn (l.drop (i + 1))
  | [], i, c, q, h => by simp at h
  | a :: l, 0, c, q, h => by
    obtain rfl : a = (c, q) := by simpa using h
    rfl
  | a :: l, i + 1, c, q, h => by
    rw [List.drop_succ_cons, List.drop_succ_cons]
    exact firstOn_drop l i c q (by simpa using h)
/-- A step: what it makes of the ports. -/
def transT (b : Bri) (k : Nat) (p : Rec) (ps : Nat → Rec) : Option (Nat → Rec) :=
  if p.b 44 = false ∨ p.b 50 = true then none else firstOn (rolesL b k p ps ++ statesL b k p ps)
theorem roles_len (b : Bri) (k : Nat) (p : Rec) (ps : Nat → Rec) : (rolesL b k p ps).length = 4 := rfl
theorem states_len (b : Bri) (k : Nat) (p : Rec) (ps : Nat → Rec) : (statesL b k p ps).length ≤ 10 := by
  unfold statesL
  repeat' split
  all_goals simp [altL, rootL, desL, setsL]
theorem wp_scope_label {P : Program} {a : Act} {w : World} {Q : Exit → Act → World → Prop} {c rest : Code} (l : Nat) (J : Act → World → Prop) (μ : Act → World → Nat) (hf : findLabel c l = some (Code.seq Code.skip rest))
    (pass : ∀ a w, J a w → rest.wp P (Exit.jump l (fun a' w' => J a' w' ∧ μ a' w' < μ a w) Q) a w)
    (first : (∀ a w, J a w → rest.wp P (Exit.jump l J Q) a w) → c.wp P (Exit.jump l J Q) a w) : (Code.scope c).wp P Q a w :=
  wp_scope_jumps l J μ hf (first fun a w hJ => wp_mono (pass a w hJ) fun e a' w' h => by
    cases e <;> first | exact ⟨h.1, h.2.1⟩ | exact h) fun a w hJ => wp_seq (wp_skip (pass a w hJ))
theorem bldPort (a1 a2 a3 a4 a5 : Option Addr) (k : Int) (w : World) : Sem.run Try.prog (Instr.build 57 #[(0, .pointer a1), (1, .int .i64 k), (2, .pointer a3), (3, .pointer a4), (4, .pointer a5)]) w = .ok (.agg #[.pointer a1, .int .i64 k, .pointer a3, .pointer a4, .pointer a5]) w := by kernel_rfl
def lenS : Value → Nat | .slice _ n _ => n | _ => 0
def natI : Value → Nat | .int _ q => q.toNat | _ => 0
/-- What holds at the label. -/
def AtLabel (w : World) (bx g k : Nat) (b : Bri) (ps ss : Nat → Rec) (fs : Nat → Int) (p : Rec) (w' : World) (l : List (Bool × Value)) (cap gr kk : Nat) : Prop :=
  kk ≤ l.length ∧ l.length ≤ 100 ∧ l.length ≤ cap ∧ (∀ j u, (cellsR l)[j]? = some u → w'.cell? ⟨gr, j, none⟩ = some u) ∧ Pairs bx g b ss fs w' l (rolesL b k p ps ++ statesL b k p ps) ∧ firstOn ((rolesL b k p ps ++ statesL b k p ps).drop kk) = transT b k p ps ∧ Bst w' bx g b (upd ps k p) ss fs ∧ Below w.heap.size w w'
set_option maxRecDepth 100000 in
set_option maxHeartbeats 8000000 in
theorem step_any (w : World) (bx g k : Nat) (b : Bri) (ps ss : Nat → Rec) (fs : Nat → Int) (p : Rec) (h : Bst w bx g b (upd ps k p) ss fs) (hk : k < b.n) (hT : ∀ x, x < 3 → 0 ≤ b.r.i (3 + x) ∧ b.r.i (3 + x) ≤ 1000) (hn : b.n ≤ 1000) : Calls Try.prog 14 #[.pointer (some ⟨bx, 0, none⟩), .int .i64 k] w fun e w' => e = .returned (.bool (transT b k p ps).isSome) ∧ Bst w' bx g b ((transT b k p ps).getD (upd ps k p)) ss fs ∧ Only (· = g) w w' := by
  have b17 : w.cell? ⟨bx, 17, none⟩ = some (.slice (some ⟨g, 0, none⟩) b.n b.cp) := h.c17
  have hk0 : (0 : Int) ≤ k := by omega
  have hk1 : (k : Int) < b.n := by omega
  have HT := Lib.hid hT
  clear hT
  go_enter Try.func14, Try.ntmps14
  go_wp2_with fail
  refine wp_scope_label 0 (fun a' w' => ∃ (l : List (Bool × Value)) (cap gr kk : Nat) (u0 u1 u2 u3 u4 u5 u6 u9 u10 u11 u12 u13 u14 u15 u16 u17 u18 u19 u20 u21 u22 u23 u24 u25 u26 u27 u28 u29 u30 u31 u32 u33 u34 u35 u36 u37 u38 u39 u40 u41 u42 u43 u44 u45 u46 u47 u48 u49 u50 u51 u52 u53 u54 u55 u56 u57 u58 u59 u60 : Value), a' = { tmps := #[u0, u1, u2, u3, u4, u5, u6, .slice (some ⟨gr, 0, none⟩) l.length cap, .int .i64 kk, u9, u10, u11, u12, u13, u14, u15, u16, u17, u18, u19, u20, u21, u22, u23, u24, u25, u26, u27, u28, u29, u30, u31, u32, u33, u34, u35, u36, u37, u38, u39, u40, u41, u42, u43, u44, u45, u46, u47, u48, u49, u50, u51, u52, u53, u54, u55, u56, u57, u58, u59, u60], defers := [] } ∧ Hid (AtLabel w bx g k b ps ss fs p w' l cap gr kk)) (fun a' _ => lenS (a'.tmps.getD 7 undef) - natI (a'.tmps.getD 8 undef)) (by rfl) ?_ ?_
  · rintro a' w' ⟨l, cap, gr, kk, u0, u1, u2, u3, u4, u5, u6, u9, u10, u11, u12, u13, u14, u15, u16, u17, u18, u19, u20, u21, u22, u23, u24, u25, u26, u27, u28, u29, u30, u31, u32, u33, u34, u35, u36, u37, u38, u39, u40, u41, u42, u43, u44, u45, u46, u47, u48, u49, u50, u51, u52, u53, u54, u55, u56, u57, u58, u59, u60, rfl, HJ⟩
    clear h b17
    obtain ⟨hkk, hl, hcap, hcell, hpair, hfirst, hb, hbw⟩ := HJ.out
    have HFI := Lib.hid hfirst
    have HB := Lib.hid hb
    have HBW := Lib.hid hbw
    have HP := Lib.hid hpair
    have HC := Lib.hid hcell
    clear hfirst hb hbw hpair hcell
    by_cases hkl : kk = l.length
    · have d : ((kk : Int) == (l.length : Int)) = true := by simp [hkl]
      have HN := Lib.hid (show transT b k p ps = none by rw [← HFI.out, hkl, HP.out.length, List.drop_length]; rfl)
      go_wp2_with fail
      simp only [Exit.jump]
      go_ret
      rw [HN.out]
      exact ⟨rfl, HB.out, Only.of_below HBW.out⟩
    · have d : ((kk : Int) == (l.length : Int)) = false := by simp; omega
      obtain ⟨c, v, q, hli, hdi, hdo⟩ := HP.out.get kk (by omega)
      have hg := cellsR_get l kk _ hli
      have r0 := HC.out _ _ hg.1
      have r1 := HC.out _ _ hg.2
      have hf := firstOn_drop _ kk c q hdi
      rw [HFI.out] at hf
      have HF := Lib.hid hf
      obtain ⟨f, bnd, caps, rfl, hen, hcall⟩ := hdo
      have HCALL := Lib.hid hcall
      have i0 : (0 : Int) ≤ kk := by omega
      have i1 : (kk : Int) < l.length := by omega
      clear hf hg hli hdi hcall
      cases c
      · go_wp2_with fail
        go_step3
        rw [show (kk : Int) + 1 = ((kk + 1 : Nat) : Int) from rfl]
        refine ⟨rfl, ⟨l, cap, gr, kk + 1, _, _, _, _, _, _, _, _, _, _, _, _, _, _, _, _, _, _, _, _, _, _, _, _, _, _, _, _, _, _, _, _, _, _, _, _, _, _, _, _, _, _, _, _, _, _, _, _, _, _, _, _, _, _, _, _, _, _, _, rfl, Lib.hid ⟨by omega, hl, hcap, HC.out, HP.out, HF.out.symm, HB.out, HBW.out⟩⟩, ?_⟩
        show l.length - (((kk + 1 : Nat) : Int)).toNat < l.length - ((kk : Int)).toNat
        omega
      · go_wp2_with fail
        refine (HCALL.out w' (Below.refl _ _)).mono ?_
        rintro e w2 ⟨rfl, hb2, ho2⟩
        have HB2 := Lib.hid hb2
        have HO2 := Lib.hid ho2
        clear hb2 ho2
        go_wp2_with fail
        simp only [Exit.jump]
        go_ret
        rw [show transT b k p ps = some q from HF.out]
        exact ⟨rfl, HB2.out, (Only.of_below HBW.out).trans HO2.out⟩
  · intro PASS
    have c44 : w.cell? ⟨g, k * 89 + 22 + 22, none⟩ = some (.bool (p.b 44)) := (h.p.cell hk (j := 44) (by omega)).trans (by rw [upd_same]; rfl)
    have c50 : w.cell? ⟨g, k * 89 + 22 + 28, none⟩ = some (.bool (p.b 50)) := (h.p.cell hk (j := 50) (by omega)).trans (by rw [upd_same]; rfl)
    cases e44 : p.b 44 with
    | false =>
      rw [e44] at c44
      go_wp2_with fail
      have HN := Lib.hid (show transT b k p ps = none by unfold transT; exact if_pos (Or.inl e44))
      simp only [Exit.jump]
      go_ret
      rw [HN.out]
      exact ⟨rfl, h, Only.refl _ _⟩
    | true =>
      rw [e44] at c44
      cases e50 : p.b 50 with
      | true =>
        rw [e50] at c50
        go_wp2_with fail
        have HN := Lib.hid (show transT b k p ps = none by unfold transT; exact if_pos (Or.inr e50))
        simp only [Exit.jump]
        go_ret
        rw [HN.out]
        exact ⟨rfl, h, Only.refl _ _⟩
      | false =>
        rw [e50] at c50
        go_upto_region 4 with (fail)
        refine wp_region_held_drew (S := fun w' => Below w.heap.size w w') (by kernel_rfl) (Below.refl _ _).drew (fun hH => ?_)
        refine wpAnyH_take (i := 0) (v := .pointer (some ⟨bx, 0, none⟩)) rfl (by kernel_rfl) (by kernel_rfl) (by kernel_rfl) (fun _ _ _ h => h) (Or.inl ⟨by kernel_rfl, fun z hz => by kernel_rfl⟩) hH ?_
        simp only [List.getElem_toArray, List.getElem_cons_succ, List.getElem_cons_zero, Act.put, List.setIfInBounds_toArray, List.set_cons_zero, List.set_cons_succ]
        refine wpAnyH_take (i := 1) (v := .int .i64 k) rfl (by kernel_rfl) (by kernel_rfl) (by kernel_rfl) (fun _ _ _ h => h) (Or.inl ⟨by kernel_rfl, fun z hz => by kernel_rfl⟩) hH ?_
        simp only [List.getElem_toArray, List.getElem_cons_succ, List.getElem_cons_zero, Act.put, List.setIfInBounds_toArray, List.set_cons_zero, List.set_cons_succ]
        refine wpAnyH_take (i := 2) (v := .pointer (some ⟨g, k * 89, none⟩)) rfl (by kernel_rfl) (by kernel_rfl) (by kernel_rfl) (fun _ _ _ h => h) (Or.inl ⟨by kernel_rfl, fun z hz => by kernel_rfl⟩) hH ?_
        simp only [List.getElem_toArray, List.getElem_cons_succ, List.getElem_cons_zero, Act.put, List.setIfInBounds_toArray, List.set_cons_zero, List.set_cons_succ]
        refine wpAnyH_take (i := 3) (v := .pointer (some ⟨g, k * 89, none⟩)) rfl (by kernel_rfl) (by kernel_rfl) (by kernel_rfl) (fun _ _ _ h => h) (Or.inl ⟨by kernel_rfl, fun z hz => by kernel_rfl⟩) hH ?_
        simp only [List.getElem_toArray, List.getElem_cons_succ, List.getElem_cons_zero, Act.put, List.setIfInBounds_toArray, List.set_cons_zero, List.set_cons_succ]
        refine wpAnyH_take (i := 4) (v := .pointer (some ⟨g, k * 89, none⟩)) rfl (by kernel_rfl) (by kernel_rfl) (by kernel_rfl) (fun _ _ _ h => h) (Or.inl ⟨by kernel_rfl, fun z hz => by simp [go_sem, execOp]⟩) hH ?_
        simp only [List.getElem_toArray, List.getElem_cons_succ, List.getElem_cons_zero, Act.put, List.setIfInBounds_toArray, List.set_cons_zero, List.set_cons_succ]
        refine wpAnyH_take (i := 5) (v := .pointer (some ⟨g, k * 89 + 22, none⟩)) rfl (by kernel_rfl) (by kernel_rfl) (by kernel_rfl) (fun _ _ _ h => h) (Or.inl ⟨by kernel_rfl, fun z hz => by simp [go_sem, execOp]⟩) hH ?_
        simp only [List.getElem_toArray, List.getElem_cons_succ, List.getElem_cons_zero, Act.put, List.setIfInBounds_toArray, List.set_cons_zero, List.set_cons_succ]
        refine wpAnyH_take (i := 6) (v := .pointer (some ⟨g, k * 89, none⟩)) rfl (by kernel_rfl) (by kernel_rfl) (by kernel_rfl) (fun _ _ _ h => h) (Or.inl ⟨by kernel_rfl, fun z hz => by kernel_rfl⟩) hH ?_
        simp only [List.getElem_toArray, List.getElem_cons_succ, List.getElem_cons_zero, Act.put, List.setIfInBounds_toArray, List.set_cons_zero, List.set_cons_succ]
        refine wpAnyH_take (i := 7) (v := .pointer (some ⟨g, k * 89, none⟩)) rfl (by kernel_rfl) (by kernel_rfl) (by kernel_rfl) (fun _ _ _ h => h) (Or.inl ⟨by kernel_rfl, fun z hz => by simp [go_sem, execOp]⟩) hH ?_
        simp only [List.getElem_toArray, List.getElem_cons_succ, List.getElem_cons_zero, Act.put, List.setIfInBounds_toArray, List.set_cons_zero, List.set_cons_succ]
        refine wpAnyH_take (i := 8) (v := .pointer (some ⟨g, k * 89 + 6, none⟩)) rfl (by kernel_rfl) (by kernel_rfl) (by kernel_rfl) (fun _ _ _ h => h) (Or.inl ⟨by kernel_rfl, fun z hz => by simp [go_sem, execOp]⟩) hH ?_
        simp only [List.getElem_toArray, List.getElem_cons_succ, List.getElem_cons_zero, Act.put, List.setIfInBounds_toArray, List.set_cons_zero, List.set_cons_succ]
        refine wpAnyH_take (i := 9) (v := .agg #[.pointer (some ⟨bx, 0, none⟩), .int .i64 k, .pointer (some ⟨g, k * 89, none⟩), .pointer (some ⟨g, k * 89 + 22, none⟩), .pointer (some ⟨g, k * 89 + 6, none⟩)]) rfl (by kernel_rfl) (by kernel_rfl) (by kernel_rfl) (fun _ _ _ h => h) (Or.inl ⟨by kernel_rfl, fun z hz => by simp [go_sem, execOp, bldPort]⟩) hH ?_
        simp only [List.getElem_toArray, List.getElem_cons_succ, List.getElem_cons_zero, Act.put, List.setIfInBounds_toArray, List.set_cons_zero, List.set_cons_succ]
        refine wpAnyH_ready (rs := [10]) (by kernel_rfl) (by simp) (AllReadyH.cons rfl (fun K hK => ?_) AllReadyH.nil)
        go_simp
        refine hK.out _ _ (hH.alloc hH.size _) (fun hA => ?_)
        clear hK K
        refine wpAnyH_ready (rs := [11]) (by kernel_rfl) (by simp) (AllReadyH.cons rfl (fun K hK => ?_) AllReadyH.nil)
        refine wp_store_row 57 (.tmp 6) (.tmp 37) rfl w.heap.size #[.pointer (some ⟨bx, 0, none⟩), .int .i64 k, .pointer (some ⟨g, k * 89, none⟩), .pointer (some ⟨g, k * 89 + 22, none⟩), .pointer (some ⟨g, k * 89 + 6, none⟩)] (by kernel_rfl) (by kernel_rfl) 57 _ (heap_alloc_new w.drew _) (by kernel_rfl) rfl (by kernel_rfl) ?_
        refine Eq.mpr (congrArg (K _) (setRow_alloc w.drew _ _ _)) ?_
        refine hK.out _ _ (more (Below.refl _ _).drew _) (fun hE => ?_)
        clear hK K hA hH
        refine wpAnyH_done (by kernel_rfl) ?_ _
        go_upto_region 5 with (fail)
        refine ((?_ : ∀ x, x = w.drew.alloc (.cells #[.pointer (some ⟨bx, 0, none⟩), .int .i64 k, .pointer (some ⟨g, k * 89, none⟩), .pointer (some ⟨g, k * 89 + 22, none⟩), .pointer (some ⟨g, k * 89 + 6, none⟩)] 57) → Code.wp _ _ _ _ x) _ rfl)
        intro w1 hw1
        obtain ⟨gx, hgx⟩ : ∃ x, x = w.heap.size := ⟨_, rfl⟩
        rw [← hgx]
        have hX1 : w1.heap[gx]? = some (.cells #[.pointer (some ⟨bx, 0, none⟩), .int .i64 k, .pointer (some ⟨g, k * 89, none⟩), .pointer (some ⟨g, k * 89 + 22, none⟩), .pointer (some ⟨g, k * 89 + 6, none⟩)] 57 (0, 0)) := by rw [hw1, hgx]; exact heap_alloc_new w.drew _
        have hbw : Below w.heap.size w w1 := by rw [hw1]; exact hE
        have HBW := Lib.hid hbw
        have H1 := Lib.hid (h.below hbw)
        have lx := (Array.getElem?_eq_some_iff.1 hX1).1
        have HX1 := Lib.hid hX1
        clear hw1 hgx hX1 hbw hE h b17
        refine wp_region_held_drew (S := fun w' => Below w1.heap.size w1 w') (by kernel_rfl) (Below.refl _ _).drew (fun hH => ?_)
        refine wpAnyH_take (i := 0) (v := .agg #[.pointer (some ⟨bx, 0, none⟩), .int .i64 k, .pointer (some ⟨g, k * 89, none⟩), .pointer (some ⟨g, k * 89 + 22, none⟩), .pointer (some ⟨g, k * 89 + 6, none⟩)]) rfl (by kernel_rfl) (by kernel_rfl) (by kernel_rfl) (fun _ _ _ h => h) (by exact yieldsIf_load_mid (by kernel_rfl) 57 (.tmp 6) (by kernel_rfl) gx (0) (by kernel_rfl) (#[.pointer (some ⟨bx, 0, none⟩), .int .i64 k, .pointer (some ⟨g, k * 89, none⟩), .pointer (some ⟨g, k * 89 + 22, none⟩), .pointer (some ⟨g, k * 89 + 6, none⟩)]).toList _ (row_held HX1.out lx) Try.underlying57 rfl (by kernel_rfl)) hH ?_
        simp only [List.getElem_toArray, List.getElem_cons_succ, List.getElem_cons_zero, Act.put, List.setIfInBounds_toArray, List.set_cons_zero, List.set_cons_succ]
        refine wpAnyH_take (i := 2) (v := .agg #[.pointer (some ⟨bx, 0, none⟩), .int .i64 k, .pointer (some ⟨g, k * 89, none⟩), .pointer (some ⟨g, k * 89 + 22, none⟩), .pointer (some ⟨g, k * 89 + 6, none⟩)]) rfl (by kernel_rfl) (by kernel_rfl) (by kernel_rfl) (fun _ _ _ h => h) (by exact yieldsIf_load_mid (by kernel_rfl) 57 (.tmp 6) (by kernel_rfl) gx (0) (by kernel_rfl) (#[.pointer (some ⟨bx, 0, none⟩), .int .i64 k, .pointer (some ⟨g, k * 89, none⟩), .pointer (some ⟨g, k * 89 + 22, none⟩), .pointer (some ⟨g, k * 89 + 6, none⟩)]).toList _ (row_held HX1.out lx) Try.underlying57 rfl (by kernel_rfl)) hH ?_
        simp only [List.getElem_toArray, List.getElem_cons_succ, List.getElem_cons_zero, Act.put, List.setIfInBounds_toArray, List.set_cons_zero, List.set_cons_succ]
        refine wpAnyH_ready (rs := [1]) (by kernel_rfl) (by simp) (AllReadyH.cons rfl (fun K hK => ?_) AllReadyH.nil)
        go_simp
        refine (roles_any _ bx g k b ps ss fs p (H1.out.below hH) hk).mono ?_
        rintro e wr ⟨v1, rfl, hr1, hbr⟩
        refine hK.out _ _ (hH.trans (hbr.mono hH.size)) (fun hA => ?_)
        have HR1 := Lib.hid hr1
        have HBR := Lib.hid hbr
        clear hK K hbr hr1
        refine wpAnyH_ready (rs := [3]) (by kernel_rfl) (by simp) (AllReadyH.cons rfl (fun K hK => ?_) AllReadyH.nil)
        go_simp
        refine (states_any _ bx g k b ps ss fs p (H1.out.below hA) hk HT.out hn).mono ?_
        rintro e wt ⟨v2, rfl, hr2, hbt⟩
        refine hK.out _ _ (hA.trans (hbt.mono hA.size)) (fun hB => ?_)
        have HR2 := Lib.hid hr2
        have HBT := Lib.hid hbt
        clear hK K hbt hr2
        refine wpAnyH_ready (rs := [4]) (by kernel_rfl) (by simp) (AllReadyH.cons rfl (fun K hK => ?_) AllReadyH.nil)
        refine wp_appendR (.tmp 39) (.tmp 41) rfl rfl rfl (HR1.out.later HBT.out) HR2.out (by simp [rolesL]) (by have := states_len b k p ps; omega) (dd := some 42) (by kernel_rfl) ?_
        intro v3 w3 hr3 hb3
        refine hK.out _ _ (hB.trans (hb3.mono hB.size)) (fun hC => ?_)
        have HR3 := Lib.hid hr3
        clear hK K hr3 hb3
        refine wpAnyH_take (i := 5) (v := v3) rfl (by kernel_rfl) (by kernel_rfl) (by kernel_rfl) (fun _ _ _ h => h) (Or.inl ⟨by kernel_rfl, fun z hz => by kernel_rfl⟩) hC ?_
        simp only [List.getElem_toArray, List.getElem_cons_succ, List.getElem_cons_zero, Act.put, List.setIfInBounds_toArray, List.set_cons_zero, List.set_cons_succ]
        refine wpAnyH_done (by kernel_rfl) ?_ _
        have HBC := Lib.hid (HBW.out.trans (hC.mono HBW.out.size))
        have HB3 := Lib.hid (H1.out.below hC)
        clear hC hB hA hH
        obtain ⟨l, cap, hat, hpr⟩ := HR3.out
        have hlen := hpr.length
        have hl4 : 4 ≤ l.length := by rw [hlen]; simp [rolesL]
        have hl100 : l.length ≤ 100 := by have := states_len b k p ps; rw [hlen]; simp [rolesL]; omega
        rcases hat with ⟨_, rfl, _⟩ | ⟨gr, rfl, hcap, h0, hcell⟩
        · simp at hl4
        have HJ := Lib.hid (show AtLabel w bx g k b ps ss fs p w3 l cap gr 0 from ⟨Nat.zero_le _, hl100, hcap, hcell, hpr, by rw [List.drop_zero]; unfold transT; rw [if_neg (by rw [e44, e50]; simp)], HB3.out, HBC.out⟩)
        clear hlen hl4 hl100 h0 hcell hpr hcap HR3 HR1 HR2
        go_wp2_with fail
        go_step3
        rename_i hKK
        refine hKK _ _ (PASS _ _ ⟨l, cap, gr, 0, _, _, _, _, _, _, _, _, _, _, _, _, _, _, _, _, _, _, _, _, _, _, _, _, _, _, _, _, _, _, _, _, _, _, _, _, _, _, _, _, _, _, _, _, _, _, _, _, _, _, _, _, _, _, _, _, _, _, _, rfl, HJ⟩)
end Go.Proofs.Ytdangeefecdbaaa.Br
