/- Law TopoQuiet of chapter 17: the walk joined with the plain law. -/
import Derived.Test.YtbbjoelcbppfoaaToOn
import Derived.Test.YtbbjoelcbppfoaaOpen
set_option linter.unusedSimpArgs false
set_option linter.unusedVariables false
namespace Go.Proofs.Ytbbjoelcbppfoaa.Br
open Go.RowKit
theorem quiet_law (b : Bri) (q : Rec) (h32 : q.b 32 = true) (h13 : q.i 13 = 0) : ∃ (q' : Rec) (f d : Bool), topoB b q = (q', false, f, d) ∧ q'.b 32 = true ∧ q'.i 13 = 0 := by
  obtain ⟨r, hr⟩ : ∃ r, r = topoB b q := ⟨_, rfl⟩
  have key : r.2.1 = false ∧ r.1.b 32 = true ∧ r.1.i 13 = 0 := by
    rw [hr]
    unfold topoB topoP
    split
    · exact ⟨rfl, h32, h13⟩
    split
    · exact ⟨rfl, h32, h13⟩
    split
    · unfold learnP
      rw [if_neg (by simp [h32])]
      split
      · exact ⟨rfl, h32, rfl⟩
      split
      · exact ⟨rfl, h32, h13⟩
      · exact ⟨rfl, h32, h13⟩
    split
    · unfold activeP
      rw [if_pos (by simp [h32])]
      exact ⟨rfl, h32, h13⟩
    · exact ⟨rfl, h32, h13⟩
  exact ⟨r.1, r.2.2.1, r.2.2.2, by rw [← hr, ← key.1], key.2⟩
attribute [local go_sem] zeroBr
set_option maxRecDepth 100000 in
set_option maxHeartbeats 8000000 in
theorem quiet_any (b : Bri) (ps ss : Nat → Rec) (fs : Nat → Int) (w : World) (i : Nat) (hi : i ≤ 255) (jj : Nat) (hjj : jj ≤ 255) (h : Reads0 w b ps ss fs) :
    Calls Try.prog 7 #[.agg (rowB b), .int .u8 i, .int .u8 jj] w fun e w' => e = .returned (.bool true) ∧ Below w.heap.size w w' := by
  have HR := Lib.hid h
  clear h
  go_enter Try.func7, Try.ntmps7
  go_wp2_with fail
  refine (awake_any _).mono ?_
  rintro e w1 ⟨rfl, hb1⟩
  have HB : Hid (w1.heap[w.heap.size]? = some (.cells (rowB b) 33 (0, 0))) := (hb1.block _ (by simp)).trans (at_new rfl)
  have HW1 := Lib.hid (andthen (more (Below.refl w.heap.size w) _) hb1)
  clear hb1
  go_wp2_with (first | (refine loadB rfl rfl _ rfl w.heap.size rfl b HB.out ?_; simp only [Act.put, List.setIfInBounds_toArray, List.set_cons_zero, List.set_cons_succ]) | fail)
  refine (few_any b ps _ (HR.out.below HW1.out).p).mono ?_
  rintro e w2 ⟨r, rfl, hr, hb2⟩
  have HB' : Hid (w2.heap[w.heap.size]? = some (.cells (rowB b) 33 (0, 0))) := (hb2.block _ (Array.getElem?_eq_some_iff.1 HB.out).1).trans HB.out
  have HW2 := Lib.hid (andthen HW1.out hb2)
  have Hr := Lib.hid hr
  clear hb2 hr HB HW1
  cases r
  · go_wp2_with fail
    go_ret
    exact ⟨rfl, HW2.out⟩
  have HL := Lib.hid (Hr.out rfl)
  clear Hr
  have HB := HB'
  clear HB'
  have hn1 : 0 < b.n := HL.out.2.1
  have hn8 : b.n ≤ 8 := HL.out.2.2.1
  go_wp2_with (first | (refine loadB rfl rfl _ rfl w.heap.size rfl b HB.out ?_; simp only [Act.put, List.setIfInBounds_toArray, List.set_cons_zero, List.set_cons_succ]) | fail)
  refine (at_any b i _ hi hn1 hn8).mono ?_
  rintro e w3 ⟨rfl, hb3⟩
  have HB' : Hid (w3.heap[w.heap.size]? = some (.cells (rowB b) 33 (0, 0))) := (hb3.block _ (Array.getElem?_eq_some_iff.1 HB.out).1).trans HB.out
  have HW3 := Lib.hid (andthen HW2.out hb3)
  clear hb3 HB HW2
  have HB := HB'
  clear HB'
  obtain ⟨k, hk⟩ : ∃ k, k = i % b.n := ⟨_, rfl⟩
  have hkn : k < b.n := by rw [hk]; exact Nat.mod_lt _ hn1
  rw [← hk]
  have Hk := Lib.hid hk
  clear hk
  go_wp2_with (first | (refine loadB rfl rfl _ rfl w.heap.size rfl b HB.out ?_; simp only [Act.put, List.setIfInBounds_toArray, List.set_cons_zero, List.set_cons_succ]) | fail)
  refine (clone_any b ps ss fs _ ((HR.out.below HW3.out).looked HL.out)).mono ?_
  rintro e w4 ⟨gp, cp, go, co, gf, cf, rfl, hp1, hp2, hp3, op, os, of, hb⟩
  go_upto_region 7 with (first | (refine wpList_store_at rfl 33 _ _ rfl _ (rowB zeroBri) 33 (rowB (b.at gp cp go co gf cf)) _ rfl rfl rfl rfl (sizeB _) rfl (rowB_one _) ?_; simp only [Act.put]) | fail)
  refine ((?_ : ∀ x, x = w4.alloc (.cells (rowB (b.at gp cp go co gf cf)) 33) → Code.wp _ _ _ _ x) _ rfl)
  intro wx hwx
  obtain ⟨bb, bx, hbx, hX, hgx, hSd, hwx'⟩ := clone_bst op os of hp2 hp3 hwx
  rw [← hbx]
  have hw4 := HW3.out.size
  have HX := Lib.hid hX
  have HSD := Lib.hid hSd
  have HWX := Lib.hid (andthen (andthen HW3.out hb) hwx')
  have hlt3 : w.heap.size < w3.heap.size := (Array.getElem?_eq_some_iff.1 HB.out).1
  have hge : w.heap.size < gp := Nat.lt_of_lt_of_le hlt3 hp1
  have HBX := Lib.hid ((hwx'.block _ (Nat.lt_of_lt_of_le hlt3 hb.size)).trans ((hb.block _ hlt3).trans HB.out))
  have HTO := Lib.hid (times_ok HL.out)
  have hn1000 : b.n ≤ 1000 := by omega
  have hnf20 : b.nf ≤ 20 := HL.out.2.2.2.2
  have hnn : bb.n = b.n := hSd.2.1
  have HNN := Lib.hid hnn
  have hkb : k < bb.n := by rw [hnn]; exact hkn
  have hk0 : (0 : Int) ≤ k := by omega
  have hk1 : (k : Int) < b.n := by omega
  obtain ⟨cpx, d17⟩ := hX.c17s hSd
  have hgl := hX.p.lt
  have hbl := hX.lt
  have nbg : ¬ bx = gp := hX.ne
  have ngb : ¬ gp = bx := fun e => hX.ne e.symm
  clear op os of hb hp1 hp2 hp3 HB hX hwx hwx' hbx hSd hw4 hlt3 hnn
  have c21 : wx.cell? ⟨gp, k * 89 + 15 + 6, none⟩ = some (.int .i64 ((ps k).i 21)) := (HX.out.p.cell hkb (j := 21) (by omega)).trans (by first | rfl | (rw [upd_same]; rfl))
  have fc21 : wx.frozen? ⟨gp, k * 89 + 15 + 6, none⟩ = false := HX.out.p.free _
  have c32 : wx.cell? ⟨gp, k * 89 + 22 + 10, none⟩ = some (.bool ((ps k).b 32)) := (HX.out.p.cell hkb (j := 32) (by omega)).trans (by first | rfl | (rw [upd_same]; rfl))
  have fc32 : wx.frozen? ⟨gp, k * 89 + 22 + 10, none⟩ = false := HX.out.p.free _
  have c13 : wx.cell? ⟨gp, k * 89 + 6 + 7, none⟩ = some (.int .i64 ((ps k).i 13)) := (HX.out.p.cell hkb (j := 13) (by omega)).trans (by first | rfl | (rw [upd_same]; rfl))
  have fc13 : wx.frozen? ⟨gp, k * 89 + 6 + 7, none⟩ = false := HX.out.p.free _
  go_wp2_with fail
  go_loopw [12] (fun i wr => ∃ m : Nat, m ≤ b.n ∧ i = .int .i64 m ∧ Hid (Bst wr bx gp bb (fun j => if j < m then ((upd ps k (((((ps k).setI 21 ((jj : Int) % 3)).setB 32 true).setI 13 0))) j).setB 49 ((j : Int) == (k : Int)) else (upd ps k (((((ps k).setI 21 ((jj : Int) % 3)).setB 32 true).setI 13 0))) j) ss fs) ∧ Hid (Only (fun x => x = gp ∨ x = bx) wx wr)) (fun i _ => b.n - (intOf i).toNat)
  case atStart => exact ⟨0, by omega, rfl, Lib.hid (Bst.cong (fun j _ => by simp) ((((HX.out.start k).put (j := 21) (by omega) (rowP_put_21 _ _)).put (j := 32) (by omega) (rowP_put_32 _ _)).put (j := 13) (by omega) (rowP_put_13 _ _))), Lib.hid ((((Only.refl (fun x => x = gp ∨ x = bx) wx).setCell (Or.inl (.inl rfl)) _).setCell (Or.inl (.inl rfl)) _).setCell (Or.inl (.inl rfl)) _)⟩
  case round =>
    obtain ⟨m, hm, rfl, hPm, hO⟩ := hrel
    have hm0 : (0 : Int) ≤ m := by omega
    obtain ⟨cpr, r17⟩ := hPm.out.c17s HSD.out
    by_cases hlt : m < b.n
    · have dl : decide ((m : Int) < b.n) = true := decide_eq_true (by omega)
      have hm1 : (m : Int) < b.n := by omega
      have hwm : IntKind.i64.wrap ((m : Int) + 1) = (m + 1 : Nat) := by unfold IntKind.wrap; simp [IntKind.signed, IntKind.bits]; omega
      have hmb : m < bb.n := by rw [HNN.out]; exact hlt
      have c49 : wr.cell? ⟨gp, m * 89 + 22 + 27, none⟩ = some (.bool (((upd ps k (((((ps k).setI 21 ((jj : Int) % 3)).setB 32 true).setI 13 0))) m).b 49)) := (hPm.out.p.cell hmb (j := 49) (by omega)).trans (by rw [if_neg (Nat.lt_irrefl _)]; rfl)
      have f49 : wr.frozen? ⟨gp, m * 89 + 22 + 27, none⟩ = false := hPm.out.p.free _
      have HB2 := Lib.hid (Bst.cong (qs := fun j => if j < m + 1 then ((upd ps k (((((ps k).setI 21 ((jj : Int) % 3)).setB 32 true).setI 13 0))) j).setB 49 ((j : Int) == (k : Int)) else (upd ps k (((((ps k).setI 21 ((jj : Int) % 3)).setB 32 true).setI 13 0))) j) (fun j hj => by
        by_cases e : j = m
        · subst e
          rw [upd_same, if_pos (Nat.lt_succ_self _)]
        · rw [upd_other _ _ e]
          by_cases h : j < m
          · rw [if_pos h, if_pos (by omega)]
          · rw [if_neg h, if_neg (by omega)]) ((hPm.out.start m).put (j := 49) (p' := ((upd ps k (((((ps k).setI 21 ((jj : Int) % 3)).setB 32 true).setI 13 0))) m).setB 49 ((m : Int) == (k : Int))) (by omega) (by rw [if_neg (Nat.lt_irrefl _)]; exact rowP_put_49 _ _)))
      go_wp2_with fail
      exact ⟨⟨m + 1, by omega, rfl, HB2, Lib.hid (hO.out.setCell (Or.inl (.inl rfl)) _)⟩, by simp [intOf]; omega⟩
    · have dl : decide ((m : Int) < b.n) = false := decide_eq_false (by omega)
      obtain rfl : m = b.n := by omega
      have HZ := Lib.hid (Bst.cong (qs := (fun j => ((upd ps k (((((ps k).setI 21 ((jj : Int) % 3)).setB 32 true).setI 13 0))) j).setB 49 ((j : Int) == (k : Int)))) (fun j hj => by
        rw [HNN.out] at hj
        rw [if_pos hj]) hPm.out)
      have HO := hO
      clear hPm hO hm0
      have h32 : (((fun j => ((upd ps k (((((ps k).setI 21 ((jj : Int) % 3)).setB 32 true).setI 13 0))) j).setB 49 ((j : Int) == (k : Int)))) k).b 32 = true := by
        show (((upd ps k (((((ps k).setI 21 ((jj : Int) % 3)).setB 32 true).setI 13 0)))) k).b 32 = true
        rw [upd_same]
        rfl
      have h13 : (((fun j => ((upd ps k (((((ps k).setI 21 ((jj : Int) % 3)).setB 32 true).setI 13 0))) j).setB 49 ((j : Int) == (k : Int)))) k).i 13 = 0 := by
        show (((upd ps k (((((ps k).setI 21 ((jj : Int) % 3)).setB 32 true).setI 13 0)))) k).i 13 = 0
        rw [upd_same]
        rfl
      have H32 := Lib.hid h32
      have H13 := Lib.hid h13
      obtain ⟨PZ, hPZ⟩ : ∃ x, x = (fun j => ((upd ps k (((((ps k).setI 21 ((jj : Int) % 3)).setB 32 true).setI 13 0))) j).setB 49 ((j : Int) == (k : Int))) := ⟨_, rfl⟩
      have HPZ := Lib.hid hPZ
      rw [← hPZ] at HZ H32 H13
      have d17r := r17
      clear hPZ h32 h13 d17 r17 c21 fc21 c32 fc32 c13 fc13 hlt dl
      go_wp2_with fail
      clear d17r
      go_loopw [13] (fun i wr => ∃ m : Nat, m ≤ 6 ∧ i = .int .i64 m ∧ Hid (∃ bb' q c fs', Bst wr bx gp bb' (upd PZ k q) ss fs' ∧ Side b bb' c ∧ c ≤ m ∧ q.b 32 = true ∧ q.i 13 = 0) ∧ Hid (Only (fun x => x = gp ∨ x = bx) wx wr)) (fun i _ => 6 - (intOf i).toNat)
      case atStart => exact ⟨0, by omega, rfl, Lib.hid ⟨bb, PZ k, 0, fs, HZ.out.start k, HSD.out, Nat.le_refl _, H32.out, H13.out⟩, HO⟩
      case round =>
        obtain ⟨m, hm, rfl, hE, hO⟩ := hrel
        have hm0 : (0 : Int) ≤ m := by omega
        by_cases hlt : m < 6
        · have dl : decide ((m : Int) < 6) = true := decide_eq_true (by omega)
          have hwm : IntKind.i64.wrap ((m : Int) + 1) = (m + 1 : Nat) := by unfold IntKind.wrap; simp [IntKind.signed, IntKind.bits]; omega
          obtain ⟨bb1, q, c, fs1, hX1, hS1, hcm, h32, h13⟩ := hE.out
          obtain ⟨q', f, d, hF, h32', h13'⟩ := quiet_law b q h32 h13
          have HX1 := Lib.hid hX1
          have HS1 := Lib.hid hS1
          have HF := Lib.hid hF
          have H32' := Lib.hid h32'
          have H13' := Lib.hid h13'
          clear hX1 hS1 hF h32 h13 h32' h13'
          go_wp2_with fail
          refine (step_is b HTO.out _ bx gp k c bb1 PZ ss fs1 q q' false f d HF.out HX1.out HS1.out hkn hn1000 (by omega)).mono ?_
          rintro e w6 ⟨bb2, rfl, hX2, hO2, hS2⟩
          have HE2 := Lib.hid (show ∃ bb' q c fs', Bst w6 bx gp bb' (upd PZ k q) ss fs' ∧ Side b bb' c ∧ c ≤ m + 1 ∧ q.b 32 = true ∧ q.i 13 = 0 from ⟨bb2, q', _, _, by rw [tellF_no] at hX2; exact hX2, hS2, by unfold flN; split <;> omega, H32'.out, H13'.out⟩)
          have HO2 := Lib.hid (hO.out.trans hO2)
          clear hX2 hO2 hS2
          go_wp2_with fail
          exact ⟨⟨m + 1, by omega, rfl, HE2, HO2⟩, by simp [intOf]; omega⟩
        · have dl : decide ((m : Int) < 6) = false := decide_eq_false (by omega)
          obtain ⟨bb2, q, c, fs2, hX2, hS2, hcm, h32, h13⟩ := hE.out
          have HX2 := Lib.hid hX2
          have HSD2 := Lib.hid hS2
          have HA2 := hO
          have H13 := Lib.hid h13
          have hkb2 : k < bb2.n := by rw [hS2.2.1]; exact hkn
          obtain ⟨w52, hw52⟩ : ∃ x, x = wr := ⟨_, rfl⟩
          rw [← hw52] at HX2 HA2 ⊢
          obtain ⟨cpx2, d172⟩ := HX2.out.c17s HSD2.out
          clear hX2 hS2 h32 h13 hE hO hw52
          go_wp2_with fail
          go_loop [14] (fun i => ∃ m : Nat, m ≤ b.n ∧ i = .int .i64 m) (fun i => b.n - (intOf i).toNat)
          case atStart => exact ⟨0, by omega, rfl⟩
          case round =>
            obtain ⟨m, hm, rfl⟩ := hrel
            have hm0 : (0 : Int) ≤ m := by omega
            by_cases hlt : m < b.n
            · have dl : decide ((m : Int) < b.n) = true := decide_eq_true (by omega)
              have hm1 : (m : Int) < b.n := by omega
              have hwm : IntKind.i64.wrap ((m : Int) + 1) = (m + 1 : Nat) := by unfold IntKind.wrap; simp [IntKind.signed, IntKind.bits]; omega
              have hmb : m < bb2.n := by rw [HSD2.out.2.1]; exact hlt
              by_cases e : m = k
              · have dk : ((m : Int) != k) = false := by simp [e]
                clear e
                go_wp2_with fail
                exact ⟨⟨m + 1, by omega, rfl⟩, by simp [intOf]; omega⟩
              · have dk : ((m : Int) != k) = true := by simp; omega
                have c49 : w52.cell? ⟨gp, m * 89 + 22 + 27, none⟩ = some (.bool false) := (HX2.out.p.cell hmb (j := 49) (by omega)).trans (by
                  rw [upd_other _ _ e, HPZ.out]
                  show some (Value.bool ((m : Int) == (k : Int))) = _
                  rw [show ((m : Int) == (k : Int)) = false by simp; omega])
                clear e
                go_wp2_with fail
                exact ⟨⟨m + 1, by omega, rfl⟩, by simp [intOf]; omega⟩
            · have dl : decide ((m : Int) < b.n) = false := decide_eq_false (by omega)
              have c13 : w52.cell? ⟨gp, k * 89 + 6 + 7, none⟩ = some (.int .i64 0) := (HX2.out.p.cell hkb2 (j := 13) (by omega)).trans (by rw [upd_same]; show some (Value.int .i64 (q.i 13)) = _; rw [H13.out])
              go_wp2_with fail
              go_ret
              exact ⟨rfl, HWX.out.trans (HA2.out.below HWX.out.size (fun k hk => by omega))⟩
end Go.Proofs.Ytbbjoelcbppfoaa.Br
