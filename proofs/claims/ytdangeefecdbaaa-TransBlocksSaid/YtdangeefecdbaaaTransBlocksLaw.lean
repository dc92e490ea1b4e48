/- Law TransBlocks of chapter 15: the walk joined with the plain law. -/
import Derived.Test.YtdangeefecdbaaaTrOn
import Derived.Test.YtdangeefecdbaaaOpen
set_option linter.unusedSimpArgs false
set_option linter.unusedVariables false
namespace Go.Proofs.Ytdangeefecdbaaa.Br
open Go.RowKit
theorem first_or {α : Type} {c : Bool} {r q : α} {l : List (Bool × α)} (h : firstOn ((c, r) :: l) = some q) : (c = true ∧ q = r) ∨ (c = false ∧ firstOn l = some q) := by
  have h' : (bif c then some r else firstOn l) = some q := h
  cases c with
  | true => exact .inl ⟨rfl, (Option.some.inj h').symm⟩
  | false => exact .inr ⟨rfl, h'⟩
/-- What holds of the law's port behind n steps. -/
def Ph (r : Int) : Nat → Rec → Prop
  | 0, p => p.b 44 = true ∧ p.b 50 = false ∧ p.i 88 = r ∧ p.i 87 = 4 ∧ p.b 29 = false ∧ p.b 27 = false
  | 1, p => p.b 44 = true ∧ p.b 50 = false ∧ p.i 88 = r ∧ p.i 87 = r ∧ (p.i 19 = 0 ∨ p.i 19 = 4) ∧ p.b 28 = false ∧ p.b 26 = false ∧ p.b 29 = false ∧ p.b 27 = false
  | _ + 2, p => p.b 44 = true ∧ p.b 50 = false ∧ p.i 88 = r ∧ p.i 87 = r ∧ (p.i 19 = 1 ∨ p.i 19 = 5) ∧ p.b 28 = false ∧ p.b 26 = false ∧ p.b 47 = true ∧ p.b 42 = false ∧ p.i 12 = 0
theorem ph_step (b : Bri) (k : Nat) (r : Int) (hr : r = 0 ∨ r = 1 ∨ r = 2) (ps : Nat → Rec) : ∀ n, Ph r n (ps k) → Ph r (n + 1) (((nextT b k ps).getD ps) k)
  | 0, ⟨h44, h50, h88, h87, h29, h27⟩ => by
    have hne : (ps k).i 87 ≠ (ps k).i 88 := by omega
    have key : nextT b k ps = some (upd ps k (enterF b (if r = 0 then 0 else 4) (ps k))) := by
      unfold nextT
      rw [transT_on b k _ _ h44 h50]
      rcases hr with rfl | rfl | rfl
      · rw [roles_pick b k (ps k) ps _ true false false false hne (by simp [h88]) (by simp [h88]) (by simp [h88]) (by simp [h88])]
        rfl
      · rw [roles_pick b k (ps k) ps _ false false false true hne (by simp [h88]) (by simp [h88]) (by simp [h88]) (by simp [h88])]
        rfl
      · rw [roles_pick b k (ps k) ps _ false false false true hne (by simp [h88]) (by simp [h88]) (by simp [h88]) (by simp [h88])]
        rfl
    rw [key]
    show Ph r 1 (upd ps k _ k)
    rw [upd_same]
    split
    · rw [enter_0]
      exact ⟨h44, h50, h88, h88, .inl rfl, rfl, rfl, h29, h27⟩
    · rw [enter_4]
      exact ⟨h44, h50, h88, h88, .inr rfl, rfl, rfl, h29, h27⟩
  | 1, ⟨h44, h50, h88, h87, h19, h28, h26, h29, h27⟩ => by
    have hq : quietF (ps k) = true := by unfold quietF; rw [h29, h27]; rfl
    have key : ∃ s fd, (s = 1 ∨ s = 5) ∧ nextT b k ps = some (upd ps k (restF s fd (ps k))) := by
      unfold nextT
      rw [transT_same b k _ _ h44 h50 (h87.trans h88.symm)]
      unfold statesL
      rcases h19 with h | h
      · rw [if_pos h]
        exact ⟨1, _, .inl rfl, by show (bif quietF (ps k) then _ else _) = _; rw [hq]; rfl⟩
      · rw [if_neg (by omega), if_neg (by omega), if_pos h]
        exact ⟨5, _, .inr rfl, by show (bif quietF (ps k) then _ else _) = _; rw [hq]; rfl⟩
    obtain ⟨s, fd, hs, key⟩ := key
    rw [key]
    show Ph r 2 (upd ps k _ k)
    rw [upd_same]
    exact ⟨h44, h50, h88, h87, hs, h28, h26, rfl, rfl, rfl⟩
  | n + 2, ⟨h44, h50, h88, h87, h19, h28, h26, h47, h42, h12⟩ => by
    show Ph r (n + 1 + 2) _
    cases hq : nextT b k ps with
    | none => exact ⟨h44, h50, h88, h87, h19, h28, h26, h47, h42, h12⟩
    | some q =>
      show Ph r (n + 1 + 2) (q k)
      unfold nextT at hq
      rw [transT_same b k _ _ h44 h50 (h87.trans h88.symm)] at hq
      unfold statesL at hq
      rcases h19 with h | h
      · rw [if_neg (by omega), if_pos h] at hq
        rcases first_or hq with ⟨_, rfl⟩ | ⟨_, hq⟩
        · rw [upd_same]
          exact ⟨h44, h50, h88, h87, .inl rfl, h28, h26, rfl, rfl, rfl⟩
        · cases hq
      · rw [if_neg (by omega), if_neg (by omega), if_neg (by omega), if_pos h] at hq
        rcases first_or hq with ⟨_, rfl⟩ | ⟨_, hq⟩
        · rw [upd_same]
          exact ⟨h44, h50, h88, h87, .inr h, h28, h26, h47, h42, h12⟩
        rcases first_or hq with ⟨_, rfl⟩ | ⟨_, hq⟩
        · rw [upd_same]
          exact ⟨h44, h50, h88, h87, .inr h, h28, h26, h47, h42, h12⟩
        rcases first_or hq with ⟨_, rfl⟩ | ⟨_, hq⟩
        · rw [upd_same]
          exact ⟨h44, h50, h88, h87, .inr h, h28, h26, h47, h42, h12⟩
        rcases first_or hq with ⟨_, rfl⟩ | ⟨_, hq⟩
        · rw [upd_same]
          exact ⟨h44, h50, h88, h87, .inr rfl, h28, h26, rfl, rfl, rfl⟩
        · cases hq
theorem ph_keeps (r : Int) (n : Nat) (p : Rec) (h : Ph r (n + 1) p) : p.i 87 = r ∧ p.b 28 = false ∧ p.b 26 = false := by
  cases n with
  | zero => exact ⟨h.2.2.2.1, h.2.2.2.2.2.1, h.2.2.2.2.2.2.1⟩
  | succ n => exact ⟨h.2.2.2.1, h.2.2.2.2.2.1, h.2.2.2.2.2.2.1⟩
attribute [local go_sem] zeroBr zeroP
set_option maxRecDepth 100000 in
set_option maxHeartbeats 8000000 in
theorem blocks_any (b : Bri) (ps ss : Nat → Rec) (fs : Nat → Int) (w : World) (i : Nat) (hi : i ≤ 255) (jj : Nat) (hjj : jj ≤ 255) (h : Reads0 w b ps ss fs) :
    Calls Try.prog 5 #[.agg (rowB b), .int .u8 i, .int .u8 jj] w fun e w' => e = .returned (.bool true) ∧ Below w.heap.size w w' := by
  have HR := Lib.hid h
  clear h
  go_enter Try.func5, Try.ntmps5
  go_wp2_with fail
  refine (awake_any _).mono ?_
  rintro e w1 ⟨rfl, hb1⟩
  have HB : Hid (w1.heap[w.heap.size]? = some (.cells (rowB b) 33 (0, 0))) := (hb1.block _ (by simp)).trans (at_new rfl)
  have HW1 := Lib.hid (andthen (more (Below.refl w.heap.size w) _) hb1)
  clear hb1
  go_wp2_with (first | (refine loadB rfl rfl _ rfl w.heap.size rfl b HB.out ?_; simp only [Act.put, List.setIfInBounds_toArray, List.set_cons_zero, List.set_cons_succ]) | fail)
  refine (few_any b ps _ (HR.out.below HW1.out).p).mono ?_
  rintro e w2 ⟨r, rfl, hr, hb2⟩
  have HB' : Hid (w2.heap[w.heap.size]? = some (.cells (rowB b) 33 (0, 0))) := (hb2.block _ (Array.getElem?_eq_some_iff.1 HB.out).1).trans HB.out
  have HW2 := Lib.hid (andthen HW1.out hb2)
  have Hr := Lib.hid hr
  clear hb2 hr HB HW1
  cases r
  · go_wp2_with fail
    go_ret
    exact ⟨rfl, HW2.out⟩
  have HL := Lib.hid (Hr.out rfl)
  clear Hr
  have HB := HB'
  clear HB'
  have hn1 : 0 < b.n := HL.out.2.1
  have hn8 : b.n ≤ 8 := HL.out.2.2.1
  go_wp2_with (first | (refine loadB rfl rfl _ rfl w.heap.size rfl b HB.out ?_; simp only [Act.put, List.setIfInBounds_toArray, List.set_cons_zero, List.set_cons_succ]) | fail)
  refine (at_any b i _ hi hn1 hn8).mono ?_
  rintro e w3 ⟨rfl, hb3⟩
  have HB' : Hid (w3.heap[w.heap.size]? = some (.cells (rowB b) 33 (0, 0))) := (hb3.block _ (Array.getElem?_eq_some_iff.1 HB.out).1).trans HB.out
  have HW3 := Lib.hid (andthen HW2.out hb3)
  clear hb3 HB HW2
  have HB := HB'
  clear HB'
  obtain ⟨k, hk⟩ : ∃ k, k = i % b.n := ⟨_, rfl⟩
  have hkn : k < b.n := by rw [hk]; exact Nat.mod_lt _ hn1
  rw [← hk]
  have Hk := Lib.hid hk
  clear hk
  go_wp2_with (first | (refine loadB rfl rfl _ rfl w.heap.size rfl b HB.out ?_; simp only [Act.put, List.setIfInBounds_toArray, List.set_cons_zero, List.set_cons_succ]) | fail)
  refine (clone_any b ps ss fs _ ((HR.out.below HW3.out).looked HL.out)).mono ?_
  rintro e w4 ⟨gp, cp, go, co, gf, cf, rfl, hp1, hp2, hp3, op, os, of, hb⟩
  go_upto_region 7 with (first | (refine wpList_store_at rfl 33 _ _ rfl _ (rowB zeroBri) 33 (rowB (b.at gp cp go co gf cf)) _ rfl rfl rfl rfl (sizeB _) rfl (rowB_one _) ?_; simp only [Act.put]) | fail)
  refine ((?_ : ∀ x, x = w4.alloc (.cells (rowB (b.at gp cp go co gf cf)) 33) → Code.wp _ _ _ _ x) _ rfl)
  intro wx hwx
  obtain ⟨bb, bx, hbx, hX, hgx, hSd, hwx'⟩ := clone_bst op os of hp2 hp3 hwx
  rw [← hbx]
  have hw4 := HW3.out.size
  have HX := Lib.hid hX
  have HWX := Lib.hid (andthen (andthen HW3.out hb) hwx')
  have hlt3 : w.heap.size < w3.heap.size := (Array.getElem?_eq_some_iff.1 HB.out).1
  have hge : w.heap.size < gp := Nat.lt_of_lt_of_le hlt3 hp1
  have HTO := Lib.hid (show TimesOk bb from fun x hx => by rw [hSd.1]; exact times_ok HL.out x hx)
  have hn1000 : bb.n ≤ 1000 := by rw [hSd.2.1]; omega
  have hkb : k < bb.n := by rw [hSd.2.1]; exact hkn
  have hk0 : (0 : Int) ≤ k := by omega
  have hk1 : (k : Int) < bb.n := by omega
  have HSD := Lib.hid hSd
  have d17 := hX.c17
  have hgl := hX.p.lt
  have hbl := hX.lt
  have nbg : ¬ bx = gp := hX.ne
  have ngb : ¬ gp = bx := fun e => hX.ne e.symm
  clear op os of hb hp1 hp2 hp3 HB hX hwx hwx' hbx hSd hw4 hlt3
  have c44 : wx.cell? ⟨gp, k * 89 + 22 + 22, none⟩ = some (.bool ((ps k).b 44)) := (HX.out.p.cell hkb (j := 44) (by omega)).trans (by first | rfl | (rw [upd_same]; rfl))
  have fc44 : wx.frozen? ⟨gp, k * 89 + 22 + 22, none⟩ = false := HX.out.p.free _
  have c50 : wx.cell? ⟨gp, k * 89 + 22 + 28, none⟩ = some (.bool ((ps k).b 50)) := (HX.out.p.cell hkb (j := 50) (by omega)).trans (by first | rfl | (rw [upd_same]; rfl))
  have fc50 : wx.frozen? ⟨gp, k * 89 + 22 + 28, none⟩ = false := HX.out.p.free _
  have c88 : wx.cell? ⟨gp, k * 89 + 88, none⟩ = some (.int .i64 ((ps k).i 88)) := (HX.out.p.cell hkb (j := 88) (by omega)).trans (by first | rfl | (rw [upd_same]; rfl))
  have fc88 : wx.frozen? ⟨gp, k * 89 + 88, none⟩ = false := HX.out.p.free _
  have c87 : wx.cell? ⟨gp, k * 89 + 87, none⟩ = some (.int .i64 ((ps k).i 87)) := (HX.out.p.cell hkb (j := 87) (by omega)).trans (by first | rfl | (rw [upd_same]; rfl))
  have fc87 : wx.frozen? ⟨gp, k * 89 + 87, none⟩ = false := HX.out.p.free _
  have c29 : wx.cell? ⟨gp, k * 89 + 22 + 7, none⟩ = some (.bool ((ps k).b 29)) := (HX.out.p.cell hkb (j := 29) (by omega)).trans (by first | rfl | (rw [upd_same]; rfl))
  have fc29 : wx.frozen? ⟨gp, k * 89 + 22 + 7, none⟩ = false := HX.out.p.free _
  have c27 : wx.cell? ⟨gp, k * 89 + 22 + 5, none⟩ = some (.bool ((ps k).b 27)) := (HX.out.p.cell hkb (j := 27) (by omega)).trans (by first | rfl | (rw [upd_same]; rfl))
  have fc27 : wx.frozen? ⟨gp, k * 89 + 22 + 5, none⟩ = false := HX.out.p.free _
  go_upto_region 14 with (fail)
  have HS := Lib.hid (show Bst ((((((wx.setCell ⟨gp, k * 89 + 22 + 22, none⟩ (.bool true)).setCell ⟨gp, k * 89 + 22 + 28, none⟩ (.bool false)).setCell ⟨gp, k * 89 + 88, none⟩ (.int .i64 ((jj : Int) % 3))).setCell ⟨gp, k * 89 + 87, none⟩ (.int .i64 4)).setCell ⟨gp, k * 89 + 22 + 7, none⟩ (.bool false)).setCell ⟨gp, k * 89 + 22 + 5, none⟩ (.bool false)) bx gp bb (upd ps k (((((((ps k).setB 44 true).setB 50 false).setI 88 ((jj : Int) % 3)).setI 87 4).setB 29 false).setB 27 false)) ss fs from (((((((HX.out.start k)).put (j := 44) (by omega) (rowP_put_44 _ _)).put (j := 50) (by omega) (rowP_put_50 _ _)).put (j := 88) (by omega) (rowP_put_88 _ _)).put (j := 87) (by omega) (rowP_put_87 _ _)).put (j := 29) (by omega) (rowP_put_29 _ _)).put (j := 27) (by omega) (rowP_put_27 _ _))
  have HOS := Lib.hid (show Only (· = gp) wx ((((((wx.setCell ⟨gp, k * 89 + 22 + 22, none⟩ (.bool true)).setCell ⟨gp, k * 89 + 22 + 28, none⟩ (.bool false)).setCell ⟨gp, k * 89 + 88, none⟩ (.int .i64 ((jj : Int) % 3))).setCell ⟨gp, k * 89 + 87, none⟩ (.int .i64 4)).setCell ⟨gp, k * 89 + 22 + 7, none⟩ (.bool false)).setCell ⟨gp, k * 89 + 22 + 5, none⟩ (.bool false)) from (((((((Only.refl (· = gp) wx)).setCell (Or.inl rfl) _).setCell (Or.inl rfl) _).setCell (Or.inl rfl) _).setCell (Or.inl rfl) _).setCell (Or.inl rfl) _).setCell (Or.inl rfl) _)
  have HP0 := Lib.hid (show Ph ((jj : Int) % 3) 0 ((upd ps k (((((((ps k).setB 44 true).setB 50 false).setI 88 ((jj : Int) % 3)).setI 87 4).setB 29 false).setB 27 false)) k) by rw [upd_same]; exact ⟨rfl, rfl, rfl, rfl, rfl, rfl⟩)
  clear d17 c44 fc44 c50 fc50 c88 fc88 c87 fc87 c29 fc29 c27 fc27
  go_wp2_with fail
  go_loopw [12] (fun i wr => ∃ m : Nat, m ≤ 8 ∧ i = .int .i64 m ∧ Hid (∃ qs, Bst wr bx gp bb qs ss fs ∧ Ph ((jj : Int) % 3) m (qs k)) ∧ Hid (Only (· = gp) wx wr)) (fun i _ => 8 - (intOf i).toNat)
  case atStart => exact ⟨0, by omega, rfl, Lib.hid ⟨_, HS.out, HP0.out⟩, HOS⟩
  case round =>
    clear HS HP0 HOS
    obtain ⟨m, hm, rfl, hE, hO⟩ := hrel
    have hm0 : (0 : Int) ≤ m := by omega
    obtain ⟨qs, hB, hPh⟩ := hE.out
    have HB := Lib.hid hB
    have HPH := Lib.hid hPh
    have b17 := hB.c17
    clear hB hPh hE
    by_cases hlt : m < 8
    · have dl : decide ((m : Int) < 8) = true := decide_eq_true (by omega)
      have hwm : IntKind.i64.wrap ((m : Int) + 1) = (m + 1 : Nat) := by unfold IntKind.wrap; simp [IntKind.signed, IntKind.bits]; omega
      go_wp2_with fail
      refine (step_ps _ bx gp k bb qs ss fs HB.out hkb HTO.out hn1000).mono ?_
      rintro e w6 ⟨rfl, hX2, hO2⟩
      have hph := ph_step bb k _ (by omega) qs m HPH.out
      obtain ⟨qn, hqn⟩ : ∃ x, x = (nextT bb k qs).getD qs := ⟨_, rfl⟩
      rw [← hqn] at hX2 hph
      obtain ⟨k87, k28, k26⟩ := ph_keeps _ m _ hph
      have HX2 := Lib.hid hX2
      have HPH2 := Lib.hid hph
      have HO2 := Lib.hid (hO.out.trans hO2)
      have hr := hX2.p.range hkb
      have b17' := hX2.c17
      clear hX2 hO2 hph hqn b17
      go_upto_region 19 with (first | (refine wpList_row rfl 51 _ rfl gp (k * 89) rfl (rowP (qn k)) _ hr Try.underlying51 rfl (sizeP _) ?_; simp only [Act.put, List.setIfInBounds_toArray, List.set_cons_zero, List.set_cons_succ]) | (refine wpList_store_new rfl 51 _ _ rfl w6 (rowP zeroR) 51 _ rfl rfl rfl (sizeP _) rfl (rowP_one _) ?_; simp only [Act.put]) | fail)
      refine ((?_ : ∀ x, x = w6.alloc (.cells (rowP (qn k)) 51) → Code.wp _ _ _ _ x) _ rfl)
      intro w7 hw7
      have hv : w7.heap[w6.heap.size]? = some (.cells (rowP (qn k)) 51 (0, 0)) := by rw [hw7]; exact heap_alloc_new _ _
      have hb7 : Below w6.heap.size w6 w7 := by rw [hw7]; exact more (Below.refl _ _) _
      have HE7 := Lib.hid (show ∃ qs, Bst w7 bx gp bb qs ss fs ∧ Ph ((jj : Int) % 3) (m + 1) (qs k) from ⟨_, HX2.out.below hb7, HPH2.out⟩)
      have HO7 := Lib.hid (HO2.out.trans (Only.of_below hb7))
      have u87 : w7.cell? ⟨w6.heap.size, 87, none⟩ = some (.int .i64 ((jj : Int) % 3)) := (cells_of hv 87).trans (by show some (Value.int .i64 (_)) = _; rw [k87])
      have u28 : w7.cell? ⟨w6.heap.size, 22 + 6, none⟩ = some (.bool false) := (cells_of hv 28).trans (by show some (Value.bool (_)) = _; rw [k28])
      have u26 : w7.cell? ⟨w6.heap.size, 22 + 4, none⟩ = some (.bool false) := (cells_of hv 26).trans (by show some (Value.bool (_)) = _; rw [k26])
      clear hw7 hv hb7 b17' hr k87 k28 k26
      go_wp2_with fail
      exact ⟨⟨m + 1, by omega, rfl, HE7, HO7⟩, by simp [intOf]; omega⟩
    · have dl : decide ((m : Int) < 8) = false := decide_eq_false (by omega)
      obtain rfl : m = 8 := by omega
      have hph : Ph ((jj : Int) % 3) (6 + 2) (qs k) := HPH.out
      obtain ⟨_, _, _, _, _, _, _, k47, k42, k12⟩ := hph
      have hr := HB.out.p.range hkb
      go_upto_region 22 with (first | (refine wpList_row rfl 51 _ rfl gp (k * 89) rfl (rowP (qs k)) _ hr Try.underlying51 rfl (sizeP _) ?_; simp only [Act.put, List.setIfInBounds_toArray, List.set_cons_zero, List.set_cons_succ]) | (refine wpList_store_new rfl 51 _ _ rfl wr (rowP zeroR) 51 _ rfl rfl rfl (sizeP _) rfl (rowP_one _) ?_; simp only [Act.put]) | fail)
      refine ((?_ : ∀ x, x = wr.alloc (.cells (rowP (qs k)) 51) → Code.wp _ _ _ _ x) _ rfl)
      intro w7 hw7
      have hv : w7.heap[wr.heap.size]? = some (.cells (rowP (qs k)) 51 (0, 0)) := by rw [hw7]; exact heap_alloc_new _ _
      have hb7 : Below wr.heap.size wr w7 := by rw [hw7]; exact more (Below.refl _ _) _
      have HO7 := Lib.hid (hO.out.trans (Only.of_below hb7))
      have u47 : w7.cell? ⟨wr.heap.size, 22 + 25, none⟩ = some (.bool true) := (cells_of hv 47).trans (by show some (Value.bool (_)) = _; rw [k47])
      have u42 : w7.cell? ⟨wr.heap.size, 22 + 20, none⟩ = some (.bool false) := (cells_of hv 42).trans (by show some (Value.bool (_)) = _; rw [k42])
      have u12 : w7.cell? ⟨wr.heap.size, 6 + 6, none⟩ = some (.int .i64 0) := (cells_of hv 12).trans (by show some (Value.int .i64 (_)) = _; rw [k12])
      clear hw7 hv hb7 hr k47 k42 k12
      go_wp2_with fail
      go_ret
      exact ⟨rfl, HWX.out.trans (HO7.out.below HWX.out.size (fun k hk => by omega))⟩
end Go.Proofs.Ytdangeefecdbaaa.Br
