/- Law MigElder of the protocol migration machine: the walk joined with the plain law. -/
import Derived.Test.YtjefonjjgahmgaaAwake10
import Derived.Test.YtjefonjjgahmgaaOpen
import Derived.Test.YtjefonjjgahmgaaWhole
import Derived.StillTailTactics
import Derived.BigQuiet
import Derived.Deep.CutRange
set_option linter.unusedSimpArgs false
namespace Go.Proofs.Ytjefonjjgahmgaa.Br
open Go.RowKit
theorem at_17 (b : Bri) (gp cp go co gf cf : Nat) : (rowB (b.at gp cp go co gf cf))[17]? = some (.slice (some ⟨gp, 0, none⟩) b.n cp) := rfl
theorem at_1 (b : Bri) (gp cp go co gf cf : Nat) : (rowB (b.at gp cp go co gf cf))[1]? = some (.bool (b.r.b 1)) := rfl
theorem set1_17 (b : Bri) (gp cp go co gf cf : Nat) (v : Value) : ((rowB (b.at gp cp go co gf cf)).setIfInBounds 1 v)[17]? = some (.slice (some ⟨gp, 0, none⟩) b.n cp) := rfl
theorem set1_1 (b : Bri) (gp cp go co gf cf : Nat) (v : Value) : ((rowB (b.at gp cp go co gf cf)).setIfInBounds 1 v)[1]? = some v := rfl
attribute [local go_sem] zeroP zeroBr at_17 at_1 set1_17 set1_1
theorem mig_way (rst : Bool) (p : Rec) : migF rst p = (p, false) ∨ migF rst p = ((((p.setB 37 false).setB 38 false).setI 16 2), true) ∨ migF rst p = (((((p.setB 30 false).setB 45 rst).setI 9 3).setI 16 0), true) ∨ migF rst p = ((((p.setB 45 false).setI 9 3).setI 16 1), true) := by
  unfold migF
  repeat' split
  all_goals simp
theorem elder_step (p : Rec) (h : p.b 45 = false ∧ 0 ≤ p.i 9 ∧ p.i 9 ≤ 1000) : (migF false p).1.b 45 = false ∧ 0 ≤ (migF false p).1.i 9 ∧ (migF false p).1.i 9 ≤ 1000 := by
  rcases mig_way false p with e | e | e | e
  · rw [e]; exact h
  · rw [e]; exact h
  · rw [e]; exact ⟨rfl, (by decide : (0 : Int) ≤ 3), (by decide : (3 : Int) ≤ 1000)⟩
  · rw [e]; exact ⟨rfl, (by decide : (0 : Int) ≤ 3), (by decide : (3 : Int) ≤ 1000)⟩
set_option maxRecDepth 100000 in
set_option maxHeartbeats 8000000 in
theorem elder_any (b : Bri) (ps ss : Nat → Rec) (fs : Nat → Int) (w : World) (i : Nat) (hi : i ≤ 255) (la : Option Addr) (ln lc : Nat) (lf : Nat → Int) (hV : View w la 1 ln fun k _ => .int .u8 (lf k)) (hB8 : ∀ k, k < ln → 0 ≤ lf k ∧ lf k ≤ 255) (h : Reads0 w b ps ss fs) :
    Calls Try.prog 5 #[.agg (rowB b), .int .u8 i, .slice la ln lc] w fun e w' => e = .returned (.bool true) ∧ Below w.heap.size w w' := by
  have HR := Lib.hid h
  clear h
  go_enter Try.func5, Try.ntmps5
  go_wp2_with fail
  refine (awake_any _).mono ?_
  rintro e w1 ⟨rfl, hb1⟩
  have HB : Hid (w1.heap[w.heap.size]? = some (.cells (rowB b) 33 (0, 0))) := (hb1.block _ (by simp)).trans (at_new rfl)
  have HW1 := Lib.hid (andthen (more (Below.refl w.heap.size w) _) hb1)
  clear hb1
  go_wp2_with (first | (refine loadB rfl rfl _ rfl w.heap.size rfl b HB.out ?_; simp only [Act.put, List.setIfInBounds_toArray, List.set_cons_zero, List.set_cons_succ]) | fail)
  refine (few_any b ps _ (HR.out.below HW1.out).p).mono ?_
  rintro e w2 ⟨r, rfl, hr, hb2⟩
  have HB' : Hid (w2.heap[w.heap.size]? = some (.cells (rowB b) 33 (0, 0))) := (hb2.block _ (Array.getElem?_eq_some_iff.1 HB.out).1).trans HB.out
  have HW2 := Lib.hid (andthen HW1.out hb2)
  have Hr := Lib.hid hr
  clear hb2 hr HB HW1
  cases r
  · go_wp2_with fail
    go_ret
    exact ⟨rfl, HW2.out⟩
  have HL := Lib.hid (Hr.out rfl)
  clear Hr
  have HB := HB'
  clear HB'
  have hn1 : 0 < b.n := HL.out.2.1
  have hn8 : b.n ≤ 8 := HL.out.2.2.1
  by_cases hlen : ln ≤ 60
  rotate_left
  · have d60 : decide ((60 : Int) < ln) = true := decide_eq_true (by omega)
    go_wp2_with fail
    go_ret
    exact ⟨rfl, HW2.out⟩
  have d60 : decide ((60 : Int) < ln) = false := decide_eq_false (by omega)
  go_wp2_with (first | (refine loadB rfl rfl _ rfl w.heap.size rfl b HB.out ?_; simp only [Act.put, List.setIfInBounds_toArray, List.set_cons_zero, List.set_cons_succ]) | fail)
  refine (at_any b i _ hi hn1 hn8).mono ?_
  rintro e w3 ⟨rfl, hb3⟩
  have HB' : Hid (w3.heap[w.heap.size]? = some (.cells (rowB b) 33 (0, 0))) := (hb3.block _ (Array.getElem?_eq_some_iff.1 HB.out).1).trans HB.out
  have HW3 := Lib.hid (andthen HW2.out hb3)
  clear hb3 HB HW2
  have HB := HB'
  clear HB'
  obtain ⟨k, hk⟩ : ∃ k, k = i % b.n := ⟨_, rfl⟩
  have hkn : k < b.n := by rw [hk]; exact Nat.mod_lt _ hn1
  rw [← hk]
  have Hk := Lib.hid hk
  clear hk
  go_wp2_with (first | (refine loadB rfl rfl _ rfl w.heap.size rfl b HB.out ?_; simp only [Act.put, List.setIfInBounds_toArray, List.set_cons_zero, List.set_cons_succ]) | fail)
  refine (clone_any b ps ss fs _ ((HR.out.below HW3.out).looked HL.out)).mono ?_
  rintro e w4 ⟨gp, cp, go, co, gf, cf, rfl, hp1, hp2, hp3, op, os, of, hb⟩
  have HP := Lib.hid op.ports
  have hgl := op.lt
  have HW4 := Lib.hid (andthen HW3.out hb)
  have hge : w.heap.size ≤ gp := Nat.le_trans HW3.out.size hp1
  have c45 : w4.cell? ⟨gp, k * 89 + 22 + 23, none⟩ = some (.bool ((ps k).b 45)) := HP.out.cell hkn (j := 45) (by omega)
  have f45 := HP.out.free (k * 89 + 22 + 23)
  clear op os of hb hp1 hp2 hp3 HB
  go_wp2_with (first | (refine wpList_store_at rfl 33 _ _ rfl _ (rowB zeroBri) 33 (rowB (b.at gp cp go co gf cf)) _ rfl rfl rfl rfl (sizeB _) rfl (rowB_one _) ?_; simp only [Act.put]) | fail)
  have h9 : 0 ≤ (ps k).i 9 ∧ (ps k).i 9 ≤ 1000 := (HL.out.1.2.2.2.2.2.2.2.2 k hkn).1 3 (by omega)
  go_loopw [11] (fun i wr => ∃ m : Nat, m ≤ ln ∧ i = .int .i64 m ∧ Hid (∃ q, (q.b 45 = false ∧ 0 ≤ q.i 9 ∧ q.i 9 ≤ 1000) ∧ Ports wr gp b.n (upd ps k q)) ∧ Hid (Only (· = gp) w4 wr) ∧ Hid (wr.cell? ⟨w4.heap.size, 17, none⟩ = some (.slice (some ⟨gp, 0, none⟩) b.n cp)) ∧ Hid (wr.cell? ⟨w4.heap.size, 1, none⟩ = some (.bool false)) ∧ Hid (w4.heap.size < wr.heap.size)) (fun i _ => ln - (intOf i).toNat)
  case atStart => exact ⟨0, by omega, rfl, Lib.hid ⟨(ps k).setB 45 false, ⟨rfl, h9⟩, ((HP.out.start k).step (j := 45) (by omega) (rowP_put_45 _ false)).alloc _⟩, Lib.hid (((Only.refl (· = gp) w4).setCell (Or.inl rfl) _).alloc _), Lib.hid (by simp [go_sem]), Lib.hid (by simp [go_sem]), Lib.hid (by simp)⟩
  case round =>
    clear c45 f45
    obtain ⟨m, hm, rfl, hPp, hO, hX, hX1, hS⟩ := hrel
    have hk0 : (0 : Int) ≤ k := by omega
    have hk1 : (k : Int) < b.n := by omega
    by_cases hlt : m < ln
    rotate_left
    · have dl : decide ((m : Int) < ln) = false := decide_eq_false (by omega)
      obtain ⟨q, hq, hP⟩ := hPp.out
      have c45 : wr.cell? ⟨gp, k * 89 + 22 + 23, none⟩ = some (.bool false) := by
        have h := hP.cell hkn (j := 45) (by omega)
        rw [upd_same] at h
        rw [← hq.1]
        exact h
      have x17 := hX.out
      go_wp2_with fail
      go_ret
      exact ⟨rfl, HW4.out.trans (hO.out.below (B := w.heap.size) HW4.out.size (fun k hk => by omega))⟩
    · have dl : decide ((m : Int) < ln) = true := decide_eq_true (by omega)
      rcases hV with h0 | ⟨lg, lo, hla, hcl⟩
      · omega
      subst hla
      have hlg : lg < w.heap.size := cell_lt (hcl m hlt 0 (by omega))
      have Hlv := Lib.hid (fun wx (hO : Only (· = gp) w4 wx) => show wx.cell? ⟨lg, lo + m, none⟩ = some (.int .u8 (lf m)) by
        have h1 := hcl m hlt 0 (by omega)
        rw [Nat.mul_one, Nat.add_zero] at h1
        rw [hO.cell (p := ⟨lg, lo + m, none⟩) (show lg < w4.heap.size by have := HW4.out.size; omega) (show ¬ lg = gp by omega), HW4.out.cell (p := ⟨lg, lo + m, none⟩) hlg]
        exact h1)
      have hb0 := (hB8 m hlt).1
      have hb255 := (hB8 m hlt).2
      have HB8 := Lib.hid hB8
      have Hcl := Lib.hid hcl
      clear hB8 hcl
      have hm0 : (0 : Int) ≤ m := by omega
      have hm1 : (m : Int) < ln := by omega
      have n1 : ¬ gp = w4.heap.size := by omega
      have n3 : ¬ gp = lg := by omega
      have n4 : ¬ w4.heap.size = gp := by omega
      have n6 : ¬ lg = gp := by omega
      have x17 := hX.out
      go_upto_region 13 with (fail)
      go_cut [46] from 36 to 132 (fun cc wx => Hid (∃ q, (q.b 45 = false ∧ 0 ≤ q.i 9 ∧ q.i 9 ≤ 1000) ∧ Ports wx gp b.n (upd ps k q)) ∧ Hid (Only (· = gp) w4 wx) ∧ Hid (wx.cell? ⟨w4.heap.size, 17, none⟩ = some (.slice (some ⟨gp, 0, none⟩) b.n cp)) ∧ Hid (wx.cell? ⟨w4.heap.size, 1, none⟩ = some (.bool false)) ∧ Hid (w4.heap.size < wx.heap.size))
      case first =>
        obtain ⟨q, hq, hP⟩ := hPp.out
        have hq9 := hq.2.1
        have hq10 := hq.2.2
        have hcq := hP.cell hkn (j := 37) (by omega)
        rw [upd_same] at hcq
        have cq := show World.cell? _ ⟨gp, k * 89 + 22 + 15, none⟩ = some (.bool (q.b 37)) from hcq
        have fq := hP.free (k * 89 + 22 + 15)
        have hlv := Hlv.out _ hO.out
        clear hcq
        go_wp2_with fail
        all_goals
          go_meet
          exact ⟨Lib.hid (Exists.intro _ (And.symm ⟨(hP.step (j := 37) (by omega) (rowP_put_37 _ _)), hq⟩)), Lib.hid (hO.out.setCell (Or.inl rfl) _), Lib.hid (((Only.refl (· = gp) _).setCell (Or.inl rfl) _ |>.cell (p := ⟨w4.heap.size, 17, none⟩) hS.out n4).trans hX.out), Lib.hid (((Only.refl (· = gp) _).setCell (Or.inl rfl) _ |>.cell (p := ⟨w4.heap.size, 1, none⟩) hS.out n4).trans hX1.out), Lib.hid (by simpa using hS.out)⟩
      case rest =>
      clear hPp hO hX hX1 hS
      obtain ⟨hPp, hO, hX, hX1, hS⟩ := hcut
      go_upto_region 14 with (fail)
      go_cut [46] from 36 to 132 (fun cc wx => Hid (∃ q, (q.b 45 = false ∧ 0 ≤ q.i 9 ∧ q.i 9 ≤ 1000) ∧ Ports wx gp b.n (upd ps k q)) ∧ Hid (Only (· = gp) w4 wx) ∧ Hid (wx.cell? ⟨w4.heap.size, 17, none⟩ = some (.slice (some ⟨gp, 0, none⟩) b.n cp)) ∧ Hid (wx.cell? ⟨w4.heap.size, 1, none⟩ = some (.bool false)) ∧ Hid (w4.heap.size < wx.heap.size))
      case first =>
        obtain ⟨q, hq, hP⟩ := hPp.out
        have hq9 := hq.2.1
        have hq10 := hq.2.2
        have hcq := hP.cell hkn (j := 38) (by omega)
        rw [upd_same] at hcq
        have cq := show World.cell? _ ⟨gp, k * 89 + 22 + 16, none⟩ = some (.bool (q.b 38)) from hcq
        have fq := hP.free (k * 89 + 22 + 16)
        have hlv := Hlv.out _ hO.out
        clear hcq
        go_wp2_with fail
        all_goals
          go_meet
          exact ⟨Lib.hid (Exists.intro _ (And.symm ⟨(hP.step (j := 38) (by omega) (rowP_put_38 _ _)), hq⟩)), Lib.hid (hO.out.setCell (Or.inl rfl) _), Lib.hid (((Only.refl (· = gp) _).setCell (Or.inl rfl) _ |>.cell (p := ⟨w4.heap.size, 17, none⟩) hS.out n4).trans hX.out), Lib.hid (((Only.refl (· = gp) _).setCell (Or.inl rfl) _ |>.cell (p := ⟨w4.heap.size, 1, none⟩) hS.out n4).trans hX1.out), Lib.hid (by simpa using hS.out)⟩
      case rest =>
      clear hPp hO hX hX1 hS
      obtain ⟨hPp, hO, hX, hX1, hS⟩ := hcut
      go_upto_region 15 with (fail)
      go_cut [46] from 36 to 132 (fun cc wx => Hid (∃ q, (q.b 45 = false ∧ 0 ≤ q.i 9 ∧ q.i 9 ≤ 1000) ∧ Ports wx gp b.n (upd ps k q)) ∧ Hid (Only (· = gp) w4 wx) ∧ Hid (wx.cell? ⟨w4.heap.size, 17, none⟩ = some (.slice (some ⟨gp, 0, none⟩) b.n cp)) ∧ Hid (wx.cell? ⟨w4.heap.size, 1, none⟩ = some (.bool false)) ∧ Hid (w4.heap.size < wx.heap.size))
      case first =>
        obtain ⟨q, hq, hP⟩ := hPp.out
        have hq9 := hq.2.1
        have hq10 := hq.2.2
        have hcq := hP.cell hkn (j := 30) (by omega)
        rw [upd_same] at hcq
        have cq := show World.cell? _ ⟨gp, k * 89 + 22 + 8, none⟩ = some (.bool (q.b 30)) from hcq
        have fq := hP.free (k * 89 + 22 + 8)
        have hlv := Hlv.out _ hO.out
        clear hcq
        go_wp2_with fail
        all_goals
          go_meet
          exact ⟨Lib.hid (Exists.intro _ (And.symm ⟨(hP.step (j := 30) (by omega) (rowP_put_30 _ _)), hq⟩)), Lib.hid (hO.out.setCell (Or.inl rfl) _), Lib.hid (((Only.refl (· = gp) _).setCell (Or.inl rfl) _ |>.cell (p := ⟨w4.heap.size, 17, none⟩) hS.out n4).trans hX.out), Lib.hid (((Only.refl (· = gp) _).setCell (Or.inl rfl) _ |>.cell (p := ⟨w4.heap.size, 1, none⟩) hS.out n4).trans hX1.out), Lib.hid (by simpa using hS.out)⟩
      case rest =>
      clear hPp hO hX hX1 hS
      obtain ⟨hPp, hO, hX, hX1, hS⟩ := hcut
      go_upto_region 16 with (fail)
      go_cut [46] from 36 to 132 (fun cc wx => Hid (∃ q, (q.b 45 = false ∧ 0 ≤ q.i 9 ∧ q.i 9 ≤ 1000) ∧ Ports wx gp b.n (upd ps k q)) ∧ Hid (Only (· = gp) w4 wx) ∧ Hid (wx.cell? ⟨w4.heap.size, 17, none⟩ = some (.slice (some ⟨gp, 0, none⟩) b.n cp)) ∧ Hid (wx.cell? ⟨w4.heap.size, 1, none⟩ = some (.bool false)) ∧ Hid (w4.heap.size < wx.heap.size))
      case first =>
        obtain ⟨q, hq, hP⟩ := hPp.out
        have hq9 := hq.2.1
        have hq10 := hq.2.2
        have hcq := hP.cell hkn (j := 2) (by omega)
        rw [upd_same] at hcq
        have cq := show World.cell? _ ⟨gp, k * 89 + 2, none⟩ = some (.bool (q.b 2)) from hcq
        have fq := hP.free (k * 89 + 2)
        have hlv := Hlv.out _ hO.out
        clear hcq
        go_wp2_with fail
        all_goals
          go_meet
          exact ⟨Lib.hid (Exists.intro _ (And.symm ⟨(hP.step (j := 2) (by omega) (rowP_put_2 _ _)), hq⟩)), Lib.hid (hO.out.setCell (Or.inl rfl) _), Lib.hid (((Only.refl (· = gp) _).setCell (Or.inl rfl) _ |>.cell (p := ⟨w4.heap.size, 17, none⟩) hS.out n4).trans hX.out), Lib.hid (((Only.refl (· = gp) _).setCell (Or.inl rfl) _ |>.cell (p := ⟨w4.heap.size, 1, none⟩) hS.out n4).trans hX1.out), Lib.hid (by simpa using hS.out)⟩
      case rest =>
      clear hPp hO hX hX1 hS
      obtain ⟨hPp, hO, hX, hX1, hS⟩ := hcut
      go_upto_region 17 with (fail)
      go_cut [46] from 36 to 132 (fun cc wx => Hid (∃ q, (q.b 45 = false ∧ 0 ≤ q.i 9 ∧ q.i 9 ≤ 1000) ∧ Ports wx gp b.n (upd ps k q)) ∧ Hid (Only (· = gp) w4 wx) ∧ Hid (wx.cell? ⟨w4.heap.size, 17, none⟩ = some (.slice (some ⟨gp, 0, none⟩) b.n cp)) ∧ Hid (wx.cell? ⟨w4.heap.size, 1, none⟩ = some (.bool false)) ∧ Hid (w4.heap.size < wx.heap.size))
      case first =>
        obtain ⟨q, hq, hP⟩ := hPp.out
        have hq9 := hq.2.1
        have hq10 := hq.2.2
        have hcq := hP.cell hkn (j := 9) (by omega)
        rw [upd_same] at hcq
        have cq := show World.cell? _ ⟨gp, k * 89 + 6 + 3, none⟩ = some (.int .i64 (q.i 9)) from hcq
        have fq := hP.free (k * 89 + 6 + 3)
        have hlv := Hlv.out _ hO.out
        clear hcq
        go_still_tail 17, (by kernel_rfl)
        change wpList _ _ _ _ _ (World.drew _)
        go_wp2_with fail
        all_goals
          go_meet
          exact ⟨Lib.hid (Exists.intro _ (And.symm ⟨(hP.step (j := 9) (by omega) (rowP_put_9 _ _)).drew, ⟨hq.1, by simp [Rec.setI_i] <;> omega, by simp [Rec.setI_i] <;> omega⟩⟩)), Lib.hid (hO.out.setCell (Or.inl rfl) _).drew, Lib.hid (((Only.refl (· = gp) _).setCell (Or.inl rfl) _ |>.cell (p := ⟨w4.heap.size, 17, none⟩) hS.out n4).trans hX.out), Lib.hid (((Only.refl (· = gp) _).setCell (Or.inl rfl) _ |>.cell (p := ⟨w4.heap.size, 1, none⟩) hS.out n4).trans hX1.out), Lib.hid (by simpa using hS.out)⟩
      case rest =>
      clear hPp hO hX hX1 hS
      obtain ⟨hPp, hO, hX, hX1, hS⟩ := hcut
      obtain ⟨q, hq, hP⟩ := hPp.out
      go_wp2_with fail
      refine (step_on _ w4.heap.size gp b.n cp k ps q false hkn hS.out n4 hX.out hX1.out hP).mono ?_
      rintro e w7 ⟨rfl, hp7, ho7, hb7, hr7⟩
      have HG := Lib.hid (elder_step q hq)
      have HO7 := Lib.hid (hO.out.trans ho7)
      have hS7 : w4.heap.size < w7.heap.size := by have := hS.out; have := ho7.size; omega
      have c45 : w7.cell? ⟨gp, k * 89 + 22 + 23, none⟩ = some (.bool false) := by
        have h := hp7.cell hkn (j := 45) (by omega)
        rw [upd_same] at h
        rw [← HG.out.1]
        exact h
      go_wp2_with fail
      go_roundw
      case rel => exact ⟨m + 1, by omega, by go_num, Lib.hid ⟨_, HG.out, hp7⟩, HO7, Lib.hid hb7, Lib.hid hr7, Lib.hid hS7⟩
      case measure => simp [intOf]; omega
end Go.Proofs.Ytjefonjjgahmgaa.Br
