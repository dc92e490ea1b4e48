/- Law ClockTells of chapter 8: the walk joined with the plain law. -/
import Derived.Test.YtpnlblkeckpmnaaCk12
import Derived.Test.YtpnlblkeckpmnaaCk13
import Derived.Test.YtpnlblkeckpmnaaOpen
set_option linter.unusedSimpArgs false
namespace Go.Proofs.Ytpnlblkeckpmnaa.Br
open Go.RowKit
theorem at_17 (b : Bri) (gp cp go co gf cf : Nat) : (rowB (b.at gp cp go co gf cf))[17]? = some (.slice (some ⟨gp, 0, none⟩) b.n cp) := rfl
theorem row_old {W : World} {g B : Nat} {C : Array Value} {T : TypeId} {fr : Nat × Nat} (h : W.heap[g]? = some (.cells C T fr)) (hB : g < B) (z : Old B W) : z.w.rangeAt g 0 C.toList := fun j v hv => by
  rw [Nat.zero_add, cells_of ((z.h.block g hB).trans h) j]
  simpa using hv
attribute [local go_sem] zeroBr at_17
theorem View.only {S : Nat → Prop} {w w' : World} {a : Option Addr} {sz n : Nat} {c : Nat → Nat → Value} (h : View w a sz n c) (hb : Only S w w') (hn : ∀ g o, a = some ⟨g, o, none⟩ → ¬ S g) : View w' a sz n c := by
  rcases h with h | ⟨g, o, ha, hc⟩
  · exact .inl h
  · exact .inr ⟨g, o, ha, fun k hk j hj => by rw [hb.cell (p := ⟨g, _, none⟩) (cell_lt (hc k hk j hj)) (hn g o ha)]; exact hc k hk j hj⟩
theorem Reads.at {w w' : World} {b : Bri} {ps qs ss : Nat → Rec} {fs : Nat → Int} {gp cp go co gf cf : Nat} (hr : Reads w b ps ss fs) (hp : Ports w' gp b.n qs) (hs : View w' (some ⟨go, 0, none⟩) 18 b.no fun k j => cellS (ss k) j)
    (hf : View w' (some ⟨gf, 0, none⟩) 1 b.nf fun k _ => .int .i64 (fs k)) : Reads w' (b.at gp cp go co gf cf) qs ss fs :=
  ⟨.inr ⟨gp, 0, rfl, fun k hk j hj => by rw [Nat.zero_add]; exact hp.cell hk hj⟩, hs, hf, (fun h => by cases h), (fun h => by cases h), (fun h => by cases h), hr.pb, hr.sb, hr.fb⟩
set_option maxRecDepth 100000 in
set_option maxHeartbeats 8000000 in
theorem tells_any (b : Bri) (ps ss : Nat → Rec) (fs : Nat → Int) (w : World) (i : Nat) (hi : i ≤ 255) (h : Reads0 w b ps ss fs) :
    Calls Try.prog 6 #[.agg (rowB b), .int .u8 i] w fun e w' => e = .returned (.bool true) ∧ Below w.heap.size w w' := by
  have HR := Lib.hid h
  clear h
  go_enter Try.func6, Try.ntmps6
  go_wp2_with fail
  refine (awake_any _).mono ?_
  rintro e w1 ⟨rfl, hb1⟩
  have HB : Hid (w1.heap[w.heap.size]? = some (.cells (rowB b) 33 (0, 0))) := (hb1.block _ (by simp)).trans (at_new rfl)
  have HW1 := Lib.hid (andthen (more (Below.refl w.heap.size w) _) hb1)
  clear hb1
  go_wp2_with (first | (refine loadB rfl rfl _ rfl w.heap.size rfl b HB.out ?_; simp only [Act.put, List.setIfInBounds_toArray, List.set_cons_zero, List.set_cons_succ]) | fail)
  refine (few_any b ps _ (HR.out.below HW1.out).p).mono ?_
  rintro e w2 ⟨r, rfl, hr, hb2⟩
  have HB' : Hid (w2.heap[w.heap.size]? = some (.cells (rowB b) 33 (0, 0))) := (hb2.block _ (Array.getElem?_eq_some_iff.1 HB.out).1).trans HB.out
  have HW2 := Lib.hid (andthen HW1.out hb2)
  have Hr := Lib.hid hr
  clear hb2 hr HB HW1
  cases r
  · go_wp2_with fail
    go_ret
    exact ⟨rfl, HW2.out⟩
  have HL := Lib.hid (Hr.out rfl)
  clear Hr
  have HB := HB'
  clear HB'
  have hn1 : 0 < b.n := HL.out.2.1
  have hn8 : b.n ≤ 8 := HL.out.2.2.1
  go_wp2_with (first | (refine loadB rfl rfl _ rfl w.heap.size rfl b HB.out ?_; simp only [Act.put, List.setIfInBounds_toArray, List.set_cons_zero, List.set_cons_succ]) | fail)
  refine (at_any b i _ hi hn1 hn8).mono ?_
  rintro e w3 ⟨rfl, hb3⟩
  have HB' : Hid (w3.heap[w.heap.size]? = some (.cells (rowB b) 33 (0, 0))) := (hb3.block _ (Array.getElem?_eq_some_iff.1 HB.out).1).trans HB.out
  have HW3 := Lib.hid (andthen HW2.out hb3)
  clear hb3 HB HW2
  have HB := HB'
  clear HB'
  obtain ⟨k, hk⟩ : ∃ k, k = i % b.n := ⟨_, rfl⟩
  have hkn : k < b.n := by rw [hk]; exact Nat.mod_lt _ hn1
  rw [← hk]
  have Hk := Lib.hid hk
  clear hk
  go_wp2_with (first | (refine loadB rfl rfl _ rfl w.heap.size rfl b HB.out ?_; simp only [Act.put, List.setIfInBounds_toArray, List.set_cons_zero, List.set_cons_succ]) | fail)
  refine (clone_any b ps ss fs _ ((HR.out.below HW3.out).looked HL.out)).mono ?_
  rintro e w4 ⟨gp, cp, go, co, gf, cf, rfl, hp1, hp2, hp3, op, os, of, hb⟩
  have HP := Lib.hid op.ports
  have hgl := op.lt
  have HW4 := Lib.hid (andthen HW3.out hb)
  have hge : w3.heap.size ≤ gp := hp1
  have HB' : Hid (w4.heap[w.heap.size]? = some (.cells (rowB b) 33 (0, 0))) := (hb.block _ (Array.getElem?_eq_some_iff.1 HB.out).1).trans HB.out
  have hlt : w.heap.size < w4.heap.size := (Array.getElem?_eq_some_iff.1 HB'.out).1
  have hlt3 : w.heap.size < w3.heap.size := (Array.getElem?_eq_some_iff.1 HB.out).1
  have Hs := Lib.hid os.view
  have Hf := Lib.hid of.view
  have HBx : Hid ((w4.alloc (.cells (rowB (b.at gp cp go co gf cf)) 33)).heap[w.heap.size]? = some (.cells (rowB b) 33 (0, 0))) := (Below.heap_alloc _ _ _ hlt).trans HB'.out
  have hgo := os.lt
  have hgf := of.lt
  have HRng := Lib.hid (show ∀ k, k < b.n → ∀ x, x < 9 → 0 ≤ (ps k).i (6 + x) ∧ (ps k).i (6 + x) ≤ 1000 from fun k hk => (HL.out.1.2.2.2.2.2.2.2.2 k hk).1)
  clear op os of hb HB HB'
  have HB := HBx
  clear HBx
  go_wp2_with (first | (refine wpList_store_at rfl 33 _ _ rfl _ (rowB zeroBri) 33 (rowB (b.at gp cp go co gf cf)) _ rfl rfl rfl rfl (sizeB _) rfl (rowB_one _) ?_; simp only [Act.put]) | (refine loadB rfl rfl _ rfl w.heap.size rfl b HB.out ?_; simp only [Act.put, List.setIfInBounds_toArray, List.set_cons_zero, List.set_cons_succ]) | fail)
  have hRd := ((HR.out.below HW4.out).looked HL.out).below (more (Below.refl w4.heap.size w4) (.cells (rowB (b.at gp cp go co gf cf)) 33))
  refine (clone_any b ps ss fs _ hRd).mono ?_
  rintro e w5 ⟨gp5, cp5, go5, co5, gf5, cf5, rfl, q1, q2, q3, op5, os5, of5, hb5⟩
  have h45 : Below w4.heap.size w4 w5 := (more (Below.refl w4.heap.size w4) _).trans (hb5.mono (by simp))
  have hs5 : w4.heap.size < w5.heap.size := by have := hb5.size; simp at this; omega
  have q1' : w4.heap.size < gp5 := by simp at q1; omega
  have hgl5 := op5.lt
  have HX := Lib.hid ((hb5.block w4.heap.size (by simp)).trans (heap_alloc_new w4 (.cells (rowB (b.at gp cp go co gf cf)) 33)))
  have HB5 := Lib.hid ((hb5.block w.heap.size (by simp; omega)).trans HB.out)
  have HP5 := Lib.hid op5.ports
  have HP' := Lib.hid (HP.out.below h45 hgl)
  have Hs' := Lib.hid (Hs.out.below h45)
  have Hf' := Lib.hid (Hf.out.below h45)
  have Hs5 := Lib.hid os5.view
  have Hf5 := Lib.hid of5.view
  have HRd := Lib.hid hRd
  have H45 := Lib.hid h45
  clear op5 os5 of5 hb5 h45 hRd HB HP Hs Hf
  go_wp2_with (first | (refine wpList_store_at rfl 33 _ _ rfl _ (rowB zeroBri) 33 (rowB (b.at gp5 cp5 go5 co5 gf5 cf5)) _ rfl rfl rfl rfl (sizeB _) rfl (rowB_one _) ?_; simp only [Act.put]) | fail)
  have b17 : (w5.alloc (.cells (rowB (b.at gp5 cp5 go5 co5 gf5 cf5)) 33)).cell? ⟨w4.heap.size, 17, none⟩ = some (.slice (some ⟨gp, 0, none⟩) b.n cp) := cells_of ((Below.heap_alloc _ _ _ hs5).trans HX.out) 17
  refine (tick_any _ w4.heap.size gp b.n cp ps b17 (HP'.out.alloc _) (by omega) (by omega) HRng.out).mono ?_
  rintro e w6 ⟨rfl, hp6, ho6⟩
  have hs6 : w5.heap.size < w6.heap.size := by have := ho6.size; simp at this; omega
  have HY6 := Lib.hid ((ho6.block w5.heap.size (by simp) (by omega)).trans (heap_alloc_new w5 (.cells (rowB (b.at gp5 cp5 go5 co5 gf5 cf5)) 33)))
  have HX6 := Lib.hid ((ho6.block w4.heap.size (by simp; omega) (by omega)).trans ((Below.heap_alloc _ _ _ hs5).trans HX.out))
  have HB6 := Lib.hid ((ho6.block w.heap.size (by simp; omega) (by omega)).trans ((Below.heap_alloc _ _ _ (by omega)).trans HB5.out))
  have HP6 := Lib.hid ((HP5.out.alloc (.cells (rowB (b.at gp5 cp5 go5 co5 gf5 cf5)) 33)).only ho6 (by omega))
  clear b17 HX
  go_wp2_with fail
  refine (reftick_any _ w5.heap.size gp5 b.n cp5 ps (cells_of HY6.out 17) HP6.out (by omega) (by omega) HRng.out).mono ?_
  rintro e w7 ⟨rfl, hp7, ho7⟩
  have HX7 := Lib.hid ((ho7.block w4.heap.size (by omega) (by omega)).trans HX6.out)
  have HY7 := Lib.hid ((ho7.block w5.heap.size hs6 (by omega)).trans HY6.out)
  have HB7 := Lib.hid ((ho7.block w.heap.size (by omega) (by omega)).trans HB6.out)
  have HP7 := Lib.hid (hp6.only ho7 (by omega))
  clear HX6 HY6 HP6 HB6
  have hA : Only (fun x => x = gp ∨ x = gp5) w5 w7 := (((Only.refl (fun x => x = gp ∨ x = gp5) w5).alloc _).trans (ho6.mono fun _ h => .inl h)).trans (ho7.mono fun _ h => .inr h)
  have hr1 : Reads w7 (b.at gp cp go co gf cf) (fun j => tickF (ps j)) ss fs := Reads.at HRd.out HP7.out (Hs'.out.only hA (by intro g o h; cases h; rintro (h | h) <;> omega)) (Hf'.out.only hA (by intro g o h; cases h; rintro (h | h) <;> omega))
  have hr2 : Reads w7 (b.at gp5 cp5 go5 co5 gf5 cf5) (fun j => tickF (ps j)) ss fs := Reads.at HRd.out hp7 (Hs5.out.only hA (by intro g o h; cases h; rintro (h | h) <;> omega)) (Hf5.out.only hA (by intro g o h; cases h; rintro (h | h) <;> omega))
  have Hr1 := Lib.hid hr1
  have Hr2 := Lib.hid hr2
  have HW7 := Lib.hid (show Below w.heap.size w w7 from HW4.out.trans ((H45.out.mono HW4.out.size).trans (hA.below (B := w.heap.size) (Nat.le_trans HW4.out.size (by omega)) (fun x hx => by rcases hx with hx | hx <;> omega))))
  have Hv7 := Lib.hid (HR.out.below HW7.out).p
  have lX := (Array.getElem?_eq_some_iff.1 HX7.out).1
  have lY := (Array.getElem?_eq_some_iff.1 HY7.out).1
  have lB := (Array.getElem?_eq_some_iff.1 HB7.out).1
  have hn : b.n ≤ 1000 := by omega
  clear hr1 hr2 hA hp6 hp7 ho6 ho7 HP7
  obtain ⟨v1, hv1⟩ : ∃ x : Int, x = (if (ps k).b 3 = true then b.r.i 3 else 3) := ⟨_, rfl⟩
  obtain ⟨v2, hv2⟩ : ∃ x : Int, x = (if (ps k).b 45 = true then b.r.i 4 else b.r.i 5) := ⟨_, rfl⟩
  have C1 := Lib.hid (fun y : Old w7.heap.size w7 => edge_any b ps k y.w (Hv7.out.below y.h) hkn)
  have C2 := Lib.hid (fun y : Old w7.heap.size w7 => refedge_any b ps k y.w (Hv7.out.below y.h) hkn)
  have C3 := Lib.hid (fun y : Old w7.heap.size w7 => forward_any b ps k y.w (Hv7.out.below y.h) hkn)
  have C4 := Lib.hid (fun y : Old w7.heap.size w7 => refforward_any b ps k y.w (Hv7.out.below y.h) hkn)
  have C5 := Lib.hid (fun y : Old w7.heap.size w7 => synced_any b ps y.w (Hv7.out.below y.h) hn)
  have C6 := Lib.hid (fun y : Old w7.heap.size w7 => refsynced_any b ps y.w (Hv7.out.below y.h) hn)
  have C7 := Lib.hid (fun y : Old w7.heap.size w7 => rerooted_any b ps k y.w (Hv7.out.below y.h) hn)
  have C8 := Lib.hid (fun y : Old w7.heap.size w7 => refrerooted_any b ps k y.w (Hv7.out.below y.h) hn (fun j hj => HRng.out j hj 6 (by omega)))
  have C0 := Lib.hid (fun y : Old w7.heap.size w7 => same_any (b.at gp cp go co gf cf) (some ⟨gp5, 0, none⟩) cp5 (some ⟨go5, 0, none⟩) co5 (some ⟨gf5, 0, none⟩) cf5 _ ss fs y.w (Hr1.out.below y.h) (Hr2.out.below y.h))
  rw [← hv1] at C1 C2
  rw [← hv2] at C3 C4
  have Hx := Lib.hid (fun y : Old w7.heap.size w7 => row_old HX7.out lX y)
  have Hy := Lib.hid (fun y : Old w7.heap.size w7 => row_old HY7.out lY y)
  have Hz := Lib.hid (fun y : Old w7.heap.size w7 => row_old HB7.out lB y)
  have hne := Old.some w7.heap.size w7
  clear hv1 hv2
  cases hq5 : anyR (fun j => unsynced (ps j)) b.n <;> cases hq6 : anyR (lately ps k) b.n
  all_goals
    rw [hq5] at C5 C6
    rw [hq6] at C7 C8
    clear hq5 hq6
    go_wp2_with fail
    refine wp_region_old w7.heap.size (by kernel_rfl) (by kernel_rfl) ?_
    repeat (first | go_big_quiet_skip | (go_big_quiet_want; first | (refine quiet_row 33 _ rfl w4.heap.size 0 rfl (rowB (b.at gp cp go co gf cf)) _ (by rintro _ ⟨z, rfl⟩; exact Hx.out z) Try.underlying33 rfl (sizeB _) ?_; go_big_quiet_on; simp only [Act.put, List.setIfInBounds_toArray, List.set_cons_zero, List.set_cons_succ]) | (refine quiet_row 33 _ rfl w5.heap.size 0 rfl (rowB (b.at gp5 cp5 go5 co5 gf5 cf5)) _ (by rintro _ ⟨z, rfl⟩; exact Hy.out z) Try.underlying33 rfl (sizeB _) ?_; go_big_quiet_on; simp only [Act.put, List.setIfInBounds_toArray, List.set_cons_zero, List.set_cons_succ]) | (refine quiet_row 33 _ rfl w.heap.size 0 rfl (rowB b) _ (by rintro _ ⟨z, rfl⟩; exact Hz.out z) Try.underlying33 rfl (sizeB _) ?_; go_big_quiet_on; simp only [Act.put, List.setIfInBounds_toArray, List.set_cons_zero, List.set_cons_succ]) | (go_big_quiet_op; first | go_big_quiet_on | go_big_quiet_call ((go_at_call 14; exact Calls.old (by simp) (C0.out _))) | go_big_quiet_call ((go_at_call 18; exact Calls.old (by simp) (C1.out _))) | go_big_quiet_call ((go_at_call 19; exact Calls.old (by simp) (C2.out _))) | go_big_quiet_call ((go_at_call 20; exact Calls.old (by simp) (C3.out _))) | go_big_quiet_call ((go_at_call 21; exact Calls.old (by simp) (C4.out _))) | go_big_quiet_call ((go_at_call 22; exact Calls.old (by simp) (C5.out _))) | go_big_quiet_call ((go_at_call 23; exact Calls.old (by simp) (C6.out _))) | go_big_quiet_call ((go_at_call 16; exact Calls.old (by simp) (C7.out _))) | go_big_quiet_call ((go_at_call 24; exact Calls.old (by simp) (C8.out _))))))
    refine wpQuiet_nil ?_
    rintro _ ⟨y, rfl⟩
    have hy := y.h
    obtain ⟨w8, hw8⟩ := y
    simp only [] at hy ⊢
    have H8 := Lib.hid hy
    clear hy hw8 hne C0 C1 C2 C3 C4 C5 C6 C7 C8 Hx Hy Hz
    go_wp2_with fail
    go_ret
    exact ⟨rfl, HW7.out.trans (H8.out.mono HW7.out.size)⟩
end Go.Proofs.Ytpnlblkeckpmnaa.Br
