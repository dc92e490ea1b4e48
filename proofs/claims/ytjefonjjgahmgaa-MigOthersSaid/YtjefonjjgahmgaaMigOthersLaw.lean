/- Law MigOthers of the protocol migration machine: the walk joined with the plain law. -/
import Derived.Test.YtjefonjjgahmgaaAwake10
import Derived.Test.YtjefonjjgahmgaaOpen
import Derived.Test.YtjefonjjgahmgaaWhole
import Derived.StillTailTactics
import Derived.BigQuiet
import Derived.Deep.RegionHeld
set_option linter.unusedSimpArgs false
namespace Go.Proofs.Ytjefonjjgahmgaa.Br
open Go.RowKit
theorem at_17 (b : Bri) (gp cp go co gf cf : Nat) : (rowB (b.at gp cp go co gf cf))[17]? = some (.slice (some ⟨gp, 0, none⟩) b.n cp) := rfl
theorem at_1 (b : Bri) (gp cp go co gf cf : Nat) : (rowB (b.at gp cp go co gf cf))[1]? = some (.bool (b.r.b 1)) := rfl
attribute [local go_sem] zeroBr at_17 at_1
theorem row_held {W : World} {g B : Nat} {C : Array Value} {T : TypeId} {fr : Nat × Nat} (h : W.heap[g]? = some (.cells C T fr)) (hB : g < B) : ∀ w, Below B W w → w.rangeAt g 0 C.toList := fun w hw j v hv => by
  rw [Nat.zero_add, cells_of ((hw.block g hB).trans h) j]
  simpa using hv
theorem View.only {S : Nat → Prop} {w w' : World} {a : Option Addr} {sz n : Nat} {c : Nat → Nat → Value} (h : View w a sz n c) (hb : Only S w w') (hn : ∀ g o, a = some ⟨g, o, none⟩ → ¬ S g) : View w' a sz n c := by
  rcases h with h | ⟨g, o, ha, hc⟩
  · exact .inl h
  · exact .inr ⟨g, o, ha, fun k hk j hj => by rw [hb.cell (p := ⟨g, _, none⟩) (cell_lt (hc k hk j hj)) (hn g o ha)]; exact hc k hk j hj⟩
theorem Reads.at {w w' : World} {b : Bri} {ps qs ss : Nat → Rec} {fs : Nat → Int} {gp cp go co gf cf : Nat} (hr : Reads w b ps ss fs) (hp : Ports w' gp b.n qs) (hs : View w' (some ⟨go, 0, none⟩) 18 b.no fun k j => cellS (ss k) j)
    (hf : View w' (some ⟨gf, 0, none⟩) 1 b.nf fun k _ => .int .i64 (fs k)) : Reads w' (b.at gp cp go co gf cf) qs ss fs :=
  ⟨.inr ⟨gp, 0, rfl, fun k hk j hj => by rw [Nat.zero_add]; exact hp.cell hk hj⟩, hs, hf, (fun h => by cases h), (fun h => by cases h), (fun h => by cases h), hr.pb, hr.sb, hr.fb⟩
theorem put_block {w : World} {g : Nat} {C : Array Value} {T : TypeId} (h : w.heap[g]? = some (.cells C T (0, 0))) (j : Nat) (v : Value) : (w.setCell ⟨g, j, none⟩ v).heap[g]? = some (.cells (C.setIfInBounds j v) T (0, 0)) := by
  simp [World.setCell, Array.getElem?_modify, h]
theorem free_block {w : World} {g : Nat} {C : Array Value} {T : TypeId} (h : w.heap[g]? = some (.cells C T (0, 0))) (j : Nat) : w.frozen? ⟨g, j, none⟩ = false := by
  simp [World.frozen?, h]
set_option maxRecDepth 100000 in
set_option maxHeartbeats 8000000 in
theorem others_any (b : Bri) (ps ss : Nat → Rec) (fs : Nat → Int) (w : World) (i : Nat) (hi : i ≤ 255) (h : Reads0 w b ps ss fs) :
    Calls Try.prog 7 #[.agg (rowB b), .int .u8 i] w fun e w' => e = .returned (.bool true) ∧ Below w.heap.size w w' := by
  have HR := Lib.hid h
  clear h
  go_enter Try.func7, Try.ntmps7
  go_wp2_with fail
  refine (awake_any _).mono ?_
  rintro e w1 ⟨rfl, hb1⟩
  have HB : Hid (w1.heap[w.heap.size]? = some (.cells (rowB b) 33 (0, 0))) := (hb1.block _ (by simp)).trans (at_new rfl)
  have HW1 := Lib.hid (andthen (more (Below.refl w.heap.size w) _) hb1)
  clear hb1
  go_wp2_with (first | (refine loadB rfl rfl _ rfl w.heap.size rfl b HB.out ?_; simp only [Act.put, List.setIfInBounds_toArray, List.set_cons_zero, List.set_cons_succ]) | fail)
  refine (few_any b ps _ (HR.out.below HW1.out).p).mono ?_
  rintro e w2 ⟨r, rfl, hr, hb2⟩
  have HB' : Hid (w2.heap[w.heap.size]? = some (.cells (rowB b) 33 (0, 0))) := (hb2.block _ (Array.getElem?_eq_some_iff.1 HB.out).1).trans HB.out
  have HW2 := Lib.hid (andthen HW1.out hb2)
  have Hr := Lib.hid hr
  clear hb2 hr HB HW1
  cases r
  · go_wp2_with fail
    go_ret
    exact ⟨rfl, HW2.out⟩
  have HL := Lib.hid (Hr.out rfl)
  clear Hr
  have HB := HB'
  clear HB'
  have hn1 : 0 < b.n := HL.out.2.1
  have hn8 : b.n ≤ 8 := HL.out.2.2.1
  go_wp2_with (first | (refine loadB rfl rfl _ rfl w.heap.size rfl b HB.out ?_; simp only [Act.put, List.setIfInBounds_toArray, List.set_cons_zero, List.set_cons_succ]) | fail)
  refine (at_any b i _ hi hn1 hn8).mono ?_
  rintro e w3 ⟨rfl, hb3⟩
  have HB' : Hid (w3.heap[w.heap.size]? = some (.cells (rowB b) 33 (0, 0))) := (hb3.block _ (Array.getElem?_eq_some_iff.1 HB.out).1).trans HB.out
  have HW3 := Lib.hid (andthen HW2.out hb3)
  clear hb3 HB HW2
  have HB := HB'
  clear HB'
  obtain ⟨k, hk⟩ : ∃ k, k = i % b.n := ⟨_, rfl⟩
  have hkn : k < b.n := by rw [hk]; exact Nat.mod_lt _ hn1
  rw [← hk]
  have Hk := Lib.hid hk
  clear hk
  go_wp2_with (first | (refine loadB rfl rfl _ rfl w.heap.size rfl b HB.out ?_; simp only [Act.put, List.setIfInBounds_toArray, List.set_cons_zero, List.set_cons_succ]) | fail)
  refine (clone_any b ps ss fs _ ((HR.out.below HW3.out).looked HL.out)).mono ?_
  rintro e w4 ⟨gp, cp, go, co, gf, cf, rfl, hp1, hp2, hp3, op, os, of, hb⟩
  have HP := Lib.hid op.ports
  have hgl := op.lt
  have hgo := os.lt
  have hgf := of.lt
  have HW4 := Lib.hid (andthen HW3.out hb)
  have hge : w.heap.size ≤ gp := Nat.le_trans HW3.out.size hp1
  have HB' : Hid (w4.heap[w.heap.size]? = some (.cells (rowB b) 33 (0, 0))) := (hb.block _ (Array.getElem?_eq_some_iff.1 HB.out).1).trans HB.out
  have hlt : w.heap.size < w4.heap.size := (Array.getElem?_eq_some_iff.1 HB'.out).1
  have Hs := Lib.hid os.view
  have Hf := Lib.hid of.view
  have hlt3 : w.heap.size < w3.heap.size := (Array.getElem?_eq_some_iff.1 HB.out).1
  clear op os of hb HB
  have HB := HB'
  clear HB'
  rcases HR.out.p with h0 | ⟨g0, o0, hap, hc⟩
  · omega
  have HC := Lib.hid hc
  clear hc
  have Hap := Lib.hid hap
  clear hap
  go_wp2_with (first | (refine wpList_store_at rfl 33 _ _ rfl _ (rowB zeroBri) 33 (rowB (b.at gp cp go co gf cf)) _ rfl rfl rfl rfl (sizeB _) rfl (rowB_one _) ?_; simp only [Act.put]) | fail)
  refine (step_on _ _ gp b.n cp k ps (ps k) (b.r.b 1) hkn (by simp) (by simp; omega) ?hb ?hr ?hp).mono ?_
  case hp => exact ((HP.out.start k).alloc _)
  case hb => simp [go_sem]
  case hr => simp [go_sem]
  rintro e w5 ⟨rfl, hp5, ho5, hb5, hr5⟩
  have hA5 := (Only.refl (· = gp) w4).alloc _ |>.trans ho5
  have d5 : w4.heap.size < w5.heap.size := by have := ho5.size; simp at this; omega
  have hX5 : w5.heap[w4.heap.size]? = some (.cells (rowB (b.at gp cp go co gf cf)) 33 (0, 0)) := (ho5.block _ (by simp) (by omega)).trans (heap_alloc_new _ _)
  have HX5 := Lib.hid hX5
  have HB5 := Lib.hid ((hA5.block _ hlt (show ¬ w.heap.size = gp by omega)).trans HB.out)
  have HP5 := Lib.hid hp5
  have HA5 := Lib.hid hA5
  have hg0 : g0 < w.heap.size := cell_lt (HC.out k hkn 0 (by omega))
  clear hX5 hp5 hA5 HB ho5 hb5 hr5
  go_wp2_with fail
  go_loopw [9] (fun i wr => ∃ m : Nat, m ≤ b.n ∧ i = .int .i64 m ∧ Hid (Below w5.heap.size w5 wr)) (fun i _ => b.n - (intOf i).toNat)
  case atStart => exact ⟨0, by omega, rfl, Below.refl _ _⟩
  case round =>
    obtain ⟨m, hm, rfl, hWr⟩ := hrel
    have hs5 := hWr.out.size
    have HXr := Lib.hid ((hWr.out.block _ d5).trans HX5.out)
    have HBr := Lib.hid ((hWr.out.block _ (by omega)).trans HB5.out)
    have ex : wr.cell? ⟨w4.heap.size, 17, none⟩ = some (.slice (some ⟨gp, 0, none⟩) b.n cp) := cells_of HXr.out 17
    have ey : wr.cell? ⟨w.heap.size, 17, none⟩ = some (.slice (some ⟨g0, o0, none⟩) b.n b.cp) := by
      rw [← Hap.out]
      exact cells_of HBr.out 17
    have hm0 : (0 : Int) ≤ m := by omega
    by_cases hlm : m < b.n
    · have hm1 : (m : Int) < b.n := by omega
      have dl : decide ((m : Int) < b.n) = true := decide_eq_true hm1
      by_cases hmk : m = k
      · subst hmk
        have dk : ((m : Int) != (m : Int)) = false := bne_self_eq_false _
        have hne := Old.some wr.heap.size wr
        go_wp2_with fail
        refine wp_region_old wr.heap.size (by kernel_rfl) (by kernel_rfl) ?_
        repeat (first | go_big_quiet_skip | (go_big_quiet_want; go_big_quiet_op; go_big_quiet_on))
        refine wpQuiet_nil ?_
        rintro _ ⟨z, rfl⟩
        have hz := hWr.out.trans (z.h.mono (by omega))
        obtain ⟨wz, hwz⟩ := z
        simp only [] at hz ⊢
        have Hz := Lib.hid hz
        clear hz hwz hne ex ey
        go_wp2_with fail
        go_roundw
        case rel => exact ⟨m + 1, by omega, by go_num, Hz.out⟩
        case measure => simp [intOf]; omega
      · have dk : ((m : Int) != k) = true := bne_iff_ne.2 (by omega)
        have zx : ∀ z : Old wr.heap.size wr, z.w.cell? ⟨w4.heap.size, 17, none⟩ = some (.slice (some ⟨gp, 0, none⟩) b.n cp) := fun z => (z.h.cell (p := ⟨w4.heap.size, 17, none⟩) (by show w4.heap.size < _; omega)).trans ex
        have zy : ∀ z : Old wr.heap.size wr, z.w.cell? ⟨w.heap.size, 17, none⟩ = some (.slice (some ⟨g0, o0, none⟩) b.n b.cp) := fun z => (z.h.cell (p := ⟨w.heap.size, 17, none⟩) (by show w.heap.size < _; omega)).trans ey
        have Rx := Lib.hid (fun z : Old wr.heap.size wr => show z.w.rangeAt gp (m * 89) (rowP (ps m)).toList by
          have h := ((HP5.out.below hWr.out (by have := HP5.out.lt; omega)).below z.h (by have := HP5.out.lt; omega)).range hlm
          rw [upd_other _ _ hmk] at h
          exact h)
        have Ry := Lib.hid (fun z : Old wr.heap.size wr => show z.w.rangeAt g0 (o0 + m * 89) (rowP (ps m)).toList from fun j v hj => by
          have hj' : j < 89 := by
            have := (List.getElem?_eq_some_iff.1 hj).1
            simpa [rowP_size] using this
          rw [Nat.add_assoc, z.h.cell (p := ⟨g0, _, none⟩) (by show g0 < _; omega), hWr.out.cell (p := ⟨g0, _, none⟩) (by show g0 < _; omega), HA5.out.cell (p := ⟨g0, _, none⟩) (by show g0 < _; omega) (by show ¬ g0 = gp; omega), HW4.out.cell (p := ⟨g0, _, none⟩) hg0, HC.out m hlm j hj', ← rowP_get hj']
          simpa using hj)
        have hne := Old.some wr.heap.size wr
        go_wp2_with fail
        refine wp_region_old wr.heap.size (by kernel_rfl) (by kernel_rfl) ?_
        repeat (first | go_big_quiet_skip | (go_big_quiet_want; first | (refine quiet_row 52 _ rfl gp (m * 89) rfl (rowP (ps m)) _ (by rintro _ ⟨z, rfl⟩; exact Rx.out z) Try.underlying52 rfl (sizeP _) ?_; go_big_quiet_on; simp only [Act.put, List.setIfInBounds_toArray, List.set_cons_zero, List.set_cons_succ]) | (refine quiet_row 52 _ rfl g0 (o0 + m * 89) rfl (rowP (ps m)) _ (by rintro _ ⟨z, rfl⟩; exact Ry.out z) Try.underlying52 rfl (sizeP _) ?_; go_big_quiet_on; simp only [Act.put, List.setIfInBounds_toArray, List.set_cons_zero, List.set_cons_succ]) | (refine quiet_neqP _ _ rfl (ps m) rfl rfl ?_; go_big_quiet_on; simp only [Act.put, List.setIfInBounds_toArray, List.set_cons_zero, List.set_cons_succ]) | (go_big_quiet_op; go_big_quiet_on)))
        refine wpQuiet_nil ?_
        rintro _ ⟨z, rfl⟩
        have hz := hWr.out.trans (z.h.mono (by omega))
        obtain ⟨wz, hwz⟩ := z
        simp only [] at hz ⊢
        have Hz := Lib.hid hz
        clear hz hwz hne ex ey zx zy
        go_wp2_with fail
        go_roundw
        case rel => exact ⟨m + 1, by omega, by go_num, Hz.out⟩
        case measure => simp [intOf]; omega
    · have dl : decide ((m : Int) < b.n) = false := decide_eq_false (by omega)
      have f17 := free_block HXr.out 17
      go_wp2_with fail
      obtain ⟨wz, hwz⟩ : ∃ x, x = wr.setCell ⟨w4.heap.size, 17, none⟩ (.slice (some ⟨g0, o0, none⟩) b.n b.cp) := ⟨_, rfl⟩
      rw [← hwz]
      have HX := Lib.hid (show wz.heap[w4.heap.size]? = some (.cells (rowB { b.at gp cp go co gf cf with ap := some ⟨g0, o0, none⟩, n := b.n, cp := b.cp }) 33 (0, 0)) by
        rw [hwz, ← rowB_put_17]
        exact put_block HXr.out 17 _)
      have HB7 := Lib.hid (show wz.heap[w.heap.size]? = some (.cells (rowB b) 33 (0, 0)) by
        rw [hwz]
        exact (Below.heap_setCell _ _ _ _ (show w.heap.size ≠ w4.heap.size by omega)).trans HBr.out)
      have HA7 := Lib.hid (show Only (fun x => x = gp ∨ x = w4.heap.size) w4 wz by
        rw [hwz]
        exact ((HA5.out.mono fun _ h => .inl h).trans (Only.of_below (hWr.out))).setCell (Or.inl (.inr rfl)) _)
      have d7 : w4.heap.size < wz.heap.size := (Array.getElem?_eq_some_iff.1 HX.out).1
      have d7' : w.heap.size < wz.heap.size := (Array.getElem?_eq_some_iff.1 HB7.out).1
      clear hwz f17 ex ey HXr HBr
      refine wp_region_held_drew (S := fun w' => Below wz.heap.size wz w') (by kernel_rfl) (Below.refl _ _).drew (fun hH => ?_)
      refine wpAnyH_take (i := 0) rfl (by kernel_rfl) (by kernel_rfl) (by kernel_rfl) (fun _ _ _ h => h) (Or.inl ⟨by rfl, fun w _ => rfl⟩) hH ?_
      simp only [Act.put, List.setIfInBounds_toArray]
      refine wpAnyH_take (i := 1) rfl (by kernel_rfl) (by kernel_rfl) (by kernel_rfl) (fun _ _ _ h => h) (Or.inl ⟨by rfl, fun w _ => rfl⟩) hH ?_
      simp only [Act.put]
      refine wpAnyH_take (i := 2) rfl (by kernel_rfl) (by kernel_rfl) (by kernel_rfl) (fun _ _ _ h => h) (yieldsIf_load_mid (by rfl) 33 _ rfl w4.heap.size 0 rfl (rowB { b.at gp cp go co gf cf with ap := some ⟨g0, o0, none⟩, n := b.n, cp := b.cp }).toList _ (row_held HX.out d7) Try.underlying33 rfl (sizeB _)) hH ?_
      simp only [Act.put]
      refine wpAnyH_take (i := 3) rfl (by kernel_rfl) (by kernel_rfl) (by kernel_rfl) (fun _ _ _ h => h) (yieldsIf_load_mid (by rfl) 33 _ rfl w.heap.size 0 rfl (rowB b).toList _ (row_held HB7.out d7') Try.underlying33 rfl (sizeB _)) hH ?_
      simp only [Act.put]
      refine wpAnyH_ready (rs := [4]) (by kernel_rfl) (by simp) (AllReadyH.cons rfl (fun K hK => ?_) AllReadyH.nil)
      go_simp
      have hR0 := HR.out
      have hRd := ((hR0.below (HW4.out.trans (HA7.out.below HW4.out.size (fun k hk => by rcases hk with hk | hk <;> omega)))).looked HL.out).below ((Below.refl wz.heap.size wz).drew)
      refine (clone_any b ps ss fs _ hRd).mono ?_
      rintro e w8 ⟨gp8, cp8, go8, co8, gf8, cf8, rfl, q1, q2, q3, op8, os8, of8, hb8⟩
      have hb78 : Below wz.heap.size wz w8 := (Below.refl wz.heap.size wz).drew.trans hb8
      have HB78 := Lib.hid hb78
      refine hK.out _ _ hb78 (fun hH8 => ?_)
      clear hK K
      have s1 : w4.heap.size ≤ wz.heap.size := HA7.out.size
      have hr1 : Reads w8 { b.at gp cp go co gf cf with ap := some ⟨g0, o0, none⟩, n := b.n, cp := b.cp } ps ss fs := ⟨(by have h : View w8 b.ap 89 b.n fun k j => cellP (ps k) j := hRd.p.below hb8; rw [Hap.out] at h; exact h), (Hs.out.only HA7.out (by intro g o h; cases h; rintro (h | h) <;> omega)).below hb78, (Hf.out.only HA7.out (by intro g o h; cases h; rintro (h | h) <;> omega)).below hb78, (fun h => by cases h), (fun h => by cases h), (fun h => by cases h), hRd.pb, hRd.sb, hRd.fb⟩
      have hr2 : Reads w8 (b.at gp8 cp8 go8 co8 gf8 cf8) ps ss fs := Reads.at hRd op8.ports os8.view of8.view
      refine wpAnyH_ready (rs := [5]) (by kernel_rfl) (by simp) (AllReadyH.cons rfl (fun K hK => ?_) AllReadyH.nil)
      go_simp
      refine (same_any { b.at gp cp go co gf cf with ap := some ⟨g0, o0, none⟩, n := b.n, cp := b.cp } (some ⟨gp8, 0, none⟩) cp8 (some ⟨go8, 0, none⟩) co8 (some ⟨gf8, 0, none⟩) cf8 ps ss fs _ hr1 hr2).mono ?_
      rintro e w9 ⟨rfl, hb9⟩
      have hb79 : Below wz.heap.size wz w9 := hb78.trans (hb9.mono hb78.size)
      refine hK.out _ _ hb79 (fun hH9 => ?_)
      clear hK K
      refine wpAnyH_ready (rs := [6]) (by kernel_rfl) (by simp) (AllReadyH.cons rfl (fun K hK => ?_) AllReadyH.nil)
      go_simp
      refine hK.out _ _ hb79 (fun _ => ?_)
      clear hK K
      refine wpAnyH_ready (rs := [7]) (by kernel_rfl) (by simp) (AllReadyH.cons rfl (fun K hK => ?_) AllReadyH.nil)
      go_simp
      refine hK.out _ _ hb79 (fun _ => ?_)
      clear hK K
      refine wpAnyH_done (by kernel_rfl) ?_ _
      go_wp2_with fail
      go_ret
      exact ⟨rfl, HW4.out.trans ((HA7.out.below HW4.out.size (fun k hk => by rcases hk with hk | hk <;> omega)).trans (hb79.mono (Nat.le_trans HW4.out.size s1)))⟩
end Go.Proofs.Ytjefonjjgahmgaa.Br
