/- Chapter 15: the rows of a designated port (ford/trans.port.designated). Condition: the bridge lies in memory. -/
import Derived.Test.YtdangeefecdbaaaTr7
import Derived.Test.YtdangeefecdbaaaTrq
set_option linter.unusedSimpArgs false
set_option linter.unusedVariables false
namespace Go.Proofs.Ytdangeefecdbaaa.Br
open Go.RowKit
/-- Goes nothing through a port? -/
def quietF (p : Rec) : Bool := !p.b 29 && !p.b 27
/-- May a designated port go on? -/
def onD (p : Rec) : Bool := ((p.i 7 == 0 || p.b 23) || p.b 32) && (!p.b 42 || p.i 12 == 0) && !p.b 46
/-- Is a designated port to stop? -/
def stopD (p : Rec) : Bool := ((p.b 46 && !p.b 47) || (p.b 42 && p.i 12 != 0)) || p.b 24
/-- The rows of a designated port. -/
def desL (b : Bri) (k : Nat) (p : Rec) (ps : Nat → Rec) : List (Bool × (Nat → Rec)) :=
  [(((!p.b 26 && !p.b 23) && !p.b 34) && !p.b 32, upd ps k (propF b p)), ((!p.b 47 && ((quietF p || p.b 23) || p.b 32)) || (p.b 47 && p.b 46), upd ps k (syncedF p)), (p.b 42 && p.i 12 == 0, upd ps k (p.setB 42 false)), (((p.b 28 || p.b 26) && !p.b 32) && stopD p, upd ps k (stopF b p)), (onD p && !p.b 28, upd ps k ((p.setB 28 true).setI 7 (fwdN b p))), ((onD p && p.b 28) && !p.b 26, upd ps k (openF p))]
/-- The last region's order. -/
def desLight : List (Option Nat × List Nat × List Nat) :=
  [(some 92, [3], []), (some 93, [92], [0]), (some 94, [93], [1]), (some 95, [94], [2]), (some 96, [95], [3]), (some 97, [96], [4]), (some 98, [3, 97], [5]), (some 99, [98, 97], [6, 5]), (some 100, [99, 97], [7, 5]), (some 101, [100, 97], [8, 5]), (some 102, [101, 97], [9, 5]), (some 103, [97, 102], [5, 10]), (some 104, [103], [11, 5]), (some 105, [3, 104], [12]), (some 106, [105, 104], [13, 12]), (some 107, [106, 104], [14, 12]), (some 108, [107, 104], [15, 12]), (some 109, [108, 104], [16, 12]), (some 110, [104, 109], [12, 17]), (some 111, [110], [18, 12]), (some 112, [3, 111], [19]), (some 113, [112, 111], [20, 19]), (some 114, [113, 111], [21, 19]), (some 115, [114, 111], [22, 19]), (some 116, [115, 111], [23, 19]), (some 117, [111, 116], [19, 24]), (some 118, [1, 3, 4], []), (some 119, [117, 118], [25, 26]), (some 120, [3], []), (some 121, [120], [28]), (some 122, [121], [29]), (some 123, [122], [30]), (some 124, [123], [31]), (some 125, [124], [32, 19]), (some 126, [5, 125], [33]), (some 127, [126, 125], [34, 33, 33]), (some 128, [3, 127], [35]), (some 129, [128, 127], [36, 35]), (some 130, [129, 127], [37, 35]), (some 131, [130, 127], [38, 35]), (some 132, [127, 131, 125], [35, 39, 33]), (some 133, [132, 125], [40, 35, 33]), (some 134, [3, 133], [41]), (some 135, [134, 133], [42, 41]), (some 136, [135, 133], [43, 41]), (some 137, [136, 133], [44, 41]), (some 138, [133, 137, 125], [41, 45, 33]), (some 139, [125, 138], [33, 46]), (some 140, [139], [47, 41]), (some 141, [3, 140], [48]), (some 142, [141, 140], [49, 48]), (some 143, [142, 140], [50, 48]), (some 144, [143, 140], [51, 48]), (some 145, [144, 140], [52, 48, 48]), (some 146, [3, 145], [53]), (some 147, [146, 145], [54, 53]), (some 148, [147, 145], [55, 53]), (some 149, [148, 145], [56, 53]), (some 150, [145, 149, 140], [53, 57, 48]), (some 151, [140, 150], [48, 58]), (some 152, [4, 3], []), (some 153, [151, 152], [59, 60]), (some 154, [3], []), (some 155, [154], [62]), (some 156, [155], [63]), (some 157, [156], [64]), (some 158, [157], [65, 53]), (some 159, [4, 158], [66]), (some 160, [159, 158], [67, 66]), (some 161, [160, 158], [68, 66]), (some 162, [161, 158], [69, 66]), (some 163, [162, 158], [70, 66]), (some 164, [158, 163], [66, 71]), (some 165, [3], []), (some 166, [164, 165], [72, 73]), (some 167, [3], []), (some 168, [167], [75]), (some 169, [168], [76]), (some 170, [169], [77]), (some 171, [170], [78, 66]), (some 172, [3, 171], [79]), (some 173, [172, 171], [80, 79]), (some 174, [173, 171], [81, 79]), (some 175, [174, 171], [82, 79]), (some 176, [171, 175], [79, 83]), (some 177, [176], [84, 79]), (some 178, [3, 177], [85]), (some 179, [178, 177], [86, 85]), (some 180, [179, 177], [87, 85]), (some 181, [180, 177], [88, 85]), (some 182, [181, 177], [89, 85]), (some 183, [177, 182], [85, 90]), (some 184, [183], [91, 85]), (some 185, [7, 184], [92]), (some 186, [184, 185], [92, 93]), (some 187, [3, 1, 4], []), (some 188, [186, 187], [94, 95]), (some 189, [6], []), (some 190, [189], [97, 92]), (some 191, [3, 190], [98]), (some 192, [191, 190], [99, 98]), (some 193, [192, 190], [100, 98]), (some 194, [193, 190], [101, 98]), (some 195, [194, 190], [102, 98]), (some 196, [190, 195], [98, 103]), (some 197, [1], []), (some 198, [197], [105]), (some 199, [196, 198], [104, 106]), (some 200, [6], []), (some 201, [200], [108, 98]), (some 202, [3, 201], [109]), (some 203, [202, 201], [110, 109]), (some 204, [203, 201], [111, 109]), (some 205, [204, 201], [112, 109]), (some 206, [201, 205], [109, 113]), (some 207, [206], [114, 109]), (some 208, [3, 207], [115]), (some 209, [208, 207], [116, 115]), (some 210, [209, 207], [117, 115]), (some 211, [210, 207], [118, 115]), (some 212, [211, 207], [119, 115]), (some 213, [207, 212], [115, 120]), (some 214, [3, 4], []), (some 215, [213, 214], [121, 122]), (some 216, [119, 153, 166, 188, 199, 215], [27, 61, 74, 96, 107, 123]), (some 2, [216], [124, 115, 0, 1, 2, 3, 4, 5, 6, 7, 8, 9, 10, 11, 12, 13, 14, 15, 16, 17, 18, 19, 20, 21, 22, 23, 24, 25, 26, 27, 28, 29, 30, 31, 32, 33, 34, 35, 36, 37, 38, 39, 40, 41, 42, 43, 44, 45, 46, 47, 48, 49, 50, 51, 52, 53, 54, 55, 56, 57, 58, 59, 60, 61, 62, 63, 64, 65, 66, 67, 68, 69, 70, 71, 72, 73, 74, 75, 76, 77, 78, 79, 80, 81, 82, 83, 84, 85, 86, 87, 88, 89, 90, 91, 92, 93, 94, 95, 96, 97, 98, 99, 100, 101, 102, 103, 104, 105, 106, 107, 108, 109, 110, 111, 112, 113, 114, 115, 116, 117, 118, 119, 120, 121, 122, 123, 124])]
set_option maxRecDepth 100000 in
theorem desOrder : orderOk 124 0 desLight = true := by kernel_rfl
attribute [local go_sem] bldRow mkRows1 mkRows2 mkRows4 mkRows5 mkRows6
set_option maxRecDepth 100000 in
set_option maxHeartbeats 16000000 in
theorem designated_any (w : World) (bx g k : Nat) (b : Bri) (ps ss : Nat → Rec) (fs : Nat → Int) (p : Rec) (h : Bst w bx g b (upd ps k p) ss fs) (hk : k < b.n) : Calls Try.prog 33 #[.agg #[.pointer (some ⟨bx, 0, none⟩), .int .i64 k, .pointer (some ⟨g, k * 89, none⟩), .pointer (some ⟨g, k * 89 + 22, none⟩), .pointer (some ⟨g, k * 89 + 6, none⟩)]] w fun e w' => ∃ v, e = .returned v ∧ Rows bx g b ss fs w' v (desL b k p ps) ∧ Below w.heap.size w w' := by
  go_enter Try.func33, Try.ntmps33
  go_upto_region 1 with (fail)
  refine ((?_ : ∀ x, x = w.alloc (.cells #[.pointer (some ⟨bx, 0, none⟩), .int .i64 k, .pointer (some ⟨g, k * 89, none⟩), .pointer (some ⟨g, k * 89 + 22, none⟩), .pointer (some ⟨g, k * 89 + 6, none⟩)] 57) → Code.wp _ _ _ _ x) _ rfl)
  intro w1 hw1
  obtain ⟨gx, hgx⟩ : ∃ x, x = w.heap.size := ⟨_, rfl⟩
  rw [← hgx]
  have hX1 : w1.heap[gx]? = some (.cells #[.pointer (some ⟨bx, 0, none⟩), .int .i64 k, .pointer (some ⟨g, k * 89, none⟩), .pointer (some ⟨g, k * 89 + 22, none⟩), .pointer (some ⟨g, k * 89 + 6, none⟩)] 57 (0, 0)) := by rw [hw1, hgx]; exact heap_alloc_new _ _
  have h1 : Bst w1 bx g b (upd ps k p) ss fs := by rw [hw1]; exact h.below (more (Below.refl _ _) _)
  have hbw : Below w.heap.size w w1 := by rw [hw1]; exact more (Below.refl _ _) _
  have HBW := Lib.hid hbw
  have HGX := Lib.hid hgx
  have ho1 : Only (· = g) w w1 := by rw [hw1]; exact (Only.refl _ _).alloc _
  have ngx : ¬ gx = g := by have := h.p.lt; omega
  have nxg : ¬ g = gx := by have := h.p.lt; omega
  have nxb : ¬ gx = bx := by have := h.lt; omega
  have H1 := Lib.hid h1
  have HO1 := Lib.hid ho1
  have lx := (Array.getElem?_eq_some_iff.1 hX1).1
  have HX1 := Lib.hid hX1
  clear hw1 hgx hX1 h1 ho1 h hbw
  have x0 : w1.cell? ⟨gx, 0, none⟩ = some (.pointer (some ⟨bx, 0, none⟩)) := cells_of HX1.out 0
  have x1 : w1.cell? ⟨gx, 1, none⟩ = some (.int .i64 k) := cells_of HX1.out 1
  have x2 : w1.cell? ⟨gx, 2, none⟩ = some (.pointer (some ⟨g, k * 89, none⟩)) := cells_of HX1.out 2
  have x3 : w1.cell? ⟨gx, 3, none⟩ = some (.pointer (some ⟨g, k * 89 + 22, none⟩)) := cells_of HX1.out 3
  have x4 : w1.cell? ⟨gx, 4, none⟩ = some (.pointer (some ⟨g, k * 89 + 6, none⟩)) := cells_of HX1.out 4
  go_upto_region 1 with (fail)
  go_cut [3, 4] from 8 to 11 (fun c3 c4 w' => ∃ gf gc, c3 = .pointer (some ⟨gf, 0, none⟩) ∧ c4 = .pointer (some ⟨gc, 0, none⟩) ∧ Hid (Below w1.heap.size w1 w') ∧ Hid (w'.cell? ⟨gf, 0, none⟩ = some (.pointer (some ⟨g, k * 89 + 22, none⟩))) ∧ Hid (w'.cell? ⟨gc, 0, none⟩ = some (.pointer (some ⟨g, k * 89 + 6, none⟩))) ∧ Hid (w1.heap.size ≤ gf ∧ w1.heap.size ≤ gc))
  case first =>
    refine wp_region_held_drew (S := fun w' => Below w1.heap.size w1 w') (by kernel_rfl) (Below.refl _ _).drew (fun hH => ?_)
    refine wpAnyH_take (i := 0) (v := .pointer (some ⟨gx, 3, none⟩)) rfl (by kernel_rfl) (by kernel_rfl) (by kernel_rfl) (fun _ _ _ h => h) (Or.inl ⟨by kernel_rfl, fun z hz => by simp [go_sem, execOp]⟩) hH ?_
    simp only [List.getElem_toArray, List.getElem_cons_succ, List.getElem_cons_zero, Act.put, List.setIfInBounds_toArray, List.set_cons_zero, List.set_cons_succ]
    refine wpAnyH_take (i := 1) (v := .pointer (some ⟨g, k * 89 + 22, none⟩)) rfl (by kernel_rfl) (by kernel_rfl) (by kernel_rfl) (fun _ _ _ h => h) (Or.inl ⟨by kernel_rfl, fun z hz => by simp [go_sem, execOp, (show z.cell? ⟨gx, 3, none⟩ = some (.pointer (some ⟨g, k * 89 + 22, none⟩)) from (hz.cell (p := ⟨gx, 3, none⟩) lx).trans x3)]⟩) hH ?_
    simp only [List.getElem_toArray, List.getElem_cons_succ, List.getElem_cons_zero, Act.put, List.setIfInBounds_toArray, List.set_cons_zero, List.set_cons_succ]
    refine wpAnyH_take (i := 2) (v := .pointer (some ⟨gx, 4, none⟩)) rfl (by kernel_rfl) (by kernel_rfl) (by kernel_rfl) (fun _ _ _ h => h) (Or.inl ⟨by kernel_rfl, fun z hz => by simp [go_sem, execOp]⟩) hH ?_
    simp only [List.getElem_toArray, List.getElem_cons_succ, List.getElem_cons_zero, Act.put, List.setIfInBounds_toArray, List.set_cons_zero, List.set_cons_succ]
    refine wpAnyH_take (i := 3) (v := .pointer (some ⟨g, k * 89 + 6, none⟩)) rfl (by kernel_rfl) (by kernel_rfl) (by kernel_rfl) (fun _ _ _ h => h) (Or.inl ⟨by kernel_rfl, fun z hz => by simp [go_sem, execOp, (show z.cell? ⟨gx, 4, none⟩ = some (.pointer (some ⟨g, k * 89 + 6, none⟩)) from (hz.cell (p := ⟨gx, 4, none⟩) lx).trans x4)]⟩) hH ?_
    simp only [List.getElem_toArray, List.getElem_cons_succ, List.getElem_cons_zero, Act.put, List.setIfInBounds_toArray, List.set_cons_zero, List.set_cons_succ]
    refine wpAnyH_ready (rs := [4, 5]) (by kernel_rfl) (by simp) (AllReadyH.cons rfl (fun K hK => ?_) (AllReadyH.cons rfl (fun K hK => ?_) AllReadyH.nil))
    · go_simp
      refine hK.out _ _ (hH.alloc hH.size _) (fun hA => ?_)
      clear hK K
      refine wpAnyH_ready (rs := [5]) (by kernel_rfl) (by simp) (AllReadyH.cons rfl (fun K hK => ?_) AllReadyH.nil)
      go_simp
      refine hK.out _ _ (hA.alloc hA.size _) (fun hB => ?_)
      clear hK K
      refine wpAnyH_ready (rs := [6]) (by kernel_rfl) (by simp) (AllReadyH.cons rfl (fun K hK => ?_) AllReadyH.nil)
      go_simp
      refine hK.out _ _ ((more (more (Below.refl _ _) _) _).drew) (fun hC => ?_)
      clear hK K
      refine wpAnyH_ready (rs := [7]) (by kernel_rfl) (by simp) (AllReadyH.cons rfl (fun K hK => ?_) AllReadyH.nil)
      go_simp
      refine hK.out _ _ ((more (more (Below.refl _ _) _) _).drew) (fun hE => ?_)
      clear hK K
      refine wpAnyH_done (by kernel_rfl) ?_ _
      go_wp2_with fail
      go_meet
      exact ⟨_, _, rfl, rfl, Lib.hid hE, Lib.hid (by simp [go_sem]), Lib.hid (by simp [go_sem]), Lib.hid ⟨by simp, by simp⟩⟩
    · go_simp
      refine hK.out _ _ (hH.alloc hH.size _) (fun hA => ?_)
      clear hK K
      refine wpAnyH_ready (rs := [4]) (by kernel_rfl) (by simp) (AllReadyH.cons rfl (fun K hK => ?_) AllReadyH.nil)
      go_simp
      refine hK.out _ _ (hA.alloc hA.size _) (fun hB => ?_)
      clear hK K
      refine wpAnyH_ready (rs := [6]) (by kernel_rfl) (by simp) (AllReadyH.cons rfl (fun K hK => ?_) AllReadyH.nil)
      go_simp
      refine hK.out _ _ ((more (more (Below.refl _ _) _) _).drew) (fun hC => ?_)
      clear hK K
      refine wpAnyH_ready (rs := [7]) (by kernel_rfl) (by simp) (AllReadyH.cons rfl (fun K hK => ?_) AllReadyH.nil)
      go_simp
      refine hK.out _ _ ((more (more (Below.refl _ _) _) _).drew) (fun hE => ?_)
      clear hK K
      refine wpAnyH_done (by kernel_rfl) ?_ _
      go_wp2_with fail
      go_meet
      exact ⟨_, _, rfl, rfl, Lib.hid hE, Lib.hid (by simp [go_sem]), Lib.hid (by simp [go_sem]), Lib.hid ⟨by simp, by simp⟩⟩
  case rest =>
  obtain ⟨gf, gc, rfl, rfl, HB2, HF, HC, HGE⟩ := hcut
  have H2 := Lib.hid (H1.out.below HB2.out)
  have HX2 := Lib.hid ((HB2.out.block _ lx).trans HX1.out)
  have HBC := Lib.hid (HBW.out.trans (HB2.out.mono HBW.out.size))
  have nF : ¬ gf = g := by have := H1.out.p.lt; have := HGE.out.1; omega
  have nC : ¬ gc = g := by have := H1.out.p.lt; have := HGE.out.2; omega
  clear x0 x1 x2 x3 x4 lx H1 HX1 HB2 HBW HO1
  have lx := (Array.getElem?_eq_some_iff.1 HX2.out).1
  have lg := H2.out.p.lt
  have hF := HF.out
  have hC := HC.out
  have lF := cell_lt hF
  have lC := cell_lt hC
  have c7 : wc.cell? ⟨g, k * 89 + 6 + 1, none⟩ = some (.int .i64 (p.i 7)) := (H2.out.p.cell hk (j := 7) (by omega)).trans (by rw [upd_same]; rfl)
  have c12 : wc.cell? ⟨g, k * 89 + 6 + 6, none⟩ = some (.int .i64 (p.i 12)) := (H2.out.p.cell hk (j := 12) (by omega)).trans (by rw [upd_same]; rfl)
  have c29 : wc.cell? ⟨g, k * 89 + 22 + 7, none⟩ = some (.bool (p.b 29)) := (H2.out.p.cell hk (j := 29) (by omega)).trans (by rw [upd_same]; rfl)
  have c27 : wc.cell? ⟨g, k * 89 + 22 + 5, none⟩ = some (.bool (p.b 27)) := (H2.out.p.cell hk (j := 27) (by omega)).trans (by rw [upd_same]; rfl)
  have c23 : wc.cell? ⟨g, k * 89 + 22 + 1, none⟩ = some (.bool (p.b 23)) := (H2.out.p.cell hk (j := 23) (by omega)).trans (by rw [upd_same]; rfl)
  have c32 : wc.cell? ⟨g, k * 89 + 22 + 10, none⟩ = some (.bool (p.b 32)) := (H2.out.p.cell hk (j := 32) (by omega)).trans (by rw [upd_same]; rfl)
  have c42 : wc.cell? ⟨g, k * 89 + 22 + 20, none⟩ = some (.bool (p.b 42)) := (H2.out.p.cell hk (j := 42) (by omega)).trans (by rw [upd_same]; rfl)
  have c46 : wc.cell? ⟨g, k * 89 + 22 + 24, none⟩ = some (.bool (p.b 46)) := (H2.out.p.cell hk (j := 46) (by omega)).trans (by rw [upd_same]; rfl)
  have c47 : wc.cell? ⟨g, k * 89 + 22 + 25, none⟩ = some (.bool (p.b 47)) := (H2.out.p.cell hk (j := 47) (by omega)).trans (by rw [upd_same]; rfl)
  have c24 : wc.cell? ⟨g, k * 89 + 22 + 2, none⟩ = some (.bool (p.b 24)) := (H2.out.p.cell hk (j := 24) (by omega)).trans (by rw [upd_same]; rfl)
  have c26 : wc.cell? ⟨g, k * 89 + 22 + 4, none⟩ = some (.bool (p.b 26)) := (H2.out.p.cell hk (j := 26) (by omega)).trans (by rw [upd_same]; rfl)
  have c28 : wc.cell? ⟨g, k * 89 + 22 + 6, none⟩ = some (.bool (p.b 28)) := (H2.out.p.cell hk (j := 28) (by omega)).trans (by rw [upd_same]; rfl)
  have c34 : wc.cell? ⟨g, k * 89 + 22 + 12, none⟩ = some (.bool (p.b 34)) := (H2.out.p.cell hk (j := 34) (by omega)).trans (by rw [upd_same]; rfl)
  go_upto_region 2 with (fail)
  go_cut [5] from 12 to 23 (fun c w' => c = .bool (quietF p) ∧ wc = w')
  case first =>
    have hq : quietF p = (!p.b 29 && !p.b 27) := rfl
    cases e1 : p.b 29 <;> cases e2 : p.b 27
    all_goals
      rw [e1, e2] at hq
      rw [e1] at c29
      rw [e2] at c27
      have HQ := Lib.hid hq
      clear hq e1 e2
      go_wp2_with fail
      go_meet
      exact ⟨by rw [HQ.out]; rfl, rfl⟩
  case rest =>
  obtain ⟨rfl, rfl⟩ := hcut
  obtain ⟨f29v, hf29v⟩ : ∃ x : Bool, x = p.b 29 := ⟨_, rfl⟩
  rw [← hf29v] at c29
  have Hf29v := Lib.hid hf29v
  clear hf29v
  obtain ⟨f27v, hf27v⟩ : ∃ x : Bool, x = p.b 27 := ⟨_, rfl⟩
  rw [← hf27v] at c27
  have Hf27v := Lib.hid hf27v
  clear hf27v
  obtain ⟨f23v, hf23v⟩ : ∃ x : Bool, x = p.b 23 := ⟨_, rfl⟩
  rw [← hf23v] at c23
  have Hf23v := Lib.hid hf23v
  clear hf23v
  obtain ⟨f32v, hf32v⟩ : ∃ x : Bool, x = p.b 32 := ⟨_, rfl⟩
  rw [← hf32v] at c32
  have Hf32v := Lib.hid hf32v
  clear hf32v
  obtain ⟨f42v, hf42v⟩ : ∃ x : Bool, x = p.b 42 := ⟨_, rfl⟩
  rw [← hf42v] at c42
  have Hf42v := Lib.hid hf42v
  clear hf42v
  obtain ⟨f46v, hf46v⟩ : ∃ x : Bool, x = p.b 46 := ⟨_, rfl⟩
  rw [← hf46v] at c46
  have Hf46v := Lib.hid hf46v
  clear hf46v
  obtain ⟨f47v, hf47v⟩ : ∃ x : Bool, x = p.b 47 := ⟨_, rfl⟩
  rw [← hf47v] at c47
  have Hf47v := Lib.hid hf47v
  clear hf47v
  obtain ⟨f24v, hf24v⟩ : ∃ x : Bool, x = p.b 24 := ⟨_, rfl⟩
  rw [← hf24v] at c24
  have Hf24v := Lib.hid hf24v
  clear hf24v
  obtain ⟨f26v, hf26v⟩ : ∃ x : Bool, x = p.b 26 := ⟨_, rfl⟩
  rw [← hf26v] at c26
  have Hf26v := Lib.hid hf26v
  clear hf26v
  obtain ⟨f28v, hf28v⟩ : ∃ x : Bool, x = p.b 28 := ⟨_, rfl⟩
  rw [← hf28v] at c28
  have Hf28v := Lib.hid hf28v
  clear hf28v
  obtain ⟨f34v, hf34v⟩ : ∃ x : Bool, x = p.b 34 := ⟨_, rfl⟩
  rw [← hf34v] at c34
  have Hf34v := Lib.hid hf34v
  clear hf34v
  obtain ⟨qq, hqq⟩ : ∃ x : Bool, x = quietF p := ⟨_, rfl⟩
  rw [← hqq]
  have Hqq := Lib.hid hqq
  clear hqq
  go_upto_region 3 with (fail)
  obtain ⟨q28, hq28⟩ : ∃ x : Bool, x = ((p.i 7) == 0) := ⟨_, rfl⟩
  have Hq28 := Lib.hid hq28
  clear hq28
  obtain ⟨q34, hq34⟩ : ∃ x : Bool, x = (q28 || f23v) := ⟨_, rfl⟩
  have Hq34 := Lib.hid hq34
  clear hq34
  obtain ⟨q40, hq40⟩ : ∃ x : Bool, x = (q34 || f32v) := ⟨_, rfl⟩
  have Hq40 := Lib.hid hq40
  clear hq40
  obtain ⟨q46, hq46⟩ : ∃ x : Bool, x = (!f42v) := ⟨_, rfl⟩
  have Hq46 := Lib.hid hq46
  clear hq46
  obtain ⟨q52, hq52⟩ : ∃ x : Bool, x = ((p.i 12) == 0) := ⟨_, rfl⟩
  have Hq52 := Lib.hid hq52
  clear hq52
  obtain ⟨q53, hq53⟩ : ∃ x : Bool, x = (q46 || q52) := ⟨_, rfl⟩
  have Hq53 := Lib.hid hq53
  clear hq53
  obtain ⟨q54, hq54⟩ : ∃ x : Bool, x = (q40 && q53) := ⟨_, rfl⟩
  have Hq54 := Lib.hid hq54
  clear hq54
  obtain ⟨q60, hq60⟩ : ∃ x : Bool, x = (!f46v) := ⟨_, rfl⟩
  have Hq60 := Lib.hid hq60
  clear hq60
  obtain ⟨q61, hq61⟩ : ∃ x : Bool, x = (q54 && q60) := ⟨_, rfl⟩
  have Hq61 := Lib.hid hq61
  clear hq61
  refine wp_region_lit ?_
  refine wpList_val (by kernel_rfl) (.pointer (some ⟨g, k * 89 + 6, none⟩)) (by simp [go_sem, execOp, (show wc.cell? ⟨gc, 0, none⟩ = some (.pointer (some ⟨g, k * 89 + 6, none⟩)) from hC)]) ?_
  simp only [List.getElem_toArray, List.getElem_cons_succ, List.getElem_cons_zero, Act.put, List.setIfInBounds_toArray, List.set_cons_zero, List.set_cons_succ]
  refine wpList_val (by kernel_rfl) (.pointer (some ⟨g, k * 89 + 6, none⟩)) (by simp [go_sem, execOp]) ?_
  simp only [List.getElem_toArray, List.getElem_cons_succ, List.getElem_cons_zero, Act.put, List.setIfInBounds_toArray, List.set_cons_zero, List.set_cons_succ]
  refine wpList_val (by kernel_rfl) (.pointer (some ⟨g, k * 89 + 6 + 1, none⟩)) (by simp [go_sem, execOp]) ?_
  simp only [List.getElem_toArray, List.getElem_cons_succ, List.getElem_cons_zero, Act.put, List.setIfInBounds_toArray, List.set_cons_zero, List.set_cons_succ]
  refine wpList_val (by kernel_rfl) (.int .i64 (p.i 7)) (by simp [go_sem, execOp, (show wc.cell? ⟨g, k * 89 + 6 + 1, none⟩ = some (.int .i64 (p.i 7)) from c7)]) ?_
  simp only [List.getElem_toArray, List.getElem_cons_succ, List.getElem_cons_zero, Act.put, List.setIfInBounds_toArray, List.set_cons_zero, List.set_cons_succ]
  refine wpList_val (by kernel_rfl) (.bool q28) (by rw [Hq28.out]; simp [go_sem, execOp]) ?_
  simp only [List.getElem_toArray, List.getElem_cons_succ, List.getElem_cons_zero, Act.put, List.setIfInBounds_toArray, List.set_cons_zero, List.set_cons_succ]
  refine wpList_val (by kernel_rfl) (.bool q28) (by kernel_rfl) ?_
  simp only [List.getElem_toArray, List.getElem_cons_succ, List.getElem_cons_zero, Act.put, List.setIfInBounds_toArray, List.set_cons_zero, List.set_cons_succ]
  refine wpList_bif (c := (!q28)) (v := .pointer (some ⟨g, k * 89 + 22, none⟩)) (wanted_f rfl (by kernel_rfl)) (fun hc => by have h0 := notT (hc); simp [go_sem, execOp, h0, (show wc.cell? ⟨gf, 0, none⟩ = some (.pointer (some ⟨g, k * 89 + 22, none⟩)) from hF)]) ?_
  simp only [List.getElem_toArray, List.getElem_cons_succ, List.getElem_cons_zero, Act.put, List.setIfInBounds_toArray, List.set_cons_zero, List.set_cons_succ]
  refine wpList_bif (c := (!q28)) (v := .pointer (some ⟨g, k * 89 + 22, none⟩)) (wanted_f rfl (by kernel_rfl)) (fun hc => by have h0 := notT (hc); simp [go_sem, execOp, h0]) ?_
  simp only [List.getElem_toArray, List.getElem_cons_succ, List.getElem_cons_zero, Act.put, List.setIfInBounds_toArray, List.set_cons_zero, List.set_cons_succ]
  refine wpList_bif (c := (!q28)) (v := .pointer (some ⟨g, k * 89 + 22 + 1, none⟩)) (wanted_f rfl (by kernel_rfl)) (fun hc => by have h0 := notT (hc); simp [go_sem, execOp, h0]) ?_
  simp only [List.getElem_toArray, List.getElem_cons_succ, List.getElem_cons_zero, Act.put, List.setIfInBounds_toArray, List.set_cons_zero, List.set_cons_succ]
  refine wpList_bif (c := (!q28)) (v := .bool f23v) (wanted_f rfl (by kernel_rfl)) (fun hc => by have h0 := notT (hc); simp [go_sem, execOp, h0, (show wc.cell? ⟨g, k * 89 + 22 + 1, none⟩ = some (.bool f23v) from c23)]) ?_
  simp only [List.getElem_toArray, List.getElem_cons_succ, List.getElem_cons_zero, Act.put, List.setIfInBounds_toArray, List.set_cons_zero, List.set_cons_succ]
  refine wpList_val (by kernel_rfl) (.bool q34) (by rw [Hq34.out]; cases hA : q28 <;> simp [go_sem, execOp, hA]) ?_
  simp only [List.getElem_toArray, List.getElem_cons_succ, List.getElem_cons_zero, Act.put, List.setIfInBounds_toArray, List.set_cons_zero, List.set_cons_succ]
  refine wpList_val (by kernel_rfl) (.bool q34) (by kernel_rfl) ?_
  simp only [List.getElem_toArray, List.getElem_cons_succ, List.getElem_cons_zero, Act.put, List.setIfInBounds_toArray, List.set_cons_zero, List.set_cons_succ]
  refine wpList_bif (c := (!q34)) (v := .pointer (some ⟨g, k * 89 + 22, none⟩)) (wanted_f rfl (by kernel_rfl)) (fun hc => by have h0 := notT (hc); simp [go_sem, execOp, h0, (show wc.cell? ⟨gf, 0, none⟩ = some (.pointer (some ⟨g, k * 89 + 22, none⟩)) from hF)]) ?_
  simp only [List.getElem_toArray, List.getElem_cons_succ, List.getElem_cons_zero, Act.put, List.setIfInBounds_toArray, List.set_cons_zero, List.set_cons_succ]
  refine wpList_bif (c := (!q34)) (v := .pointer (some ⟨g, k * 89 + 22, none⟩)) (wanted_f rfl (by kernel_rfl)) (fun hc => by have h0 := notT (hc); simp [go_sem, execOp, h0]) ?_
  simp only [List.getElem_toArray, List.getElem_cons_succ, List.getElem_cons_zero, Act.put, List.setIfInBounds_toArray, List.set_cons_zero, List.set_cons_succ]
  refine wpList_bif (c := (!q34)) (v := .pointer (some ⟨g, k * 89 + 22 + 10, none⟩)) (wanted_f rfl (by kernel_rfl)) (fun hc => by have h0 := notT (hc); simp [go_sem, execOp, h0]) ?_
  simp only [List.getElem_toArray, List.getElem_cons_succ, List.getElem_cons_zero, Act.put, List.setIfInBounds_toArray, List.set_cons_zero, List.set_cons_succ]
  refine wpList_bif (c := (!q34)) (v := .bool f32v) (wanted_f rfl (by kernel_rfl)) (fun hc => by have h0 := notT (hc); simp [go_sem, execOp, h0, (show wc.cell? ⟨g, k * 89 + 22 + 10, none⟩ = some (.bool f32v) from c32)]) ?_
  simp only [List.getElem_toArray, List.getElem_cons_succ, List.getElem_cons_zero, Act.put, List.setIfInBounds_toArray, List.set_cons_zero, List.set_cons_succ]
  refine wpList_val (by kernel_rfl) (.bool q40) (by rw [Hq40.out]; cases hA : q34 <;> simp [go_sem, execOp, hA]) ?_
  simp only [List.getElem_toArray, List.getElem_cons_succ, List.getElem_cons_zero, Act.put, List.setIfInBounds_toArray, List.set_cons_zero, List.set_cons_succ]
  refine wpList_val (by kernel_rfl) (.bool q40) (by kernel_rfl) ?_
  simp only [List.getElem_toArray, List.getElem_cons_succ, List.getElem_cons_zero, Act.put, List.setIfInBounds_toArray, List.set_cons_zero, List.set_cons_succ]
  refine wpList_bif (c := q40) (v := .pointer (some ⟨g, k * 89 + 22, none⟩)) (wanted_t rfl (by kernel_rfl)) (fun hc => by have h0 := hc; simp [go_sem, execOp, h0, (show wc.cell? ⟨gf, 0, none⟩ = some (.pointer (some ⟨g, k * 89 + 22, none⟩)) from hF)]) ?_
  simp only [List.getElem_toArray, List.getElem_cons_succ, List.getElem_cons_zero, Act.put, List.setIfInBounds_toArray, List.set_cons_zero, List.set_cons_succ]
  refine wpList_bif (c := q40) (v := .pointer (some ⟨g, k * 89 + 22, none⟩)) (wanted_t rfl (by kernel_rfl)) (fun hc => by have h0 := hc; simp [go_sem, execOp, h0]) ?_
  simp only [List.getElem_toArray, List.getElem_cons_succ, List.getElem_cons_zero, Act.put, List.setIfInBounds_toArray, List.set_cons_zero, List.set_cons_succ]
  refine wpList_bif (c := q40) (v := .pointer (some ⟨g, k * 89 + 22 + 20, none⟩)) (wanted_t rfl (by kernel_rfl)) (fun hc => by have h0 := hc; simp [go_sem, execOp, h0]) ?_
  simp only [List.getElem_toArray, List.getElem_cons_succ, List.getElem_cons_zero, Act.put, List.setIfInBounds_toArray, List.set_cons_zero, List.set_cons_succ]
  refine wpList_bif (c := q40) (v := .bool f42v) (wanted_t rfl (by kernel_rfl)) (fun hc => by have h0 := hc; simp [go_sem, execOp, h0, (show wc.cell? ⟨g, k * 89 + 22 + 20, none⟩ = some (.bool f42v) from c42)]) ?_
  simp only [List.getElem_toArray, List.getElem_cons_succ, List.getElem_cons_zero, Act.put, List.setIfInBounds_toArray, List.set_cons_zero, List.set_cons_succ]
  refine wpList_bif (c := q40) (v := .bool q46) (wanted_t rfl (by kernel_rfl)) (fun hc => by have h0 := hc; rw [Hq46.out]; simp [go_sem, execOp, h0]) ?_
  simp only [List.getElem_toArray, List.getElem_cons_succ, List.getElem_cons_zero, Act.put, List.setIfInBounds_toArray, List.set_cons_zero, List.set_cons_succ]
  refine wpList_bif (c := q40) (v := .bool q46) (wanted_t rfl (by kernel_rfl)) (fun hc => by have h0 := hc; simp [go_sem, execOp, h0]) ?_
  simp only [List.getElem_toArray, List.getElem_cons_succ, List.getElem_cons_zero, Act.put, List.setIfInBounds_toArray, List.set_cons_zero, List.set_cons_succ]
  refine wpList_bif (c := (q40 && (!q46))) (v := .pointer (some ⟨g, k * 89 + 6, none⟩)) (wanted_cf rfl (yielded_bif (by kernel_rfl))) (fun hc => by have h1 := notT (andR hc); have hc1 := andL hc; have h0 := hc1; simp [go_sem, execOp, h1, h0, (show wc.cell? ⟨gc, 0, none⟩ = some (.pointer (some ⟨g, k * 89 + 6, none⟩)) from hC)]) ?_
  simp only [List.getElem_toArray, List.getElem_cons_succ, List.getElem_cons_zero, Act.put, List.setIfInBounds_toArray, List.set_cons_zero, List.set_cons_succ]
  refine wpList_bif (c := (q40 && (!q46))) (v := .pointer (some ⟨g, k * 89 + 6, none⟩)) (wanted_cf rfl (yielded_bif (by kernel_rfl))) (fun hc => by have h1 := notT (andR hc); have hc1 := andL hc; have h0 := hc1; simp [go_sem, execOp, h1, h0]) ?_
  simp only [List.getElem_toArray, List.getElem_cons_succ, List.getElem_cons_zero, Act.put, List.setIfInBounds_toArray, List.set_cons_zero, List.set_cons_succ]
  refine wpList_bif (c := (q40 && (!q46))) (v := .pointer (some ⟨g, k * 89 + 6 + 6, none⟩)) (wanted_cf rfl (yielded_bif (by kernel_rfl))) (fun hc => by have h1 := notT (andR hc); have hc1 := andL hc; have h0 := hc1; simp [go_sem, execOp, h1, h0]) ?_
  simp only [List.getElem_toArray, List.getElem_cons_succ, List.getElem_cons_zero, Act.put, List.setIfInBounds_toArray, List.set_cons_zero, List.set_cons_succ]
  refine wpList_bif (c := (q40 && (!q46))) (v := .int .i64 (p.i 12)) (wanted_cf rfl (yielded_bif (by kernel_rfl))) (fun hc => by have h1 := notT (andR hc); have hc1 := andL hc; have h0 := hc1; simp [go_sem, execOp, h1, h0, (show wc.cell? ⟨g, k * 89 + 6 + 6, none⟩ = some (.int .i64 (p.i 12)) from c12)]) ?_
  simp only [List.getElem_toArray, List.getElem_cons_succ, List.getElem_cons_zero, Act.put, List.setIfInBounds_toArray, List.set_cons_zero, List.set_cons_succ]
  refine wpList_bif (c := (q40 && (!q46))) (v := .bool q52) (wanted_cf rfl (yielded_bif (by kernel_rfl))) (fun hc => by have h1 := notT (andR hc); have hc1 := andL hc; have h0 := hc1; rw [Hq52.out]; simp [go_sem, execOp, h1, h0]) ?_
  simp only [List.getElem_toArray, List.getElem_cons_succ, List.getElem_cons_zero, Act.put, List.setIfInBounds_toArray, List.set_cons_zero, List.set_cons_succ]
  refine wpList_bif (c := q40) (v := .bool q53) (wanted_t rfl (by kernel_rfl)) (fun hc => by have h0 := hc; rw [Hq53.out]; cases hA : q46 <;> simp [go_sem, execOp, hA, h0]) ?_
  simp only [List.getElem_toArray, List.getElem_cons_succ, List.getElem_cons_zero, Act.put, List.setIfInBounds_toArray, List.set_cons_zero, List.set_cons_succ]
  refine wpList_val (by kernel_rfl) (.bool q54) (by rw [Hq54.out]; cases hA : q40 <;> simp [go_sem, execOp, hA]) ?_
  simp only [List.getElem_toArray, List.getElem_cons_succ, List.getElem_cons_zero, Act.put, List.setIfInBounds_toArray, List.set_cons_zero, List.set_cons_succ]
  refine wpList_val (by kernel_rfl) (.bool q54) (by kernel_rfl) ?_
  simp only [List.getElem_toArray, List.getElem_cons_succ, List.getElem_cons_zero, Act.put, List.setIfInBounds_toArray, List.set_cons_zero, List.set_cons_succ]
  refine wpList_bif (c := q54) (v := .pointer (some ⟨g, k * 89 + 22, none⟩)) (wanted_t rfl (by kernel_rfl)) (fun hc => by have h0 := hc; simp [go_sem, execOp, h0, (show wc.cell? ⟨gf, 0, none⟩ = some (.pointer (some ⟨g, k * 89 + 22, none⟩)) from hF)]) ?_
  simp only [List.getElem_toArray, List.getElem_cons_succ, List.getElem_cons_zero, Act.put, List.setIfInBounds_toArray, List.set_cons_zero, List.set_cons_succ]
  refine wpList_bif (c := q54) (v := .pointer (some ⟨g, k * 89 + 22, none⟩)) (wanted_t rfl (by kernel_rfl)) (fun hc => by have h0 := hc; simp [go_sem, execOp, h0]) ?_
  simp only [List.getElem_toArray, List.getElem_cons_succ, List.getElem_cons_zero, Act.put, List.setIfInBounds_toArray, List.set_cons_zero, List.set_cons_succ]
  refine wpList_bif (c := q54) (v := .pointer (some ⟨g, k * 89 + 22 + 24, none⟩)) (wanted_t rfl (by kernel_rfl)) (fun hc => by have h0 := hc; simp [go_sem, execOp, h0]) ?_
  simp only [List.getElem_toArray, List.getElem_cons_succ, List.getElem_cons_zero, Act.put, List.setIfInBounds_toArray, List.set_cons_zero, List.set_cons_succ]
  refine wpList_bif (c := q54) (v := .bool f46v) (wanted_t rfl (by kernel_rfl)) (fun hc => by have h0 := hc; simp [go_sem, execOp, h0, (show wc.cell? ⟨g, k * 89 + 22 + 24, none⟩ = some (.bool f46v) from c46)]) ?_
  simp only [List.getElem_toArray, List.getElem_cons_succ, List.getElem_cons_zero, Act.put, List.setIfInBounds_toArray, List.set_cons_zero, List.set_cons_succ]
  refine wpList_bif (c := q54) (v := .bool q60) (wanted_t rfl (by kernel_rfl)) (fun hc => by have h0 := hc; rw [Hq60.out]; simp [go_sem, execOp, h0]) ?_
  simp only [List.getElem_toArray, List.getElem_cons_succ, List.getElem_cons_zero, Act.put, List.setIfInBounds_toArray, List.set_cons_zero, List.set_cons_succ]
  refine wpList_val (by kernel_rfl) (.bool q61) (by rw [Hq61.out]; cases hA : q54 <;> simp [go_sem, execOp, hA]) ?_
  simp only [List.getElem_toArray, List.getElem_cons_succ, List.getElem_cons_zero, Act.put, List.setIfInBounds_toArray, List.set_cons_zero, List.set_cons_succ]
  refine wpList_val (by kernel_rfl) (.bool q61) (by kernel_rfl) ?_
  simp only [List.getElem_toArray, List.getElem_cons_succ, List.getElem_cons_zero, Act.put, List.setIfInBounds_toArray, List.set_cons_zero, List.set_cons_succ]
  refine wpList_nil ?_
  go_upto_region 4 with (fail)
  obtain ⟨q71, hq71⟩ : ∃ x : Bool, x = (!f47v) := ⟨_, rfl⟩
  have Hq71 := Lib.hid hq71
  clear hq71
  obtain ⟨q72, hq72⟩ : ∃ x : Bool, x = (f46v && q71) := ⟨_, rfl⟩
  have Hq72 := Lib.hid hq72
  clear hq72
  obtain ⟨q83, hq83⟩ : ∃ x : Bool, x = ((p.i 12) != 0) := ⟨_, rfl⟩
  have Hq83 := Lib.hid hq83
  clear hq83
  obtain ⟨q84, hq84⟩ : ∃ x : Bool, x = (f42v && q83) := ⟨_, rfl⟩
  have Hq84 := Lib.hid hq84
  clear hq84
  obtain ⟨q85, hq85⟩ : ∃ x : Bool, x = (q72 || q84) := ⟨_, rfl⟩
  have Hq85 := Lib.hid hq85
  clear hq85
  obtain ⟨q91, hq91⟩ : ∃ x : Bool, x = (q85 || f24v) := ⟨_, rfl⟩
  have Hq91 := Lib.hid hq91
  clear hq91
  refine wp_region_lit ?_
  refine wpList_val (by kernel_rfl) (.pointer (some ⟨g, k * 89 + 22, none⟩)) (by simp [go_sem, execOp, (show wc.cell? ⟨gf, 0, none⟩ = some (.pointer (some ⟨g, k * 89 + 22, none⟩)) from hF)]) ?_
  simp only [List.getElem_toArray, List.getElem_cons_succ, List.getElem_cons_zero, Act.put, List.setIfInBounds_toArray, List.set_cons_zero, List.set_cons_succ]
  refine wpList_val (by kernel_rfl) (.pointer (some ⟨g, k * 89 + 22, none⟩)) (by simp [go_sem, execOp]) ?_
  simp only [List.getElem_toArray, List.getElem_cons_succ, List.getElem_cons_zero, Act.put, List.setIfInBounds_toArray, List.set_cons_zero, List.set_cons_succ]
  refine wpList_val (by kernel_rfl) (.pointer (some ⟨g, k * 89 + 22 + 24, none⟩)) (by simp [go_sem, execOp]) ?_
  simp only [List.getElem_toArray, List.getElem_cons_succ, List.getElem_cons_zero, Act.put, List.setIfInBounds_toArray, List.set_cons_zero, List.set_cons_succ]
  refine wpList_val (by kernel_rfl) (.bool f46v) (by simp [go_sem, execOp, (show wc.cell? ⟨g, k * 89 + 22 + 24, none⟩ = some (.bool f46v) from c46)]) ?_
  simp only [List.getElem_toArray, List.getElem_cons_succ, List.getElem_cons_zero, Act.put, List.setIfInBounds_toArray, List.set_cons_zero, List.set_cons_succ]
  refine wpList_val (by kernel_rfl) (.bool f46v) (by kernel_rfl) ?_
  simp only [List.getElem_toArray, List.getElem_cons_succ, List.getElem_cons_zero, Act.put, List.setIfInBounds_toArray, List.set_cons_zero, List.set_cons_succ]
  refine wpList_bif (c := f46v) (v := .pointer (some ⟨g, k * 89 + 22, none⟩)) (wanted_t rfl (by kernel_rfl)) (fun hc => by have h0 := hc; simp [go_sem, execOp, h0, (show wc.cell? ⟨gf, 0, none⟩ = some (.pointer (some ⟨g, k * 89 + 22, none⟩)) from hF)]) ?_
  simp only [List.getElem_toArray, List.getElem_cons_succ, List.getElem_cons_zero, Act.put, List.setIfInBounds_toArray, List.set_cons_zero, List.set_cons_succ]
  refine wpList_bif (c := f46v) (v := .pointer (some ⟨g, k * 89 + 22, none⟩)) (wanted_t rfl (by kernel_rfl)) (fun hc => by have h0 := hc; simp [go_sem, execOp, h0]) ?_
  simp only [List.getElem_toArray, List.getElem_cons_succ, List.getElem_cons_zero, Act.put, List.setIfInBounds_toArray, List.set_cons_zero, List.set_cons_succ]
  refine wpList_bif (c := f46v) (v := .pointer (some ⟨g, k * 89 + 22 + 25, none⟩)) (wanted_t rfl (by kernel_rfl)) (fun hc => by have h0 := hc; simp [go_sem, execOp, h0]) ?_
  simp only [List.getElem_toArray, List.getElem_cons_succ, List.getElem_cons_zero, Act.put, List.setIfInBounds_toArray, List.set_cons_zero, List.set_cons_succ]
  refine wpList_bif (c := f46v) (v := .bool f47v) (wanted_t rfl (by kernel_rfl)) (fun hc => by have h0 := hc; simp [go_sem, execOp, h0, (show wc.cell? ⟨g, k * 89 + 22 + 25, none⟩ = some (.bool f47v) from c47)]) ?_
  simp only [List.getElem_toArray, List.getElem_cons_succ, List.getElem_cons_zero, Act.put, List.setIfInBounds_toArray, List.set_cons_zero, List.set_cons_succ]
  refine wpList_bif (c := f46v) (v := .bool q71) (wanted_t rfl (by kernel_rfl)) (fun hc => by have h0 := hc; rw [Hq71.out]; simp [go_sem, execOp, h0]) ?_
  simp only [List.getElem_toArray, List.getElem_cons_succ, List.getElem_cons_zero, Act.put, List.setIfInBounds_toArray, List.set_cons_zero, List.set_cons_succ]
  refine wpList_val (by kernel_rfl) (.bool q72) (by rw [Hq72.out]; cases hA : f46v <;> simp [go_sem, execOp, hA]) ?_
  simp only [List.getElem_toArray, List.getElem_cons_succ, List.getElem_cons_zero, Act.put, List.setIfInBounds_toArray, List.set_cons_zero, List.set_cons_succ]
  refine wpList_val (by kernel_rfl) (.bool q72) (by kernel_rfl) ?_
  simp only [List.getElem_toArray, List.getElem_cons_succ, List.getElem_cons_zero, Act.put, List.setIfInBounds_toArray, List.set_cons_zero, List.set_cons_succ]
  refine wpList_bif (c := (!q72)) (v := .pointer (some ⟨g, k * 89 + 22, none⟩)) (wanted_f rfl (by kernel_rfl)) (fun hc => by have h0 := notT (hc); simp [go_sem, execOp, h0, (show wc.cell? ⟨gf, 0, none⟩ = some (.pointer (some ⟨g, k * 89 + 22, none⟩)) from hF)]) ?_
  simp only [List.getElem_toArray, List.getElem_cons_succ, List.getElem_cons_zero, Act.put, List.setIfInBounds_toArray, List.set_cons_zero, List.set_cons_succ]
  refine wpList_bif (c := (!q72)) (v := .pointer (some ⟨g, k * 89 + 22, none⟩)) (wanted_f rfl (by kernel_rfl)) (fun hc => by have h0 := notT (hc); simp [go_sem, execOp, h0]) ?_
  simp only [List.getElem_toArray, List.getElem_cons_succ, List.getElem_cons_zero, Act.put, List.setIfInBounds_toArray, List.set_cons_zero, List.set_cons_succ]
  refine wpList_bif (c := (!q72)) (v := .pointer (some ⟨g, k * 89 + 22 + 20, none⟩)) (wanted_f rfl (by kernel_rfl)) (fun hc => by have h0 := notT (hc); simp [go_sem, execOp, h0]) ?_
  simp only [List.getElem_toArray, List.getElem_cons_succ, List.getElem_cons_zero, Act.put, List.setIfInBounds_toArray, List.set_cons_zero, List.set_cons_succ]
  refine wpList_bif (c := (!q72)) (v := .bool f42v) (wanted_f rfl (by kernel_rfl)) (fun hc => by have h0 := notT (hc); simp [go_sem, execOp, h0, (show wc.cell? ⟨g, k * 89 + 22 + 20, none⟩ = some (.bool f42v) from c42)]) ?_
  simp only [List.getElem_toArray, List.getElem_cons_succ, List.getElem_cons_zero, Act.put, List.setIfInBounds_toArray, List.set_cons_zero, List.set_cons_succ]
  refine wpList_bif (c := (!q72)) (v := .bool f42v) (wanted_f rfl (by kernel_rfl)) (fun hc => by have h0 := notT (hc); simp [go_sem, execOp, h0]) ?_
  simp only [List.getElem_toArray, List.getElem_cons_succ, List.getElem_cons_zero, Act.put, List.setIfInBounds_toArray, List.set_cons_zero, List.set_cons_succ]
  refine wpList_bif (c := ((!q72) && f42v)) (v := .pointer (some ⟨g, k * 89 + 6, none⟩)) (wanted_ct rfl (yielded_bif (by kernel_rfl))) (fun hc => by have h1 := andR hc; have hc1 := andL hc; have h0 := notT (hc1); simp [go_sem, execOp, h1, h0, (show wc.cell? ⟨gc, 0, none⟩ = some (.pointer (some ⟨g, k * 89 + 6, none⟩)) from hC)]) ?_
  simp only [List.getElem_toArray, List.getElem_cons_succ, List.getElem_cons_zero, Act.put, List.setIfInBounds_toArray, List.set_cons_zero, List.set_cons_succ]
  refine wpList_bif (c := ((!q72) && f42v)) (v := .pointer (some ⟨g, k * 89 + 6, none⟩)) (wanted_ct rfl (yielded_bif (by kernel_rfl))) (fun hc => by have h1 := andR hc; have hc1 := andL hc; have h0 := notT (hc1); simp [go_sem, execOp, h1, h0]) ?_
  simp only [List.getElem_toArray, List.getElem_cons_succ, List.getElem_cons_zero, Act.put, List.setIfInBounds_toArray, List.set_cons_zero, List.set_cons_succ]
  refine wpList_bif (c := ((!q72) && f42v)) (v := .pointer (some ⟨g, k * 89 + 6 + 6, none⟩)) (wanted_ct rfl (yielded_bif (by kernel_rfl))) (fun hc => by have h1 := andR hc; have hc1 := andL hc; have h0 := notT (hc1); simp [go_sem, execOp, h1, h0]) ?_
  simp only [List.getElem_toArray, List.getElem_cons_succ, List.getElem_cons_zero, Act.put, List.setIfInBounds_toArray, List.set_cons_zero, List.set_cons_succ]
  refine wpList_bif (c := ((!q72) && f42v)) (v := .int .i64 (p.i 12)) (wanted_ct rfl (yielded_bif (by kernel_rfl))) (fun hc => by have h1 := andR hc; have hc1 := andL hc; have h0 := notT (hc1); simp [go_sem, execOp, h1, h0, (show wc.cell? ⟨g, k * 89 + 6 + 6, none⟩ = some (.int .i64 (p.i 12)) from c12)]) ?_
  simp only [List.getElem_toArray, List.getElem_cons_succ, List.getElem_cons_zero, Act.put, List.setIfInBounds_toArray, List.set_cons_zero, List.set_cons_succ]
  refine wpList_bif (c := ((!q72) && f42v)) (v := .bool q83) (wanted_ct rfl (yielded_bif (by kernel_rfl))) (fun hc => by have h1 := andR hc; have hc1 := andL hc; have h0 := notT (hc1); rw [Hq83.out]; simp [go_sem, execOp, h1, h0]) ?_
  simp only [List.getElem_toArray, List.getElem_cons_succ, List.getElem_cons_zero, Act.put, List.setIfInBounds_toArray, List.set_cons_zero, List.set_cons_succ]
  refine wpList_bif (c := (!q72)) (v := .bool q84) (wanted_f rfl (by kernel_rfl)) (fun hc => by have h0 := notT (hc); rw [Hq84.out]; cases hA : f42v <;> simp [go_sem, execOp, hA, h0]) ?_
  simp only [List.getElem_toArray, List.getElem_cons_succ, List.getElem_cons_zero, Act.put, List.setIfInBounds_toArray, List.set_cons_zero, List.set_cons_succ]
  refine wpList_val (by kernel_rfl) (.bool q85) (by rw [Hq85.out]; cases hA : q72 <;> simp [go_sem, execOp, hA]) ?_
  simp only [List.getElem_toArray, List.getElem_cons_succ, List.getElem_cons_zero, Act.put, List.setIfInBounds_toArray, List.set_cons_zero, List.set_cons_succ]
  refine wpList_val (by kernel_rfl) (.bool q85) (by kernel_rfl) ?_
  simp only [List.getElem_toArray, List.getElem_cons_succ, List.getElem_cons_zero, Act.put, List.setIfInBounds_toArray, List.set_cons_zero, List.set_cons_succ]
  refine wpList_bif (c := (!q85)) (v := .pointer (some ⟨g, k * 89 + 22, none⟩)) (wanted_f rfl (by kernel_rfl)) (fun hc => by have h0 := notT (hc); simp [go_sem, execOp, h0, (show wc.cell? ⟨gf, 0, none⟩ = some (.pointer (some ⟨g, k * 89 + 22, none⟩)) from hF)]) ?_
  simp only [List.getElem_toArray, List.getElem_cons_succ, List.getElem_cons_zero, Act.put, List.setIfInBounds_toArray, List.set_cons_zero, List.set_cons_succ]
  refine wpList_bif (c := (!q85)) (v := .pointer (some ⟨g, k * 89 + 22, none⟩)) (wanted_f rfl (by kernel_rfl)) (fun hc => by have h0 := notT (hc); simp [go_sem, execOp, h0]) ?_
  simp only [List.getElem_toArray, List.getElem_cons_succ, List.getElem_cons_zero, Act.put, List.setIfInBounds_toArray, List.set_cons_zero, List.set_cons_succ]
  refine wpList_bif (c := (!q85)) (v := .pointer (some ⟨g, k * 89 + 22 + 2, none⟩)) (wanted_f rfl (by kernel_rfl)) (fun hc => by have h0 := notT (hc); simp [go_sem, execOp, h0]) ?_
  simp only [List.getElem_toArray, List.getElem_cons_succ, List.getElem_cons_zero, Act.put, List.setIfInBounds_toArray, List.set_cons_zero, List.set_cons_succ]
  refine wpList_bif (c := (!q85)) (v := .bool f24v) (wanted_f rfl (by kernel_rfl)) (fun hc => by have h0 := notT (hc); simp [go_sem, execOp, h0, (show wc.cell? ⟨g, k * 89 + 22 + 2, none⟩ = some (.bool f24v) from c24)]) ?_
  simp only [List.getElem_toArray, List.getElem_cons_succ, List.getElem_cons_zero, Act.put, List.setIfInBounds_toArray, List.set_cons_zero, List.set_cons_succ]
  refine wpList_val (by kernel_rfl) (.bool q91) (by rw [Hq91.out]; cases hA : q85 <;> simp [go_sem, execOp, hA]) ?_
  simp only [List.getElem_toArray, List.getElem_cons_succ, List.getElem_cons_zero, Act.put, List.setIfInBounds_toArray, List.set_cons_zero, List.set_cons_succ]
  refine wpList_val (by kernel_rfl) (.bool q91) (by kernel_rfl) ?_
  simp only [List.getElem_toArray, List.getElem_cons_succ, List.getElem_cons_zero, Act.put, List.setIfInBounds_toArray, List.set_cons_zero, List.set_cons_succ]
  refine wpList_nil ?_
  go_upto_region 5 with (fail)
  obtain ⟨q96, hq96⟩ : ∃ x : Bool, x = (!f26v) := ⟨_, rfl⟩
  have Hq96 := Lib.hid hq96
  clear hq96
  obtain ⟨q102, hq102⟩ : ∃ x : Bool, x = (!f23v) := ⟨_, rfl⟩
  have Hq102 := Lib.hid hq102
  clear hq102
  obtain ⟨q103, hq103⟩ : ∃ x : Bool, x = (q96 && q102) := ⟨_, rfl⟩
  have Hq103 := Lib.hid hq103
  clear hq103
  obtain ⟨q109, hq109⟩ : ∃ x : Bool, x = (!f34v) := ⟨_, rfl⟩
  have Hq109 := Lib.hid hq109
  clear hq109
  obtain ⟨q110, hq110⟩ : ∃ x : Bool, x = (q103 && q109) := ⟨_, rfl⟩
  have Hq110 := Lib.hid hq110
  clear hq110
  obtain ⟨q116, hq116⟩ : ∃ x : Bool, x = (!f32v) := ⟨_, rfl⟩
  have Hq116 := Lib.hid hq116
  clear hq116
  obtain ⟨q117, hq117⟩ : ∃ x : Bool, x = (q110 && q116) := ⟨_, rfl⟩
  have Hq117 := Lib.hid hq117
  clear hq117
  obtain ⟨q124, hq124⟩ : ∃ x : Bool, x = (!f47v) := ⟨_, rfl⟩
  have Hq124 := Lib.hid hq124
  clear hq124
  obtain ⟨q132, hq132⟩ : ∃ x : Bool, x = (qq || f23v) := ⟨_, rfl⟩
  have Hq132 := Lib.hid hq132
  clear hq132
  obtain ⟨q138, hq138⟩ : ∃ x : Bool, x = (q132 || f32v) := ⟨_, rfl⟩
  have Hq138 := Lib.hid hq138
  clear hq138
  obtain ⟨q139, hq139⟩ : ∃ x : Bool, x = (q124 && q138) := ⟨_, rfl⟩
  have Hq139 := Lib.hid hq139
  clear hq139
  obtain ⟨q150, hq150⟩ : ∃ x : Bool, x = (f47v && f46v) := ⟨_, rfl⟩
  have Hq150 := Lib.hid hq150
  clear hq150
  obtain ⟨q151, hq151⟩ : ∃ x : Bool, x = (q139 || q150) := ⟨_, rfl⟩
  have Hq151 := Lib.hid hq151
  clear hq151
  obtain ⟨q163, hq163⟩ : ∃ x : Bool, x = ((p.i 12) == 0) := ⟨_, rfl⟩
  have Hq163 := Lib.hid hq163
  clear hq163
  obtain ⟨q164, hq164⟩ : ∃ x : Bool, x = (f42v && q163) := ⟨_, rfl⟩
  have Hq164 := Lib.hid hq164
  clear hq164
  obtain ⟨q176, hq176⟩ : ∃ x : Bool, x = (f28v || f26v) := ⟨_, rfl⟩
  have Hq176 := Lib.hid hq176
  clear hq176
  obtain ⟨q182, hq182⟩ : ∃ x : Bool, x = (!f32v) := ⟨_, rfl⟩
  have Hq182 := Lib.hid hq182
  clear hq182
  obtain ⟨q183, hq183⟩ : ∃ x : Bool, x = (q176 && q182) := ⟨_, rfl⟩
  have Hq183 := Lib.hid hq183
  clear hq183
  obtain ⟨q186, hq186⟩ : ∃ x : Bool, x = (q183 && q91) := ⟨_, rfl⟩
  have Hq186 := Lib.hid hq186
  clear hq186
  obtain ⟨q195, hq195⟩ : ∃ x : Bool, x = (!f28v) := ⟨_, rfl⟩
  have Hq195 := Lib.hid hq195
  clear hq195
  obtain ⟨q196, hq196⟩ : ∃ x : Bool, x = (q61 && q195) := ⟨_, rfl⟩
  have Hq196 := Lib.hid hq196
  clear hq196
  obtain ⟨q206, hq206⟩ : ∃ x : Bool, x = (q61 && f28v) := ⟨_, rfl⟩
  have Hq206 := Lib.hid hq206
  clear hq206
  obtain ⟨q212, hq212⟩ : ∃ x : Bool, x = (!f26v) := ⟨_, rfl⟩
  have Hq212 := Lib.hid hq212
  clear hq212
  obtain ⟨q213, hq213⟩ : ∃ x : Bool, x = (q206 && q212) := ⟨_, rfl⟩
  have Hq213 := Lib.hid hq213
  clear hq213
  have Hon := Lib.hid (show q61 = onD p by rw [Hq61.out, Hq60.out, Hq54.out, Hq53.out, Hq52.out, Hq46.out, Hq40.out, Hq34.out, Hq28.out, Hf32v.out, Hf23v.out, Hf42v.out, Hf46v.out]; rfl)
  have Hst := Lib.hid (show q91 = stopD p by rw [Hq91.out, Hq85.out, Hq84.out, Hq83.out, Hq72.out, Hq71.out, Hf24v.out, Hf46v.out, Hf47v.out, Hf42v.out]; rfl)
  refine wp_region_still_light 124 (by kernel_rfl) desLight (by kernel_rfl) (by kernel_rfl) (by kernel_rfl) desOrder ?_
  simp only [List.append, List.cons_append, List.nil_append, List.append_eq, List.take_succ_cons, List.take_zero, List.drop_succ_cons, List.drop_zero]
  refine wpStill_val (by kernel_rfl) (.pointer (some ⟨g, k * 89 + 22, none⟩)) (by simp [go_sem, execOp, (show wc.drew.cell? ⟨gf, 0, none⟩ = some (.pointer (some ⟨g, k * 89 + 22, none⟩)) from hF)]) ?_
  simp only [List.getElem_toArray, List.getElem_cons_succ, List.getElem_cons_zero, Act.put, List.setIfInBounds_toArray, List.set_cons_zero, List.set_cons_succ]
  refine wpStill_val (by kernel_rfl) (.pointer (some ⟨g, k * 89 + 22, none⟩)) (by simp [go_sem, execOp]) ?_
  simp only [List.getElem_toArray, List.getElem_cons_succ, List.getElem_cons_zero, Act.put, List.setIfInBounds_toArray, List.set_cons_zero, List.set_cons_succ]
  refine wpStill_val (by kernel_rfl) (.pointer (some ⟨g, k * 89 + 22 + 4, none⟩)) (by simp [go_sem, execOp]) ?_
  simp only [List.getElem_toArray, List.getElem_cons_succ, List.getElem_cons_zero, Act.put, List.setIfInBounds_toArray, List.set_cons_zero, List.set_cons_succ]
  refine wpStill_val (by kernel_rfl) (.bool f26v) (by simp [go_sem, execOp, (show wc.drew.cell? ⟨g, k * 89 + 22 + 4, none⟩ = some (.bool f26v) from c26)]) ?_
  simp only [List.getElem_toArray, List.getElem_cons_succ, List.getElem_cons_zero, Act.put, List.setIfInBounds_toArray, List.set_cons_zero, List.set_cons_succ]
  refine wpStill_val (by kernel_rfl) (.bool q96) (by rw [Hq96.out]; simp [go_sem, execOp]) ?_
  simp only [List.getElem_toArray, List.getElem_cons_succ, List.getElem_cons_zero, Act.put, List.setIfInBounds_toArray, List.set_cons_zero, List.set_cons_succ]
  refine wpStill_val (by kernel_rfl) (.bool q96) (by kernel_rfl) ?_
  simp only [List.getElem_toArray, List.getElem_cons_succ, List.getElem_cons_zero, Act.put, List.setIfInBounds_toArray, List.set_cons_zero, List.set_cons_succ]
  refine wpStill_bif (c := q96) (v := .pointer (some ⟨g, k * 89 + 22, none⟩)) (wanted_t rfl (by kernel_rfl)) (fun hc => by have h0 := hc; simp [go_sem, execOp, h0, (show wc.drew.cell? ⟨gf, 0, none⟩ = some (.pointer (some ⟨g, k * 89 + 22, none⟩)) from hF)]) ?_
  simp only [List.getElem_toArray, List.getElem_cons_succ, List.getElem_cons_zero, Act.put, List.setIfInBounds_toArray, List.set_cons_zero, List.set_cons_succ]
  refine wpStill_bif (c := q96) (v := .pointer (some ⟨g, k * 89 + 22, none⟩)) (wanted_t rfl (by kernel_rfl)) (fun hc => by have h0 := hc; simp [go_sem, execOp, h0]) ?_
  simp only [List.getElem_toArray, List.getElem_cons_succ, List.getElem_cons_zero, Act.put, List.setIfInBounds_toArray, List.set_cons_zero, List.set_cons_succ]
  refine wpStill_bif (c := q96) (v := .pointer (some ⟨g, k * 89 + 22 + 1, none⟩)) (wanted_t rfl (by kernel_rfl)) (fun hc => by have h0 := hc; simp [go_sem, execOp, h0]) ?_
  simp only [List.getElem_toArray, List.getElem_cons_succ, List.getElem_cons_zero, Act.put, List.setIfInBounds_toArray, List.set_cons_zero, List.set_cons_succ]
  refine wpStill_bif (c := q96) (v := .bool f23v) (wanted_t rfl (by kernel_rfl)) (fun hc => by have h0 := hc; simp [go_sem, execOp, h0, (show wc.drew.cell? ⟨g, k * 89 + 22 + 1, none⟩ = some (.bool f23v) from c23)]) ?_
  simp only [List.getElem_toArray, List.getElem_cons_succ, List.getElem_cons_zero, Act.put, List.setIfInBounds_toArray, List.set_cons_zero, List.set_cons_succ]
  refine wpStill_bif (c := q96) (v := .bool q102) (wanted_t rfl (by kernel_rfl)) (fun hc => by have h0 := hc; rw [Hq102.out]; simp [go_sem, execOp, h0]) ?_
  simp only [List.getElem_toArray, List.getElem_cons_succ, List.getElem_cons_zero, Act.put, List.setIfInBounds_toArray, List.set_cons_zero, List.set_cons_succ]
  refine wpStill_val (by kernel_rfl) (.bool q103) (by rw [Hq103.out]; cases hA : q96 <;> simp [go_sem, execOp, hA]) ?_
  simp only [List.getElem_toArray, List.getElem_cons_succ, List.getElem_cons_zero, Act.put, List.setIfInBounds_toArray, List.set_cons_zero, List.set_cons_succ]
  refine wpStill_val (by kernel_rfl) (.bool q103) (by kernel_rfl) ?_
  simp only [List.getElem_toArray, List.getElem_cons_succ, List.getElem_cons_zero, Act.put, List.setIfInBounds_toArray, List.set_cons_zero, List.set_cons_succ]
  refine wpStill_bif (c := q103) (v := .pointer (some ⟨g, k * 89 + 22, none⟩)) (wanted_t rfl (by kernel_rfl)) (fun hc => by have h0 := hc; simp [go_sem, execOp, h0, (show wc.drew.cell? ⟨gf, 0, none⟩ = some (.pointer (some ⟨g, k * 89 + 22, none⟩)) from hF)]) ?_
  simp only [List.getElem_toArray, List.getElem_cons_succ, List.getElem_cons_zero, Act.put, List.setIfInBounds_toArray, List.set_cons_zero, List.set_cons_succ]
  refine wpStill_bif (c := q103) (v := .pointer (some ⟨g, k * 89 + 22, none⟩)) (wanted_t rfl (by kernel_rfl)) (fun hc => by have h0 := hc; simp [go_sem, execOp, h0]) ?_
  simp only [List.getElem_toArray, List.getElem_cons_succ, List.getElem_cons_zero, Act.put, List.setIfInBounds_toArray, List.set_cons_zero, List.set_cons_succ]
  refine wpStill_bif (c := q103) (v := .pointer (some ⟨g, k * 89 + 22 + 12, none⟩)) (wanted_t rfl (by kernel_rfl)) (fun hc => by have h0 := hc; simp [go_sem, execOp, h0]) ?_
  simp only [List.getElem_toArray, List.getElem_cons_succ, List.getElem_cons_zero, Act.put, List.setIfInBounds_toArray, List.set_cons_zero, List.set_cons_succ]
  refine wpStill_bif (c := q103) (v := .bool f34v) (wanted_t rfl (by kernel_rfl)) (fun hc => by have h0 := hc; simp [go_sem, execOp, h0, (show wc.drew.cell? ⟨g, k * 89 + 22 + 12, none⟩ = some (.bool f34v) from c34)]) ?_
  simp only [List.getElem_toArray, List.getElem_cons_succ, List.getElem_cons_zero, Act.put, List.setIfInBounds_toArray, List.set_cons_zero, List.set_cons_succ]
  refine wpStill_bif (c := q103) (v := .bool q109) (wanted_t rfl (by kernel_rfl)) (fun hc => by have h0 := hc; rw [Hq109.out]; simp [go_sem, execOp, h0]) ?_
  simp only [List.getElem_toArray, List.getElem_cons_succ, List.getElem_cons_zero, Act.put, List.setIfInBounds_toArray, List.set_cons_zero, List.set_cons_succ]
  refine wpStill_val (by kernel_rfl) (.bool q110) (by rw [Hq110.out]; cases hA : q103 <;> simp [go_sem, execOp, hA]) ?_
  simp only [List.getElem_toArray, List.getElem_cons_succ, List.getElem_cons_zero, Act.put, List.setIfInBounds_toArray, List.set_cons_zero, List.set_cons_succ]
  refine wpStill_val (by kernel_rfl) (.bool q110) (by kernel_rfl) ?_
  simp only [List.getElem_toArray, List.getElem_cons_succ, List.getElem_cons_zero, Act.put, List.setIfInBounds_toArray, List.set_cons_zero, List.set_cons_succ]
  refine wpStill_bif (c := q110) (v := .pointer (some ⟨g, k * 89 + 22, none⟩)) (wanted_t rfl (by kernel_rfl)) (fun hc => by have h0 := hc; simp [go_sem, execOp, h0, (show wc.drew.cell? ⟨gf, 0, none⟩ = some (.pointer (some ⟨g, k * 89 + 22, none⟩)) from hF)]) ?_
  simp only [List.getElem_toArray, List.getElem_cons_succ, List.getElem_cons_zero, Act.put, List.setIfInBounds_toArray, List.set_cons_zero, List.set_cons_succ]
  refine wpStill_bif (c := q110) (v := .pointer (some ⟨g, k * 89 + 22, none⟩)) (wanted_t rfl (by kernel_rfl)) (fun hc => by have h0 := hc; simp [go_sem, execOp, h0]) ?_
  simp only [List.getElem_toArray, List.getElem_cons_succ, List.getElem_cons_zero, Act.put, List.setIfInBounds_toArray, List.set_cons_zero, List.set_cons_succ]
  refine wpStill_bif (c := q110) (v := .pointer (some ⟨g, k * 89 + 22 + 10, none⟩)) (wanted_t rfl (by kernel_rfl)) (fun hc => by have h0 := hc; simp [go_sem, execOp, h0]) ?_
  simp only [List.getElem_toArray, List.getElem_cons_succ, List.getElem_cons_zero, Act.put, List.setIfInBounds_toArray, List.set_cons_zero, List.set_cons_succ]
  refine wpStill_bif (c := q110) (v := .bool f32v) (wanted_t rfl (by kernel_rfl)) (fun hc => by have h0 := hc; simp [go_sem, execOp, h0, (show wc.drew.cell? ⟨g, k * 89 + 22 + 10, none⟩ = some (.bool f32v) from c32)]) ?_
  simp only [List.getElem_toArray, List.getElem_cons_succ, List.getElem_cons_zero, Act.put, List.setIfInBounds_toArray, List.set_cons_zero, List.set_cons_succ]
  refine wpStill_bif (c := q110) (v := .bool q116) (wanted_t rfl (by kernel_rfl)) (fun hc => by have h0 := hc; rw [Hq116.out]; simp [go_sem, execOp, h0]) ?_
  simp only [List.getElem_toArray, List.getElem_cons_succ, List.getElem_cons_zero, Act.put, List.setIfInBounds_toArray, List.set_cons_zero, List.set_cons_succ]
  refine wpStill_val (by kernel_rfl) (.bool q117) (by rw [Hq117.out]; cases hA : q110 <;> simp [go_sem, execOp, hA]) ?_
  simp only [List.getElem_toArray, List.getElem_cons_succ, List.getElem_cons_zero, Act.put, List.setIfInBounds_toArray, List.set_cons_zero, List.set_cons_succ]
  refine wpStill_val (by kernel_rfl) (.func (.func 50) #[] #[.pointer (some ⟨gx, 0, none⟩), .pointer (some ⟨gf, 0, none⟩), .pointer (some ⟨gc, 0, none⟩)]) (by kernel_rfl) ?_
  simp only [List.getElem_toArray, List.getElem_cons_succ, List.getElem_cons_zero, Act.put, List.setIfInBounds_toArray, List.set_cons_zero, List.set_cons_succ]
  refine wpStill_val (by kernel_rfl) (.agg #[.bool q117, .func (.func 50) #[] #[.pointer (some ⟨gx, 0, none⟩), .pointer (some ⟨gf, 0, none⟩), .pointer (some ⟨gc, 0, none⟩)]]) (by simp [go_sem, execOp, bldRow]) ?_
  simp only [List.getElem_toArray, List.getElem_cons_succ, List.getElem_cons_zero, Act.put, List.setIfInBounds_toArray, List.set_cons_zero, List.set_cons_succ]
  refine wpStill_val (by kernel_rfl) (.pointer (some ⟨g, k * 89 + 22, none⟩)) (by simp [go_sem, execOp, (show wc.drew.cell? ⟨gf, 0, none⟩ = some (.pointer (some ⟨g, k * 89 + 22, none⟩)) from hF)]) ?_
  simp only [List.getElem_toArray, List.getElem_cons_succ, List.getElem_cons_zero, Act.put, List.setIfInBounds_toArray, List.set_cons_zero, List.set_cons_succ]
  refine wpStill_val (by kernel_rfl) (.pointer (some ⟨g, k * 89 + 22, none⟩)) (by simp [go_sem, execOp]) ?_
  simp only [List.getElem_toArray, List.getElem_cons_succ, List.getElem_cons_zero, Act.put, List.setIfInBounds_toArray, List.set_cons_zero, List.set_cons_succ]
  refine wpStill_val (by kernel_rfl) (.pointer (some ⟨g, k * 89 + 22 + 25, none⟩)) (by simp [go_sem, execOp]) ?_
  simp only [List.getElem_toArray, List.getElem_cons_succ, List.getElem_cons_zero, Act.put, List.setIfInBounds_toArray, List.set_cons_zero, List.set_cons_succ]
  refine wpStill_val (by kernel_rfl) (.bool f47v) (by simp [go_sem, execOp, (show wc.drew.cell? ⟨g, k * 89 + 22 + 25, none⟩ = some (.bool f47v) from c47)]) ?_
  simp only [List.getElem_toArray, List.getElem_cons_succ, List.getElem_cons_zero, Act.put, List.setIfInBounds_toArray, List.set_cons_zero, List.set_cons_succ]
  refine wpStill_val (by kernel_rfl) (.bool q124) (by rw [Hq124.out]; simp [go_sem, execOp]) ?_
  simp only [List.getElem_toArray, List.getElem_cons_succ, List.getElem_cons_zero, Act.put, List.setIfInBounds_toArray, List.set_cons_zero, List.set_cons_succ]
  refine wpStill_val (by kernel_rfl) (.bool q124) (by kernel_rfl) ?_
  simp only [List.getElem_toArray, List.getElem_cons_succ, List.getElem_cons_zero, Act.put, List.setIfInBounds_toArray, List.set_cons_zero, List.set_cons_succ]
  refine wpStill_bif (c := q124) (v := .bool qq) (wanted_t rfl (by kernel_rfl)) (fun hc => by have h0 := hc; simp [go_sem, execOp, h0]) ?_
  simp only [List.getElem_toArray, List.getElem_cons_succ, List.getElem_cons_zero, Act.put, List.setIfInBounds_toArray, List.set_cons_zero, List.set_cons_succ]
  refine wpStill_bif (c := q124) (v := .bool qq) (wanted_t rfl (by kernel_rfl)) (fun hc => by have h0 := hc; simp [go_sem, execOp, h0]) ?_
  simp only [List.getElem_toArray, List.getElem_cons_succ, List.getElem_cons_zero, Act.put, List.setIfInBounds_toArray, List.set_cons_zero, List.set_cons_succ]
  refine wpStill_bif (c := (q124 && (!qq))) (v := .pointer (some ⟨g, k * 89 + 22, none⟩)) (wanted_cf rfl (yielded_bif (by kernel_rfl))) (fun hc => by have h1 := notT (andR hc); have hc1 := andL hc; have h0 := hc1; simp [go_sem, execOp, h1, h0, (show wc.drew.cell? ⟨gf, 0, none⟩ = some (.pointer (some ⟨g, k * 89 + 22, none⟩)) from hF)]) ?_
  simp only [List.getElem_toArray, List.getElem_cons_succ, List.getElem_cons_zero, Act.put, List.setIfInBounds_toArray, List.set_cons_zero, List.set_cons_succ]
  refine wpStill_bif (c := (q124 && (!qq))) (v := .pointer (some ⟨g, k * 89 + 22, none⟩)) (wanted_cf rfl (yielded_bif (by kernel_rfl))) (fun hc => by have h1 := notT (andR hc); have hc1 := andL hc; have h0 := hc1; simp [go_sem, execOp, h1, h0]) ?_
  simp only [List.getElem_toArray, List.getElem_cons_succ, List.getElem_cons_zero, Act.put, List.setIfInBounds_toArray, List.set_cons_zero, List.set_cons_succ]
  refine wpStill_bif (c := (q124 && (!qq))) (v := .pointer (some ⟨g, k * 89 + 22 + 1, none⟩)) (wanted_cf rfl (yielded_bif (by kernel_rfl))) (fun hc => by have h1 := notT (andR hc); have hc1 := andL hc; have h0 := hc1; simp [go_sem, execOp, h1, h0]) ?_
  simp only [List.getElem_toArray, List.getElem_cons_succ, List.getElem_cons_zero, Act.put, List.setIfInBounds_toArray, List.set_cons_zero, List.set_cons_succ]
  refine wpStill_bif (c := (q124 && (!qq))) (v := .bool f23v) (wanted_cf rfl (yielded_bif (by kernel_rfl))) (fun hc => by have h1 := notT (andR hc); have hc1 := andL hc; have h0 := hc1; simp [go_sem, execOp, h1, h0, (show wc.drew.cell? ⟨g, k * 89 + 22 + 1, none⟩ = some (.bool f23v) from c23)]) ?_
  simp only [List.getElem_toArray, List.getElem_cons_succ, List.getElem_cons_zero, Act.put, List.setIfInBounds_toArray, List.set_cons_zero, List.set_cons_succ]
  refine wpStill_bif (c := q124) (v := .bool q132) (wanted_t rfl (by kernel_rfl)) (fun hc => by have h0 := hc; rw [Hq132.out]; cases hA : qq <;> simp [go_sem, execOp, hA, h0]) ?_
  simp only [List.getElem_toArray, List.getElem_cons_succ, List.getElem_cons_zero, Act.put, List.setIfInBounds_toArray, List.set_cons_zero, List.set_cons_succ]
  refine wpStill_bif (c := q124) (v := .bool q132) (wanted_t rfl (by kernel_rfl)) (fun hc => by have h0 := hc; simp [go_sem, execOp, h0]) ?_
  simp only [List.getElem_toArray, List.getElem_cons_succ, List.getElem_cons_zero, Act.put, List.setIfInBounds_toArray, List.set_cons_zero, List.set_cons_succ]
  refine wpStill_bif (c := (q124 && (!q132))) (v := .pointer (some ⟨g, k * 89 + 22, none⟩)) (wanted_cf rfl (yielded_bif (by kernel_rfl))) (fun hc => by have h1 := notT (andR hc); have hc1 := andL hc; have h0 := hc1; simp [go_sem, execOp, h1, h0, (show wc.drew.cell? ⟨gf, 0, none⟩ = some (.pointer (some ⟨g, k * 89 + 22, none⟩)) from hF)]) ?_
  simp only [List.getElem_toArray, List.getElem_cons_succ, List.getElem_cons_zero, Act.put, List.setIfInBounds_toArray, List.set_cons_zero, List.set_cons_succ]
  refine wpStill_bif (c := (q124 && (!q132))) (v := .pointer (some ⟨g, k * 89 + 22, none⟩)) (wanted_cf rfl (yielded_bif (by kernel_rfl))) (fun hc => by have h1 := notT (andR hc); have hc1 := andL hc; have h0 := hc1; simp [go_sem, execOp, h1, h0]) ?_
  simp only [List.getElem_toArray, List.getElem_cons_succ, List.getElem_cons_zero, Act.put, List.setIfInBounds_toArray, List.set_cons_zero, List.set_cons_succ]
  refine wpStill_bif (c := (q124 && (!q132))) (v := .pointer (some ⟨g, k * 89 + 22 + 10, none⟩)) (wanted_cf rfl (yielded_bif (by kernel_rfl))) (fun hc => by have h1 := notT (andR hc); have hc1 := andL hc; have h0 := hc1; simp [go_sem, execOp, h1, h0]) ?_
  simp only [List.getElem_toArray, List.getElem_cons_succ, List.getElem_cons_zero, Act.put, List.setIfInBounds_toArray, List.set_cons_zero, List.set_cons_succ]
  refine wpStill_bif (c := (q124 && (!q132))) (v := .bool f32v) (wanted_cf rfl (yielded_bif (by kernel_rfl))) (fun hc => by have h1 := notT (andR hc); have hc1 := andL hc; have h0 := hc1; simp [go_sem, execOp, h1, h0, (show wc.drew.cell? ⟨g, k * 89 + 22 + 10, none⟩ = some (.bool f32v) from c32)]) ?_
  simp only [List.getElem_toArray, List.getElem_cons_succ, List.getElem_cons_zero, Act.put, List.setIfInBounds_toArray, List.set_cons_zero, List.set_cons_succ]
  refine wpStill_bif (c := q124) (v := .bool q138) (wanted_t rfl (by kernel_rfl)) (fun hc => by have h0 := hc; rw [Hq138.out]; cases hA : q132 <;> simp [go_sem, execOp, hA, h0]) ?_
  simp only [List.getElem_toArray, List.getElem_cons_succ, List.getElem_cons_zero, Act.put, List.setIfInBounds_toArray, List.set_cons_zero, List.set_cons_succ]
  refine wpStill_val (by kernel_rfl) (.bool q139) (by rw [Hq139.out]; cases hA : q124 <;> simp [go_sem, execOp, hA]) ?_
  simp only [List.getElem_toArray, List.getElem_cons_succ, List.getElem_cons_zero, Act.put, List.setIfInBounds_toArray, List.set_cons_zero, List.set_cons_succ]
  refine wpStill_val (by kernel_rfl) (.bool q139) (by kernel_rfl) ?_
  simp only [List.getElem_toArray, List.getElem_cons_succ, List.getElem_cons_zero, Act.put, List.setIfInBounds_toArray, List.set_cons_zero, List.set_cons_succ]
  refine wpStill_bif (c := (!q139)) (v := .pointer (some ⟨g, k * 89 + 22, none⟩)) (wanted_f rfl (by kernel_rfl)) (fun hc => by have h0 := notT (hc); simp [go_sem, execOp, h0, (show wc.drew.cell? ⟨gf, 0, none⟩ = some (.pointer (some ⟨g, k * 89 + 22, none⟩)) from hF)]) ?_
  simp only [List.getElem_toArray, List.getElem_cons_succ, List.getElem_cons_zero, Act.put, List.setIfInBounds_toArray, List.set_cons_zero, List.set_cons_succ]
  refine wpStill_bif (c := (!q139)) (v := .pointer (some ⟨g, k * 89 + 22, none⟩)) (wanted_f rfl (by kernel_rfl)) (fun hc => by have h0 := notT (hc); simp [go_sem, execOp, h0]) ?_
  simp only [List.getElem_toArray, List.getElem_cons_succ, List.getElem_cons_zero, Act.put, List.setIfInBounds_toArray, List.set_cons_zero, List.set_cons_succ]
  refine wpStill_bif (c := (!q139)) (v := .pointer (some ⟨g, k * 89 + 22 + 25, none⟩)) (wanted_f rfl (by kernel_rfl)) (fun hc => by have h0 := notT (hc); simp [go_sem, execOp, h0]) ?_
  simp only [List.getElem_toArray, List.getElem_cons_succ, List.getElem_cons_zero, Act.put, List.setIfInBounds_toArray, List.set_cons_zero, List.set_cons_succ]
  refine wpStill_bif (c := (!q139)) (v := .bool f47v) (wanted_f rfl (by kernel_rfl)) (fun hc => by have h0 := notT (hc); simp [go_sem, execOp, h0, (show wc.drew.cell? ⟨g, k * 89 + 22 + 25, none⟩ = some (.bool f47v) from c47)]) ?_
  simp only [List.getElem_toArray, List.getElem_cons_succ, List.getElem_cons_zero, Act.put, List.setIfInBounds_toArray, List.set_cons_zero, List.set_cons_succ]
  refine wpStill_bif (c := (!q139)) (v := .bool f47v) (wanted_f rfl (by kernel_rfl)) (fun hc => by have h0 := notT (hc); simp [go_sem, execOp, h0]) ?_
  simp only [List.getElem_toArray, List.getElem_cons_succ, List.getElem_cons_zero, Act.put, List.setIfInBounds_toArray, List.set_cons_zero, List.set_cons_succ]
  refine wpStill_bif (c := ((!q139) && f47v)) (v := .pointer (some ⟨g, k * 89 + 22, none⟩)) (wanted_ct rfl (yielded_bif (by kernel_rfl))) (fun hc => by have h1 := andR hc; have hc1 := andL hc; have h0 := notT (hc1); simp [go_sem, execOp, h1, h0, (show wc.drew.cell? ⟨gf, 0, none⟩ = some (.pointer (some ⟨g, k * 89 + 22, none⟩)) from hF)]) ?_
  simp only [List.getElem_toArray, List.getElem_cons_succ, List.getElem_cons_zero, Act.put, List.setIfInBounds_toArray, List.set_cons_zero, List.set_cons_succ]
  refine wpStill_bif (c := ((!q139) && f47v)) (v := .pointer (some ⟨g, k * 89 + 22, none⟩)) (wanted_ct rfl (yielded_bif (by kernel_rfl))) (fun hc => by have h1 := andR hc; have hc1 := andL hc; have h0 := notT (hc1); simp [go_sem, execOp, h1, h0]) ?_
  simp only [List.getElem_toArray, List.getElem_cons_succ, List.getElem_cons_zero, Act.put, List.setIfInBounds_toArray, List.set_cons_zero, List.set_cons_succ]
  refine wpStill_bif (c := ((!q139) && f47v)) (v := .pointer (some ⟨g, k * 89 + 22 + 24, none⟩)) (wanted_ct rfl (yielded_bif (by kernel_rfl))) (fun hc => by have h1 := andR hc; have hc1 := andL hc; have h0 := notT (hc1); simp [go_sem, execOp, h1, h0]) ?_
  simp only [List.getElem_toArray, List.getElem_cons_succ, List.getElem_cons_zero, Act.put, List.setIfInBounds_toArray, List.set_cons_zero, List.set_cons_succ]
  refine wpStill_bif (c := ((!q139) && f47v)) (v := .bool f46v) (wanted_ct rfl (yielded_bif (by kernel_rfl))) (fun hc => by have h1 := andR hc; have hc1 := andL hc; have h0 := notT (hc1); simp [go_sem, execOp, h1, h0, (show wc.drew.cell? ⟨g, k * 89 + 22 + 24, none⟩ = some (.bool f46v) from c46)]) ?_
  simp only [List.getElem_toArray, List.getElem_cons_succ, List.getElem_cons_zero, Act.put, List.setIfInBounds_toArray, List.set_cons_zero, List.set_cons_succ]
  refine wpStill_bif (c := (!q139)) (v := .bool q150) (wanted_f rfl (by kernel_rfl)) (fun hc => by have h0 := notT (hc); rw [Hq150.out]; cases hA : f47v <;> simp [go_sem, execOp, hA, h0]) ?_
  simp only [List.getElem_toArray, List.getElem_cons_succ, List.getElem_cons_zero, Act.put, List.setIfInBounds_toArray, List.set_cons_zero, List.set_cons_succ]
  refine wpStill_val (by kernel_rfl) (.bool q151) (by rw [Hq151.out]; cases hA : q139 <;> simp [go_sem, execOp, hA]) ?_
  simp only [List.getElem_toArray, List.getElem_cons_succ, List.getElem_cons_zero, Act.put, List.setIfInBounds_toArray, List.set_cons_zero, List.set_cons_succ]
  refine wpStill_val (by kernel_rfl) (.func (.func 52) #[] #[.pointer (some ⟨gc, 0, none⟩), .pointer (some ⟨gf, 0, none⟩)]) (by kernel_rfl) ?_
  simp only [List.getElem_toArray, List.getElem_cons_succ, List.getElem_cons_zero, Act.put, List.setIfInBounds_toArray, List.set_cons_zero, List.set_cons_succ]
  refine wpStill_val (by kernel_rfl) (.agg #[.bool q151, .func (.func 52) #[] #[.pointer (some ⟨gc, 0, none⟩), .pointer (some ⟨gf, 0, none⟩)]]) (by simp [go_sem, execOp, bldRow]) ?_
  simp only [List.getElem_toArray, List.getElem_cons_succ, List.getElem_cons_zero, Act.put, List.setIfInBounds_toArray, List.set_cons_zero, List.set_cons_succ]
  refine wpStill_val (by kernel_rfl) (.pointer (some ⟨g, k * 89 + 22, none⟩)) (by simp [go_sem, execOp, (show wc.drew.cell? ⟨gf, 0, none⟩ = some (.pointer (some ⟨g, k * 89 + 22, none⟩)) from hF)]) ?_
  simp only [List.getElem_toArray, List.getElem_cons_succ, List.getElem_cons_zero, Act.put, List.setIfInBounds_toArray, List.set_cons_zero, List.set_cons_succ]
  refine wpStill_val (by kernel_rfl) (.pointer (some ⟨g, k * 89 + 22, none⟩)) (by simp [go_sem, execOp]) ?_
  simp only [List.getElem_toArray, List.getElem_cons_succ, List.getElem_cons_zero, Act.put, List.setIfInBounds_toArray, List.set_cons_zero, List.set_cons_succ]
  refine wpStill_val (by kernel_rfl) (.pointer (some ⟨g, k * 89 + 22 + 20, none⟩)) (by simp [go_sem, execOp]) ?_
  simp only [List.getElem_toArray, List.getElem_cons_succ, List.getElem_cons_zero, Act.put, List.setIfInBounds_toArray, List.set_cons_zero, List.set_cons_succ]
  refine wpStill_val (by kernel_rfl) (.bool f42v) (by simp [go_sem, execOp, (show wc.drew.cell? ⟨g, k * 89 + 22 + 20, none⟩ = some (.bool f42v) from c42)]) ?_
  simp only [List.getElem_toArray, List.getElem_cons_succ, List.getElem_cons_zero, Act.put, List.setIfInBounds_toArray, List.set_cons_zero, List.set_cons_succ]
  refine wpStill_val (by kernel_rfl) (.bool f42v) (by kernel_rfl) ?_
  simp only [List.getElem_toArray, List.getElem_cons_succ, List.getElem_cons_zero, Act.put, List.setIfInBounds_toArray, List.set_cons_zero, List.set_cons_succ]
  refine wpStill_bif (c := f42v) (v := .pointer (some ⟨g, k * 89 + 6, none⟩)) (wanted_t rfl (by kernel_rfl)) (fun hc => by have h0 := hc; simp [go_sem, execOp, h0, (show wc.drew.cell? ⟨gc, 0, none⟩ = some (.pointer (some ⟨g, k * 89 + 6, none⟩)) from hC)]) ?_
  simp only [List.getElem_toArray, List.getElem_cons_succ, List.getElem_cons_zero, Act.put, List.setIfInBounds_toArray, List.set_cons_zero, List.set_cons_succ]
  refine wpStill_bif (c := f42v) (v := .pointer (some ⟨g, k * 89 + 6, none⟩)) (wanted_t rfl (by kernel_rfl)) (fun hc => by have h0 := hc; simp [go_sem, execOp, h0]) ?_
  simp only [List.getElem_toArray, List.getElem_cons_succ, List.getElem_cons_zero, Act.put, List.setIfInBounds_toArray, List.set_cons_zero, List.set_cons_succ]
  refine wpStill_bif (c := f42v) (v := .pointer (some ⟨g, k * 89 + 6 + 6, none⟩)) (wanted_t rfl (by kernel_rfl)) (fun hc => by have h0 := hc; simp [go_sem, execOp, h0]) ?_
  simp only [List.getElem_toArray, List.getElem_cons_succ, List.getElem_cons_zero, Act.put, List.setIfInBounds_toArray, List.set_cons_zero, List.set_cons_succ]
  refine wpStill_bif (c := f42v) (v := .int .i64 (p.i 12)) (wanted_t rfl (by kernel_rfl)) (fun hc => by have h0 := hc; simp [go_sem, execOp, h0, (show wc.drew.cell? ⟨g, k * 89 + 6 + 6, none⟩ = some (.int .i64 (p.i 12)) from c12)]) ?_
  simp only [List.getElem_toArray, List.getElem_cons_succ, List.getElem_cons_zero, Act.put, List.setIfInBounds_toArray, List.set_cons_zero, List.set_cons_succ]
  refine wpStill_bif (c := f42v) (v := .bool q163) (wanted_t rfl (by kernel_rfl)) (fun hc => by have h0 := hc; rw [Hq163.out]; simp [go_sem, execOp, h0]) ?_
  simp only [List.getElem_toArray, List.getElem_cons_succ, List.getElem_cons_zero, Act.put, List.setIfInBounds_toArray, List.set_cons_zero, List.set_cons_succ]
  refine wpStill_val (by kernel_rfl) (.bool q164) (by rw [Hq164.out]; cases hA : f42v <;> simp [go_sem, execOp, hA]) ?_
  simp only [List.getElem_toArray, List.getElem_cons_succ, List.getElem_cons_zero, Act.put, List.setIfInBounds_toArray, List.set_cons_zero, List.set_cons_succ]
  refine wpStill_val (by kernel_rfl) (.func (.func 53) #[] #[.pointer (some ⟨gf, 0, none⟩)]) (by kernel_rfl) ?_
  simp only [List.getElem_toArray, List.getElem_cons_succ, List.getElem_cons_zero, Act.put, List.setIfInBounds_toArray, List.set_cons_zero, List.set_cons_succ]
  refine wpStill_val (by kernel_rfl) (.agg #[.bool q164, .func (.func 53) #[] #[.pointer (some ⟨gf, 0, none⟩)]]) (by simp [go_sem, execOp, bldRow]) ?_
  simp only [List.getElem_toArray, List.getElem_cons_succ, List.getElem_cons_zero, Act.put, List.setIfInBounds_toArray, List.set_cons_zero, List.set_cons_succ]
  refine wpStill_val (by kernel_rfl) (.pointer (some ⟨g, k * 89 + 22, none⟩)) (by simp [go_sem, execOp, (show wc.drew.cell? ⟨gf, 0, none⟩ = some (.pointer (some ⟨g, k * 89 + 22, none⟩)) from hF)]) ?_
  simp only [List.getElem_toArray, List.getElem_cons_succ, List.getElem_cons_zero, Act.put, List.setIfInBounds_toArray, List.set_cons_zero, List.set_cons_succ]
  refine wpStill_val (by kernel_rfl) (.pointer (some ⟨g, k * 89 + 22, none⟩)) (by simp [go_sem, execOp]) ?_
  simp only [List.getElem_toArray, List.getElem_cons_succ, List.getElem_cons_zero, Act.put, List.setIfInBounds_toArray, List.set_cons_zero, List.set_cons_succ]
  refine wpStill_val (by kernel_rfl) (.pointer (some ⟨g, k * 89 + 22 + 6, none⟩)) (by simp [go_sem, execOp]) ?_
  simp only [List.getElem_toArray, List.getElem_cons_succ, List.getElem_cons_zero, Act.put, List.setIfInBounds_toArray, List.set_cons_zero, List.set_cons_succ]
  refine wpStill_val (by kernel_rfl) (.bool f28v) (by simp [go_sem, execOp, (show wc.drew.cell? ⟨g, k * 89 + 22 + 6, none⟩ = some (.bool f28v) from c28)]) ?_
  simp only [List.getElem_toArray, List.getElem_cons_succ, List.getElem_cons_zero, Act.put, List.setIfInBounds_toArray, List.set_cons_zero, List.set_cons_succ]
  refine wpStill_val (by kernel_rfl) (.bool f28v) (by kernel_rfl) ?_
  simp only [List.getElem_toArray, List.getElem_cons_succ, List.getElem_cons_zero, Act.put, List.setIfInBounds_toArray, List.set_cons_zero, List.set_cons_succ]
  refine wpStill_bif (c := (!f28v)) (v := .pointer (some ⟨g, k * 89 + 22, none⟩)) (wanted_f rfl (by kernel_rfl)) (fun hc => by have h0 := notT (hc); simp [go_sem, execOp, h0, (show wc.drew.cell? ⟨gf, 0, none⟩ = some (.pointer (some ⟨g, k * 89 + 22, none⟩)) from hF)]) ?_
  simp only [List.getElem_toArray, List.getElem_cons_succ, List.getElem_cons_zero, Act.put, List.setIfInBounds_toArray, List.set_cons_zero, List.set_cons_succ]
  refine wpStill_bif (c := (!f28v)) (v := .pointer (some ⟨g, k * 89 + 22, none⟩)) (wanted_f rfl (by kernel_rfl)) (fun hc => by have h0 := notT (hc); simp [go_sem, execOp, h0]) ?_
  simp only [List.getElem_toArray, List.getElem_cons_succ, List.getElem_cons_zero, Act.put, List.setIfInBounds_toArray, List.set_cons_zero, List.set_cons_succ]
  refine wpStill_bif (c := (!f28v)) (v := .pointer (some ⟨g, k * 89 + 22 + 4, none⟩)) (wanted_f rfl (by kernel_rfl)) (fun hc => by have h0 := notT (hc); simp [go_sem, execOp, h0]) ?_
  simp only [List.getElem_toArray, List.getElem_cons_succ, List.getElem_cons_zero, Act.put, List.setIfInBounds_toArray, List.set_cons_zero, List.set_cons_succ]
  refine wpStill_bif (c := (!f28v)) (v := .bool f26v) (wanted_f rfl (by kernel_rfl)) (fun hc => by have h0 := notT (hc); simp [go_sem, execOp, h0, (show wc.drew.cell? ⟨g, k * 89 + 22 + 4, none⟩ = some (.bool f26v) from c26)]) ?_
  simp only [List.getElem_toArray, List.getElem_cons_succ, List.getElem_cons_zero, Act.put, List.setIfInBounds_toArray, List.set_cons_zero, List.set_cons_succ]
  refine wpStill_val (by kernel_rfl) (.bool q176) (by rw [Hq176.out]; cases hA : f28v <;> simp [go_sem, execOp, hA]) ?_
  simp only [List.getElem_toArray, List.getElem_cons_succ, List.getElem_cons_zero, Act.put, List.setIfInBounds_toArray, List.set_cons_zero, List.set_cons_succ]
  refine wpStill_val (by kernel_rfl) (.bool q176) (by kernel_rfl) ?_
  simp only [List.getElem_toArray, List.getElem_cons_succ, List.getElem_cons_zero, Act.put, List.setIfInBounds_toArray, List.set_cons_zero, List.set_cons_succ]
  refine wpStill_bif (c := q176) (v := .pointer (some ⟨g, k * 89 + 22, none⟩)) (wanted_t rfl (by kernel_rfl)) (fun hc => by have h0 := hc; simp [go_sem, execOp, h0, (show wc.drew.cell? ⟨gf, 0, none⟩ = some (.pointer (some ⟨g, k * 89 + 22, none⟩)) from hF)]) ?_
  simp only [List.getElem_toArray, List.getElem_cons_succ, List.getElem_cons_zero, Act.put, List.setIfInBounds_toArray, List.set_cons_zero, List.set_cons_succ]
  refine wpStill_bif (c := q176) (v := .pointer (some ⟨g, k * 89 + 22, none⟩)) (wanted_t rfl (by kernel_rfl)) (fun hc => by have h0 := hc; simp [go_sem, execOp, h0]) ?_
  simp only [List.getElem_toArray, List.getElem_cons_succ, List.getElem_cons_zero, Act.put, List.setIfInBounds_toArray, List.set_cons_zero, List.set_cons_succ]
  refine wpStill_bif (c := q176) (v := .pointer (some ⟨g, k * 89 + 22 + 10, none⟩)) (wanted_t rfl (by kernel_rfl)) (fun hc => by have h0 := hc; simp [go_sem, execOp, h0]) ?_
  simp only [List.getElem_toArray, List.getElem_cons_succ, List.getElem_cons_zero, Act.put, List.setIfInBounds_toArray, List.set_cons_zero, List.set_cons_succ]
  refine wpStill_bif (c := q176) (v := .bool f32v) (wanted_t rfl (by kernel_rfl)) (fun hc => by have h0 := hc; simp [go_sem, execOp, h0, (show wc.drew.cell? ⟨g, k * 89 + 22 + 10, none⟩ = some (.bool f32v) from c32)]) ?_
  simp only [List.getElem_toArray, List.getElem_cons_succ, List.getElem_cons_zero, Act.put, List.setIfInBounds_toArray, List.set_cons_zero, List.set_cons_succ]
  refine wpStill_bif (c := q176) (v := .bool q182) (wanted_t rfl (by kernel_rfl)) (fun hc => by have h0 := hc; rw [Hq182.out]; simp [go_sem, execOp, h0]) ?_
  simp only [List.getElem_toArray, List.getElem_cons_succ, List.getElem_cons_zero, Act.put, List.setIfInBounds_toArray, List.set_cons_zero, List.set_cons_succ]
  refine wpStill_val (by kernel_rfl) (.bool q183) (by rw [Hq183.out]; cases hA : q176 <;> simp [go_sem, execOp, hA]) ?_
  simp only [List.getElem_toArray, List.getElem_cons_succ, List.getElem_cons_zero, Act.put, List.setIfInBounds_toArray, List.set_cons_zero, List.set_cons_succ]
  refine wpStill_val (by kernel_rfl) (.bool q183) (by kernel_rfl) ?_
  simp only [List.getElem_toArray, List.getElem_cons_succ, List.getElem_cons_zero, Act.put, List.setIfInBounds_toArray, List.set_cons_zero, List.set_cons_succ]
  refine wpStill_bif (c := q183) (v := .bool q91) (wanted_t rfl (by kernel_rfl)) (fun hc => by have h0 := hc; simp [go_sem, execOp, h0]) ?_
  simp only [List.getElem_toArray, List.getElem_cons_succ, List.getElem_cons_zero, Act.put, List.setIfInBounds_toArray, List.set_cons_zero, List.set_cons_succ]
  refine wpStill_val (by kernel_rfl) (.bool q186) (by rw [Hq186.out]; cases hA : q183 <;> simp [go_sem, execOp, hA]) ?_
  simp only [List.getElem_toArray, List.getElem_cons_succ, List.getElem_cons_zero, Act.put, List.setIfInBounds_toArray, List.set_cons_zero, List.set_cons_succ]
  refine wpStill_val (by kernel_rfl) (.func (.func 54) #[] #[.pointer (some ⟨gf, 0, none⟩), .pointer (some ⟨gx, 0, none⟩), .pointer (some ⟨gc, 0, none⟩)]) (by kernel_rfl) ?_
  simp only [List.getElem_toArray, List.getElem_cons_succ, List.getElem_cons_zero, Act.put, List.setIfInBounds_toArray, List.set_cons_zero, List.set_cons_succ]
  refine wpStill_val (by kernel_rfl) (.agg #[.bool q186, .func (.func 54) #[] #[.pointer (some ⟨gf, 0, none⟩), .pointer (some ⟨gx, 0, none⟩), .pointer (some ⟨gc, 0, none⟩)]]) (by simp [go_sem, execOp, bldRow]) ?_
  simp only [List.getElem_toArray, List.getElem_cons_succ, List.getElem_cons_zero, Act.put, List.setIfInBounds_toArray, List.set_cons_zero, List.set_cons_succ]
  refine wpStill_val (by kernel_rfl) (.bool q61) (by kernel_rfl) ?_
  simp only [List.getElem_toArray, List.getElem_cons_succ, List.getElem_cons_zero, Act.put, List.setIfInBounds_toArray, List.set_cons_zero, List.set_cons_succ]
  refine wpStill_val (by kernel_rfl) (.bool q61) (by kernel_rfl) ?_
  simp only [List.getElem_toArray, List.getElem_cons_succ, List.getElem_cons_zero, Act.put, List.setIfInBounds_toArray, List.set_cons_zero, List.set_cons_succ]
  refine wpStill_bif (c := q61) (v := .pointer (some ⟨g, k * 89 + 22, none⟩)) (wanted_t rfl (by kernel_rfl)) (fun hc => by have h0 := hc; simp [go_sem, execOp, h0, (show wc.drew.cell? ⟨gf, 0, none⟩ = some (.pointer (some ⟨g, k * 89 + 22, none⟩)) from hF)]) ?_
  simp only [List.getElem_toArray, List.getElem_cons_succ, List.getElem_cons_zero, Act.put, List.setIfInBounds_toArray, List.set_cons_zero, List.set_cons_succ]
  refine wpStill_bif (c := q61) (v := .pointer (some ⟨g, k * 89 + 22, none⟩)) (wanted_t rfl (by kernel_rfl)) (fun hc => by have h0 := hc; simp [go_sem, execOp, h0]) ?_
  simp only [List.getElem_toArray, List.getElem_cons_succ, List.getElem_cons_zero, Act.put, List.setIfInBounds_toArray, List.set_cons_zero, List.set_cons_succ]
  refine wpStill_bif (c := q61) (v := .pointer (some ⟨g, k * 89 + 22 + 6, none⟩)) (wanted_t rfl (by kernel_rfl)) (fun hc => by have h0 := hc; simp [go_sem, execOp, h0]) ?_
  simp only [List.getElem_toArray, List.getElem_cons_succ, List.getElem_cons_zero, Act.put, List.setIfInBounds_toArray, List.set_cons_zero, List.set_cons_succ]
  refine wpStill_bif (c := q61) (v := .bool f28v) (wanted_t rfl (by kernel_rfl)) (fun hc => by have h0 := hc; simp [go_sem, execOp, h0, (show wc.drew.cell? ⟨g, k * 89 + 22 + 6, none⟩ = some (.bool f28v) from c28)]) ?_
  simp only [List.getElem_toArray, List.getElem_cons_succ, List.getElem_cons_zero, Act.put, List.setIfInBounds_toArray, List.set_cons_zero, List.set_cons_succ]
  refine wpStill_bif (c := q61) (v := .bool q195) (wanted_t rfl (by kernel_rfl)) (fun hc => by have h0 := hc; rw [Hq195.out]; simp [go_sem, execOp, h0]) ?_
  simp only [List.getElem_toArray, List.getElem_cons_succ, List.getElem_cons_zero, Act.put, List.setIfInBounds_toArray, List.set_cons_zero, List.set_cons_succ]
  refine wpStill_val (by kernel_rfl) (.bool q196) (by rw [Hq196.out]; cases hA : q61 <;> simp [go_sem, execOp, hA]) ?_
  simp only [List.getElem_toArray, List.getElem_cons_succ, List.getElem_cons_zero, Act.put, List.setIfInBounds_toArray, List.set_cons_zero, List.set_cons_succ]
  refine wpStill_val (by kernel_rfl) (.agg #[.pointer (some ⟨bx, 0, none⟩), .int .i64 k, .pointer (some ⟨g, k * 89, none⟩), .pointer (some ⟨g, k * 89 + 22, none⟩), .pointer (some ⟨g, k * 89 + 6, none⟩)]) (exec_rowX (.tmp 1) (by kernel_rfl) gx (by kernel_rfl) _ _ _ _ _ HX2.out) ?_
  simp only [List.getElem_toArray, List.getElem_cons_succ, List.getElem_cons_zero, Act.put, List.setIfInBounds_toArray, List.set_cons_zero, List.set_cons_succ]
  refine wpStill_val (by kernel_rfl) (.func (.func 46) #[.agg #[.pointer (some ⟨bx, 0, none⟩), .int .i64 k, .pointer (some ⟨g, k * 89, none⟩), .pointer (some ⟨g, k * 89 + 22, none⟩), .pointer (some ⟨g, k * 89 + 6, none⟩)]] #[]) (by kernel_rfl) ?_
  simp only [List.getElem_toArray, List.getElem_cons_succ, List.getElem_cons_zero, Act.put, List.setIfInBounds_toArray, List.set_cons_zero, List.set_cons_succ]
  refine wpStill_val (by kernel_rfl) (.agg #[.bool q196, .func (.func 46) #[.agg #[.pointer (some ⟨bx, 0, none⟩), .int .i64 k, .pointer (some ⟨g, k * 89, none⟩), .pointer (some ⟨g, k * 89 + 22, none⟩), .pointer (some ⟨g, k * 89 + 6, none⟩)]] #[]]) (by simp [go_sem, execOp, bldRow]) ?_
  simp only [List.getElem_toArray, List.getElem_cons_succ, List.getElem_cons_zero, Act.put, List.setIfInBounds_toArray, List.set_cons_zero, List.set_cons_succ]
  refine wpStill_val (by kernel_rfl) (.bool q61) (by kernel_rfl) ?_
  simp only [List.getElem_toArray, List.getElem_cons_succ, List.getElem_cons_zero, Act.put, List.setIfInBounds_toArray, List.set_cons_zero, List.set_cons_succ]
  refine wpStill_val (by kernel_rfl) (.bool q61) (by kernel_rfl) ?_
  simp only [List.getElem_toArray, List.getElem_cons_succ, List.getElem_cons_zero, Act.put, List.setIfInBounds_toArray, List.set_cons_zero, List.set_cons_succ]
  refine wpStill_bif (c := q61) (v := .pointer (some ⟨g, k * 89 + 22, none⟩)) (wanted_t rfl (by kernel_rfl)) (fun hc => by have h0 := hc; simp [go_sem, execOp, h0, (show wc.drew.cell? ⟨gf, 0, none⟩ = some (.pointer (some ⟨g, k * 89 + 22, none⟩)) from hF)]) ?_
  simp only [List.getElem_toArray, List.getElem_cons_succ, List.getElem_cons_zero, Act.put, List.setIfInBounds_toArray, List.set_cons_zero, List.set_cons_succ]
  refine wpStill_bif (c := q61) (v := .pointer (some ⟨g, k * 89 + 22, none⟩)) (wanted_t rfl (by kernel_rfl)) (fun hc => by have h0 := hc; simp [go_sem, execOp, h0]) ?_
  simp only [List.getElem_toArray, List.getElem_cons_succ, List.getElem_cons_zero, Act.put, List.setIfInBounds_toArray, List.set_cons_zero, List.set_cons_succ]
  refine wpStill_bif (c := q61) (v := .pointer (some ⟨g, k * 89 + 22 + 6, none⟩)) (wanted_t rfl (by kernel_rfl)) (fun hc => by have h0 := hc; simp [go_sem, execOp, h0]) ?_
  simp only [List.getElem_toArray, List.getElem_cons_succ, List.getElem_cons_zero, Act.put, List.setIfInBounds_toArray, List.set_cons_zero, List.set_cons_succ]
  refine wpStill_bif (c := q61) (v := .bool f28v) (wanted_t rfl (by kernel_rfl)) (fun hc => by have h0 := hc; simp [go_sem, execOp, h0, (show wc.drew.cell? ⟨g, k * 89 + 22 + 6, none⟩ = some (.bool f28v) from c28)]) ?_
  simp only [List.getElem_toArray, List.getElem_cons_succ, List.getElem_cons_zero, Act.put, List.setIfInBounds_toArray, List.set_cons_zero, List.set_cons_succ]
  refine wpStill_val (by kernel_rfl) (.bool q206) (by rw [Hq206.out]; cases hA : q61 <;> simp [go_sem, execOp, hA]) ?_
  simp only [List.getElem_toArray, List.getElem_cons_succ, List.getElem_cons_zero, Act.put, List.setIfInBounds_toArray, List.set_cons_zero, List.set_cons_succ]
  refine wpStill_val (by kernel_rfl) (.bool q206) (by kernel_rfl) ?_
  simp only [List.getElem_toArray, List.getElem_cons_succ, List.getElem_cons_zero, Act.put, List.setIfInBounds_toArray, List.set_cons_zero, List.set_cons_succ]
  refine wpStill_bif (c := q206) (v := .pointer (some ⟨g, k * 89 + 22, none⟩)) (wanted_t rfl (by kernel_rfl)) (fun hc => by have h0 := hc; simp [go_sem, execOp, h0, (show wc.drew.cell? ⟨gf, 0, none⟩ = some (.pointer (some ⟨g, k * 89 + 22, none⟩)) from hF)]) ?_
  simp only [List.getElem_toArray, List.getElem_cons_succ, List.getElem_cons_zero, Act.put, List.setIfInBounds_toArray, List.set_cons_zero, List.set_cons_succ]
  refine wpStill_bif (c := q206) (v := .pointer (some ⟨g, k * 89 + 22, none⟩)) (wanted_t rfl (by kernel_rfl)) (fun hc => by have h0 := hc; simp [go_sem, execOp, h0]) ?_
  simp only [List.getElem_toArray, List.getElem_cons_succ, List.getElem_cons_zero, Act.put, List.setIfInBounds_toArray, List.set_cons_zero, List.set_cons_succ]
  refine wpStill_bif (c := q206) (v := .pointer (some ⟨g, k * 89 + 22 + 4, none⟩)) (wanted_t rfl (by kernel_rfl)) (fun hc => by have h0 := hc; simp [go_sem, execOp, h0]) ?_
  simp only [List.getElem_toArray, List.getElem_cons_succ, List.getElem_cons_zero, Act.put, List.setIfInBounds_toArray, List.set_cons_zero, List.set_cons_succ]
  refine wpStill_bif (c := q206) (v := .bool f26v) (wanted_t rfl (by kernel_rfl)) (fun hc => by have h0 := hc; simp [go_sem, execOp, h0, (show wc.drew.cell? ⟨g, k * 89 + 22 + 4, none⟩ = some (.bool f26v) from c26)]) ?_
  simp only [List.getElem_toArray, List.getElem_cons_succ, List.getElem_cons_zero, Act.put, List.setIfInBounds_toArray, List.set_cons_zero, List.set_cons_succ]
  refine wpStill_bif (c := q206) (v := .bool q212) (wanted_t rfl (by kernel_rfl)) (fun hc => by have h0 := hc; rw [Hq212.out]; simp [go_sem, execOp, h0]) ?_
  simp only [List.getElem_toArray, List.getElem_cons_succ, List.getElem_cons_zero, Act.put, List.setIfInBounds_toArray, List.set_cons_zero, List.set_cons_succ]
  refine wpStill_val (by kernel_rfl) (.bool q213) (by rw [Hq213.out]; cases hA : q206 <;> simp [go_sem, execOp, hA]) ?_
  simp only [List.getElem_toArray, List.getElem_cons_succ, List.getElem_cons_zero, Act.put, List.setIfInBounds_toArray, List.set_cons_zero, List.set_cons_succ]
  refine wpStill_val (by kernel_rfl) (.func (.func 55) #[] #[.pointer (some ⟨gf, 0, none⟩), .pointer (some ⟨gc, 0, none⟩)]) (by kernel_rfl) ?_
  simp only [List.getElem_toArray, List.getElem_cons_succ, List.getElem_cons_zero, Act.put, List.setIfInBounds_toArray, List.set_cons_zero, List.set_cons_succ]
  refine wpStill_val (by kernel_rfl) (.agg #[.bool q213, .func (.func 55) #[] #[.pointer (some ⟨gf, 0, none⟩), .pointer (some ⟨gc, 0, none⟩)]]) (by simp [go_sem, execOp, bldRow]) ?_
  simp only [List.getElem_toArray, List.getElem_cons_succ, List.getElem_cons_zero, Act.put, List.setIfInBounds_toArray, List.set_cons_zero, List.set_cons_succ]
  refine wpStill_nil ?_
  have hE : Below wc.heap.size wc ((wc.alloc (.cells #[.bool q117, .func (.func 50) #[] #[.pointer (some ⟨gx, 0, none⟩), .pointer (some ⟨gf, 0, none⟩), .pointer (some ⟨gc, 0, none⟩)], .bool q151, .func (.func 52) #[] #[.pointer (some ⟨gc, 0, none⟩), .pointer (some ⟨gf, 0, none⟩)], .bool q164, .func (.func 53) #[] #[.pointer (some ⟨gf, 0, none⟩)], .bool q186, .func (.func 54) #[] #[.pointer (some ⟨gf, 0, none⟩), .pointer (some ⟨gx, 0, none⟩), .pointer (some ⟨gc, 0, none⟩)], .bool q196, .func (.func 46) #[.agg #[.pointer (some ⟨bx, 0, none⟩), .int .i64 k, .pointer (some ⟨g, k * 89, none⟩), .pointer (some ⟨g, k * 89 + 22, none⟩), .pointer (some ⟨g, k * 89 + 6, none⟩)]] #[], .bool q213, .func (.func 55) #[] #[.pointer (some ⟨gf, 0, none⟩), .pointer (some ⟨gc, 0, none⟩)]] 61)).drew) := (more (Below.refl _ _) _).drew
  have hr0 : q117 = (((!p.b 26 && !p.b 23) && !p.b 34) && !p.b 32) := by rw [Hq117.out, Hq116.out, Hq110.out, Hq109.out, Hq103.out, Hq102.out, Hq96.out, Hf26v.out, Hf23v.out, Hf34v.out, Hf32v.out]
  have hr1 : q151 = ((!p.b 47 && ((quietF p || p.b 23) || p.b 32)) || (p.b 47 && p.b 46)) := by rw [Hq151.out, Hq150.out, Hq139.out, Hq138.out, Hq132.out, Hq124.out, Hqq.out, Hf47v.out, Hf32v.out, Hf23v.out, Hf46v.out]
  have hr2 : q164 = (p.b 42 && p.i 12 == 0) := by rw [Hq164.out, Hq163.out, Hf42v.out]
  have hr3 : q186 = (((p.b 28 || p.b 26) && !p.b 32) && stopD p) := by rw [Hq186.out, Hq183.out, Hq182.out, Hq176.out, Hst.out, Hf28v.out, Hf26v.out, Hf32v.out]
  have hr4 : q196 = (onD p && !p.b 28) := by rw [Hq196.out, Hq195.out, Hon.out, Hf28v.out]
  have hr5 : q213 = ((onD p && p.b 28) && !p.b 26) := by rw [Hq213.out, Hq212.out, Hq206.out, Hon.out, Hf28v.out, Hf26v.out]
  have HR := Lib.hid ((rows_new (bx := bx) (g := g) (b := b) (ss := ss) (fs := fs) (W := ((wc.alloc (.cells #[.bool q117, .func (.func 50) #[] #[.pointer (some ⟨gx, 0, none⟩), .pointer (some ⟨gf, 0, none⟩), .pointer (some ⟨gc, 0, none⟩)], .bool q151, .func (.func 52) #[] #[.pointer (some ⟨gc, 0, none⟩), .pointer (some ⟨gf, 0, none⟩)], .bool q164, .func (.func 53) #[] #[.pointer (some ⟨gf, 0, none⟩)], .bool q186, .func (.func 54) #[] #[.pointer (some ⟨gf, 0, none⟩), .pointer (some ⟨gx, 0, none⟩), .pointer (some ⟨gc, 0, none⟩)], .bool q196, .func (.func 46) #[.agg #[.pointer (some ⟨bx, 0, none⟩), .int .i64 k, .pointer (some ⟨g, k * 89, none⟩), .pointer (some ⟨g, k * 89 + 22, none⟩), .pointer (some ⟨g, k * 89 + 6, none⟩)]] #[], .bool q213, .func (.func 55) #[] #[.pointer (some ⟨gf, 0, none⟩), .pointer (some ⟨gc, 0, none⟩)]] 61)).drew)) (n := 6) [(q117, .func (.func 50) #[] #[.pointer (some ⟨gx, 0, none⟩), .pointer (some ⟨gf, 0, none⟩), .pointer (some ⟨gc, 0, none⟩)]), (q151, .func (.func 52) #[] #[.pointer (some ⟨gc, 0, none⟩), .pointer (some ⟨gf, 0, none⟩)]), (q164, .func (.func 53) #[] #[.pointer (some ⟨gf, 0, none⟩)]), (q186, .func (.func 54) #[] #[.pointer (some ⟨gf, 0, none⟩), .pointer (some ⟨gx, 0, none⟩), .pointer (some ⟨gc, 0, none⟩)]), (q196, .func (.func 46) #[.agg #[.pointer (some ⟨bx, 0, none⟩), .int .i64 k, .pointer (some ⟨g, k * 89, none⟩), .pointer (some ⟨g, k * 89 + 22, none⟩), .pointer (some ⟨g, k * 89 + 6, none⟩)]] #[]), (q213, .func (.func 55) #[] #[.pointer (some ⟨gf, 0, none⟩), .pointer (some ⟨gc, 0, none⟩)])] (heap_alloc_new wc _) rfl rfl (by omega) (ds := desL b k p ps)
    ⟨⟨hr0, does_des1 (H2.out.below hE) hk ((hE.block _ lx).trans HX2.out) ngx ((hE.cell (p := ⟨gf, 0, none⟩) lF).trans hF) nF ((hE.cell (p := ⟨gc, 0, none⟩) lC).trans hC) nC⟩, ⟨hr1, does_des2 (H2.out.below hE) hk ((hE.cell (p := ⟨gf, 0, none⟩) lF).trans hF) nF ((hE.cell (p := ⟨gc, 0, none⟩) lC).trans hC) nC⟩, ⟨hr2, does_des3 (H2.out.below hE) hk ((hE.cell (p := ⟨gf, 0, none⟩) lF).trans hF) nF⟩, ⟨hr3, does_des4 (H2.out.below hE) hk ((hE.block _ lx).trans HX2.out) ngx ((hE.cell (p := ⟨gf, 0, none⟩) lF).trans hF) nF ((hE.cell (p := ⟨gc, 0, none⟩) lC).trans hC) nC⟩, ⟨hr4, does_learns (H2.out.below hE) hk⟩, ⟨hr5, does_des5 (H2.out.below hE) hk ((hE.cell (p := ⟨gf, 0, none⟩) lF).trans hF) nF ((hE.cell (p := ⟨gc, 0, none⟩) lC).trans hC) nC⟩, trivial⟩).rows)
  clear hr0 hr1 hr2 hr3 hr4 hr5
  have HE := Lib.hid hE
  clear hE
  go_wp2_with fail
  go_ret
  exact ⟨.slice (some ⟨wc.heap.size, 0, none⟩) 6 6, by kernel_rfl, HR.out, HBC.out.trans (HE.out.mono HBC.out.size)⟩
end Go.Proofs.Ytdangeefecdbaaa.Br
