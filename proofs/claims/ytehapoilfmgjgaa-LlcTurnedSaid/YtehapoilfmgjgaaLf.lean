/- Chapter 6: the plain law of frames: what a message's frame is opened to, whole, cut, with another byte, with another number in it. Conditions: the message's numbers fit. -/
import Derived.Test.YtehapoilfmgjgaaOp
import Derived.Test.YtehapoilfmgjgaaWr
set_option linter.unusedVariables false
namespace Go.Proofs.Ytehapoilfmgjgaa.Oct
open Go.RowKit
theorem numAt_congr {f g : Nat → Int} (c k : Nat) (h : ∀ j, c ≤ j → j < c + k → f j = g j) : numAt f c k = numAt g c k :=
  num_congr _ _ k fun i hi => h (c + i) (by omega) (by omega)
theorem body_congr {f g : Nat → Int} (k : Int) (h : ∀ j, j < 35 → f j = g j) : bodyM f k = bodyM g k := by
  unfold bodyM
  rw [h 4 (by omega), numAt_congr (f := f) (g := g) 5 8 (fun j _ _ => h j (by omega)), numAt_congr (f := f) (g := g) 13 4 (fun j _ _ => h j (by omega)), numAt_congr (f := f) (g := g) 17 8 (fun j _ _ => h j (by omega)), numAt_congr (f := f) (g := g) 25 2 (fun j _ _ => h j (by omega)), numAt_congr (f := f) (g := g) 27 2 (fun j _ _ => h j (by omega)), numAt_congr (f := f) (g := g) 29 2 (fun j _ _ => h j (by omega)), numAt_congr (f := f) (g := g) 31 2 (fun j _ _ => h j (by omega)), numAt_congr (f := f) (g := g) 33 2 (fun j _ _ => h j (by omega))]
theorem dec_congr {f g : Nat → Int} {n : Nat} (h : ∀ j, j < n → f j = g j) : decP f n = decP g n := by
  unfold decP
  by_cases h4 : n < 4
  · rw [if_pos h4, if_pos h4]
  rw [if_neg h4, if_neg h4, numAt_congr (f := f) (g := g) 0 2 (fun j _ _ => h j (by omega)), h 3 (by omega), h 2 (by omega)]
  by_cases h36 : n < 36
  · rw [if_pos h36, if_pos h36]
    by_cases h35 : n < 35
    · rw [if_pos h35, if_pos h35]
    · rw [if_neg h35, if_neg h35, numAt_congr (f := f) (g := g) 29 2 (fun j _ _ => h j (by omega)), numAt_congr (f := f) (g := g) 27 2 (fun j _ _ => h j (by omega)), body_congr 0 (fun j hj => h j (by omega))]
  · rw [if_neg h36, if_neg h36, if_neg (show ¬ n < 35 by omega), if_neg (show ¬ n < 35 by omega), numAt_congr (f := f) (g := g) 29 2 (fun j _ _ => h j (by omega)), numAt_congr (f := f) (g := g) 27 2 (fun j _ _ => h j (by omega)), body_congr 0 (fun j hj => h j (by omega)), body_congr 2 (fun j hj => h j (by omega))]
/-- A kind that there is. -/
def Kinds (m : Msg) : Prop := m.kind = 0 ∨ m.kind = 1 ∨ m.kind = 2
/-- What a message's bytes are decoded to: the message that is plain of it, or why it is none. -/
def ansM (m : Msg) : Msg × Int := if m.kind = 0 ∧ toN m.mx ≤ toN m.age then (zeroMsg, 5) else (plainM m, 0)
theorem fB_app_l {l l' : List Int} {j : Nat} (h : j < l.length) : fB (l ++ l') j = fB l j := by
  unfold fB
  rw [List.getElem?_append_left h]
theorem fB_app_r {l l' : List Int} (j : Nat) : fB (l ++ l') (l.length + j) = fB l' j := by
  unfold fB
  rw [List.getElem?_append_right (by omega)]
  congr 2
  omega
theorem dec_more {m : Msg} (hm : MsgOk m) (hk : Kinds m) {f : Nat → Int} {n : Nat} (hn : (encB m).length ≤ n) (h : ∀ j, j < (encB m).length → f j = fB (encB m) j) : decP f n = ansM m := by
  have hd := dec_enc hm hk ((List.range (n - (encB m).length)).map fun j => f ((encB m).length + j))
  rw [List.length_map, List.length_range, show (encB m).length + (n - (encB m).length) = n by omega] at hd
  rw [← show decP _ n = ansM m from hd]
  refine dec_congr fun j hj => ?_
  by_cases hl : j < (encB m).length
  · rw [fB_app_l hl, h j hl]
  · obtain ⟨i, rfl⟩ : ∃ i, j = (encB m).length + i := ⟨j - (encB m).length, by omega⟩
    rw [fB_app_r]
    unfold fB
    rw [List.getElem?_map, List.getElem?_range (by omega)]
    rfl
theorem dec_less {m : Msg} (hm : MsgOk m) (hk : Kinds m) {f : Nat → Int} {n : Nat} (hn : n < (encB m).length) (h : ∀ j, j < (encB m).length → f j = fB (encB m) j) : decP f n = (zeroMsg, 2) := by
  rw [← dec_cut hm hk n hn]
  exact dec_congr fun j hj => h j (by omega)
/-- Bytes that begin as a message's frame does. -/
structure IsWrap (f : Nat → Int) (src : Int) (m : Msg) : Prop where
  dst : numAt f 0 6 = 1652522221568
  src : numAt f 6 6 = src % 281474976710656
  hi : f 12 = 0
  lo : f 13 = 3 + (encB m).length
  sap : numAt f 14 3 = 4342275
  msg : ∀ j, j < (encB m).length → f (17 + j) = fB (encB m) j
theorem numAt_2 (f : Nat → Int) (c : Nat) : numAt f c 2 = f c * 256 + f (c + 1) := by
  show (0 * 256 + f (c + 0)) * 256 + f (c + 1) = _
  simp
theorem enc_pos {m : Msg} (hk : Kinds m) : 4 ≤ (encB m).length ∧ (encB m).length ≤ 36 := by
  rw [encB_len]
  rcases hk with h | h | h <;> simp [h]
theorem enc_ne {m : Msg} (hk : Kinds m) : encB m ≠ [] := by
  intro h
  have := (enc_pos hk).1
  rw [h] at this
  simp at this
theorem enc_no {m : Msg} (hk : ¬ Kinds m) : encB m = [] := encB_no (by unfold Kinds at hk; omega)
theorem wrap_eq {m : Msg} (hk : Kinds m) (src : Int) : wrapB src m = acc (lfW src (encB m).length) kfW 4 ++ encB m ++ List.replicate (43 - (encB m).length) 0 := by
  unfold wrapB
  rw [if_neg (enc_ne hk)]
theorem wrap_no {m : Msg} (hk : ¬ Kinds m) (src : Int) : wrapB src m = [] := by
  unfold wrapB
  rw [if_pos (enc_no hk)]
theorem wrap_len {m : Msg} (hk : Kinds m) (src : Int) : (wrapB src m).length = 60 := by
  have := enc_pos hk
  rw [wrap_eq hk, List.length_append, List.length_append, acc_length, totW, List.length_replicate]
  omega
theorem wrap_ok (src : Int) (m : Msg) : ∀ x ∈ wrapB src m, 0 ≤ x ∧ x ≤ 255 := by
  intro x hx
  unfold wrapB at hx
  split at hx
  · cases hx
  rcases List.mem_append.1 hx with h | h
  · rcases List.mem_append.1 h with h | h
    · exact acc_ok _ _ _ x h
    · exact encB_ok m x h
  · obtain ⟨_, rfl⟩ := List.mem_replicate.1 h
    omega
theorem wrap_head {src : Int} {n : Nat} (l : List Int) (i p k : Nat) (hi : i < 4) (hp : p = tot kfW i) (hk : k = kfW i) : numAt (fB (acc (lfW src n) kfW 4 ++ l)) p k = lfW src n i % 256 ^ k := by
  subst hp hk
  have ht : tot kfW i + kfW i ≤ 17 := by rw [← totW]; exact tot_le kfW (i + 1) 4 (by omega)
  unfold numAt
  rw [num_congr _ (fun j => byteOf (lfW src n) kfW 4 (tot kfW i + j)) _ (fun j hj => fB_app_l (by rw [acc_length, totW]; omega)), back_law _ _ i 4 hi]
theorem wrap_is {m : Msg} (hk : Kinds m) (src : Int) (more : List Int) : IsWrap (fB (wrapB src m ++ more)) src m := by
  have hl := enc_pos hk
  have ha : (acc (lfW src (encB m).length) kfW 4).length = 17 := by rw [acc_length, totW]
  rw [wrap_eq hk, List.append_assoc, List.append_assoc]
  generalize hr : List.replicate (43 - (encB m).length) 0 ++ more = r
  have h2 := wrap_head (src := src) (n := (encB m).length) (encB m ++ r) 2 12 2 (by omega) rfl rfl
  have h2' : lfW src (encB m).length 2 % 256 ^ 2 = 3 + (encB m).length := by
    show (3 + ((encB m).length : Int)) % 65536 = _
    omega
  rw [h2', numAt_2] at h2
  simp only [Nat.reduceAdd] at h2
  have hok : ∀ j, 0 ≤ fB (acc (lfW src (encB m).length) kfW 4 ++ (encB m ++ r)) j → True := fun _ _ => trivial
  have b12 : 0 ≤ fB (acc (lfW src (encB m).length) kfW 4 ++ (encB m ++ r)) 12 ∧ fB (acc (lfW src (encB m).length) kfW 4 ++ (encB m ++ r)) 12 ≤ 255 := by
    rw [fB_app_l (by omega)]
    exact byteOf_ok _ _ _ _
  have b13 : 0 ≤ fB (acc (lfW src (encB m).length) kfW 4 ++ (encB m ++ r)) 13 ∧ fB (acc (lfW src (encB m).length) kfW 4 ++ (encB m ++ r)) 13 ≤ 255 := by
    rw [fB_app_l (by omega)]
    exact byteOf_ok _ _ _ _
  refine ⟨wrap_head (encB m ++ r) 0 0 6 (by omega) rfl rfl, wrap_head (encB m ++ r) 1 6 6 (by omega) rfl rfl, by omega, by omega, wrap_head (encB m ++ r) 3 14 3 (by omega) rfl rfl, fun j hj => ?_⟩
  rw [← ha, fB_app_r, fB_app_l hj]
/-- A frame is opened to what is plain of its message, whatever is behind it. -/
theorem open_is {f : Nat → Int} {src : Int} {m : Msg} (hm : MsgOk m) (hk : Kinds m) (h : IsWrap f src m) {n : Nat} (hn : 17 + (encB m).length ≤ n) : openP f n = if (ansM m).2 = 0 then (src % 281474976710656, (ansM m).1, 0) else (0, zeroMsg, (ansM m).2) := by
  have hl := enc_pos hk
  have hz : numAt f 12 2 = 3 + ((encB m).length : Int) := by rw [numAt_2, h.hi, h.lo]; omega
  have hd : decP (fun j => f (17 + j)) (encB m).length = ansM m := dec_more hm hk (Nat.le_refl _) h.msg
  unfold openP
  rw [if_neg (by omega), h.dst, h.sap, hz, if_neg (by omega), show ((3 : Int) + ((encB m).length : Int) - 3).toNat = (encB m).length by omega, hd, h.src]
/-- Cut off it is none. -/
theorem open_cut {f : Nat → Int} {src : Int} {m : Msg} (hk : Kinds m) (h : IsWrap f src m) {n : Nat} (hn : n < 17 + (encB m).length) : openP f n = (0, zeroMsg, 2) ∨ openP f n = (0, zeroMsg, 3) := by
  have hl := enc_pos hk
  have hz : numAt f 12 2 = 3 + ((encB m).length : Int) := by rw [numAt_2, h.hi, h.lo]; omega
  unfold openP
  by_cases h17 : n < 17
  · rw [if_pos h17]
    exact .inl rfl
  · rw [if_neg h17, if_pos (by omega)]
    exact .inr rfl
/-- Of another number of bytes. -/
theorem open_size {f g : Nat → Int} {src : Int} {m : Msg} (hm : MsgOk m) (hk : m.kind = 2) (h : IsWrap f src m) (v : Int) (hv : 0 ≤ v ∧ v ≤ 255) (hg : g 13 = v) (ho : ∀ j, j ≠ 13 → g j = f j) : openP g 60 = if v < 3 ∨ 46 < v then (0, zeroMsg, 3) else if v < 39 then (0, zeroMsg, 2) else (src % 281474976710656, plainM m, 0) := by
  have hK : Kinds m := .inr (.inr hk)
  have hL : (encB m).length = 36 := by rw [encB_len, if_neg (by omega), if_neg (by omega), if_pos hk]
  have hA : ansM m = (plainM m, 0) := by unfold ansM; rw [if_neg (by omega)]
  have hz : numAt g 12 2 = v := by rw [numAt_2, ho 12 (by omega), h.hi, hg]; omega
  have h0 : numAt g 0 6 = 1652522221568 := by rw [← h.dst]; exact numAt_congr 0 6 (fun j _ _ => ho j (by omega))
  have h6 : numAt g 6 6 = src % 281474976710656 := by rw [← h.src]; exact numAt_congr 6 6 (fun j _ _ => ho j (by omega))
  have h14 : numAt g 14 3 = 4342275 := by rw [← h.sap]; exact numAt_congr 14 3 (fun j _ _ => ho j (by omega))
  have hmsg : ∀ j, j < (encB m).length → g (17 + j) = fB (encB m) j := fun j hj => by rw [ho _ (by omega), h.msg j hj]
  unfold openP
  rw [if_neg (by omega), h0, h14, hz, h6]
  by_cases hb : v < 3 ∨ 46 < v
  · rw [if_pos (by omega), if_pos hb]
  rw [if_neg (by omega), if_neg hb]
  by_cases h39 : v < 39
  · have hd : decP (fun j => g (17 + j)) (v - 3).toNat = (zeroMsg, 2) := dec_less hm hK (by omega) hmsg
    rw [hd, if_pos h39]
    rfl
  · have hd : decP (fun j => g (17 + j)) (v - 3).toNat = ansM m := dec_more hm hK (by omega) hmsg
    rw [hd, hA, if_neg h39]
    rfl
theorem numAt_3 (f : Nat → Int) (c : Nat) : numAt f c 3 = (f c * 256 + f (c + 1)) * 256 + f (c + 2) := by
  show ((0 * 256 + f (c + 0)) * 256 + f (c + 1)) * 256 + f (c + 2) = _
  simp
theorem numAt_6 (f : Nat → Int) (c : Nat) : numAt f c 6 = ((((f c * 256 + f (c + 1)) * 256 + f (c + 2)) * 256 + f (c + 3)) * 256 + f (c + 4)) * 256 + f (c + 5) := by
  show (((((0 * 256 + f (c + 0)) * 256 + f (c + 1)) * 256 + f (c + 2)) * 256 + f (c + 3)) * 256 + f (c + 4)) * 256 + f (c + 5) = _
  simp
/-- With another byte of whom it goes to, or of what it is, it is none. -/
theorem open_turned {f g : Nat → Int} {src : Int} {m : Msg} (h : IsWrap f src m) {k : Nat} (hk : k < 6 ∨ k = 14 ∨ k = 15 ∨ k = 16) (hg : g k ≠ f k) (ho : ∀ j, j ≠ k → g j = f j) : openP g 60 = (0, zeroMsg, 3) := by
  have key : numAt g 0 6 ≠ 1652522221568 ∨ numAt g 14 3 ≠ 4342275 := by
    have e1 := h.dst
    have e2 := h.sap
    rw [numAt_6] at e1 ⊢
    rw [numAt_3] at e2 ⊢
    simp only [Nat.zero_add, Nat.reduceAdd] at e1 e2 ⊢
    rcases (show k = 0 ∨ k = 1 ∨ k = 2 ∨ k = 3 ∨ k = 4 ∨ k = 5 ∨ k = 14 ∨ k = 15 ∨ k = 16 by omega) with rfl | rfl | rfl | rfl | rfl | rfl | rfl | rfl | rfl
    all_goals
      first
      | (have := ho 0 (by omega)) | skip
    · have := ho 1 (by omega); have := ho 2 (by omega); have := ho 3 (by omega); have := ho 4 (by omega); have := ho 5 (by omega); omega
    · have := ho 2 (by omega); have := ho 3 (by omega); have := ho 4 (by omega); have := ho 5 (by omega); omega
    · have := ho 1 (by omega); have := ho 3 (by omega); have := ho 4 (by omega); have := ho 5 (by omega); omega
    · have := ho 1 (by omega); have := ho 2 (by omega); have := ho 4 (by omega); have := ho 5 (by omega); omega
    · have := ho 1 (by omega); have := ho 2 (by omega); have := ho 3 (by omega); have := ho 5 (by omega); omega
    · have := ho 1 (by omega); have := ho 2 (by omega); have := ho 3 (by omega); have := ho 4 (by omega); omega
    · have := ho 15 (by omega); have := ho 16 (by omega); omega
    · have := ho 14 (by omega); have := ho 16 (by omega); omega
    · have := ho 14 (by omega); have := ho 15 (by omega); omega
  unfold openP
  rw [if_neg (by omega), if_pos (by rcases key with h | h; exact .inl h; exact .inr (.inl h))]
theorem OwnB.at {w : World} {base : Nat} {v : Value} {l : List Int} (h : OwnB w base v l) (hl : l ≠ []) : ∃ g c, v = .slice (some ⟨g, 0, none⟩) l.length c ∧ l.length ≤ c ∧ c ≤ maxLen := by
  obtain ⟨h1, ⟨rfl, h2⟩ | ⟨g, c, cur, rfl, hg, hh, h3, h4, h5, h6⟩⟩ := h
  · exact absurd (List.eq_nil_of_length_eq_zero h2) hl
  · exact ⟨g, c, rfl, h3, h4⟩
theorem OwnB.cell {w : World} {base g c n : Nat} {l : List Int} (h : OwnB w base (.slice (some ⟨g, 0, none⟩) n c) l) {j : Nat} (hj : j < l.length) : w.cell? ⟨g, j, none⟩ = some (.int .u8 (fB l j)) := by
  obtain ⟨a, n', c', e, hn', hv, _⟩ := h.view
  injection e with e1 e2 e3
  subst e1 e2
  rcases hv with h0 | ⟨g', o', e', hc⟩
  · omega
  · injection e' with e'
    injection e' with e1 e2
    subst e1
    subst e2
    simpa using hc j (by omega) 0 (by omega)
theorem OwnB.free {w : World} {base g c n : Nat} {l : List Int} (h : OwnB w base (.slice (some ⟨g, 0, none⟩) n c) l) (j : Nat) : w.frozen? ⟨g, j, none⟩ = false := by
  obtain ⟨h1, ⟨h2, _⟩ | ⟨g', c', cur, h2, hg, hh, h3, h4, h5, h6⟩⟩ := h
  · cases h2
  · injection h2 with e1 e2 e3
    injection e1 with e1
    injection e1 with e1
    subst e1
    exact free_block hh j
theorem OwnB.cut {w : World} {base g c n : Nat} {l : List Int} (h : OwnB w base (.slice (some ⟨g, 0, none⟩) n c) l) (k : Nat) (hk : k ≤ l.length) : View w (some ⟨g, 0, none⟩) 1 k (fun j _ => .int .u8 (fB l j)) := by
  refine .inr ⟨g, 0, rfl, fun i hi j hj => ?_⟩
  obtain rfl : j = 0 := by omega
  simpa using h.cell (j := i) (by omega)
/-- Bytes of the call's own are opened. -/
theorem open_own {w : World} {base : Nat} {v : Value} {l : List Int} (h : OwnB w base v l) (hb : ∀ x ∈ l, 0 ≤ x ∧ x ≤ 255) (hl : l.length ≤ 100000) {s : Int} {x : Msg} {ex : Int} (hd : openP (fB l) l.length = (s, x, ex)) :
    Calls Try.prog 11 #[v] w fun e w' => e = .returned (.tuple #[.int .u64 s, .agg (rowM x), .int .i64 ex]) ∧ Below w.heap.size w w' := by
  have hc : ∀ a n c, v = .slice a n c → n ≤ c ∧ c ≤ maxLen := by
    intro a n c e
    obtain ⟨h1, ⟨rfl, h2⟩ | ⟨g, c', cur, rfl, hg, hh, h3, h4, h5, h6⟩⟩ := h
    · injection e with e1 e2 e3
      subst e2 e3
      exact ⟨Nat.le_refl _, Nat.zero_le _⟩
    · injection e with e1 e2 e3
      subst e2 e3
      exact ⟨h3, h4⟩
  obtain ⟨a, n, c, rfl, rfl, hv, hnil⟩ := h.view
  refine (open_any_frame w a l.length c (fB l) hv (fun j _ => fB_ok hb j) hnil hl (hc _ _ _ rfl)).mono ?_
  rintro e w' ⟨rfl, hb⟩
  rw [hd]
  exact ⟨rfl, hb⟩
end Go.Proofs.Ytehapoilfmgjgaa.Oct
