/- Chapter 5: what the bytes of a message are decoded to, in plain Lean. Conditions: the message's numbers fit. -/
import Derived.Test.YtehapoilfmgjgaaDp
set_option linter.unusedSimpArgs false
set_option linter.unusedVariables false
namespace Go.Proofs.Ytehapoilfmgjgaa.Oct
open Go.RowKit
/-- A list's numbers by their places. -/
def fB (l : List Int) (q : Nat) : Int := (l[q]?).getD 0
theorem fB_ok {l : List Int} (h : ∀ x ∈ l, 0 ≤ x ∧ x ≤ 255) (q : Nat) : 0 ≤ fB l q ∧ fB l q ≤ 255 := by
  unfold fB
  cases e : l[q]? with
  | none => simp
  | some x => exact h x (List.mem_of_getElem? e)
/-- What is plain of a message. -/
def plainM (m : Msg) : Msg :=
  if m.kind = 1 then { zeroMsg with kind := 1 }
  else if m.kind = 0 then { m with prop := false, agr := false, lrn := false, fwd := false, role := 4, rx := 0, age := fromN (toN m.age), mx := fromN (toN m.mx), hel := fromN (toN m.hel), del := fromN (toN m.del) }
  else if m.kind = 2 then { m with role := roleN (toldN m.role), rx := 0, age := fromN (toN m.age), mx := fromN (toN m.mx), hel := fromN (toN m.hel), del := fromN (toN m.del) }
  else zeroMsg
theorem fbits : ∀ (c a p g l f : Bool) (t : Fin 4), bitAt (bitN c 1 + bitN a 128 + (bitN p 2 + 4 * (t.val : Int) + bitN l 16 + bitN f 32 + bitN g 64)) 1 = c ∧ bitAt (bitN c 1 + bitN a 128 + (bitN p 2 + 4 * (t.val : Int) + bitN l 16 + bitN f 32 + bitN g 64)) 128 = a ∧
    bitAt (bitN c 1 + bitN a 128 + (bitN p 2 + 4 * (t.val : Int) + bitN l 16 + bitN f 32 + bitN g 64)) 2 = p ∧ bitAt (bitN c 1 + bitN a 128 + (bitN p 2 + 4 * (t.val : Int) + bitN l 16 + bitN f 32 + bitN g 64)) 64 = g ∧ bitAt (bitN c 1 + bitN a 128 + (bitN p 2 + 4 * (t.val : Int) + bitN l 16 + bitN f 32 + bitN g 64)) 16 = l ∧
    bitAt (bitN c 1 + bitN a 128 + (bitN p 2 + 4 * (t.val : Int) + bitN l 16 + bitN f 32 + bitN g 64)) 32 = f ∧ (bitN c 1 + bitN a 128 + (bitN p 2 + 4 * (t.val : Int) + bitN l 16 + bitN f 32 + bitN g 64)) / 4 % 4 = (t.val : Int) ∧
    bitAt (bitN c 1 + bitN a 128 + 0) 1 = c ∧ bitAt (bitN c 1 + bitN a 128 + 0) 128 = a := by decide +kernel
theorem toldF (r : Int) : ∃ t : Fin 4, toldN r = (t.val : Int) := by
  rcases toldN_in r with h | h | h | h
  · exact ⟨0, h⟩
  · exact ⟨1, h⟩
  · exact ⟨2, h⟩
  · exact ⟨3, h⟩
theorem flags_2 {m : Msg} (h : m.kind = 2) : bitAt (flagsN m) 1 = m.change ∧ bitAt (flagsN m) 128 = m.ack ∧ bitAt (flagsN m) 2 = m.prop ∧ bitAt (flagsN m) 64 = m.agr ∧ bitAt (flagsN m) 16 = m.lrn ∧ bitAt (flagsN m) 32 = m.fwd ∧ flagsN m / 4 % 4 = toldN m.role := by
  obtain ⟨t, ht⟩ := toldF m.role
  have e : flagsN m = bitN m.change 1 + bitN m.ack 128 + (bitN m.prop 2 + 4 * (t.val : Int) + bitN m.lrn 16 + bitN m.fwd 32 + bitN m.agr 64) := by
    unfold flagsN
    rw [if_neg (by omega), ht]
  rw [e, ht]
  obtain ⟨a, b, c, d, e, f, g, _, _⟩ := fbits m.change m.ack m.prop m.agr m.lrn m.fwd t
  exact ⟨a, b, c, d, e, f, g⟩
theorem flags_0 {m : Msg} (h : m.kind = 0) : bitAt (flagsN m) 1 = m.change ∧ bitAt (flagsN m) 128 = m.ack := by
  have e : flagsN m = bitN m.change 1 + bitN m.ack 128 + 0 := by
    unfold flagsN
    rw [if_pos h]
  rw [e]
  obtain ⟨_, _, _, _, _, _, _, a, b⟩ := fbits m.change m.ack false false false false 0
  exact ⟨a, b⟩
theorem tot30 : tot kfM 8 = 30 := by decide
/-- The bytes of a message's numbers stand where they stand. -/
theorem fB_tail (m : Msg) (a b c d e : Int) (more : List Int) (q : Nat) (hq : q < 30) : fB ([a, b, c, d, e] ++ acc (lfM m) kfM 8 ++ more) (5 + q) = byteOf (lfM m) kfM 8 q := by
  unfold fB byteOf
  have hl := acc_length (lfM m) kfM 8
  rw [tot30] at hl
  rw [List.append_assoc, List.getElem?_append_right (by simp), List.getElem?_append_left (by simp [hl]; omega)]
  simp
theorem fB_num {m : Msg} (hm : MsgOk m) (a b c d e : Int) (more : List Int) (i : Nat) (hi : i < 8) (p k : Nat) (hp : p = 5 + tot kfM i) (hk : k = kfM i) : numAt (fB ([a, b, c, d, e] ++ acc (lfM m) kfM 8 ++ more)) p k = lfM m i := by
  subst hp hk
  have ht : tot kfM i + kfM i ≤ 30 := by rw [← tot30]; exact tot_le kfM (i + 1) 8 (by omega)
  unfold numAt
  rw [num_congr _ (fun j => byteOf (lfM m) kfM 8 (tot kfM i + j)) _ (fun j hj => by
    show fB _ (5 + tot kfM i + j) = _
    rw [Nat.add_assoc, fB_tail m a b c d e more _ (by omega)])]
  rw [back_law _ _ i 8 hi]
  apply Int.emod_eq_of_lt
  · obtain ⟨h1, h2, h3, h4⟩ := hm
    have t1 := toN_in m.age
    have t2 := toN_in m.mx
    have t3 := toN_in m.hel
    have t4 := toN_in m.del
    rcases (show i = 0 ∨ i = 1 ∨ i = 2 ∨ i = 3 ∨ i = 4 ∨ i = 5 ∨ i = 6 ∨ i = 7 by omega) with rfl | rfl | rfl | rfl | rfl | rfl | rfl | rfl <;> simp [lfM] <;> omega
  · obtain ⟨h1, h2, h3, h4⟩ := hm
    have t1 := toN_in m.age
    have t2 := toN_in m.mx
    have t3 := toN_in m.hel
    have t4 := toN_in m.del
    rcases (show i = 0 ∨ i = 1 ∨ i = 2 ∨ i = 3 ∨ i = 4 ∨ i = 5 ∨ i = 6 ∨ i = 7 by omega) with rfl | rfl | rfl | rfl | rfl | rfl | rfl | rfl <;> simp [lfM, kfM] <;> omega
theorem nums_all {m : Msg} (hm : MsgOk m) (a b c d e : Int) (more : List Int) (f : Nat → Int) (hf : f = fB ([a, b, c, d, e] ++ acc (lfM m) kfM 8 ++ more)) :
    numAt f 5 8 = m.root ∧ numAt f 13 4 = m.cost ∧ numAt f 17 8 = m.bridge ∧ numAt f 25 2 = m.port ∧ numAt f 27 2 = toN m.age ∧ numAt f 29 2 = toN m.mx ∧ numAt f 31 2 = toN m.hel ∧ numAt f 33 2 = toN m.del ∧ numAt f 0 2 = a * 256 + b ∧ f 2 = c ∧ f 3 = d ∧ f 4 = e := by
  subst hf
  refine ⟨fB_num hm a b c d e more 0 (by decide) _ _ rfl rfl, fB_num hm a b c d e more 1 (by decide) _ _ rfl rfl, fB_num hm a b c d e more 2 (by decide) _ _ rfl rfl, fB_num hm a b c d e more 3 (by decide) _ _ rfl rfl, fB_num hm a b c d e more 4 (by decide) _ _ rfl rfl, fB_num hm a b c d e more 5 (by decide) _ _ rfl rfl, fB_num hm a b c d e more 6 (by decide) _ _ rfl rfl, fB_num hm a b c d e more 7 (by decide) _ _ rfl rfl, ?_, rfl, rfl, rfl⟩
  show (0 * 256 + a) * 256 + b = _
  omega
theorem body_plain0 {m : Msg} (hm : MsgOk m) (h : m.kind = 0) (a b c d : Int) (more : List Int) : bodyM (fB ([a, b, c, d, flagsN m] ++ acc (lfM m) kfM 8 ++ more)) 0 = plainM m := by
  obtain ⟨n1, n2, n3, n4, n5, n6, n7, n8, _, _, _, hf4⟩ := nums_all hm a b c d (flagsN m) more _ rfl
  obtain ⟨f1, f2⟩ := flags_0 h
  unfold bodyM plainM
  rw [n1, n2, n3, n4, n5, n6, n7, n8, hf4, f1, f2, if_neg (by omega), if_pos h]
  obtain ⟨k, _⟩ := m
  simp only [] at h
  subst h
  rfl
theorem body_plain2 {m : Msg} (hm : MsgOk m) (h : m.kind = 2) (a b c d : Int) (more : List Int) : bodyM (fB ([a, b, c, d, flagsN m] ++ acc (lfM m) kfM 8 ++ more)) 2 = plainM m := by
  obtain ⟨n1, n2, n3, n4, n5, n6, n7, n8, _, _, _, hf4⟩ := nums_all hm a b c d (flagsN m) more _ rfl
  obtain ⟨f1, f2, f3, f4, f5, f6, f7⟩ := flags_2 h
  unfold bodyM plainM
  rw [n1, n2, n3, n4, n5, n6, n7, n8, hf4, f1, f2, f3, f4, f5, f6, f7, if_pos (rfl : (2 : Int) = 2), if_neg (show ¬ m.kind = 1 by omega), if_neg (show ¬ m.kind = 0 by omega), if_pos h]
  obtain ⟨k, _⟩ := m
  simp only [] at h
  subst h
  rfl
theorem encB_0 {m : Msg} (h : m.kind = 0) : encB m = [0, 0, 0, 0, flagsN m] ++ acc (lfM m) kfM 8 := by
  unfold encB
  rw [if_neg (by omega), if_pos h]
theorem encB_1 {m : Msg} (h : m.kind = 1) : encB m = [0, 0, 0, 128] := by
  unfold encB
  rw [if_pos h]
theorem encB_2 {m : Msg} (h : m.kind = 2) : encB m = [0, 0, 2, 2, flagsN m] ++ acc (lfM m) kfM 8 ++ [0] := by
  unfold encB
  rw [if_neg (by omega), if_neg (by omega), if_pos h]
theorem encB_no {m : Msg} (h : m.kind < 0 ∨ 2 < m.kind) : encB m = [] := by
  unfold encB
  rw [if_neg (by omega), if_neg (by omega), if_neg (by omega)]
theorem encB_len (m : Msg) : (encB m).length = if m.kind = 1 then 4 else if m.kind = 0 then 35 else if m.kind = 2 then 36 else 0 := by
  have hl := acc_length (lfM m) kfM 8
  rw [tot30] at hl
  unfold encB
  split
  · rfl
  split
  · simp [hl]
  split
  · simp [hl]
  · rfl
theorem encB_ok (m : Msg) : ∀ x ∈ encB m, 0 ≤ x ∧ x ≤ 255 := by
  have hf := flagsN_in m
  have ha := acc_ok (lfM m) kfM 8
  intro x hx
  unfold encB at hx
  split at hx
  · simp at hx; omega
  split at hx
  · rcases List.mem_append.1 hx with h | h
    · simp at h; omega
    · exact ha x h
  split at hx
  · rcases List.mem_append.1 hx with h | h
    · rcases List.mem_append.1 h with h | h
      · simp at h; omega
      · exact ha x h
    · simp at h; omega
  · cases hx
theorem plain_no {m : Msg} (h : m.kind < 0 ∨ 2 < m.kind) : plainM m = zeroMsg := by
  unfold plainM
  rw [if_neg (by omega), if_neg (by omega), if_neg (by omega)]
theorem plain_1 {m : Msg} (h : m.kind = 1) : plainM m = { zeroMsg with kind := 1 } := by
  unfold plainM
  rw [if_pos h]
/-- What a message's bytes are decoded to, whatever is behind them. -/
theorem dec_enc {m : Msg} (hm : MsgOk m) (hk : m.kind = 0 ∨ m.kind = 1 ∨ m.kind = 2) (more : List Int) : decP (fB (encB m ++ more)) ((encB m).length + more.length) = if m.kind = 0 ∧ toN m.mx ≤ toN m.age then (zeroMsg, 5) else (plainM m, 0) := by
  have hL := encB_len m
  rcases hk with h | h | h
  · rw [if_neg (by omega), if_pos h] at hL
    rw [hL]
    have hP := body_plain0 hm h 0 0 0 0 more
    rw [encB_0 h]
    generalize hg : fB ([0, 0, 0, 0, flagsN m] ++ acc (lfM m) kfM 8 ++ more) = f at hP
    obtain ⟨n1, n2, n3, n4, n5, n6, n7, n8, n9, g2, g3, g4⟩ := nums_all hm 0 0 0 0 (flagsN m) more f hg.symm
    unfold decP
    rw [if_neg (by omega), if_neg (by omega), if_neg (by omega), if_neg (by omega), if_neg (by omega), if_neg (by omega), n5, n6, hP]
    simp [h]
  · rw [if_pos h] at hL
    rw [hL, encB_1 h, if_neg (by omega), plain_1 h]
    unfold decP
    rw [if_neg (by omega), if_neg (by simp [numAt, num, fB]), if_pos (by simp [fB])]
  · rw [if_neg (by omega), if_neg (by omega), if_pos h] at hL
    rw [hL]
    have hP := body_plain2 hm h 0 0 2 2 ([0] ++ more)
    rw [encB_2 h, List.append_assoc]
    generalize hg : fB ([0, 0, 2, 2, flagsN m] ++ acc (lfM m) kfM 8 ++ ([0] ++ more)) = f at hP
    obtain ⟨n1, n2, n3, n4, n5, n6, n7, n8, n9, g2, g3, g4⟩ := nums_all hm 0 0 2 2 (flagsN m) ([0] ++ more) f hg.symm
    unfold decP
    rw [if_neg (by omega), if_neg (by omega), if_neg (by omega), if_pos (by omega), if_neg (by omega), hP, if_neg (by omega)]
/-- Cut off anywhere it is too short. -/
theorem dec_cut {m : Msg} (hm : MsgOk m) (hk : m.kind = 0 ∨ m.kind = 1 ∨ m.kind = 2) (n : Nat) (hn : n < (encB m).length) : decP (fB (encB m)) n = (zeroMsg, 2) := by
  rw [encB_len] at hn
  by_cases h4 : n < 4
  · unfold decP
    rw [if_pos h4]
  rcases hk with h | h | h
  · rw [if_neg (by omega), if_pos h] at hn
    rw [encB_0 h, ← List.append_nil ([0, 0, 0, 0, flagsN m] ++ acc (lfM m) kfM 8)]
    generalize hg : fB ([0, 0, 0, 0, flagsN m] ++ acc (lfM m) kfM 8 ++ []) = f
    obtain ⟨n1, n2, n3, n4, n5, n6, n7, n8, n9, g2, g3, g4⟩ := nums_all hm 0 0 0 0 (flagsN m) [] f hg.symm
    unfold decP
    rw [if_neg (by omega), if_neg (by omega), if_neg (by omega), if_neg (by omega), if_neg (by omega), if_pos (by omega)]
  · rw [if_pos h] at hn
    omega
  · rw [if_neg (by omega), if_neg (by omega), if_pos h] at hn
    rw [encB_2 h]
    generalize hg : fB ([0, 0, 2, 2, flagsN m] ++ acc (lfM m) kfM 8 ++ [0]) = f
    obtain ⟨n1, n2, n3, n4, n5, n6, n7, n8, n9, g2, g3, g4⟩ := nums_all hm 0 0 2 2 (flagsN m) [0] f hg.symm
    unfold decP
    rw [if_neg (by omega), if_neg (by omega), if_neg (by omega), if_pos (by omega), if_pos (by omega)]
theorem dec_0 (f : Nat → Int) : decP f 0 = (zeroMsg, 2) := rfl
theorem from_to (x : Int) : fromN (toN x) = min (max x 0) 255 := by unfold fromN toN; omega
theorem from_to' (x : Int) : fromN (toN (fromN (toN x))) = fromN (toN x) := by rw [from_to, from_to]; omega
theorem role_told (r : Int) : roleN (toldN (roleN (toldN r))) = roleN (toldN r) := by
  rcases toldN_in r with h | h | h | h <;> rw [h] <;> rfl
theorem role_told' (t : Int) (h : 0 ≤ t ∧ t ≤ 3) : roleN (toldN (roleN t)) = roleN t := by
  rcases (show t = 0 ∨ t = 1 ∨ t = 2 ∨ t = 3 by omega) with rfl | rfl | rfl | rfl <;> rfl
theorem plain_kind {m : Msg} (hk : m.kind = 0 ∨ m.kind = 1 ∨ m.kind = 2) : (plainM m).kind = m.kind := by
  unfold plainM
  rcases hk with h | h | h <;> simp [h]
theorem plain_plain {m : Msg} (hk : m.kind = 0 ∨ m.kind = 1 ∨ m.kind = 2) : plainM (plainM m) = plainM m := by
  by_cases h1 : m.kind = 1
  · rw [plain_1 h1]
    rfl
  by_cases h0 : m.kind = 0
  · have e : plainM m = { m with prop := false, agr := false, lrn := false, fwd := false, role := 4, rx := 0, age := fromN (toN m.age), mx := fromN (toN m.mx), hel := fromN (toN m.hel), del := fromN (toN m.del) } := by
      unfold plainM
      rw [if_neg h1, if_pos h0]
    rw [e]
    unfold plainM
    rw [if_neg h1, if_pos h0]
    simp only [from_to']
  by_cases h2 : m.kind = 2
  · have e : plainM m = { m with role := roleN (toldN m.role), rx := 0, age := fromN (toN m.age), mx := fromN (toN m.mx), hel := fromN (toN m.hel), del := fromN (toN m.del) } := by
      unfold plainM
      rw [if_neg h1, if_neg h0, if_pos h2]
    rw [e]
    unfold plainM
    rw [if_neg h1, if_neg h0, if_pos h2]
    simp only [from_to', role_told]
  · omega
theorem MsgOk.plain {m : Msg} (h : MsgOk m) : MsgOk (plainM m) := by
  obtain ⟨a, b, c, d⟩ := h
  unfold plainM
  split
  · exact ⟨by decide, by decide, by decide, by decide⟩
  split
  · exact ⟨a, b, c, d⟩
  split
  · exact ⟨a, b, c, d⟩
  · exact ⟨by decide, by decide, by decide, by decide⟩
/-- What any bytes are decoded to is plain, and nothing if there is an error. -/
theorem dec_some (f : Nat → Int) (n : Nat) (hb : ∀ j, j < n → 0 ≤ f j ∧ f j ≤ 255) (m : Msg) (e : Int) (h : decP f n = (m, e)) : (e ≠ 0 ∧ m = zeroMsg) ∨ e = 0 ∧ MsgOk m ∧ (m = { zeroMsg with kind := 1 } ∨ ((m.kind = 0 ∨ m.kind = 2) ∧ ((0 ≤ m.age ∧ m.age ≤ 255) ∧ (0 ≤ m.mx ∧ m.mx ≤ 255) ∧ (0 ≤ m.hel ∧ m.hel ≤ 255) ∧ (0 ≤ m.del ∧ m.del ≤ 255) → plainM m = m)) ∧ 0 ≤ m.age ∧ 0 ≤ m.mx ∧ 0 ≤ m.hel ∧ 0 ≤ m.del) := by
  have key : ∀ k, (k = 0 ∨ k = 2) → 35 ≤ n → bodyM f k = m → MsgOk m ∧ (m = { zeroMsg with kind := 1 } ∨ ((m.kind = 0 ∨ m.kind = 2) ∧ ((0 ≤ m.age ∧ m.age ≤ 255) ∧ (0 ≤ m.mx ∧ m.mx ≤ 255) ∧ (0 ≤ m.hel ∧ m.hel ≤ 255) ∧ (0 ≤ m.del ∧ m.del ≤ 255) → plainM m = m)) ∧ 0 ≤ m.age ∧ 0 ≤ m.mx ∧ 0 ≤ m.hel ∧ 0 ≤ m.del) := by
    intro k hk hn hm
    have b1 := numAt_in hb 5 8 (by omega)
    have b2 := numAt_in hb 13 4 (by omega)
    have b3 := numAt_in hb 17 8 (by omega)
    have b4 := numAt_in hb 25 2 (by omega)
    have b5 := numAt_in hb 27 2 (by omega)
    have b6 := numAt_in hb 29 2 (by omega)
    have b7 := numAt_in hb 31 2 (by omega)
    have b8 := numAt_in hb 33 2 (by omega)
    have h4 := hb 4 (by omega)
    have c5 : 0 ≤ fromN (numAt f 27 2) := by unfold fromN; omega
    have c6 : 0 ≤ fromN (numAt f 29 2) := by unfold fromN; omega
    have c7 : 0 ≤ fromN (numAt f 31 2) := by unfold fromN; omega
    have c8 : 0 ≤ fromN (numAt f 33 2) := by unfold fromN; omega
    refine ⟨by rw [← hm]; exact ⟨b1, b2, b3, b4⟩, .inr ⟨⟨by rw [← hm]; exact hk, ?_⟩, by rw [← hm]; exact ⟨c5, c6, c7, c8⟩⟩⟩
    rintro ⟨a1, a2, a3, a4⟩
    have e1 : fromN (toN m.age) = m.age := by rw [from_to]; omega
    have e2 : fromN (toN m.mx) = m.mx := by rw [from_to]; omega
    have e3 : fromN (toN m.hel) = m.hel := by rw [from_to]; omega
    have e4 : fromN (toN m.del) = m.del := by rw [from_to]; omega
    rcases hk with rfl | rfl
    · unfold plainM
      rw [if_neg (by rw [← hm]; simp [bodyM]), if_pos (by rw [← hm]; rfl), e1, e2, e3, e4]
      rw [← hm]
      rfl
    · unfold plainM
      rw [if_neg (by rw [← hm]; simp [bodyM]), if_neg (by rw [← hm]; simp [bodyM]), if_pos (by rw [← hm]; rfl), e1, e2, e3, e4]
      have er : roleN (toldN m.role) = m.role := by
        rw [← hm]
        exact role_told' _ (by omega)
      rw [er]
      rw [← hm]
      rfl
  unfold decP at h
  split at h
  · obtain ⟨rfl, rfl⟩ := Prod.mk.inj h; exact .inl ⟨by decide, rfl⟩
  split at h
  · obtain ⟨rfl, rfl⟩ := Prod.mk.inj h; exact .inl ⟨by decide, rfl⟩
  split at h
  · obtain ⟨rfl, rfl⟩ := Prod.mk.inj h; exact .inr ⟨rfl, ⟨by decide, by decide, by decide, by decide⟩, .inl rfl⟩
  split at h
  · split at h
    · obtain ⟨rfl, rfl⟩ := Prod.mk.inj h; exact .inl ⟨by decide, rfl⟩
    · obtain ⟨h1, rfl⟩ := Prod.mk.inj h; exact .inr ⟨rfl, key 2 (.inr rfl) (by omega) h1⟩
  split at h
  · obtain ⟨rfl, rfl⟩ := Prod.mk.inj h; exact .inl ⟨by decide, rfl⟩
  split at h
  · obtain ⟨rfl, rfl⟩ := Prod.mk.inj h; exact .inl ⟨by decide, rfl⟩
  split at h
  · obtain ⟨rfl, rfl⟩ := Prod.mk.inj h; exact .inl ⟨by decide, rfl⟩
  · obtain ⟨h1, rfl⟩ := Prod.mk.inj h; exact .inr ⟨rfl, key 0 (.inl rfl) (by omega) h1⟩
end Go.Proofs.Ytehapoilfmgjgaa.Oct
