/- Bytes as a string, and what the examples of the laws of chapter 1 answer: true. -/
import Derived.Test.YtbeagokbhlaeeaaReader
import Derived.Laws.IdiomStrings
set_option linter.unusedSimpArgs false
namespace Go.Proofs.Ytbeagokbhlaeeaa.Oct
open Go.RowKit
/-- Bytes as a string. -/
def strOf (l : List Int) : ByteArray := ⟨(l.map fun x => UInt8.ofNat x.toNat).toArray⟩
theorem str_conv (w : World) (g o cap n : Nat) (l : List Int) (hn : n = l.length) (hb : ∀ x ∈ l, 0 ≤ x ∧ x ≤ 255) (hc : ∀ j (hj : j < l.length), w.cell? ⟨g, o + j, none⟩ = some (.int .u8 l[j])) :
    Sem.run Try.prog (convert 25 9 (.slice (some ⟨g, o, none⟩) n cap)) w = .ok (.string (strOf l)) w := by
  subst hn
  have h := run_convert_bytes_back (P := Try.prog) w 25 9 5 ⟨g, o, none⟩ cap (l.map fun x => UInt8.ofNat x.toNat) Try.underlying25 Try.underlying5 Try.underlying9 (fun j hj => by
    have hj' : j < l.length := by simpa using hj
    rw [Addr.add_mid, hc j hj']
    have hx := hb l[j] (List.getElem_mem hj')
    simp only [List.getElem_map]
    congr 2
    rw [UInt8.toNat_ofNat']
    omega)
  simpa [strOf] using h
theorem bytesOf_ok (n : Int) (k : Nat) : ∀ x ∈ bytesOf n k, 0 ≤ x ∧ x ≤ 255 := by
  intro x hx
  unfold bytesOf byteAt at hx
  obtain ⟨j, _, rfl⟩ := List.mem_map.1 hx
  omega
theorem bytesOf_length (n : Int) (k : Nat) : (bytesOf n k).length = k := by simp [bytesOf]
/-- A number's bytes as a string, where they lie. -/
theorem str_put (w : World) (g : Nat) (n : Int) (k : Nat) (hg : w.heap[g]? = some (.cells (cellsB (bytesOf n k)) 5 (0, 0))) :
    Sem.run Try.prog (convert 25 9 (.slice (some ⟨g, 0, none⟩) k k)) w = .ok (.string (strOf (bytesOf n k))) w :=
  str_conv w g 0 k k (bytesOf n k) (bytesOf_length n k).symm (bytesOf_ok n k) (fun j hj => by
    rw [Nat.zero_add, cells_of hg]
    unfold cellsB
    simp [hj])
theorem Rd.below {w w' : World} {rg n : Nat} {f : Nat → Int} {s : Bool} (h : Rd w rg n f s) (hb : Below w.heap.size w w') : Rd w' rg n f s := by
  obtain ⟨a, c, hr, hv, h1⟩ := h
  exact ⟨a, c, (hb.block _ (Array.getElem?_eq_some_iff.1 hr).1).trans hr, hv.below hb, h1⟩
/-- The example's bytes. -/
def exB (j : Nat) : Int := if j = 0 then 1 else if j = 1 then 2 else 3
theorem ex_num : num exB 2 = 258 := by decide
theorem ex_s2 : strOf (bytesOf 258 2) = ⟨#[1, 2]⟩ := by decide
theorem ex_s1 : strOf (bytesOf 258 1) = ⟨#[2]⟩ := by decide
theorem mk3 (w : World) : Sem.run Try.prog (Instr.buildSlice 25 3 #[(0, .int .u8 1), (1, .int .u8 2), (2, .int .u8 3)]) w = .ok (.slice (some ⟨w.heap.size, 0, none⟩) 3 3) (w.alloc (.cells #[.int .u8 1, .int .u8 2, .int .u8 3] 5)) := by kernel_rfl
attribute [local go_sem] mk3
set_option maxHeartbeats 2000000 in
theorem awake_any (w : World) : Calls Try.prog 8 #[] w fun e w' => e = .returned (.bool true) ∧ Below w.heap.size w w' := by
  have hv : View (w.alloc (.cells #[.int .u8 1, .int .u8 2, .int .u8 3] 5)) (some ⟨w.heap.size, 0, none⟩) 1 3 (fun j _ => .int .u8 (exB j)) :=
    .inr ⟨w.heap.size, 0, rfl, fun k hk j hj => by
      obtain rfl : j = 0 := by omega
      rw [Nat.zero_add, cells_of (heap_alloc_new _ _)]
      match k, hk with
      | 0, _ => rfl
      | 1, _ => rfl
      | 2, _ => rfl⟩
  have Hv := Lib.hid hv
  clear hv
  go_enter Try.func8, Try.ntmps8
  go_wp2_with fail
  refine (new_any _ _ 3 3 exB Hv.out (fun j hj => by unfold exB; split <;> (try split) <;> omega) (fun h => by cases h) (by omega)).mono ?_
  rintro e w1 ⟨rg, rfl, hrg, hrd, hb1⟩
  have Hrd := Lib.hid hrd
  have HB1 := Lib.hid (andthen (more (Below.refl w.heap.size w) _) hb1)
  have hlr : w.heap.size ≤ rg := by simp at hrg; omega
  clear hrd hb1
  go_wp2_with fail
  refine (take_in w1 rg 3 2 exB Hrd.out (by omega) (by omega)).mono ?_
  rintro e w2 ⟨rfl, hrd2, ho2⟩
  rw [ex_num]
  have Hrd2 := Lib.hid hrd2
  have HB2 := Lib.hid (HB1.out.trans (ho2.below HB1.out.size (fun k hk => by omega)))
  clear hrd2 ho2 Hrd
  go_wp2_with fail
  refine (put_any 258 (by omega) 2 (by omega) w2).mono ?_
  rintro e w3 ⟨rfl, rfl⟩
  have s2 := str_put (w2.alloc (.cells (cellsB (bytesOf 258 2)) 5)) w2.heap.size 258 2 (heap_alloc_new _ _)
  rw [ex_s2] at s2
  go_wp2_with fail
  refine (put_any 258 (by omega) 1 (by omega) _).mono ?_
  rintro e w3 ⟨rfl, rfl⟩
  have hb3 : Below w2.heap.size w2 ((w2.alloc (.cells (cellsB (bytesOf 258 2)) 5)).alloc (.cells (cellsB (bytesOf 258 1)) 5)) := more (more (Below.refl _ _) _) _
  have s1 := str_put ((w2.alloc (.cells (cellsB (bytesOf 258 2)) 5)).alloc (.cells (cellsB (bytesOf 258 1)) 5)) (w2.alloc (.cells (cellsB (bytesOf 258 2)) 5)).heap.size 258 1 (heap_alloc_new _ _)
  rw [ex_s1] at s1
  obtain ⟨g3, hg3⟩ : ∃ g, g = (w2.alloc (.cells (cellsB (bytesOf 258 2)) 5)).heap.size := ⟨_, rfl⟩
  obtain ⟨w3, hw3⟩ : ∃ x, x = (w2.alloc (.cells (cellsB (bytesOf 258 2)) 5)).alloc (.cells (cellsB (bytesOf 258 1)) 5) := ⟨_, rfl⟩
  rw [← hw3] at s1 hb3 ⊢
  rw [← hg3] at s1 ⊢
  have Hrd3 := Lib.hid (Hrd2.out.below hb3)
  have HB3 := Lib.hid (andthen HB2.out hb3)
  clear hw3 hg3 s2 hb3 Hrd2 HB2
  go_wp2_with fail
  refine (left_any w3 rg 1 false _ Hrd3.out).mono ?_
  rintro e w4 ⟨rfl, rfl⟩
  go_wp2_with fail
  refine (short_any w4 rg 1 false _ Hrd3.out).mono ?_
  rintro e w5 ⟨rfl, rfl⟩
  go_wp2_with fail
  go_ret
  exact ⟨rfl, HB3.out⟩
end Go.Proofs.Ytbeagokbhlaeeaa.Oct
