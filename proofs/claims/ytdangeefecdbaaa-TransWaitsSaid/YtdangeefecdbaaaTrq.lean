/- A region that draws its order, whose operations but the last leave memory as it is: a cheaper look at its order. No condition. -/
import Derived.StillTail
set_option linter.unusedVariables false
namespace Go.Proofs.Ytdangeefecdbaaa.Br
open Go
/-- Of an operation: where it puts, what it looks at, what it waits for. -/
def lightO (ops : Array Oper) (o : Oper) : Option Nat × List Nat × List Nat := (o.dst, o.looksAt ops, (o.after.toList.filter fun e => Region.binds .any e).map (·.on))
/-- Apart, or the second waits for the first (k). -/
def pairOk (k : Nat) (x y : Option Nat × List Nat × List Nat) : Bool :=
  y.2.2.contains k || ((match x.1 with | some d => !y.2.1.contains d && y.1 != some d | none => true) && (match y.1 with | some d => !x.2.1.contains d | none => true))
def orderOk (n : Nat) : Nat → List (Option Nat × List Nat × List Nat) → Bool
  | _, [] => true
  | k, x :: r => x.2.2.all (fun d => decide (d < k)) && (decide (n ≤ k) || (r.take (n - k)).any fun y => y.2.2.contains k) && (decide (k ≤ n) || x.2.2.contains (k - 1)) && r.all (pairOk k x) && orderOk n (k + 1) r
theorem orderOk_spec {n : Nat} : ∀ (L : List (Option Nat × List Nat × List Nat)) (k : Nat), orderOk n k L = true → ∀ i x, L[i]? = some x →
    (∀ d ∈ x.2.2, d < k + i) ∧ (n ≤ k + i ∨ ∃ j y, i < j ∧ k + j ≤ n ∧ L[j]? = some y ∧ k + i ∈ y.2.2) ∧ (k + i ≤ n ∨ (k + i - 1) ∈ x.2.2) ∧ ∀ j y, i < j → L[j]? = some y → pairOk (k + i) x y = true
  | [], _, _, _, _, h => by simp at h
  | a :: r, k, hk, 0, x, h => by
    obtain rfl : a = x := by simpa using h
    simp only [orderOk, Bool.and_eq_true, List.all_eq_true, decide_eq_true_eq, Bool.or_eq_true, List.any_eq_true] at hk
    obtain ⟨⟨⟨⟨h1, h2⟩, h3⟩, h4⟩, _⟩ := hk
    refine ⟨fun d hd => h1 d hd, ?_, ?_, ?_⟩
    · rcases h2 with h2 | ⟨y, hy, hc⟩
      · exact .inl h2
      · obtain ⟨j, hj⟩ := List.mem_iff_getElem?.1 hy
        rw [List.getElem?_take] at hj
        split at hj
        · exact .inr ⟨j + 1, y, by omega, by omega, by simpa using hj, by simpa using hc⟩
        · cases hj
    · rcases h3 with h3 | h3
      · exact .inl h3
      · exact .inr (by simpa using h3)
    · intro j y hj hy
      obtain ⟨j, rfl⟩ : ∃ m, j = m + 1 := ⟨j - 1, by omega⟩
      exact h4 y (List.mem_of_getElem? (by simpa using hy))
  | a :: r, k, hk, i + 1, x, h => by
    have hr : orderOk n (k + 1) r = true := by
      simp only [orderOk, Bool.and_eq_true] at hk
      exact hk.2
    obtain ⟨h1, h2, h3, h4⟩ := orderOk_spec r (k + 1) hr i x (by simpa using h)
    have e : k + 1 + i = k + (i + 1) := by omega
    rw [e] at h1 h2 h3 h4
    refine ⟨h1, ?_, h3, ?_⟩
    · rcases h2 with h2 | ⟨j, y, q1, q2, q3, q4⟩
      · exact .inl h2
      · exact .inr ⟨j + 1, y, by omega, by omega, by simpa using q3, q4⟩
    · intro j y hj hy
      obtain ⟨j, rfl⟩ : ∃ m, j = m + 1 := ⟨j - 1, by omega⟩
      exact h4 j y (by omega) (by simpa using hy)
/-- The first k are listed. -/
def Lists (N k : Nat) (listed : Array Bool) : Prop := listed.size = N ∧ ∀ i d, listed.getD i d = if i < k ∧ i < N then true else if i < N then false else d
theorem Lists.start (N : Nat) : Lists N 0 (Array.replicate N false) := by
  refine ⟨by simp, fun i d => ?_⟩
  by_cases h : i < N <;> simp [h]
theorem Lists.next {N k : Nat} {listed : Array Bool} (h : Lists N k listed) (hk : k < N) : Lists N (k + 1) (listed.setIfInBounds k true) := by
  refine ⟨by simp [h.1], fun i d => ?_⟩
  by_cases e : k = i
  · subst e
    have : k < listed.size := by rw [h.1]; exact hk
    simp [this, hk]
  · rw [getD_set_ne d e, h.2 i d]
    by_cases h1 : i < k
    · rw [if_pos (show i < k + 1 ∧ i < N from ⟨by omega, by omega⟩), if_pos ⟨h1, by omega⟩]
    · rw [if_neg (show ¬ (i < k ∧ i < N) by omega), if_neg (show ¬ (i < k + 1 ∧ i < N) by omega)]
section
variable {ops : Array Oper} {n : Nat}
structure Order (ops : Array Oper) (n : Nat) : Prop where
  dep : ∀ (k : Nat) (o : Oper), ops[k]? = some o → ∀ e ∈ o.after, Region.binds .any e = true → e.on < k
  sink : ∀ i, i < n → ∃ j, i < j ∧ j ≤ n ∧ Region.waitsFor .any ops j i = true
  chain : ∀ t, n < t → t < ops.size → Region.waitsFor .any ops t (t - 1) = true
  apart : ∀ (k : Nat) (x : Oper), ops[k]? = some x → ∀ (j : Nat) (y : Oper), k < j → ops[j]? = some y → (y.after.any fun e => Region.binds .any e && e.on == k) = true ∨ x.apart ops y = true
theorem Order.ready (H : Order ops n) {k : Nat} {listed : Array Bool} (hl : Lists ops.size k listed) (hk : k < ops.size) : k ∈ Region.ready .any ops listed := by
  refine mem_ready.2 ⟨?_, ops[k], by simp [hk], fun e he hb => ?_⟩
  · rw [hl.2, if_neg (by omega), if_pos hk]
  · have := H.dep k _ (by simp [hk]) e he hb
    rw [hl.2, if_pos ⟨this, by omega⟩]
theorem Order.free (H : Order ops n) {k : Nat} {listed : Array Bool} (hl : Lists ops.size k listed) (hk : k < ops.size) : Region.free .any ops listed k = true := by
  unfold Region.free
  rw [show ops[k]? = some ops[k] by simp [hk]]
  simp only [List.all_eq_true, List.mem_range]
  intro j hj
  simp only [Bool.or_eq_true, beq_iff_eq]
  rcases Nat.lt_trichotomy j k with h | h | h
  · exact .inl (.inr (by rw [hl.2, if_pos ⟨h, hj⟩]))
  · exact .inl (.inl h)
  · refine .inr ?_
    rw [show ops[j]? = some ops[j] by simp [hj]]
    simp only [Bool.or_eq_true]
    exact H.apart k _ (by simp [hk]) j _ h (by simp [hj])
theorem filter_one {p : Nat → Bool} {N k : Nat} (hk : k < N) (h1 : p k = true) (h2 : ∀ i, i < N → i ≠ k → p i = false) : (List.range N).filter p = [k] := by
  have e : (List.range N).filter p = (List.range N).filter (· == k) := by
    apply List.filter_congr
    intro i hi
    by_cases h : i = k
    · subst h; simp [h1]
    · rw [h2 i (List.mem_range.1 hi) h]; simp [h]
  rw [e, List.filter_beq]
  have : List.count k (List.range N) = 1 := by
    rw [List.count_range]
    simp [hk]
  rw [this]
  rfl
theorem Order.alone (H : Order ops n) {k : Nat} {listed : Array Bool} (hl : Lists ops.size k listed) (hn : n ≤ k) (hk : k < ops.size) : Region.ready .any ops listed = [k] := by
  have h := mem_ready.1 (H.ready hl hk)
  unfold Region.ready
  refine filter_one hk ?_ ?_
  · exact (List.mem_filter.1 (H.ready hl hk)).2
  · intro i hi hne
    cases hp : (!listed.getD i true && ((ops[i]?).map (·.after.all fun e => !Region.binds .any e || listed.getD e.on false)).getD false) with
    | false => rfl
    | true =>
      have hm : i ∈ Region.ready .any ops listed := List.mem_filter.2 ⟨List.mem_range.2 hi, hp⟩
      obtain ⟨h1, o, ho, h2⟩ := mem_ready.1 hm
      rw [hl.2] at h1
      have hik : k < i := by
        by_cases h : i < k
        · rw [if_pos ⟨h, hi⟩] at h1; cases h1
        · omega
      obtain ⟨o', ho', e, he, hb, hon⟩ := Region.waitsFor_spec (H.chain i (by omega) hi)
      obtain rfl : o = o' := Option.some.inj (ho.symm.trans ho')
      have h3 := h2 e he hb
      rw [hon, hl.2, if_neg (by omega), if_pos (by omega)] at h3
      cases h3
theorem Order.seq (H : Order ops n) : ∀ (g k : Nat) (listed : Array Bool), n ≤ k → k + g = ops.size → Lists ops.size k listed → Region.seqB .any ops g k listed = true
  | 0, k, listed, _, hk, hl => by
    simp only [Region.seqB, List.isEmpty_iff]
    refine List.eq_nil_iff_forall_not_mem.2 fun i hi => ?_
    obtain ⟨h1, o, ho, _⟩ := mem_ready.1 hi
    have hlt := (Array.getElem?_eq_some_iff.1 ho).1
    rw [hl.2, if_pos (by omega)] at h1
    cases h1
  | g + 1, k, listed, hn, hk, hl => by
    simp only [Region.seqB, Bool.and_eq_true, decide_eq_true_eq]
    exact ⟨H.alone hl hn (by omega), H.seq g (k + 1) _ (by omega) (by omega) (hl.next (by omega))⟩
theorem Order.head (H : Order ops n) (g : Nat) (hg : n + g = ops.size) : ∀ (f k : Nat) (listed : Array Bool), k + f = n → Lists ops.size k listed → Region.lexHead .any ops g f k listed = true
  | 0, k, listed, hk, hl => by
    simp only [Region.lexHead]
    exact H.seq g k listed (by omega) (by omega) hl
  | f + 1, k, listed, hk, hl => by
    simp only [Region.lexHead, Bool.and_eq_true, List.contains_iff_mem]
    exact ⟨⟨H.ready hl (by omega), H.free hl (by omega)⟩, H.head g hg f (k + 1) _ (by omega) (hl.next (by omega))⟩
theorem Order.lex (H : Order ops n) (hs : Region.noSelect ops = true) (hn : n < ops.size) : Region.lexTailB .any ops n = true := by
  unfold Region.lexTailB Region.sinkB Region.chainB
  simp only [Bool.and_eq_true, decide_eq_true_eq, List.all_eq_true, List.mem_range, List.any_eq_true, Bool.or_eq_true]
  refine ⟨⟨⟨⟨hs, hn⟩, fun i hi => ?_⟩, fun t ht => ?_⟩, H.head _ (by omega) n 0 _ (by omega) (Lists.start _)⟩
  · obtain ⟨j, h1, h2, h3⟩ := H.sink i hi
    exact ⟨j, by omega, h1, h3⟩
  · by_cases h : t ≤ n
    · exact .inl h
    · exact .inr (H.chain t (by omega) ht)
end
theorem light_waits {l : List Oper} {j i : Nat} {o : Oper} (hj : l[j]? = some o) (h : i ∈ (lightO l.toArray o).2.2) : Region.waitsFor .any l.toArray j i = true := by
  unfold Region.waitsFor
  rw [List.getElem?_toArray, hj]
  simp only [lightO, List.mem_map, List.mem_filter] at h
  obtain ⟨e, ⟨he, hb⟩, rfl⟩ := h
  exact Array.any_eq_true'.2 ⟨e, Array.mem_toList_iff.1 he, by simp [hb]⟩
theorem order_of {l : List Oper} {n : Nat} {L : List (Option Nat × List Nat × List Nat)} (hL : l.map (lightO l.toArray) = L) (h : orderOk n 0 L = true) (hn : n < l.length) : Order l.toArray n := by
  subst hL
  have get : ∀ {i : Nat} {o : Oper}, l[i]? = some o → (l.map (lightO l.toArray))[i]? = some (lightO l.toArray o) := fun h => by simp [h]
  have H := fun {i : Nat} {o : Oper} (hi : l[i]? = some o) => orderOk_spec _ 0 h i _ (get hi)
  refine ⟨fun k o ho e he hb => ?_, fun i hi => ?_, fun t ht htl => ?_, fun k x hx j y hj hy => ?_⟩
  · rw [List.getElem?_toArray] at ho
    have := (H ho).1 e.on (List.mem_map.2 ⟨e, List.mem_filter.2 ⟨Array.mem_toList_iff.2 he, hb⟩, rfl⟩)
    omega
  · have hi' : l[i]? = some l[i] := by simp
    rcases (H hi').2.1 with h1 | ⟨j, y, h1, h2, h3, h4⟩
    · omega
    · rw [List.getElem?_map] at h3
      cases ho : l[j]? with
      | none => rw [ho] at h3; cases h3
      | some o =>
        rw [ho] at h3
        obtain rfl : lightO l.toArray o = y := by simpa using h3
        exact ⟨j, h1, by omega, light_waits ho (by simpa using h4)⟩
  · have htl' : t < l.length := by simpa using htl
    have ht' : l[t]? = some l[t] := by simp
    rcases (H ht').2.2.1 with h1 | h1
    · omega
    · exact light_waits ht' (by simpa using h1)
  · rw [List.getElem?_toArray] at hx hy
    have h1 := (H hx).2.2.2 j _ hj (get hy)
    unfold pairOk at h1
    rw [Bool.or_eq_true] at h1
    rcases h1 with h1 | h1
    · refine .inl ?_
      simp only [lightO, List.contains_iff_mem, List.mem_map, List.mem_filter] at h1
      obtain ⟨e, ⟨he, hb⟩, hk⟩ := h1
      exact Array.any_eq_true'.2 ⟨e, Array.mem_toList_iff.1 he, by simp [hb, hk]⟩
    · exact .inr h1
/-- wp_region_still_tail, its order looked at in a cheaper way. -/
theorem wp_region_still_light {P : Program} {id : Nat} {Q : Exit → Act → World → Prop} {a : Act} {w : World} {l : List Oper} (n : Nat) (hm : P.follows .mixedOrders = true) (L : List (Option Nat × List Nat × List Nat)) (hL : l.map (lightO l.toArray) = L) (hs : Region.noSelect l.toArray = true) (hn : decide (n < l.length) = true) (hB : orderOk n 0 L = true)
    (h : wpStill P l.toArray { w with drawn := w.drawn + 1 } (fun a' => wpList P l.toArray Q (l.drop n) a' { w with drawn := w.drawn + 1 }) (l.take n) a) : (Code.region id l.toArray true).wp P Q a w :=
  wp_region_still_tail n hm ((order_of hL hB (of_decide_eq_true hn)).lex hs (by simpa using of_decide_eq_true hn)) h
end Go.Proofs.Ytdangeefecdbaaa.Br
