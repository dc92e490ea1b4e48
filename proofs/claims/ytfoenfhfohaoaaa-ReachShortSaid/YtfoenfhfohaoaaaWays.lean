/- Shortest ways, plainly: what the program's rounds and the document's rounds come to; both come to the least way to each point. -/
import Derived.Lib.Hide
namespace Go.Proofs.Ytfoenfhfohaoaaa.Rea
structure Hop where
  f : Int
  t : Int
  c : Nat
/-- A way: its cost, how many hops it has; none: there is none. -/
abbrev Way := Option (Nat × Nat)
def lt (a b : Nat × Nat) : Bool := decide (a.1 < b.1 ∨ (a.1 = b.1 ∧ a.2 < b.2))
def Le (a b : Nat × Nat) : Prop := a.1 < b.1 ∨ (a.1 = b.1 ∧ a.2 ≤ b.2)
theorem Le.refl (a : Nat × Nat) : Le a a := .inr ⟨rfl, Nat.le_refl _⟩
theorem Le.trans {a b c : Nat × Nat} (h : Le a b) (k : Le b c) : Le a c := by unfold Le at *; omega
theorem Le.anti {a b : Nat × Nat} (h : Le a b) (k : Le b a) : a = b := by
  obtain ⟨a1, a2⟩ := a
  obtain ⟨b1, b2⟩ := b
  unfold Le at *
  simp only [Prod.mk.injEq] at *
  omega
theorem lt_iff {a b : Nat × Nat} : lt a b = true ↔ ¬ Le b a := by unfold lt Le; simp; omega
theorem lt_le {a b : Nat × Nat} (h : lt a b = true) : Le a b := by unfold lt at h; unfold Le; simp at h; omega
/-- A hop that leads from one of the points to one of them. -/
def ok (n : Nat) (h : Hop) : Prop := 0 ≤ h.f ∧ h.f < n ∧ 0 ≤ h.t ∧ h.t < n
instance (n : Nat) (h : Hop) : Decidable (ok n h) := by unfold ok; infer_instance
def on (w : Nat × Nat) (h : Hop) : Nat × Nat := (w.1 + h.c, w.2 + 1)
theorem on_le {a b : Nat × Nat} (h : Hop) (k : Le a b) : Le (on a h) (on b h) := by unfold Le on at *; simp only; omega
def put (o : Nat → Way) (v : Nat) (x : Nat × Nat) : Nat → Way := fun u => if u = v then some x else o u
theorem put_same (o : Nat → Way) (v : Nat) (x : Nat × Nat) : put o v x v = some x := if_pos rfl
theorem put_other (o : Nat → Way) {v u : Nat} (x : Nat × Nat) (h : u ≠ v) : put o v x u = o u := if_neg h
def better (x : Nat × Nat) : Way → Bool
  | none => true
  | some y => lt x y
/-- The way that a hop gives. -/
def cand (n : Nat) (h : Hop) (o : Nat → Way) : Way := if ok n h then (o h.f.toNat).map (on · h) else none
/-- One hop is looked at: by the ways of 'now', the ways of 'o' are bettered; was it bettered? -/
def relax (n : Nat) (h : Hop) (now o : Nat → Way) : (Nat → Way) × Bool :=
  match cand n h now with
  | none => (o, false)
  | some x => if better x (o h.t.toNat) = true then (put o h.t.toNat x, true) else (o, false)
/-- The first i hops, in place. -/
def pass (n : Nat) (l : Nat → Hop) (o : Nat → Way) : Nat → (Nat → Way) × Bool
  | 0 => (o, false)
  | i + 1 => let p := pass n l o i; let r := relax n (l i) p.1 p.1; (r.1, p.2 || r.2)
/-- The first i hops, all by the ways of 'now'. -/
def rpass (n : Nat) (l : Nat → Hop) (now : Nat → Way) : Nat → Nat → Way
  | 0 => now
  | i + 1 => (relax n (l i) now (rpass n l now i)).1
def start (s : Nat) : Nat → Way := fun v => if v = s then some (0, 0) else none
/-- Behind j rounds, in place: the ways; was one bettered in the last round? -/
def prog (n : Nat) (l : Nat → Hop) (m s : Nat) : Nat → (Nat → Way) × Bool
  | 0 => (start s, true)
  | j + 1 => pass n l (prog n l m s j).1 m
/-- Behind j rounds of the document's. -/
def refn (n : Nat) (l : Nat → Hop) (m s : Nat) : Nat → Nat → Way
  | 0 => start s
  | j + 1 => rpass n l (refn n l m s j) m
/-- There is a way to v, of k hops, at cost c. -/
inductive Walk (n : Nat) (l : Nat → Hop) (m s : Nat) : Nat → Nat → Nat → Prop
  | here : Walk n l m s s 0 0
  | on {u k c q : Nat} : Walk n l m s u k c → q < m → ok n (l q) → (l q).f.toNat = u → Walk n l m s (l q).t.toNat (k + 1) (c + (l q).c)
def Sound (n : Nat) (l : Nat → Hop) (m s : Nat) (o : Nat → Way) : Prop := ∀ v c k, o v = some (c, k) → Walk n l m s v k c
/-- All ways of at most j hops are met. -/
def Dom (n : Nat) (l : Nat → Hop) (m s j : Nat) (o : Nat → Way) : Prop := ∀ v c k, Walk n l m s v k c → k ≤ j → ∃ w, o v = some w ∧ Le w (c, k)
def Opt (n : Nat) (l : Nat → Hop) (m s : Nat) (o : Nat → Way) : Prop := Sound n l m s o ∧ ∀ v c k, Walk n l m s v k c → ∃ w, o v = some w ∧ Le w (c, k)
theorem Opt.uniq {n m s : Nat} {l : Nat → Hop} {o p : Nat → Way} (h : Opt n l m s o) (g : Opt n l m s p) : o = p := by
  funext v
  cases ho : o v with
  | none =>
    cases hp : p v with
    | none => rfl
    | some x =>
      obtain ⟨w, hw, _⟩ := h.2 v x.1 x.2 (g.1 v x.1 x.2 hp)
      rw [ho] at hw
      cases hw
  | some y =>
    obtain ⟨w, hw, hl⟩ := g.2 v y.1 y.2 (h.1 v y.1 y.2 ho)
    rw [hw]
    obtain ⟨w', hw', hl'⟩ := h.2 v w.1 w.2 (g.1 v w.1 w.2 hw)
    rw [ho] at hw'
    cases hw'
    rw [hl.anti hl']
theorem start_sound (n m s : Nat) (l : Nat → Hop) : Sound n l m s (start s) := by
  intro v c k h
  unfold start at h
  split at h
  · rename_i e
    cases h
    rw [e]
    exact .here
  · cases h
theorem walk_0 {n m s v k c : Nat} {l : Nat → Hop} (h : Walk n l m s v k c) (hk : k = 0) : v = s ∧ c = 0 := by
  cases h with
  | here => exact ⟨rfl, rfl⟩
  | on => omega
theorem start_dom (n m s : Nat) (l : Nat → Hop) : Dom n l m s 0 (start s) := by
  intro v c k h hk
  obtain ⟨rfl, rfl⟩ := walk_0 h (by omega)
  refine ⟨(0, 0), if_pos rfl, ?_⟩
  unfold Le
  simp
theorem cand_some {n : Nat} {h : Hop} {o : Nat → Way} {x : Nat × Nat} (e : cand n h o = some x) : ok n h ∧ ∃ w, o h.f.toNat = some w ∧ x = on w h := by
  unfold cand at e
  split at e
  · rename_i hk
    cases ho : o h.f.toNat with
    | none => rw [ho] at e; cases e
    | some w =>
      rw [ho] at e
      cases e
      exact ⟨hk, w, rfl, rfl⟩
  · cases e
theorem cand_of {n : Nat} {h : Hop} {o : Nat → Way} {w : Nat × Nat} (hk : ok n h) (e : o h.f.toNat = some w) : cand n h o = some (on w h) := by
  unfold cand
  rw [if_pos hk, e]
  rfl
theorem relax_sound {n m s q : Nat} {l : Nat → Hop} {now o : Nat → Way} (hq : q < m) (hn : Sound n l m s now) (ho : Sound n l m s o) : Sound n l m s (relax n (l q) now o).1 := by
  unfold relax
  split
  · exact ho
  · rename_i x hx
    split
    · obtain ⟨hk, w, hw, rfl⟩ := cand_some hx
      intro v c k h
      by_cases e : v = (l q).t.toNat
      · subst e
        rw [show (put o (l q).t.toNat (on w (l q)), true).1 (l q).t.toNat = some (on w (l q)) from put_same _ _ _] at h
        cases h
        exact .on (hn _ w.1 w.2 hw) hq hk rfl
      · rw [show (put o (l q).t.toNat (on w (l q)), true).1 v = o v from put_other _ _ e] at h
        exact ho v c k h
    · exact ho
/-- Nothing gets longer. -/
theorem relax_less (n : Nat) (h : Hop) (now o : Nat → Way) (v : Nat) (w : Nat × Nat) (e : o v = some w) : ∃ w', (relax n h now o).1 v = some w' ∧ Le w' w := by
  unfold relax
  split
  · exact ⟨w, e, .refl w⟩
  · rename_i x hx
    split
    · rename_i hb
      by_cases ev : v = h.t.toNat
      · subst ev
        rw [e] at hb
        exact ⟨x, put_same _ _ _, lt_le hb⟩
      · exact ⟨w, (put_other _ _ ev).trans e, .refl w⟩
    · exact ⟨w, e, .refl w⟩
/-- Behind a hop its end is reached as well as the hop reaches it. -/
theorem relax_end (n : Nat) (h : Hop) (now o : Nat → Way) (hk : ok n h) (w : Nat × Nat) (e : now h.f.toNat = some w) : ∃ w', (relax n h now o).1 h.t.toNat = some w' ∧ Le w' (on w h) := by
  unfold relax
  rw [cand_of hk e]
  simp only
  split
  · exact ⟨_, put_same _ _ _, .refl _⟩
  · rename_i hb
    cases ho : o h.t.toNat with
    | none => rw [ho] at hb; exact absurd rfl hb
    | some y =>
      rw [ho] at hb
      refine ⟨y, ho, ?_⟩
      have hb' : ¬ lt (on w h) y = true := hb
      rw [lt_iff] at hb'
      exact Classical.byContradiction fun h => hb' h
theorem pass_sound {n m s : Nat} {l : Nat → Hop} {o : Nat → Way} (ho : Sound n l m s o) : ∀ i, i ≤ m → Sound n l m s (pass n l o i).1
  | 0, _ => ho
  | i + 1, hi => relax_sound (by omega) (pass_sound ho i (by omega)) (pass_sound ho i (by omega))
theorem rpass_sound {n m s : Nat} {l : Nat → Hop} {o : Nat → Way} (ho : Sound n l m s o) : ∀ i, i ≤ m → Sound n l m s (rpass n l o i)
  | 0, _ => ho
  | i + 1, hi => relax_sound (by omega) ho (rpass_sound ho i (by omega))
theorem pass_less (n : Nat) (l : Nat → Hop) (o : Nat → Way) (i : Nat) (v : Nat) (w : Nat × Nat) (e : (pass n l o i).1 v = some w) : ∀ d, ∃ w', (pass n l o (i + d)).1 v = some w' ∧ Le w' w
  | 0 => ⟨w, e, .refl w⟩
  | d + 1 => by
    obtain ⟨w1, h1, g1⟩ := pass_less n l o i v w e d
    obtain ⟨w2, h2, g2⟩ := relax_less n (l (i + d)) (pass n l o (i + d)).1 (pass n l o (i + d)).1 v w1 h1
    exact ⟨w2, h2, g2.trans g1⟩
theorem rpass_less (n : Nat) (l : Nat → Hop) (o : Nat → Way) (i : Nat) (v : Nat) (w : Nat × Nat) (e : rpass n l o i v = some w) : ∀ d, ∃ w', rpass n l o (i + d) v = some w' ∧ Le w' w
  | 0 => ⟨w, e, .refl w⟩
  | d + 1 => by
    obtain ⟨w1, h1, g1⟩ := rpass_less n l o i v w e d
    obtain ⟨w2, h2, g2⟩ := relax_less n (l (i + d)) o (rpass n l o (i + d)) v w1 h1
    exact ⟨w2, h2, g2.trans g1⟩
theorem pass_dom {n m s j : Nat} {l : Nat → Hop} {o : Nat → Way} (ho : Dom n l m s j o) : Dom n l m s (j + 1) (pass n l o m).1 := by
  intro v c k h hk
  by_cases e : k ≤ j
  · obtain ⟨w, h1, g1⟩ := ho v c k h e
    obtain ⟨w', h2, g2⟩ := pass_less n l o 0 v w h1 m
    rw [Nat.zero_add] at h2
    exact ⟨w', h2, g2.trans g1⟩
  · cases h with
    | here => omega
    | @on u k c q hw hq hok hu =>
      obtain ⟨w, h1, g1⟩ := ho u c k hw (by omega)
      obtain ⟨w', h2, g2⟩ := pass_less n l o 0 u w h1 q
      rw [Nat.zero_add, ← hu] at h2
      obtain ⟨w3, h3, g3⟩ := relax_end n (l q) (pass n l o q).1 (pass n l o q).1 hok w' h2
      obtain ⟨w4, h4, g4⟩ := pass_less n l o (q + 1) _ w3 h3 (m - (q + 1))
      rw [show q + 1 + (m - (q + 1)) = m by omega] at h4
      exact ⟨w4, h4, g4.trans (g3.trans (on_le (l q) (g2.trans g1)))⟩
theorem rpass_dom {n m s j : Nat} {l : Nat → Hop} {o : Nat → Way} (ho : Dom n l m s j o) : Dom n l m s (j + 1) (rpass n l o m) := by
  intro v c k h hk
  by_cases e : k ≤ j
  · obtain ⟨w, h1, g1⟩ := ho v c k h e
    obtain ⟨w', h2, g2⟩ := rpass_less n l o 0 v w h1 m
    rw [Nat.zero_add] at h2
    exact ⟨w', h2, g2.trans g1⟩
  · cases h with
    | here => omega
    | @on u k c q hw hq hok hu =>
      obtain ⟨w, h1, g1⟩ := ho u c k hw (by omega)
      rw [← hu] at h1
      obtain ⟨w3, h3, g3⟩ := relax_end n (l q) o (rpass n l o q) hok w h1
      obtain ⟨w4, h4, g4⟩ := rpass_less n l o (q + 1) _ w3 h3 (m - (q + 1))
      rw [show q + 1 + (m - (q + 1)) = m by omega] at h4
      exact ⟨w4, h4, g4.trans (g3.trans (on_le (l q) g1))⟩
theorem prog_sound (n m s : Nat) (l : Nat → Hop) : ∀ j, Sound n l m s (prog n l m s j).1
  | 0 => start_sound n m s l
  | j + 1 => pass_sound (prog_sound n m s l j) m (Nat.le_refl _)
theorem refn_sound (n m s : Nat) (l : Nat → Hop) : ∀ j, Sound n l m s (refn n l m s j)
  | 0 => start_sound n m s l
  | j + 1 => rpass_sound (refn_sound n m s l j) m (Nat.le_refl _)
theorem prog_dom (n m s : Nat) (l : Nat → Hop) : ∀ j, Dom n l m s j (prog n l m s j).1
  | 0 => start_dom n m s l
  | j + 1 => pass_dom (prog_dom n m s l j)
theorem refn_dom (n m s : Nat) (l : Nat → Hop) : ∀ j, Dom n l m s j (refn n l m s j)
  | 0 => start_dom n m s l
  | j + 1 => rpass_dom (refn_dom n m s l j)

/-! ### A way of many hops goes round; without that it is shorter -/
/-- A way from u to v, with the points that it comes through. -/
inductive Path (n : Nat) (l : Nat → Hop) (m : Nat) (v : Nat) : Nat → List Nat → Nat → Nat → Prop
  | here : Path n l m v v [v] 0 0
  | on {vs : List Nat} {k c q : Nat} : q < m → ok n (l q) → Path n l m v (l q).t.toNat vs k c → Path n l m v (l q).f.toNat ((l q).f.toNat :: vs) (k + 1) ((l q).c + c)
theorem Path.length {n m v u k c : Nat} {l : Nat → Hop} {vs : List Nat} (h : Path n l m v u vs k c) : vs.length = k + 1 := by
  induction h with
  | here => rfl
  | on _ _ _ ih => simp [ih]
theorem Path.small {n m v u k c : Nat} {l : Nat → Hop} {vs : List Nat} (h : Path n l m v u vs k c) (hv : v < n) : ∀ x ∈ vs, x < n := by
  induction h with
  | here => simp [hv]
  | on hq hk _ ih =>
    intro x hx
    rcases List.mem_cons.1 hx with rfl | hx
    · obtain ⟨h1, h2, h3, h4⟩ := hk
      omega
    · exact ih x hx
theorem Path.suffix {n m v u k c : Nat} {l : Nat → Hop} {vs : List Nat} (h : Path n l m v u vs k c) : ∀ x ∈ vs, ∃ vs' k' c', Path n l m v x vs' k' c' ∧ k' ≤ k ∧ c' ≤ c := by
  induction h with
  | here =>
    intro x hx
    rcases List.mem_cons.1 hx with rfl | hx
    · exact ⟨_, _, _, .here, Nat.le_refl _, Nat.le_refl _⟩
    · cases hx
  | @on vs k c q hq hk hp ih =>
    intro x hx
    rcases List.mem_cons.1 hx with rfl | hx
    · exact ⟨_, _, _, .on hq hk hp, Nat.le_refl _, Nat.le_refl _⟩
    · obtain ⟨vs', k', c', h1, h2, h3⟩ := ih x hx
      exact ⟨vs', k', c', h1, by omega, by omega⟩
theorem Path.shorter {n m v u k c : Nat} {l : Nat → Hop} {vs : List Nat} (h : Path n l m v u vs k c) (hd : ¬ vs.Nodup) : ∃ vs' k' c', Path n l m v u vs' k' c' ∧ k' < k ∧ c' ≤ c := by
  induction h with
  | here => exact absurd (by simp) hd
  | @on vs k c q hq hk hp ih =>
    by_cases hm : (l q).f.toNat ∈ vs
    · obtain ⟨vs', k', c', h1, h2, h3⟩ := hp.suffix _ hm
      exact ⟨vs', k', c', h1, by omega, by omega⟩
    · obtain ⟨vs', k', c', h1, h2, h3⟩ := ih (fun hn => hd (List.nodup_cons.2 ⟨hm, hn⟩))
      exact ⟨_, _, _, .on hq hk h1, by omega, by omega⟩
theorem pigeon : ∀ (n : Nat) (l : List Nat), l.Nodup → (∀ x ∈ l, x < n) → l.length ≤ n
  | 0, l, _, h => by
    cases l with
    | nil => simp
    | cons x l => exact absurd (h x (by simp)) (by omega)
  | n + 1, l, hd, h => by
    by_cases hm : n ∈ l
    · have h1 := pigeon n (l.erase n) (hd.erase n) (fun x hx => by
        have hx' := (List.Nodup.mem_erase_iff hd).1 hx
        have := h x hx'.2
        have := hx'.1
        omega)
      have h2 := List.length_erase_of_mem hm
      omega
    · have := pigeon n l hd (fun x hx => by
        have h1 := h x hx
        have h2 : x ≠ n := fun e => hm (e ▸ hx)
        omega)
      omega
theorem Path.few {n m v : Nat} {l : Nat → Hop} (hv : v < n) : ∀ (f k u c : Nat) (vs : List Nat), k ≤ f → Path n l m v u vs k c → ∃ vs' k' c', Path n l m v u vs' k' c' ∧ k' < n ∧ k' ≤ k ∧ c' ≤ c
  | 0, k, u, c, vs, hf, h => ⟨vs, k, c, h, by omega, Nat.le_refl _, Nat.le_refl _⟩
  | f + 1, k, u, c, vs, hf, h => by
    by_cases hk : k < n
    · exact ⟨vs, k, c, h, hk, Nat.le_refl _, Nat.le_refl _⟩
    · have hd : ¬ vs.Nodup := fun hd => by
        have h1 := pigeon n vs hd (h.small hv)
        rw [h.length] at h1
        omega
      obtain ⟨vs1, k1, c1, h1, h2, h3⟩ := h.shorter hd
      obtain ⟨vs2, k2, c2, g1, g2, g3, g4⟩ := few hv f k1 u c1 vs1 (by omega) h1
      exact ⟨vs2, k2, c2, g1, g2, by omega, by omega⟩
theorem Path.walk {n m v u k c : Nat} {l : Nat → Hop} {vs : List Nat} (h : Path n l m v u vs k c) : ∀ {s k0 c0 : Nat}, Walk n l m s u k0 c0 → Walk n l m s v (k0 + k) (c0 + c) := by
  induction h with
  | here => intro s k0 c0 hw; exact hw
  | @on vs k c q hq hk hp ih =>
    intro s k0 c0 hw
    have := ih (hw.on hq hk rfl)
    rw [show k0 + (k + 1) = k0 + 1 + k by omega, show c0 + ((l q).c + c) = c0 + (l q).c + c by omega]
    exact this
theorem Path.snoc {n m u k c : Nat} {l : Nat → Hop} {vs : List Nat} {v : Nat} (h : Path n l m v u vs k c) : ∀ {q : Nat}, q < m → ok n (l q) → (l q).f.toNat = v → ∃ vs', Path n l m (l q).t.toNat u vs' (k + 1) (c + (l q).c) := by
  induction h with
  | here =>
    intro q hq hk e
    have h := Path.on (v := (l q).t.toNat) hq hk .here
    rw [e] at h
    exact ⟨_, (by simpa using h : Path n l m (l q).t.toNat v [v, (l q).t.toNat] (0 + 1) (0 + (l q).c))⟩
  | @on vs k c p hp hk' _ ih =>
    intro q hq hk e
    obtain ⟨vs', h⟩ := ih hq hk e
    exact ⟨_, by rw [Nat.add_assoc (l p).c]; exact Path.on hp hk' h⟩
theorem Walk.path {n m s v k c : Nat} {l : Nat → Hop} (h : Walk n l m s v k c) : ∃ vs, Path n l m v s vs k c := by
  induction h with
  | here => exact ⟨_, .here⟩
  | @on u k c q hw hq hk hu ih =>
    obtain ⟨vs, h⟩ := ih
    exact h.snoc hq hk hu
theorem Walk.lt {n m s v k c : Nat} {l : Nat → Hop} (h : Walk n l m s v k c) (hs : s < n) : v < n := by
  cases h with
  | here => exact hs
  | on _ _ hk _ =>
    obtain ⟨h1, h2, h3, h4⟩ := hk
    omega
theorem Walk.few {n m s v k c : Nat} {l : Nat → Hop} (h : Walk n l m s v k c) (hs : s < n) : ∃ k' c', Walk n l m s v k' c' ∧ k' < n ∧ k' ≤ k ∧ c' ≤ c := by
  obtain ⟨vs, hp⟩ := h.path
  obtain ⟨vs', k', c', h1, h2, h3, h4⟩ := Path.few (h.lt hs) k k s c vs (Nat.le_refl _) hp
  have hw := h1.walk Walk.here
  rw [Nat.zero_add, Nat.zero_add] at hw
  exact ⟨k', c', hw, h2, h3, h4⟩
theorem opt_of {n m s j : Nat} {l : Nat → Hop} {o : Nat → Way} (hs : s < n) (hj : n ≤ j + 1) (h1 : Sound n l m s o) (h2 : Dom n l m s j o) : Opt n l m s o := by
  refine ⟨h1, fun v c k h => ?_⟩
  obtain ⟨k', c', hw, g1, g2, g3⟩ := h.few hs
  obtain ⟨w, e, g⟩ := h2 v c' k' hw (by omega)
  refine ⟨w, e, g.trans ?_⟩
  unfold Le
  simp only
  omega
theorem refn_opt (n m s : Nat) (l : Nat → Hop) (hs : s < n) : Opt n l m s (refn n l m s n) := opt_of hs (by omega) (refn_sound n m s l n) (refn_dom n m s l n)

/-! ### The rounds in place end -/
/-- Behind an optimum nothing is bettered. -/
theorem relax_opt {n m s q : Nat} {l : Nat → Hop} {o : Nat → Way} (h : Opt n l m s o) (hq : q < m) : relax n (l q) o o = (o, false) := by
  unfold relax
  split
  · rfl
  · rename_i x hx
    obtain ⟨hk, w, hw, rfl⟩ := cand_some hx
    obtain ⟨y, hy, hl⟩ := h.2 _ _ _ ((h.1 _ w.1 w.2 hw).on hq hk rfl)
    rw [if_neg]
    rw [hy]
    show ¬ lt (on w (l q)) y = true
    rw [lt_iff]
    exact fun hn => hn hl
theorem pass_opt {n m s : Nat} {l : Nat → Hop} {o : Nat → Way} (h : Opt n l m s o) : ∀ i, i ≤ m → pass n l o i = (o, false)
  | 0, _ => rfl
  | i + 1, hi => by
    show ((relax n (l i) (pass n l o i).1 (pass n l o i).1).1, (pass n l o i).2 || (relax n (l i) (pass n l o i).1 (pass n l o i).1).2) = _
    rw [pass_opt h i (by omega)]
    simp only
    rw [relax_opt h (by omega)]
    rfl
/-- As long as something was bettered there were fewer rounds than points. -/
theorem prog_ends {n m s : Nat} {l : Nat → Hop} (hs : s < n) (j : Nat) (h : (prog n l m s j).2 = true) : j < n := by
  by_cases hj : j < n
  · exact hj
  · obtain ⟨i, rfl⟩ : ∃ i, j = i + 1 := ⟨j - 1, by omega⟩
    have ho : Opt n l m s (prog n l m s i).1 := opt_of hs (by omega) (prog_sound n m s l i) (prog_dom n m s l i)
    have e : prog n l m s (i + 1) = ((prog n l m s i).1, false) := pass_opt ho m (Nat.le_refl _)
    rw [e] at h
    cases h
/-- A hop that betters nothing. -/
def Fix (n : Nat) (h : Hop) (o : Nat → Way) : Prop := ok n h → ∀ w, o h.f.toNat = some w → ∃ y, o h.t.toNat = some y ∧ Le y (on w h)
theorem relax_fix {n : Nat} {h : Hop} {o : Nat → Way} (e : (relax n h o o).2 = false) : (relax n h o o).1 = o ∧ Fix n h o := by
  have hr : relax n h o o = (o, false) := by
    unfold relax at e ⊢
    split
    · rfl
    · rename_i x hx
      rw [hx] at e
      simp only at e
      split
      · rename_i hb
        rw [if_pos hb] at e
        cases e
      · rfl
  refine ⟨by rw [hr], fun hk w hw => ?_⟩
  have := relax_end n h o o hk w hw
  rw [hr] at this
  exact this
theorem pass_fix {n : Nat} {l : Nat → Hop} {o : Nat → Way} : ∀ i, (pass n l o i).2 = false → (pass n l o i).1 = o ∧ ∀ q, q < i → Fix n (l q) o
  | 0, _ => ⟨rfl, fun q hq => by omega⟩
  | i + 1, h => by
    have h' : ((pass n l o i).2 || (relax n (l i) (pass n l o i).1 (pass n l o i).1).2) = false := h
    rw [Bool.or_eq_false_iff] at h'
    obtain ⟨h1, h2⟩ := h'
    obtain ⟨g1, g2⟩ := pass_fix i h1
    obtain ⟨f1, f2⟩ := relax_fix h2
    rw [g1] at f1 f2
    refine ⟨?_, fun q hq => ?_⟩
    · show (relax n (l i) (pass n l o i).1 (pass n l o i).1).1 = o
      rw [g1]
      exact f1
    · by_cases e : q = i
      · rw [e]
        exact f2
      · exact g2 q (by omega)
theorem fix_opt {n m s : Nat} {l : Nat → Hop} {o : Nat → Way} (hs : Sound n l m s o) (h0 : Dom n l m s 0 o) (hf : ∀ q, q < m → Fix n (l q) o) : Opt n l m s o := by
  refine ⟨hs, fun v c k h => ?_⟩
  induction h with
  | here => exact h0 s 0 0 .here (Nat.le_refl _)
  | @on u k c q hw hq hk hu ih =>
    obtain ⟨w, e, g⟩ := ih
    rw [← hu] at e
    obtain ⟨y, hy, hl⟩ := hf q hq hk w e
    exact ⟨y, hy, hl.trans (on_le (l q) g)⟩
theorem prog_opt (n m s : Nat) (l : Nat → Hop) (j : Nat) (h : (prog n l m s j).2 = false) : Opt n l m s (prog n l m s j).1 := by
  cases j with
  | zero => cases h
  | succ j =>
    obtain ⟨h1, h2⟩ := pass_fix m h
    have e : (prog n l m s (j + 1)).1 = (prog n l m s j).1 := h1
    refine fix_opt (prog_sound n m s l _) ?_ ?_
    · intro v c k hw hk
      exact prog_dom n m s l (j + 1) v c k hw (by omega)
    · rw [e]
      exact h2
/-! ### How long a way may be -/
def Bd (B : Nat) (o : Nat → Way) : Prop := ∀ v w, o v = some w → w.2 ≤ B ∧ w.1 ≤ w.2 * 4294967295
theorem start_bd (s : Nat) : Bd 0 (start s) := by
  intro v w h
  unfold start at h
  split at h
  · cases h
    exact ⟨Nat.le_refl _, Nat.zero_le _⟩
  · cases h
theorem Bd.mono {B C : Nat} {o : Nat → Way} (h : Bd B o) (hc : B ≤ C) : Bd C o := fun v w e => ⟨Nat.le_trans (h v w e).1 hc, (h v w e).2⟩
theorem on_bd {B : Nat} {w : Nat × Nat} {h : Hop} (hc : h.c ≤ 4294967295) (hw : w.2 ≤ B ∧ w.1 ≤ w.2 * 4294967295) : (on w h).2 ≤ B + 1 ∧ (on w h).1 ≤ (on w h).2 * 4294967295 := by
  unfold on
  simp only [Nat.add_mul]
  omega
theorem relax_bd {n B : Nat} {h : Hop} {now o : Nat → Way} (hc : h.c ≤ 4294967295) (h1 : Bd B now) (h2 : Bd (B + 1) o) : Bd (B + 1) (relax n h now o).1 := by
  unfold relax
  split
  · exact h2
  · rename_i x hx
    obtain ⟨hk, w, hw, rfl⟩ := cand_some hx
    split
    · intro v y e
      by_cases ev : v = h.t.toNat
      · subst ev
        rw [show (put o h.t.toNat (on w h), true).1 h.t.toNat = some (on w h) from put_same _ _ _] at e
        cases e
        exact on_bd hc (h1 _ _ hw)
      · rw [show (put o h.t.toNat (on w h), true).1 v = o v from put_other _ _ ev] at e
        exact h2 v y e
    · exact h2
theorem pass_bd {n B : Nat} {l : Nat → Hop} {o : Nat → Way} (hc : ∀ q, (l q).c ≤ 4294967295) (h : Bd B o) : ∀ i, Bd (B + i) (pass n l o i).1
  | 0 => h
  | i + 1 => relax_bd (hc i) (pass_bd hc h i) ((pass_bd hc h i).mono (Nat.le_succ _))
theorem rpass_bd {n B : Nat} {l : Nat → Hop} {o : Nat → Way} (hc : ∀ q, (l q).c ≤ 4294967295) (h : Bd B o) : ∀ i, Bd (B + 1) (rpass n l o i)
  | 0 => h.mono (by omega)
  | i + 1 => relax_bd (hc i) h (rpass_bd hc h i)
theorem prog_bd (n m s : Nat) (l : Nat → Hop) (hc : ∀ q, (l q).c ≤ 4294967295) : ∀ j, Bd (j * m) (prog n l m s j).1
  | 0 => (start_bd s).mono (by omega)
  | j + 1 => by
    rw [Nat.add_mul, Nat.one_mul]
    exact pass_bd hc (prog_bd n m s l hc j) m
theorem refn_bd (n m s : Nat) (l : Nat → Hop) (hc : ∀ q, (l q).c ≤ 4294967295) : ∀ j, Bd j (refn n l m s j)
  | 0 => start_bd s
  | j + 1 => rpass_bd hc (refn_bd n m s l hc j) m
/-! ### Laws of the optimum -/
theorem opt_fix {n m s q : Nat} {l : Nat → Hop} {o : Nat → Way} (h : Opt n l m s o) (hq : q < m) : Fix n (l q) o := fun hk w hw =>
  h.2 _ _ _ ((h.1 _ w.1 w.2 hw).on hq hk rfl)
theorem opt_start {n m s : Nat} {l : Nat → Hop} {o : Nat → Way} (h : Opt n l m s o) : o s = some (0, 0) := by
  obtain ⟨w, e, g⟩ := h.2 s 0 0 .here
  rw [e]
  obtain ⟨w1, w2⟩ := w
  unfold Le at g
  simp only at g
  congr 2 <;> omega
/-- Each point but the first is reached by a hop. -/
theorem opt_by {n m s v : Nat} {l : Nat → Hop} {o : Nat → Way} (h : Opt n l m s o) {w : Nat × Nat} (e : o v = some w) (hv : v ≠ s) : ∃ q u, q < m ∧ ok n (l q) ∧ o (l q).f.toNat = some u ∧ (l q).t.toNat = v ∧ on u (l q) = w := by
  have hw := h.1 v w.1 w.2 e
  generalize hk : w.2 = k at hw
  generalize hc : w.1 = c at hw
  cases hw with
  | here => exact absurd rfl hv
  | @on u k c q hw hq hok hu =>
    obtain ⟨y, hy, hl⟩ := h.2 _ _ _ hw
    rw [← hu] at hy
    obtain ⟨z, hz, hzl⟩ := opt_fix h hq hok y hy
    rw [e] at hz
    cases hz
    refine ⟨q, y, hq, hok, hy, rfl, Le.anti (?_ : Le (on y (l q)) w) hzl⟩
    have h1 := on_le (l q) hl
    have h2 : w = on (c, k) (l q) := Prod.ext hc hk
    rw [h2]
    exact h1
/-- With one hop more nothing is farther. -/
theorem Walk.more {n m s v k c : Nat} {l l' : Nat → Hop} (hl : ∀ q, q < m → l' q = l q) (h : Walk n l m s v k c) : Walk n l' (m + 1) s v k c := by
  induction h with
  | here => exact .here
  | @on u k c q hw hq hk hu ih =>
    have e := hl q hq
    rw [← e] at hk hu ⊢
    exact ih.on (by omega) hk hu
theorem opt_more {n m s v : Nat} {l l' : Nat → Hop} {o o' : Nat → Way} (hl : ∀ q, q < m → l' q = l q) (h : Opt n l m s o) (h' : Opt n l' (m + 1) s o') {w : Nat × Nat} (e : o v = some w) : ∃ w', o' v = some w' ∧ Le w' w :=
  h'.2 v w.1 w.2 ((h.1 v w.1 w.2 e).more hl)
end Go.Proofs.Ytfoenfhfohaoaaa.Rea
