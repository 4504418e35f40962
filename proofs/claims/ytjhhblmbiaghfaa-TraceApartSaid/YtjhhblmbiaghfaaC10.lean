/- Classes of a symmetric relation on the numbers below n: reachability, labels, classes; what marks them out. -/

set_option linter.unusedVariables false


namespace Go.Am
def dI (T : Nat → Nat → Bool) : Nat → Nat → Nat → Bool
 | 0, i, j => i == j || T i j
 | k + 1, i, j => dI T k i j || (dI T k i k && dI T k k j)
section
variable {T : Nat → Nat → Bool}
theorem Ay : ∀ k i, dI T k i i = true
 | 0, i => by simp [dI]
 | k + 1, i => by simp [dI, Ay k i]
theorem NX {k i j : Nat} (h : dI T k i j = true) : dI T (k + 1) i j = true := by simp [dI, h]
theorem FA {i j : Nat} (h : T i j = true) : ∀ k, dI T k i j = true
 | 0 => by simp [dI, h]
 | k + 1 => NX (FA h k)
theorem s6 (hs : ∀ i j, T i j = T j i) : ∀ k i j, dI T k i j = dI T k j i
 | 0, i, j => by simp only [dI]; rw [hs i j]; congr 1; rw [Bool.eq_iff_iff]; simp only [beq_iff_eq]; exact ⟨Eq.symm, Eq.symm⟩
 | k + 1, i, j => by
  simp only [dI]
  rw [s6 hs k i j, s6 hs k i k, s6 hs k k j, Bool.and_comm]
theorem oc : ∀ {k i j l : Nat}, j < k → dI T k i j = true → dI T k j l = true → dI T k i l = true
 | 0, _, _, _, h, _, _ => absurd h (by omega)
 | k + 1, i, j, l, h, h1, h2 => by
  simp only [dI, Bool.or_eq_true, Bool.and_eq_true] at h1 h2 ⊢
  by_cases hj : j = k
  ·subst hj
   have a : dI T j i j = true := h1.elim id (·.1)
   have b : dI T j j l = true := h2.elim id (·.2)
   exact .inr ⟨a, b⟩
  ·have hj : j < k := by omega
   rcases h1 with h1 | ⟨h1, h3⟩ <;> rcases h2 with h2 | ⟨h2, h4⟩
   ·exact .inl (oc hj h1 h2)
   ·exact .inr ⟨oc hj h1 h2, h4⟩
   ·exact .inr ⟨h1, oc hj h3 h2⟩
   ·exact .inr ⟨h1, h4⟩
theorem ot {n : Nat} {E : Nat → Nat → Prop} (h0 : ∀ i, E i i) (h1 : ∀ i j l, j < n → E i j → E j l → E i l) (h2 : ∀ i j, i < n → j < n → T i j = true → E i j) :
  ∀ {k i j : Nat}, k ≤ n → i < n → j < n → dI T k i j = true → E i j
 | 0, i, j, _, hi, hj, h => by
  simp only [dI, Bool.or_eq_true, beq_iff_eq] at h
  rcases h with rfl | h
  ·exact h0 _
  ·exact h2 _ _ hi hj h
 | k + 1, i, j, hk, hi, hj, h => by
  simp only [dI, Bool.or_eq_true, Bool.and_eq_true] at h
  rcases h with h | ⟨h, h'⟩
  ·exact ot h0 h1 h2 (by omega) hi hj h
  ·exact h1 _ k _ (by omega) (ot h0 h1 h2 (by omega) hi (by omega) h) (ot h0 h1 h2 (by omega) (by omega) hj h')
def least (p : Nat → Bool) : Nat → Nat
 | 0 => 0
 | n + 1 => if least p n < n then least p n else if p n then n else n + 1
theorem least_le {p : Nat → Bool} : ∀ n, least p n ≤ n
 | 0 => Nat.le_refl _
 | n + 1 => by unfold least; split <;> (try split) <;> omega
theorem wL {p : Nat → Bool} : ∀ {n l}, l < least p n → p l = false
 | 0, l, h => absurd h (by simp [least])
 | n + 1, l, h => by
  unfold least at h
  split at h
  ·exact wL h
  ·rename_i h1
   have := least_le (p := p) n
   by_cases hl : l < n
   ·exact wL (show l < least p n by omega)
   ·split at h
    ·omega
    ·have : l = n := by omega
     subst this
     simpa using ‹¬ p l = true›
theorem vg {p : Nat → Bool} : ∀ {n}, least p n < n → p (least p n) = true
 | 0, h => absurd h (by omega)
 | n + 1, h => by
  unfold least at h ⊢
  split
  ·exact vg ‹_›
  ·rename_i h1
   rw [if_neg h1] at h
   split
   ·assumption
   ·rename_i h2
    rw [if_neg h2] at h
    omega
theorem zK {p : Nat → Bool} {n i : Nat} (h : p i = true) : least p n ≤ i :=
 Nat.le_of_not_lt fun hl => by rw [wL hl] at h; simp at h
def bH (T : Nat → Nat → Bool) (n i : Nat) : Nat := least (dI T n i) n
variable {n : Nat}
theorem qq {i : Nat} : bH T n i ≤ i := zK (Ay n i)
theorem tu {i : Nat} (hi : i < n) : dI T n i (bH T n i) = true := vg (Nat.lt_of_le_of_lt qq hi)
theorem CB {i j : Nat} (h : dI T n i j = true) : bH T n i ≤ j := zK h
theorem pT (hs : ∀ i j, T i j = T j i) {i j : Nat} (hi : i < n) (hj : j < n) : dI T n i j = true ↔ bH T n i = bH T n j := by
 constructor
 ·intro h
  have a : bH T n i ≤ bH T n j := CB (oc hj h (tu hj))
  have b : bH T n j ≤ bH T n i := CB (oc hi (by rw [s6 hs]; exact h) (tu hi))
  omega
 ·intro h
  have a := tu (T := T) hj
  rw [← h, s6 hs] at a
  exact oc (Nat.lt_of_le_of_lt qq hi) (tu hi) a
theorem xl (hs : ∀ i j, T i j = T j i) {i j : Nat} (hi : i < n) (hj : j < n) (h : T i j = true) : bH T n i = bH T n j := (pT hs hi hj).1 (FA h n)
theorem Dz (hs : ∀ i j, T i j = T j i) {i : Nat} (hi : i < n) : bH T n (bH T n i) = bH T n i :=
 ((pT hs hi (Nat.lt_of_le_of_lt qq hi)).1 (tu hi)).symm
theorem Gq (hs : ∀ i j, T i j = T j i) {p : Nat → Prop} {i : Nat} (hi : i < n) (hp : p i) (hc : ∀ a b, a < n → b < n → p a → T a b = true → p b) {j : Nat} (hj : j < n) (h : bH T n j = bH T n i) : p j :=
 (ot (n := n) (E := fun a b => p a ↔ p b) (fun _ => Iff.rfl) (fun _ _ _ _ a b => a.trans b) (fun a b ha hb h => ⟨fun q => hc a b ha hb q h, fun q => hc b a hb ha q (by rw [hs]; exact h)⟩) (Nat.le_refl n) hi hj ((pT hs hi hj).2 h.symm)).1 hp
def roots (T : Nat → Nat → Bool) (n m : Nat) : List Nat := (List.range m).filter fun i => bH T n i == i
def bV (T : Nat → Nat → Bool) (n m r : Nat) : List Nat := (List.range m).filter fun i => bH T n i == r
theorem B6 {m r : Nat} : r ∈ roots T n m ↔ r < m ∧ bH T n r = r := by simp [roots]
theorem uf {m r i : Nat} : i ∈ bV T n m r ↔ i < m ∧ bH T n i = r := by simp [bV]
theorem Ds {m : Nat} : roots T n (m + 1) = roots T n m ++ if bH T n m = m then [m] else [] := by
 unfold roots
 rw [List.range_succ, List.filter_append]
 congr 1
 by_cases h : bH T n m = m <;> simp [h]
theorem y4 {m r : Nat} : (bV T n m r).Pairwise (· < ·) := List.Pairwise.filter _ List.pairwise_lt_range
theorem Mc {m r : Nat} : (bV T n m r).Nodup := (y4 (T := T) (n := n) (m := m) (r := r)).imp fun h => Nat.ne_of_lt h
theorem Hh {m r : Nat} : (bV T n m r).length ≤ m := by
 have := List.length_filter_le (fun i => bH T n i == r) (List.range m)
 rwa [List.length_range] at this
theorem EE {m : Nat} : (roots T n m).length ≤ m := by
 have := List.length_filter_le (fun i => bH T n i == i) (List.range m)
 rwa [List.length_range] at this
theorem xh : ∀ {a b : List Nat}, a.Pairwise (· < ·) → b.Pairwise (· < ·) → (∀ x, x ∈ a ↔ x ∈ b) → a = b
 | [], [], _, _, _ => rfl
 | [], y :: b, _, _, h => absurd ((h y).2 (by simp)) (by simp)
 | x :: a, [], _, _, h => absurd ((h x).1 (by simp)) (by simp)
 | x :: a, y :: b, ha, hb, h => by
  have ha1 := (List.pairwise_cons.1 ha).1
  have hb1 := (List.pairwise_cons.1 hb).1
  have e : x = y := by
   have h1 := (h x).1 (by simp)
   have h2 := (h y).2 (by simp)
   simp only [List.mem_cons] at h1 h2
   rcases h1 with h1 | h1
   ·exact h1
   ·rcases h2 with h2 | h2
    ·exact h2.symm
    ·have := ha1 y h2; have := hb1 x h1; omega
  subst e
  rw [xh (List.pairwise_cons.1 ha).2 (List.pairwise_cons.1 hb).2 fun z => ?_]
  have hz := h z
  simp only [List.mem_cons] at hz
  constructor
  ·intro m
   have := ha1 z m
   rcases hz.1 (.inr m) with h' | h'
   ·omega
   ·exact h'
  ·intro m
   have := hb1 z m
   rcases hz.2 (.inr m) with h' | h'
   ·omega
   ·exact h'
def lG (x : Nat) : List Nat → List Nat
 | [] => [x]
 | y :: l => if x ≤ y then x :: y :: l else y :: lG x l
def j3 : List Nat → List Nat
 | [] => []
 | x :: l => lG x (j3 l)
theorem xe {x y : Nat} : ∀ {l : List Nat}, y ∈ lG x l ↔ y = x ∨ y ∈ l
 | [] => by simp [lG]
 | z :: l => by
  unfold lG
  split
  ·simp
  ·simp only [List.mem_cons, xe (l := l)]
   exact ⟨fun h => h.elim (fun h => .inr (.inl h)) fun h => h.elim .inl fun h => .inr (.inr h), fun h => h.elim (fun h => .inr (.inl h)) fun h => h.elim .inl fun h => .inr (.inr h)⟩
theorem ud {y : Nat} : ∀ {l : List Nat}, y ∈ j3 l ↔ y ∈ l
 | [] => Iff.rfl
 | x :: l => by simp only [j3, xe, ud (l := l), List.mem_cons]
theorem Bz {x : Nat} : ∀ {l : List Nat}, x ∉ l → l.Pairwise (· < ·) → (lG x l).Pairwise (· < ·)
 | [], _, _ => by simp [lG]
 | y :: l, hx, h => by
  have h1 := List.pairwise_cons.1 h
  simp only [List.mem_cons, not_or] at hx
  unfold lG
  split
  ·rename_i hle
   refine List.pairwise_cons.2 ⟨fun z hz => ?_, h⟩
   rcases List.mem_cons.1 hz with rfl | hz
   ·omega
   ·have := h1.1 z hz; omega
  ·rename_i hle
   refine List.pairwise_cons.2 ⟨fun z hz => ?_, Bz hx.2 h1.2⟩
   rcases xe.1 hz with rfl | hz
   ·omega
   ·exact h1.1 z hz
theorem yq : ∀ {l : List Nat}, l.Nodup → (j3 l).Pairwise (· < ·)
 | [], _ => by simp [j3]
 | x :: l, h => by
  have h1 := List.nodup_cons.1 h
  exact Bz (fun hx => h1.1 (ud.1 hx)) (yq h1.2)
theorem Jz {C : List Nat} {r : Nat} (h1 : C.Nodup) (h2 : ∀ j, j ∈ C ↔ j < n ∧ bH T n j = r) : j3 C = bV T n n r :=
 xh (yq h1) y4 fun x => by rw [ud, h2, uf]
theorem Ey : ∀ {n : Nat} {C : List Nat}, C.Nodup → (∀ j, j ∈ C → j < n) → C.length ≤ n
 | 0, C, _, h2 => by
  cases C with
  | nil => simp
  | cons x l => exact absurd (h2 x (by simp)) (by omega)
 | n + 1, C, h1, h2 => by
  have := Ey (n := n) (C := C.erase n) (h1.erase _) fun j hj => by
   have h3 := h2 j (List.mem_of_mem_erase hj)
   have h4 : j ≠ n := fun e => by subst e; exact (List.Nodup.not_mem_erase h1) hj
   omega
  rw [List.length_erase] at this
  split at this <;> omega
end
end Go.Am
