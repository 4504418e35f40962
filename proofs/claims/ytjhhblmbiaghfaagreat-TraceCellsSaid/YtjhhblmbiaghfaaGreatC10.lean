/- Classes of a symmetric relation on the numbers below n: reachability, labels, classes; what marks them out. -/

set_option linter.unusedVariables false


namespace Go.Am
def cP (T : Nat → Nat → Bool) : Nat → Nat → Nat → Bool
 | 0, i, j => i == j || T i j
 | k + 1, i, j => cP T k i j || (cP T k i k && cP T k k j)
section
variable {T : Nat → Nat → Bool}
theorem xx : ∀ k i, cP T k i i = true
 | 0, i => by simp [cP]
 | k + 1, i => by simp [cP, xx k i]
theorem TS {k i j : Nat} (h : cP T k i j = true) : cP T (k + 1) i j = true := by simp [cP, h]
theorem CD {i j : Nat} (h : T i j = true) : ∀ k, cP T k i j = true
 | 0 => by simp [cP, h]
 | k + 1 => TS (CD h k)
theorem pP (hs : ∀ i j, T i j = T j i) : ∀ k i j, cP T k i j = cP T k j i
 | 0, i, j => by simp only [cP]; rw [hs i j]; congr 1; rw [Bool.eq_iff_iff]; simp only [beq_iff_eq]; exact ⟨Eq.symm, Eq.symm⟩
 | k + 1, i, j => by
  simp only [cP]
  rw [pP hs k i j, pP hs k i k, pP hs k k j, Bool.and_comm]
theorem mh : ∀ {k i j l : Nat}, j < k → cP T k i j = true → cP T k j l = true → cP T k i l = true
 | 0, _, _, _, h, _, _ => absurd h (by omega)
 | k + 1, i, j, l, h, h1, h2 => by
  simp only [cP, Bool.or_eq_true, Bool.and_eq_true] at h1 h2 ⊢
  by_cases hj : j = k
  ·subst hj
   have a : cP T j i j = true := h1.elim id (·.1)
   have b : cP T j j l = true := h2.elim id (·.2)
   exact .inr ⟨a, b⟩
  ·have hj : j < k := by omega
   rcases h1 with h1 | ⟨h1, h3⟩ <;> rcases h2 with h2 | ⟨h2, h4⟩
   ·exact .inl (mh hj h1 h2)
   ·exact .inr ⟨mh hj h1 h2, h4⟩
   ·exact .inr ⟨h1, mh hj h3 h2⟩
   ·exact .inr ⟨h1, h4⟩
theorem ux {n : Nat} {E : Nat → Nat → Prop} (h0 : ∀ i, E i i) (h1 : ∀ i j l, j < n → E i j → E j l → E i l) (h2 : ∀ i j, i < n → j < n → T i j = true → E i j) :
  ∀ {k i j : Nat}, k ≤ n → i < n → j < n → cP T k i j = true → E i j
 | 0, i, j, _, hi, hj, h => by
  simp only [cP, Bool.or_eq_true, beq_iff_eq] at h
  rcases h with rfl | h
  ·exact h0 _
  ·exact h2 _ _ hi hj h
 | k + 1, i, j, hk, hi, hj, h => by
  simp only [cP, Bool.or_eq_true, Bool.and_eq_true] at h
  rcases h with h | ⟨h, h'⟩
  ·exact ux h0 h1 h2 (by omega) hi hj h
  ·exact h1 _ k _ (by omega) (ux h0 h1 h2 (by omega) hi (by omega) h) (ux h0 h1 h2 (by omega) (by omega) hj h')
def least (p : Nat → Bool) : Nat → Nat
 | 0 => 0
 | n + 1 => if least p n < n then least p n else if p n then n else n + 1
theorem least_le {p : Nat → Bool} : ∀ n, least p n ≤ n
 | 0 => Nat.le_refl _
 | n + 1 => by unfold least; split <;> (try split) <;> omega
theorem x9 {p : Nat → Bool} : ∀ {n l}, l < least p n → p l = false
 | 0, l, h => absurd h (by simp [least])
 | n + 1, l, h => by
  unfold least at h
  split at h
  ·exact x9 h
  ·rename_i h1
   have := least_le (p := p) n
   by_cases hl : l < n
   ·exact x9 (show l < least p n by omega)
   ·split at h
    ·omega
    ·have : l = n := by omega
     subst this
     simpa using ‹¬ p l = true›
theorem za {p : Nat → Bool} : ∀ {n}, least p n < n → p (least p n) = true
 | 0, h => absurd h (by omega)
 | n + 1, h => by
  unfold least at h ⊢
  split
  ·exact za ‹_›
  ·rename_i h1
   rw [if_neg h1] at h
   split
   ·assumption
   ·rename_i h2
    rw [if_neg h2] at h
    omega
theorem y4 {p : Nat → Bool} {n i : Nat} (h : p i = true) : least p n ≤ i :=
 Nat.le_of_not_lt fun hl => by rw [x9 hl] at h; simp at h
def bJ (T : Nat → Nat → Bool) (n i : Nat) : Nat := least (cP T n i) n
variable {n : Nat}
theorem od {i : Nat} : bJ T n i ≤ i := y4 (xx n i)
theorem oZ {i : Nat} (hi : i < n) : cP T n i (bJ T n i) = true := za (Nat.lt_of_le_of_lt od hi)
theorem Bx {i j : Nat} (h : cP T n i j = true) : bJ T n i ≤ j := y4 h
theorem AK (hs : ∀ i j, T i j = T j i) {i j : Nat} (hi : i < n) (hj : j < n) : cP T n i j = true ↔ bJ T n i = bJ T n j := by
 constructor
 ·intro h
  have a : bJ T n i ≤ bJ T n j := Bx (mh hj h (oZ hj))
  have b : bJ T n j ≤ bJ T n i := Bx (mh hi (by rw [pP hs]; exact h) (oZ hi))
  omega
 ·intro h
  have a := oZ (T := T) hj
  rw [← h, pP hs] at a
  exact mh (Nat.lt_of_le_of_lt od hi) (oZ hi) a
theorem Gu (hs : ∀ i j, T i j = T j i) {i j : Nat} (hi : i < n) (hj : j < n) (h : T i j = true) : bJ T n i = bJ T n j := (AK hs hi hj).1 (CD h n)
theorem Dk (hs : ∀ i j, T i j = T j i) {i : Nat} (hi : i < n) : bJ T n (bJ T n i) = bJ T n i :=
 ((AK hs hi (Nat.lt_of_le_of_lt od hi)).1 (oZ hi)).symm
theorem Q4 {ℓ : Nat → Nat} (h1 : ∀ i, i < n → ℓ i ≤ i) (h2 : ∀ i, i < n → cP T n i (ℓ i) = true) (h3 : ∀ i k, i < n → k < n → T i k = true → ℓ i = ℓ k) {i : Nat} (hi : i < n) : ℓ i = bJ T n i := by
 have a : ℓ i = ℓ (bJ T n i) := ux (n := n) (E := fun i j => ℓ i = ℓ j) (fun _ => rfl) (fun _ _ _ _ a b => a.trans b) (fun i j hi hj h => h3 i j hi hj h) (Nat.le_refl n) hi (Nat.lt_of_le_of_lt od hi) (oZ hi)
 have b := h1 (bJ T n i) (Nat.lt_of_le_of_lt od hi)
 have c := Bx (h2 i hi)
 omega
theorem PS (hs : ∀ i j, T i j = T j i) {p : Nat → Prop} {i : Nat} (hi : i < n) (hp : p i) (hc : ∀ a b, a < n → b < n → p a → T a b = true → p b) {j : Nat} (hj : j < n) (h : bJ T n j = bJ T n i) : p j :=
 (ux (n := n) (E := fun a b => p a ↔ p b) (fun _ => Iff.rfl) (fun _ _ _ _ a b => a.trans b) (fun a b ha hb h => ⟨fun q => hc a b ha hb q h, fun q => hc b a hb ha q (by rw [hs]; exact h)⟩) (Nat.le_refl n) hi hj ((AK hs hi hj).2 h.symm)).1 hp
def roots (T : Nat → Nat → Bool) (n m : Nat) : List Nat := (List.range m).filter fun i => bJ T n i == i
def dH (T : Nat → Nat → Bool) (n m r : Nat) : List Nat := (List.range m).filter fun i => bJ T n i == r
theorem BO {m r i : Nat} : i ∈ dH T n m r ↔ i < m ∧ bJ T n i = r := by simp [dH]
theorem wJ {m : Nat} : roots T n (m + 1) = roots T n m ++ if bJ T n m = m then [m] else [] := by
 unfold roots
 rw [List.range_succ, List.filter_append]
 congr 1
 by_cases h : bJ T n m = m <;> simp [h]
theorem Pn {m r : Nat} : dH T n (m + 1) r = dH T n m r ++ if bJ T n m = r then [m] else [] := by
 unfold dH
 rw [List.range_succ, List.filter_append]
 congr 1
 by_cases h : bJ T n m = r <;> simp [h]
theorem Lz {m r : Nat} : (dH T n m r).Pairwise (· < ·) := List.Pairwise.filter _ List.pairwise_lt_range
theorem Ef {m r : Nat} : (dH T n m r).length ≤ m := by
 have := List.length_filter_le (fun i => bJ T n i == r) (List.range m)
 rwa [List.length_range] at this
theorem B0 {m : Nat} : (roots T n m).length ≤ m := by
 have := List.length_filter_le (fun i => bJ T n i == i) (List.range m)
 rwa [List.length_range] at this
theorem PX {m r : Nat} : 0 < (dH T n m r).length ↔ ∃ i, i < m ∧ bJ T n i = r := by
 rw [List.length_pos_iff_exists_mem]
 exact ⟨fun ⟨i, h⟩ => ⟨i, BO.1 h⟩, fun ⟨i, h⟩ => ⟨i, BO.2 h⟩⟩
theorem UG (hs : ∀ i j, T i j = T j i) {r : Nat} : 0 < (dH T n n r).length ↔ r < n ∧ bJ T n r = r := by
 rw [PX]
 constructor
 ·rintro ⟨i, hi, rfl⟩
  exact ⟨Nat.lt_of_le_of_lt od hi, Dk hs hi⟩
 ·exact fun ⟨h1, h2⟩ => ⟨r, h1, h2⟩
theorem Bh : ∀ {a b : List Nat}, a.Pairwise (· < ·) → b.Pairwise (· < ·) → (∀ x, x ∈ a ↔ x ∈ b) → a = b
 | [], [], _, _, _ => rfl
 | [], y :: b, _, _, h => absurd ((h y).2 (by simp)) (by simp)
 | x :: a, [], _, _, h => absurd ((h x).1 (by simp)) (by simp)
 | x :: a, y :: b, ha, hb, h => by
  have ha1 := (List.pairwise_cons.1 ha).1
  have hb1 := (List.pairwise_cons.1 hb).1
  have e : x = y := by
   have h1 := (h x).1 (by simp)
   have h2 := (h y).2 (by simp)
   simp only [List.mem_cons] at h1 h2
   rcases h1 with h1 | h1
   ·exact h1
   ·rcases h2 with h2 | h2
    ·exact h2.symm
    ·have := ha1 y h2; have := hb1 x h1; omega
  subst e
  rw [Bh (List.pairwise_cons.1 ha).2 (List.pairwise_cons.1 hb).2 fun z => ?_]
  have hz := h z
  simp only [List.mem_cons] at hz
  constructor
  ·intro m
   have := ha1 z m
   rcases hz.1 (.inr m) with h' | h'
   ·omega
   ·exact h'
  ·intro m
   have := hb1 z m
   rcases hz.2 (.inr m) with h' | h'
   ·omega
   ·exact h'
def l5 (x : Nat) : List Nat → List Nat
 | [] => [x]
 | y :: l => if x ≤ y then x :: y :: l else y :: l5 x l
def j5 : List Nat → List Nat
 | [] => []
 | x :: l => l5 x (j5 l)
theorem BM {x y : Nat} : ∀ {l : List Nat}, y ∈ l5 x l ↔ y = x ∨ y ∈ l
 | [] => by simp [l5]
 | z :: l => by
  unfold l5
  split
  ·simp
  ·simp only [List.mem_cons, BM (l := l)]
   exact ⟨fun h => h.elim (fun h => .inr (.inl h)) fun h => h.elim .inl fun h => .inr (.inr h), fun h => h.elim (fun h => .inr (.inl h)) fun h => h.elim .inl fun h => .inr (.inr h)⟩
theorem yg {y : Nat} : ∀ {l : List Nat}, y ∈ j5 l ↔ y ∈ l
 | [] => Iff.rfl
 | x :: l => by simp only [j5, BM, yg (l := l), List.mem_cons]
theorem G3 {x : Nat} : ∀ {l : List Nat}, x ∉ l → l.Pairwise (· < ·) → (l5 x l).Pairwise (· < ·)
 | [], _, _ => by simp [l5]
 | y :: l, hx, h => by
  have h1 := List.pairwise_cons.1 h
  simp only [List.mem_cons, not_or] at hx
  unfold l5
  split
  ·rename_i hle
   refine List.pairwise_cons.2 ⟨fun z hz => ?_, h⟩
   rcases List.mem_cons.1 hz with rfl | hz
   ·omega
   ·have := h1.1 z hz; omega
  ·rename_i hle
   refine List.pairwise_cons.2 ⟨fun z hz => ?_, G3 hx.2 h1.2⟩
   rcases BM.1 hz with rfl | hz
   ·omega
   ·exact h1.1 z hz
theorem zW : ∀ {l : List Nat}, l.Nodup → (j5 l).Pairwise (· < ·)
 | [], _ => by simp [j5]
 | x :: l, h => by
  have h1 := List.nodup_cons.1 h
  exact G3 (fun hx => h1.1 (yg.1 hx)) (zW h1.2)
theorem Q2 {C : List Nat} {r : Nat} (h1 : C.Nodup) (h2 : ∀ j, j ∈ C ↔ j < n ∧ bJ T n j = r) : j5 C = dH T n n r :=
 Bh (zW h1) Lz fun x => by rw [yg, h2, BO]
theorem FL : ∀ {n : Nat} {C : List Nat}, C.Nodup → (∀ j, j ∈ C → j < n) → C.length ≤ n
 | 0, C, _, h2 => by
  cases C with
  | nil => simp
  | cons x l => exact absurd (h2 x (by simp)) (by omega)
 | n + 1, C, h1, h2 => by
  have := FL (n := n) (C := C.erase n) (h1.erase _) fun j hj => by
   have h3 := h2 j (List.mem_of_mem_erase hj)
   have h4 : j ≠ n := fun e => by subst e; exact (List.Nodup.not_mem_erase h1) hj
   omega
  rw [List.length_erase] at this
  split at this <;> omega
end
end Go.Am
