/- Plain laws of splines: at a knot both sides give the same value. -/
import Derived.Test.YthnoegfjpmlndaaC4
set_option linter.unusedVariables false
namespace Go.Am.B
theorem vB_right {n : Nat} {k : Nat → Rat} {i m : Nat} (h : At n k i) {t : Rat} (hk : ∀ x, i + 1 ≤ x → x ≤ i + m → k x = t) : ∀ {d : Nat}, d ≤ i → d ≤ m → ∀ j, vB k i t d j = if j = d then 1 else 0
  | 0, _, _, j => by unfold vB; rfl
  | d + 1, hd, hm, j => by
    have ih := vB_right h hk (d := d) (by omega) (by omega)
    have e1 : fr (k i) t t = 1 := fr_end (by have := h.wide; have := hk (i + 1) (by omega) (by omega); grind)
    cases j with
    | zero =>
      rw [vB_first, ih]
      by_cases h0 : d = 0
      · subst h0
        rw [if_pos rfl, if_neg (by omega), show i - 0 = i by omega, show i + (0 + 1) = i + 1 by omega, hk (i + 1) (by omega) (by omega), e1]; grind
      · rw [if_neg (by omega), if_neg (by omega)]; grind
    | succ j =>
      rw [vB_succ, ih j, ih (j + 1)]
      by_cases hj : j = d
      · have q1 : (if j = d then (1 : Rat) else 0) = 1 := if_pos hj
        have q2 : (if j + 1 = d then (1 : Rat) else 0) = 0 := if_neg (by omega)
        have q3 : (if j + 1 = d + 1 then (1 : Rat) else 0) = 1 := if_pos (by omega)
        rw [q1, q2, q3, show i - d + j = i by omega, hk (i + (d + 1)) (by omega) (by omega), e1]; grind
      · have q1 : (if j = d then (1 : Rat) else 0) = 0 := if_neg hj
        have q3 : (if j + 1 = d + 1 then (1 : Rat) else 0) = 0 := if_neg (by omega)
        rw [q1, q3]
        by_cases hj2 : j + 1 = d
        · rw [if_pos hj2, show i - d + (j + 1) = i by omega, hk (i + (d + 1)) (by omega) (by omega), e1]; grind
        · rw [if_neg hj2]; grind
theorem vB_left {k : Nat → Rat} {i m : Nat} {t : Rat} (hm : m ≤ i + 1) (hk : ∀ x, x ≤ i → i < x + m → k x = t) : ∀ {d : Nat}, d ≤ m → ∀ j, vB k i t d j = if j = 0 then 1 else 0
  | 0, _, j => by unfold vB; rfl
  | d + 1, hd, j => by
    have ih := vB_left hm hk (d := d) (by omega)
    cases j with
    | zero =>
      rw [vB_first, ih 0, if_pos rfl, hk (i - d) (by omega) (by omega), fr_self]; grind
    | succ j =>
      have q2 : (if j + 1 = 0 then (1 : Rat) else 0) = 0 := if_neg (by omega)
      rw [vB_succ, ih j, ih (j + 1), q2]
      by_cases hj : j = 0
      · subst hj
        rw [Nat.add_zero, hk (i - d) (by omega) (by omega), fr_self]; grind
      · have q1 : (if j = 0 then (1 : Rat) else 0) = 0 := if_neg hj
        rw [q1]; grind
theorem vB_seam {n : Nat} {k : Nat → Rat} {i m : Nat} (h : At n k i) {t : Rat} (hm : 1 ≤ m) (hk : ∀ x, i + 1 ≤ x → x ≤ i + m → k x = t) : ∀ e, m + e ≤ i → (∀ j, j < m → vB k i t (m + e) j = 0) ∧ ∀ j, vB k i t (m + e) (j + m) = vB k (i + m) t (m + e) j
  | 0, he => by
    have r := vB_right h hk (d := m) (by omega) (Nat.le_refl _)
    have l := vB_left (k := k) (i := i + m) (m := m) (t := t) (by omega) (fun x h1 h2 => hk x (by omega) h1) (d := m) (Nat.le_refl _)
    refine ⟨fun j hj => ?_, fun j => ?_⟩
    · rw [Nat.add_zero, r, if_neg (by omega)]
    · rw [Nat.add_zero, r, l]
      by_cases hj : j = 0
      · subst hj; rw [if_pos (by omega), if_pos rfl]
      · rw [if_neg (by omega), if_neg hj]
  | e + 1, he => by
    obtain ⟨z, s⟩ := vB_seam h hm hk e (by omega)
    have z2 : ∀ j, j < m → vB k i t (m + (e + 1)) j = 0 := fun j hj => by
      rw [show m + (e + 1) = m + e + 1 by omega]
      cases j with
      | zero => rw [vB_first, z 0 (by omega)]; grind
      | succ j => rw [vB_succ, z j (by omega), z (j + 1) hj]; grind
    refine ⟨z2, fun j => ?_⟩
    rw [show m + (e + 1) = m + e + 1 by omega]
    cases j with
    | zero =>
      rw [vB_first, Nat.zero_add]
      obtain ⟨q, rfl⟩ : ∃ q, m = q + 1 := ⟨m - 1, by omega⟩
      rw [vB_succ, z q (by omega)]
      have s0 := s 0
      rw [Nat.zero_add] at s0
      rw [s0, show i - (q + 1 + e) + (q + 1) = i + (q + 1) - (q + 1 + e) by omega]; grind
    | succ j =>
      rw [show j + 1 + m = j + m + 1 by omega, vB_succ, vB_succ, s j]
      have s1 := s (j + 1)
      rw [show j + 1 + m = j + m + 1 by omega] at s1
      rw [s1, show i - (m + e) + (j + m) = i + m - (m + e) + j by omega, show i - (m + e) + (j + m + 1) = i + m - (m + e) + (j + 1) by omega]
theorem sumR_split {f : Nat → Rat} {a : Nat} : ∀ {b : Nat}, sumR (a + b) f = sumR a f + sumR b fun j => f (a + j)
  | 0 => by simp only [Nat.add_zero, sumR]; grind
  | b + 1 => by rw [show a + (b + 1) = a + b + 1 by omega, sumR, sumR_split, sumR]; grind
theorem seam {n p : Nat} {k : Nat → Rat} (h : Kn n p k) {t : Rat} {P : Nat} (hP : p ≤ P) (hP2 : P + p + 1 < n) (hw : k P < k (P + 1)) (h0 : k P ≤ t) (h1 : t ≤ k (P + 1)) {i : Nat} (hi : IsIvl n k t i) (hip : p ≤ i) (hip2 : i + p + 1 < n) {c : Nat → Rat} :
    sumR (p + 1) (fun j => c (P - p + j) * vB k P t p j) = sumR (p + 1) fun j => c (i - p + j) * vB k i t p j := by
  have hp := h.p1
  have hiw := hi.at_.wide
  have hge : P ≤ i := by
    rcases Nat.lt_or_ge i P with hlt | hge
    · exfalso
      have a1 := h.mono (show i + 1 ≤ P by omega) (show P < n by omega)
      have a2 := hi.hi
      have a3 := h.mono (show P + 1 ≤ n - 1 by omega) (show n - 1 < n by omega)
      rcases hi.edge with e | e <;> grind
    · exact hge
  rcases Nat.lt_or_ge P i with hlt | hle
  · obtain ⟨m, rfl⟩ : ∃ m, i = P + m := ⟨i - P, by omega⟩
    have hlo := hi.lo
    have heq : ∀ x, P + 1 ≤ x → x ≤ P + m → k x = t := fun x g1 g2 => by
      have a1 := h.mono g1 (show x < n by omega)
      have a2 := h.mono g2 (show P + m < n by omega)
      grind
    have hmp : m ≤ p := by
      rcases Nat.lt_or_ge p m with hh | hh
      · exfalso
        have a1 := h.mult (P + 1) (by omega) (by omega)
        have a2 := heq (P + 1) (by omega) (by omega)
        have a3 := heq (P + 1 + p) (by omega) (by omega)
        grind
      · exact hh
    obtain ⟨e, rfl⟩ : ∃ e, p = m + e := ⟨p - m, by omega⟩
    obtain ⟨z, s⟩ := vB_seam ⟨by omega, h.sorted, hw⟩ (m := m) (by omega) heq e (by omega)
    rw [show m + e + 1 = m + (e + 1) by omega, sumR_split, sumR_zero (n := m) fun j hj => by rw [z j hj]; grind]
    rw [show m + (e + 1) = (e + 1) + m by omega, sumR_split (a := e + 1) (b := m), sumR_zero (n := m) (f := fun j => c (P + m - (m + e) + (e + 1 + j)) * vB k (P + m) t (m + e) (e + 1 + j))]
    · have : ∀ j, j < e + 1 → c (P - (m + e) + (m + j)) * vB k P t (m + e) (m + j) = c (P + m - (m + e) + j) * vB k (P + m) t (m + e) j := fun j hj => by
        rw [show m + j = j + m by omega, s j, show P - (m + e) + (j + m) = P + m - (m + e) + j by omega]
      rw [sumR_congr this]; grind
    · intro j hj
      have := s (e + 1 + j)
      rw [vB_above (d := m + e) (by omega)] at this
      rw [← this]; grind
  · have : i = P := by omega
    subst this
    rfl
def lastW (k : Nat → Rat) (j : Nat) : Nat → Int
  | 0 => -1
  | l + 1 => if k (j + l) = k (j + l + 1) then lastW k j l else (j + l : Nat)
theorem lastW_is {k : Nat → Rat} {j : Nat} : ∀ {l : Nat}, k j ≠ k (j + l) → ∃ P : Nat, lastW k j l = (P : Int) ∧ j ≤ P ∧ P < j + l ∧ k P ≠ k (P + 1)
  | 0, h => absurd rfl h
  | l + 1, h => by
    unfold lastW
    by_cases he : k (j + l) = k (j + l + 1)
    · rw [if_pos he]
      obtain ⟨P, h1, h2, h3, h4⟩ := lastW_is (k := k) (j := j) (l := l) (by rw [he]; exact h)
      exact ⟨P, h1, h2, by omega, h4⟩
    · rw [if_neg he]
      exact ⟨j + l, rfl, by omega, by omega, he⟩
theorem Kn.piece {n p : Nat} {k : Nat → Rat} (h : Kn n p k) {j : Nat} (hj : j + p + 1 < n) : ∃ P : Nat, lastW k j (p + 1) = (P : Int) ∧ j ≤ P ∧ P ≤ j + p ∧ k P < k (P + 1) ∧ p ≤ P ∧ P + p + 1 < n := by
  have hp := h.p1
  have hne : k j ≠ k (j + (p + 1)) := by
    have hlt : k j < k (j + (p + 1)) := by
      by_cases h0 : j = 0
      · subst h0
        have hl := h.len
        have a1 := h.mult 1 (by omega) (by omega)
        rw [h.first 1 (by omega), show 1 + p = 0 + (p + 1) by omega] at a1
        exact a1
      · have a1 := h.mult j (by omega) (by omega)
        have a2 := h.mono (show j + p ≤ j + (p + 1) by omega) (by omega)
        grind
    grind
  obtain ⟨P, h1, h2, h3, h4⟩ := lastW_is hne
  have hs := h.sorted P (by omega)
  refine ⟨P, h1, h2, by omega, by grind, ?_, ?_⟩
  · rcases Nat.lt_or_ge P p with hh | hh
    · exact absurd (by rw [h.first P (by omega), h.first (P + 1) (by omega)]) h4
    · exact hh
  · rcases Nat.lt_or_ge (P + p + 1) n with hh | hh
    · exact hh
    · exact absurd (by rw [h.last P (by omega) (by omega), h.last (P + 1) (by omega) (by omega)]) h4
theorem ascL_shift {k : Nat → Rat} {c : Nat} : ∀ {l a : Nat}, ascL (fun i => k (c + i)) a l = ascL k (c + a) l
  | 0, _ => rfl
  | l + 1, a => by rw [ascL, ascL, ascL_shift]; rfl
theorem ascL_congr {f g : Nat → Rat} : ∀ {l a : Nat}, (∀ i, a ≤ i → i < a + l → f i = g i) → ascL f a l = ascL g a l
  | 0, _, _ => rfl
  | l + 1, a, h => by rw [ascL, ascL, h a (by omega) (by omega), ascL_congr fun i h1 h2 => h i (by omega) (by omega)]
end Go.Am.B
