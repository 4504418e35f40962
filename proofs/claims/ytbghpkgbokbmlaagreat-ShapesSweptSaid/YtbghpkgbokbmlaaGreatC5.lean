/- Plain laws of splines: at a knot both sides give the same value. -/
import Derived.Test.YtbghpkgbokbmlaaGreatC4
set_option linter.unusedVariables false
namespace Go.Am.B
def cU (k : Nat → Rat) (j : Nat) : Nat → Int
 | 0 => -1
 | l + 1 => if k (j + l) = k (j + l + 1) then cU k j l else (j + l : Nat)
theorem K1 {k : Nat → Rat} {j : Nat} : ∀ {l : Nat}, k j ≠ k (j + l) → ∃ P : Nat, cU k j l = (P : Int) ∧ j ≤ P ∧ P < j + l ∧ k P ≠ k (P + 1)
 | 0, h => absurd rfl h
 | l + 1, h => by
  unfold cU
  by_cases he : k (j + l) = k (j + l + 1)
  ·rw [if_pos he]
   obtain ⟨P, h1, h2, h3, h4⟩ := K1 (k := k) (j := j) (l := l) (by rw [he]; exact h)
   exact ⟨P, h1, h2, by omega, h4⟩
  ·rw [if_neg he]
   exact ⟨j + l, rfl, by omega, by omega, he⟩
theorem Kn.piece {n p : Nat} {k : Nat → Rat} (h : Kn n p k) {j : Nat} (hj : j + p + 1 < n) : ∃ P : Nat, cU k j (p + 1) = (P : Int) ∧ j ≤ P ∧ P ≤ j + p ∧ k P < k (P + 1) ∧ p ≤ P ∧ P + p + 1 < n := by
 have hp := h.p1
 have hne : k j ≠ k (j + (p + 1)) := by
  have hlt : k j < k (j + (p + 1)) := by
   by_cases h0 : j = 0
   ·subst h0
    have hl := h.len
    have a1 := h.mult 1 (by omega) (by omega)
    rw [h.first 1 (by omega), show 1 + p = 0 + (p + 1) by omega] at a1
    exact a1
   ·have a1 := h.mult j (by omega) (by omega)
    have a2 := h.mono (show j + p ≤ j + (p + 1) by omega) (by omega)
    grind
  grind
 obtain ⟨P, h1, h2, h3, h4⟩ := K1 hne
 have hs := h.sorted P (by omega)
 refine ⟨P, h1, h2, by omega, by grind, ?_, ?_⟩
 ·rcases Nat.lt_or_ge P p with hh | hh
  ·exact absurd (by rw [h.first P (by omega), h.first (P + 1) (by omega)]) h4
  ·exact hh
 ·rcases Nat.lt_or_ge (P + p + 1) n with hh | hh
  ·exact hh
  ·exact absurd (by rw [h.last P (by omega) (by omega), h.last (P + 1) (by omega) (by omega)]) h4
end Go.Am.B
