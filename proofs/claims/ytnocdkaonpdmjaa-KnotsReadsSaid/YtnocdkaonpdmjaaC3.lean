/- Plain laws of knots: the interval of a parameter; what a list of knots is made of. -/
import Derived.Test.YtnocdkaonpdmjaaC2
set_option linter.unusedVariables false
namespace Go.Am.B
def lastGood (g : Nat → Bool) : Nat → Nat
  | 0 => 0
  | m + 1 => if g m then m else lastGood g m
theorem lastGood_is {g : Nat → Bool} {i : Nat} (hi : g i = true) : ∀ {m : Nat}, i < m → (∀ j, i < j → j < m → g j = false) → lastGood g m = i
  | 0, h, _ => by omega
  | m + 1, h, hn => by
    unfold lastGood
    by_cases he : i = m
    · subst he; rw [if_pos hi]
    · rw [if_neg (by rw [hn m (by omega) (by omega)]; decide), lastGood_is hi (m := m) (by omega) fun j h1 h2 => hn j h1 (by omega)]
def ivl (n : Nat) (k : Nat → Rat) (t : Rat) : Nat := lastGood (fun i => decide (k i < k (i + 1)) && decide (k i ≤ t)) (n - 1)
structure IsIvl (n : Nat) (k : Nat → Rat) (t : Rat) (i : Nat) : Prop where
  at_ : At n k i
  lo : k i ≤ t
  hi : t ≤ k (i + 1)
  edge : t < k (i + 1) ∨ k (i + 1) = k (n - 1)
theorem ivl_is {n : Nat} {k : Nat → Rat} {t : Rat} {i : Nat} (h : IsIvl n k t i) : ivl n k t = i := by
  have hw := h.at_.wide
  have hlo := h.lo
  refine lastGood_is (by simp [hw, hlo]) (by have := h.at_.lt; omega) fun j h1 h2 => ?_
  rcases h.edge with h3 | h3
  · have := mono_of h.at_.sorted (show i + 1 ≤ j by omega) (show j < n by omega)
    have : ¬ k j ≤ t := by grind
    simp [this]
  · have a1 := mono_of h.at_.sorted (show i + 1 ≤ j by omega) (show j < n by omega)
    have a2 := mono_of h.at_.sorted (show j + 1 ≤ n - 1 by omega) (show n - 1 < n by omega)
    have : ¬ k j < k (j + 1) := by grind
    simp [this]
end Go.Am.B
