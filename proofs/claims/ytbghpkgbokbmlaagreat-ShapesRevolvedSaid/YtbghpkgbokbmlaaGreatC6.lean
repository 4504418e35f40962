/- Plain laws of splines: a piece of degree 2 between double fL. -/
import Derived.Test.YtbghpkgbokbmlaaGreatC5
set_option linter.unusedVariables false
namespace Go.Am.B
theorem Xa {k : Nat → Rat} {i : Nat} {a b t : Rat} (hi : 1 ≤ i) (h0 : k (i - 1) = a) (h1 : k i = a) (h2 : k (i + 1) = b) (h3 : k (i + 2) = b) :
  vB k i t 2 0 = (1 - fr a b t) * (1 - fr a b t) ∧ vB k i t 2 1 = 2 * fr a b t * (1 - fr a b t) ∧ vB k i t 2 2 = fr a b t * fr a b t := by
 have z : ∀ j, vB k i t 0 j = if j = 0 then 1 else 0 := fun j => by unfold vB; rfl
 have a0 : vB k i t 1 0 = 1 - fr a b t := by
  rw [Aq, z 0, if_pos rfl, show i - 0 = i by omega, h1, h2]; grind
 have a1 : vB k i t 1 1 = fr a b t := by
  rw [zl, z 0, z 1, if_pos rfl, if_neg (by omega), show i - 0 + 0 = i by omega, show i + (0 + 1) = i + 1 by omega, h1, h2]; grind
 refine ⟨?_, ?_, ?_⟩
 ·rw [Aq, a0, show i - 1 + (1 + 1) = i + 1 by omega, h0, h2]
 ·rw [zl, a0, a1]
  have e : i - 1 + 1 = i := by omega
  simp only [Nat.add_zero, Nat.zero_add, e, h0, h1, h2, h3]
  grind
 ·rw [zl, a1]
  have e : i - 1 + 1 = i := by omega
  have e2 : vB k i t 1 2 = 0 := xe (by omega)
  simp only [e, e2, h1, h3]
  grind
end Go.Am.B
