/- Parts of spans; where a parameter within a span lies. -/
import Derived.Test.YtnocdkaonpdmjaaGreatY45
set_option linter.unusedVariables false
namespace Go.Am.B
open Go Go.Am.N AV aa aj IntKind
theorem acC {d : Int} : 0 ≤ jy d ∧ jy d ≤ 1 := by
 unfold jy
 have h1 : 1 ≤ qw d := by
  unfold qw
  have := Int.emod_nonneg (IntKind.i64.wrap (d.tdiv 17)) (show (12 : Int) ≠ 0 by omega)
  omega
 generalize qw d = m at *
 have h2 := Int.emod_nonneg d (show m + 1 ≠ 0 by omega)
 have h3 := Int.emod_lt_of_pos d (show 0 < m + 1 by omega)
 generalize d % (m + 1) = x at *
 have e1 : (0 : Rat) ≤ (x : Rat) := by exact_mod_cast h2
 have e2 : (x : Rat) ≤ (m : Rat) := by exact_mod_cast (show x ≤ m by omega)
 have e3 : (0 : Rat) < (m : Rat) := by exact_mod_cast (show 0 < m by omega)
 have e4 : (x : Rat) / (m : Rat) * (m : Rat) = (x : Rat) := Rat.div_mul_cancel (by intro h; rw [h] at e3; exact absurd e3 (by decide))
 generalize (x : Rat) / (m : Rat) = q at *
 generalize (x : Rat) = u at *
 generalize (m : Rat) = v at *
 refine ⟨?_, ?_⟩
 ·rcases Rat.le_total (a := 0) (b := q) with h | h
  ·exact h
  ·by_cases hq : q = 0
   ·rw [hq]; exact Rat.le_refl
   ·have := Rat.mul_pos (a := -q) (b := v) (by grind) e3
    grind
 ·rcases Rat.le_total (a := q) (b := 1) with h | h
  ·exact h
  ·by_cases hq : q = 1
   ·rw [hq]; exact Rat.le_refl
   ·have := Rat.mul_pos (a := q - 1) (b := v) (by grind) e3
    grind
theorem NH {a b : Rat} {d : Int} (h : a ≤ b) : a ≤ a + jy d * (b - a) ∧ a + jy d * (b - a) ≤ b := by
 obtain ⟨h1, h2⟩ := acC (d := d)
 generalize jy d = q at *
 have e1 := Rat.mul_nonneg h1 (show 0 ≤ b - a by grind)
 have e2 := Rat.mul_nonneg (show 0 ≤ 1 - q by grind) (show 0 ≤ b - a by grind)
 constructor <;> grind
theorem Kn.aag {n p : Nat} {k : Nat → Rat} (h : Kn n p k) {d : Int} : ¬ dL n k (k 0 + jy d * (k (n - 1) - k 0)) := by
 have hl := h.len
 obtain ⟨h1, h2⟩ := NH (d := d) (h.mono (show 0 ≤ n - 1 by omega) (show n - 1 < n by omega))
 rintro (h3 | h3) <;> grind
theorem Kn.K5 {n p : Nat} {k : Nat → Rat} (h : Kn n p k) {t : Rat} (hin : ¬ dL n k t) : DK n k t (cD n k t) := by
 have h1 : ¬ t < k 0 := fun h => hin (.inl h)
 have h2 : ¬ k (n - 1) < t := fun h => hin (.inr h)
 exact (h.BI (by grind) (by grind)).1
end Go.Am.B
