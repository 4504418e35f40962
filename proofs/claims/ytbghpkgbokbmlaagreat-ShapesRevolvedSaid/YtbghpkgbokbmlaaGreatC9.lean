/- Plain laws of circles: the fL, the oL, the points. -/
import Derived.Test.YtbghpkgbokbmlaaGreatC6
import Derived.Test.YtbghpkgbokbmlaaGreatC4
set_option linter.unusedVariables false
namespace Go.Am.B
theorem Ei (x : Rat) : 0 ≤ x * x := by
 by_cases h : 0 ≤ x
 ·exact Rat.mul_nonneg h h
 ·have := Rat.mul_nonneg (a := -x) (b := -x) (by grind) (by grind)
  grind
def cX : Nat → Rat
 | 0 => 1 | 1 => 1 | 2 => 0 | 3 => -1 | 4 => -1 | 5 => -1 | 6 => 0 | 7 => 1 | _ => 1
def cY : Nat → Rat
 | 0 => 0 | 1 => 1 | 2 => 1 | 3 => 1 | 4 => 0 | 5 => -1 | 6 => -1 | 7 => -1 | _ => 0
def cW : Nat → Rat
 | 2 => 2 | 6 => 2 | _ => 1
theorem Yf {m : Nat} (hm : m < 4) {g n0 n1 n2 : Rat} (h0 : n0 = (1 - g) * (1 - g)) (h1 : n1 = 2 * g * (1 - g)) (h2 : n2 = g * g) :
  let C := n0 * (cW (2 * m) * cX (2 * m)) + n1 * (cW (2 * m + 1) * cX (2 * m + 1)) + n2 * (cW (2 * m + 2) * cX (2 * m + 2))
  let S := n0 * (cW (2 * m) * cY (2 * m)) + n1 * (cW (2 * m + 1) * cY (2 * m + 1)) + n2 * (cW (2 * m + 2) * cY (2 * m + 2))
  let D := n0 * cW (2 * m) + n1 * cW (2 * m + 1) + n2 * cW (2 * m + 2)
  D ≠ 0 ∧ C * C + S * S = D * D := by
 have q1 := Ei g
 have q2 := Ei (1 - g)
 match m, hm with
 | 0, _ | 1, _ | 2, _ | 3, _ =>
  simp only [cX, cY, cW]
  subst h0 h1 h2
  constructor <;> grind
end Go.Am.B
