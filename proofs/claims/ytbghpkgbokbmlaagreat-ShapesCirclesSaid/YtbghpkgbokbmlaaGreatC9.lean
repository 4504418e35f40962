/- Plain laws of circles: the knots, the poles, the points. -/
import Derived.Test.YtbghpkgbokbmlaaGreatC6
import Derived.Test.YtbghpkgbokbmlaaGreatC4
set_option linter.unusedVariables false
namespace Go.Am.B
theorem sq_nn (x : Rat) : 0 ≤ x * x := by
  by_cases h : 0 ≤ x
  · exact Rat.mul_nonneg h h
  · have := Rat.mul_nonneg (a := -x) (b := -x) (by grind) (by grind)
    grind
theorem circ_alg {ax ay az r C S D X Y Z : Rat} (hD : D ≠ 0) (hX : X = ax * D + r * C) (hY : Y = ay * D + r * S) (hZ : Z = az * D) (h : C * C + S * S = D * D) :
    (1 / D * X - ax) * (1 / D * X - ax) + (1 / D * Y - ay) * (1 / D * Y - ay) + (1 / D * Z - az) * (1 / D * Z - az) = r * r ∧ 1 / D * Z - az = 0 := by
  have hu : 1 / D * D = 1 := by rw [Rat.div_def, Rat.one_mul, Rat.inv_mul_cancel D hD]
  generalize 1 / D = u at *
  subst hX hY hZ
  have e1 : u * (ax * D + r * C) - ax = r * (C * u) := by grind
  have e2 : u * (ay * D + r * S) - ay = r * (S * u) := by grind
  have e3 : u * (az * D) - az = 0 := by grind
  refine ⟨?_, e3⟩
  rw [e1, e2, e3]
  have e4 : r * (C * u) * (r * (C * u)) + r * (S * u) * (r * (S * u)) + 0 * 0 = r * r * (u * u) * (C * C + S * S) := by grind
  rw [e4, h]
  have e5 : r * r * (u * u) * (D * D) = r * r * ((u * D) * (u * D)) := by grind
  rw [e5, hu]; grind
def kcN (i : Nat) : Nat := min ((i - 1) / 2) 4
def kcK (i : Nat) : Rat := ((kcN i : Nat) : Rat)
theorem kc_le {i j : Nat} (h : kcN i ≤ kcN j) : kcK i ≤ kcK j := by unfold kcK; exact_mod_cast h
theorem kc_lt {i j : Nat} (h : kcN i < kcN j) : kcK i < kcK j := by unfold kcK; exact_mod_cast h
theorem kc_kn : Kn 12 2 kcK := by
  refine ⟨by omega, by omega, fun i hi => kc_le ?_, fun i hi => ?_, fun i h1 h2 => ?_, fun i h1 h2 => kc_lt ?_⟩
  · unfold kcN; omega
  · have : kcN i = kcN 0 := by unfold kcN; omega
    unfold kcK; rw [this]
  · have : kcN i = kcN (12 - 1) := by unfold kcN; omega
    unfold kcK; rw [this]
  · unfold kcN; omega
theorem kc_piece {i : Nat} (hi : i + 1 < 12) (h : kcK i < kcK (i + 1)) : ∃ m, m < 4 ∧ i = 2 * m + 2 := by
  have h2 : kcN i < kcN (i + 1) := by
    by_cases h3 : kcN i < kcN (i + 1)
    · exact h3
    · have := kc_le (i := i + 1) (j := i) (by omega)
      grind
  unfold kcN at h2
  exact ⟨i / 2 - 1, by omega, by omega⟩
def cX : Nat → Rat
  | 0 => 1 | 1 => 1 | 2 => 0 | 3 => -1 | 4 => -1 | 5 => -1 | 6 => 0 | 7 => 1 | _ => 1
def cY : Nat → Rat
  | 0 => 0 | 1 => 1 | 2 => 1 | 3 => 1 | 4 => 0 | 5 => -1 | 6 => -1 | 7 => -1 | _ => 0
def cW : Nat → Rat
  | 2 => 2 | 6 => 2 | _ => 1
theorem circ_piece {m : Nat} (hm : m < 4) {g n0 n1 n2 : Rat} (h0 : n0 = (1 - g) * (1 - g)) (h1 : n1 = 2 * g * (1 - g)) (h2 : n2 = g * g) :
    let C := n0 * (cW (2 * m) * cX (2 * m)) + n1 * (cW (2 * m + 1) * cX (2 * m + 1)) + n2 * (cW (2 * m + 2) * cX (2 * m + 2))
    let S := n0 * (cW (2 * m) * cY (2 * m)) + n1 * (cW (2 * m + 1) * cY (2 * m + 1)) + n2 * (cW (2 * m + 2) * cY (2 * m + 2))
    let D := n0 * cW (2 * m) + n1 * cW (2 * m + 1) + n2 * cW (2 * m + 2)
    D ≠ 0 ∧ C * C + S * S = D * D := by
  have q1 := sq_nn g
  have q2 := sq_nn (1 - g)
  match m, hm with
  | 0, _ | 1, _ | 2, _ | 3, _ =>
    simp only [cX, cY, cW]
    subst h0 h1 h2
    constructor <;> grind
end Go.Am.B
