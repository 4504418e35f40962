/- Plain laws of fV: how the different ones are moved to the front; which lists are sorted. -/
import Derived.Test.YtbghpkgbokbmlaaGreatC7
set_option linter.unusedVariables false
namespace Go.Am.B
theorem ace {k : Nat → Rat} {l : Nat} (h : gl k l) : bz k (l + 1) = bz k l + 1 := by rw [bz, if_pos h]
theorem ac4 {k : Nat → Rat} {l : Nat} (h : ¬ gl k l) : bz k (l + 1) = bz k l := by rw [bz, if_neg h]; rfl
theorem J4 {k : Nat → Rat} {i : Nat} : gl k (i + 1) ↔ k (i + 1) ≠ k i := by
 unfold gl
 simp
open Classical in
theorem abj {n : Nat} {k : Nat → Rat} {p : Int} (h : p < 1 ∨ 6 < p) : eP n k p = 1 := if_pos h
theorem T0 {n : Nat} {k : Nat → Rat} {p : Int} (h : ¬ (p < 1 ∨ 6 < p)) (h2 : (n : Int) < 2 * p + 2) : eP n k p = 5 := by unfold eP; rw [if_neg h, if_pos h2]
theorem PF {n : Nat} {k : Nat → Rat} {p : Int} (h : ¬ (p < 1 ∨ 6 < p)) (h2 : ¬ (n : Int) < 2 * p + 2) (h3 : 40 < (n : Int) - p - 1) : eP n k p = 2 := by unfold eP; rw [if_neg h, if_neg h2, if_pos h3]
theorem ab6 {n : Nat} {k : Nat → Rat} {p : Int} (h : ¬ (p < 1 ∨ 6 < p)) (h2 : ¬ (n : Int) < 2 * p + 2) (h3 : ¬ 40 < (n : Int) - p - 1) (h4 : qx n k p.toNat) : eP n k p = 0 := by unfold eP; rw [if_neg h, if_neg h2, if_neg h3, if_pos h4]
theorem Bv {n : Nat} {k : Nat → Rat} {p : Int} (h : ¬ (p < 1 ∨ 6 < p)) (h2 : ¬ (n : Int) < 2 * p + 2) (h3 : ¬ 40 < (n : Int) - p - 1) (h4 : ¬ qx n k p.toNat) : eP n k p = 5 := by unfold eP; rw [if_neg h, if_neg h2, if_neg h3, if_neg h4]
end Go.Am.B
