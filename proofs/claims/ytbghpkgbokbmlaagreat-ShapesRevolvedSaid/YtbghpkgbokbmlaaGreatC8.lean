/- Plain laws of fL: how the different ones are moved to the front; which lists are sorted. -/
import Derived.Test.YtbghpkgbokbmlaaGreatC7
set_option linter.unusedVariables false
namespace Go.Am.B
theorem Sa {k : Nat → Rat} {l : Nat} (h : gf k l) : bA k (l + 1) = bA k l + 1 := by rw [bA, if_pos h]
theorem X8 {k : Nat → Rat} {l : Nat} (h : ¬ gf k l) : bA k (l + 1) = bA k l := by rw [bA, if_neg h]; rfl
theorem HB {k : Nat → Rat} {i : Nat} : gf k (i + 1) ↔ k (i + 1) ≠ k i := by
 unfold gf
 simp
open Classical in
theorem UB {n : Nat} {k : Nat → Rat} {p : Int} (h : p < 1 ∨ 6 < p) : e8 n k p = 1 := if_pos h
theorem Lp {n : Nat} {k : Nat → Rat} {p : Int} (h : ¬ (p < 1 ∨ 6 < p)) (h2 : (n : Int) < 2 * p + 2) : e8 n k p = 5 := by unfold e8; rw [if_neg h, if_pos h2]
theorem WB {n : Nat} {k : Nat → Rat} {p : Int} (h : ¬ (p < 1 ∨ 6 < p)) (h2 : ¬ (n : Int) < 2 * p + 2) (h3 : 40 < (n : Int) - p - 1) : e8 n k p = 2 := by unfold e8; rw [if_neg h, if_neg h2, if_pos h3]
theorem Kv {n : Nat} {k : Nat → Rat} {p : Int} (h : ¬ (p < 1 ∨ 6 < p)) (h2 : ¬ (n : Int) < 2 * p + 2) (h3 : ¬ 40 < (n : Int) - p - 1) (h4 : oP n k p.toNat) : e8 n k p = 0 := by unfold e8; rw [if_neg h, if_neg h2, if_neg h3, if_pos h4]
theorem Bp {n : Nat} {k : Nat → Rat} {p : Int} (h : ¬ (p < 1 ∨ 6 < p)) (h2 : ¬ (n : Int) < 2 * p + 2) (h3 : ¬ 40 < (n : Int) - p - 1) (h4 : ¬ oP n k p.toNat) : e8 n k p = 5 := by unfold e8; rw [if_neg h, if_neg h2, if_neg h3, if_neg h4]
end Go.Am.B
