/- Plain laws of fM: how the different ones are moved to the front; which lists are sorted. -/
import Derived.Test.YtbghpkgbokbmlaaGreatC7
set_option linter.unusedVariables false
namespace Go.Am.B
theorem abz {k : Nat → Rat} {l : Nat} (h : fZ k l) : bw k (l + 1) = bw k l + 1 := by rw [bw, if_pos h]
theorem Q0 {k : Nat → Rat} {l : Nat} (h : ¬ fZ k l) : bw k (l + 1) = bw k l := by rw [bw, if_neg h]; rfl
theorem E9 {k : Nat → Rat} {i : Nat} : fZ k (i + 1) ↔ k (i + 1) ≠ k i := by
 unfold fZ
 simp
open Classical in
theorem XL {n : Nat} {k : Nat → Rat} {p : Int} (h : p < 1 ∨ 6 < p) : eP n k p = 1 := if_pos h
theorem ZQ {n : Nat} {k : Nat → Rat} {p : Int} (h : ¬ (p < 1 ∨ 6 < p)) (h2 : (n : Int) < 2 * p + 2) : eP n k p = 5 := by unfold eP; rw [if_neg h, if_pos h2]
theorem Kp {n : Nat} {k : Nat → Rat} {p : Int} (h : ¬ (p < 1 ∨ 6 < p)) (h2 : ¬ (n : Int) < 2 * p + 2) (h3 : 40 < (n : Int) - p - 1) : eP n k p = 2 := by unfold eP; rw [if_neg h, if_neg h2, if_pos h3]
theorem RF {n : Nat} {k : Nat → Rat} {p : Int} (h : ¬ (p < 1 ∨ 6 < p)) (h2 : ¬ (n : Int) < 2 * p + 2) (h3 : ¬ 40 < (n : Int) - p - 1) (h4 : qi n k p.toNat) : eP n k p = 0 := by unfold eP; rw [if_neg h, if_neg h2, if_neg h3, if_pos h4]
theorem Cj {n : Nat} {k : Nat → Rat} {p : Int} (h : ¬ (p < 1 ∨ 6 < p)) (h2 : ¬ (n : Int) < 2 * p + 2) (h3 : ¬ 40 < (n : Int) - p - 1) (h4 : ¬ qi n k p.toNat) : eP n k p = 5 := by unfold eP; rw [if_neg h, if_neg h2, if_neg h3, if_neg h4]
end Go.Am.B
