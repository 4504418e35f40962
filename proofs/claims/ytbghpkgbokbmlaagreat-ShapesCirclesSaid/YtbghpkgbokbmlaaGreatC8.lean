/- Plain laws of knots: how the different ones are moved to the front; which lists are sorted. -/
import Derived.Test.YtbghpkgbokbmlaaGreatC7
set_option linter.unusedVariables false
namespace Go.Am.B
theorem dsN_new {k : Nat → Rat} {l : Nat} (h : isNew k l) : dsN k (l + 1) = dsN k l + 1 := by rw [dsN, if_pos h]
theorem dsN_old {k : Nat → Rat} {l : Nat} (h : ¬ isNew k l) : dsN k (l + 1) = dsN k l := by rw [dsN, if_neg h]; rfl
theorem isNew_succ {k : Nat → Rat} {i : Nat} : isNew k (i + 1) ↔ k (i + 1) ≠ k i := by
  unfold isNew
  simp
open Classical in
theorem chkE_arg {n : Nat} {k : Nat → Rat} {p : Int} (h : p < 1 ∨ 6 < p) : chkE n k p = 1 := if_pos h
theorem chkE_short {n : Nat} {k : Nat → Rat} {p : Int} (h : ¬ (p < 1 ∨ 6 < p)) (h2 : (n : Int) < 2 * p + 2) : chkE n k p = 5 := by unfold chkE; rw [if_neg h, if_pos h2]
theorem chkE_size {n : Nat} {k : Nat → Rat} {p : Int} (h : ¬ (p < 1 ∨ 6 < p)) (h2 : ¬ (n : Int) < 2 * p + 2) (h3 : 40 < (n : Int) - p - 1) : chkE n k p = 2 := by unfold chkE; rw [if_neg h, if_neg h2, if_pos h3]
theorem chkE_ok {n : Nat} {k : Nat → Rat} {p : Int} (h : ¬ (p < 1 ∨ 6 < p)) (h2 : ¬ (n : Int) < 2 * p + 2) (h3 : ¬ 40 < (n : Int) - p - 1) (h4 : okK n k p.toNat) : chkE n k p = 0 := by unfold chkE; rw [if_neg h, if_neg h2, if_neg h3, if_pos h4]
theorem chkE_bad {n : Nat} {k : Nat → Rat} {p : Int} (h : ¬ (p < 1 ∨ 6 < p)) (h2 : ¬ (n : Int) < 2 * p + 2) (h3 : ¬ 40 < (n : Int) - p - 1) (h4 : ¬ okK n k p.toNat) : chkE n k p = 5 := by unfold chkE; rw [if_neg h, if_neg h2, if_neg h3, if_neg h4]
end Go.Am.B
