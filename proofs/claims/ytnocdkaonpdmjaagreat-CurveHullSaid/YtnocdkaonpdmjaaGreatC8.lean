/- Plain laws of fP: how the different ones are moved to the front; which lists are sorted. -/
import Derived.Test.YtnocdkaonpdmjaaGreatC7
set_option linter.unusedVariables false
namespace Go.Am.B
def gh (k : Nat → Rat) (l i : Nat) : Rat := if i < bQ k l then cS k l i else k i
theorem A0 {k : Nat → Rat} : ∀ {b : Nat}, (∀ i, i < b → fh k i) → bQ k b = b ∧ ∀ i, i < b → cS k b i = k i
 | 0, _ => ⟨rfl, fun i hi => by omega⟩
 | b + 1, h => by
  obtain ⟨h1, h2⟩ := A0 (k := k) (b := b) fun i hi => h i (by omega)
  rw [bQ, cS, if_pos (h b (by omega)), if_pos (h b (by omega)), h1]
  refine ⟨rfl, fun i hi => ?_⟩
  unfold iW
  split
  ·rename_i e; rw [e]
  ·exact h2 i (by omega)
theorem O2 {k : Nat → Rat} {b : Nat} (h : ∀ i, i < b → fh k i) (hb : ¬ fh k b) : bQ k (b + 1) = b ∧ ∀ i, gh k (b + 1) i = k i := by
 obtain ⟨h1, h2⟩ := A0 h
 have e : bQ k (b + 1) = b := by rw [bQ, if_neg hb, h1]; rfl
 refine ⟨e, fun i => ?_⟩
 unfold gh
 rw [e, cS, if_neg hb]
 split
 ·exact h2 i ‹_›
 ·rfl
theorem KN {k : Nat → Rat} {n : Nat} (h : ∀ i, i < n → fh k i) : bQ k n = n ∧ ∀ i, i < n → cS k n i = k i := A0 h
theorem Sv {k : Nat → Rat} {l i : Nat} (h : fh k l) (hl : bQ k l ≤ l) : gh k (l + 1) i = if i = bQ k l then k l else gh k l i := by
 unfold gh
 rw [bQ, cS, if_pos h, if_pos h]
 unfold iW
 by_cases h1 : i = bQ k l
 ·subst h1
  rw [if_pos (by omega), if_pos rfl, if_pos rfl]
 ·rw [if_neg h1]
  by_cases h2 : i < bQ k l
  ·rw [if_pos (by omega), if_pos h2, if_neg h1]
  ·rw [if_neg (by omega), if_neg h2, if_neg h1]
theorem QV {k : Nat → Rat} {l i : Nat} (h : ¬ fh k l) : bQ k (l + 1) = bQ k l ∧ gh k (l + 1) i = gh k l i := by
 unfold gh
 rw [bQ, cS, if_neg h, if_neg h]
 exact ⟨rfl, rfl⟩
theorem PU {k : Nat → Rat} {l : Nat} (h : fh k l) : bQ k (l + 1) = bQ k l + 1 := by rw [bQ, if_pos h]
theorem Ko {k : Nat → Rat} {l : Nat} (h : ¬ fh k l) : bQ k (l + 1) = bQ k l := by rw [bQ, if_neg h]; rfl
theorem Km {k : Nat → Rat} {l i : Nat} (h : bQ k l ≤ i) : gh k l i = k i := by unfold gh; rw [if_neg (by omega)]
theorem Kt {k : Nat → Rat} {b : Nat} (hb : ¬ fh k b) : ∀ {l : Nat}, b < l → bQ k l < l
 | 0, h => by omega
 | l + 1, h => by
  by_cases he : l = b
  ·subst he; rw [Ko hb]; have := qO (k := k) (n := l); omega
  ·have := Kt hb (l := l) (by omega)
   have h2 := qO (k := k) (n := l)
   rw [bQ]; split <;> omega
open Classical in
theorem Oh {n : Nat} {k : Nat → Rat} {p : Int} (h : p < 1 ∨ 6 < p) : fm n k p = 1 := if_pos h
theorem abp {n : Nat} {k : Nat → Rat} {p : Int} (h : ¬ (p < 1 ∨ 6 < p)) (h2 : (n : Int) < 2 * p + 2) : fm n k p = 5 := by unfold fm; rw [if_neg h, if_pos h2]
theorem abk {n : Nat} {k : Nat → Rat} {p : Int} (h : ¬ (p < 1 ∨ 6 < p)) (h2 : ¬ (n : Int) < 2 * p + 2) (h3 : 40 < (n : Int) - p - 1) : fm n k p = 2 := by unfold fm; rw [if_neg h, if_neg h2, if_pos h3]
theorem Qv {n : Nat} {k : Nat → Rat} {p : Int} (h : ¬ (p < 1 ∨ 6 < p)) (h2 : ¬ (n : Int) < 2 * p + 2) (h3 : ¬ 40 < (n : Int) - p - 1) (h4 : oE n k p.toNat) : fm n k p = 0 := by unfold fm; rw [if_neg h, if_neg h2, if_neg h3, if_pos h4]
theorem BP {n : Nat} {k : Nat → Rat} {p : Int} (h : ¬ (p < 1 ∨ 6 < p)) (h2 : ¬ (n : Int) < 2 * p + 2) (h3 : ¬ 40 < (n : Int) - p - 1) (h4 : ¬ oE n k p.toNat) : fm n k p = 5 := by unfold fm; rw [if_neg h, if_neg h2, if_neg h3, if_neg h4]
end Go.Am.B
