/- Plain laws of fE: how the different ones are moved to the front; which lists are sorted. -/
import Derived.Test.YtnocdkaonpdmjaaGreatC7
set_option linter.unusedVariables false
namespace Go.Am.B
def gq (k : Nat → Rat) (l i : Nat) : Rat := if i < bQ k l then cW k l i else k i
theorem CG {k : Nat → Rat} : ∀ {b : Nat}, (∀ i, i < b → eZ k i) → bQ k b = b ∧ ∀ i, i < b → cW k b i = k i
 | 0, _ => ⟨rfl, fun i hi => by omega⟩
 | b + 1, h => by
  obtain ⟨h1, h2⟩ := CG (k := k) (b := b) fun i hi => h i (by omega)
  rw [bQ, cW, if_pos (h b (by omega)), if_pos (h b (by omega)), h1]
  refine ⟨rfl, fun i hi => ?_⟩
  unfold jB
  split
  ·rename_i e; rw [e]
  ·exact h2 i (by omega)
theorem acG {k : Nat → Rat} {b : Nat} (h : ∀ i, i < b → eZ k i) (hb : ¬ eZ k b) : bQ k (b + 1) = b ∧ ∀ i, gq k (b + 1) i = k i := by
 obtain ⟨h1, h2⟩ := CG h
 have e : bQ k (b + 1) = b := by rw [bQ, if_neg hb, h1]; rfl
 refine ⟨e, fun i => ?_⟩
 unfold gq
 rw [e, cW, if_neg hb]
 split
 ·exact h2 i ‹_›
 ·rfl
theorem LC {k : Nat → Rat} {n : Nat} (h : ∀ i, i < n → eZ k i) : bQ k n = n ∧ ∀ i, i < n → cW k n i = k i := CG h
theorem XY {k : Nat → Rat} {l i : Nat} (h : eZ k l) (hl : bQ k l ≤ l) : gq k (l + 1) i = if i = bQ k l then k l else gq k l i := by
 unfold gq
 rw [bQ, cW, if_pos h, if_pos h]
 unfold jB
 by_cases h1 : i = bQ k l
 ·subst h1
  rw [if_pos (by omega), if_pos rfl, if_pos rfl]
 ·rw [if_neg h1]
  by_cases h2 : i < bQ k l
  ·rw [if_pos (by omega), if_pos h2, if_neg h1]
  ·rw [if_neg (by omega), if_neg h2, if_neg h1]
theorem Nz {k : Nat → Rat} {l i : Nat} (h : ¬ eZ k l) : bQ k (l + 1) = bQ k l ∧ gq k (l + 1) i = gq k l i := by
 unfold gq
 rw [bQ, cW, if_neg h, if_neg h]
 exact ⟨rfl, rfl⟩
theorem Vj {k : Nat → Rat} {l : Nat} (h : eZ k l) : bQ k (l + 1) = bQ k l + 1 := by rw [bQ, if_pos h]
theorem K8 {k : Nat → Rat} {l : Nat} (h : ¬ eZ k l) : bQ k (l + 1) = bQ k l := by rw [bQ, if_neg h]; rfl
theorem Gl {k : Nat → Rat} {l i : Nat} (h : bQ k l ≤ i) : gq k l i = k i := by unfold gq; rw [if_neg (by omega)]
theorem Fy {k : Nat → Rat} {b : Nat} (hb : ¬ eZ k b) : ∀ {l : Nat}, b < l → bQ k l < l
 | 0, h => by omega
 | l + 1, h => by
  by_cases he : l = b
  ·subst he; rw [K8 hb]; have := qh (k := k) (n := l); omega
  ·have := Fy hb (l := l) (by omega)
   have h2 := qh (k := k) (n := l)
   rw [bQ]; split <;> omega
open Classical in
theorem VA {n : Nat} {k : Nat → Rat} {p : Int} (h : p < 1 ∨ 6 < p) : fh n k p = 1 := if_pos h
theorem abT {n : Nat} {k : Nat → Rat} {p : Int} (h : ¬ (p < 1 ∨ 6 < p)) (h2 : (n : Int) < 2 * p + 2) : fh n k p = 5 := by unfold fh; rw [if_neg h, if_pos h2]
theorem UX {n : Nat} {k : Nat → Rat} {p : Int} (h : ¬ (p < 1 ∨ 6 < p)) (h2 : ¬ (n : Int) < 2 * p + 2) (h3 : 40 < (n : Int) - p - 1) : fh n k p = 2 := by unfold fh; rw [if_neg h, if_neg h2, if_pos h3]
theorem St {n : Nat} {k : Nat → Rat} {p : Int} (h : ¬ (p < 1 ∨ 6 < p)) (h2 : ¬ (n : Int) < 2 * p + 2) (h3 : ¬ 40 < (n : Int) - p - 1) (h4 : nH n k p.toNat) : fh n k p = 0 := by unfold fh; rw [if_neg h, if_neg h2, if_neg h3, if_pos h4]
theorem C6 {n : Nat} {k : Nat → Rat} {p : Int} (h : ¬ (p < 1 ∨ 6 < p)) (h2 : ¬ (n : Int) < 2 * p + 2) (h3 : ¬ 40 < (n : Int) - p - 1) (h4 : ¬ nH n k p.toNat) : fh n k p = 5 := by unfold fh; rw [if_neg h, if_neg h2, if_neg h3, if_neg h4]
end Go.Am.B
