/- Plain laws of knots: how the different ones are moved to the front; which lists are sorted. -/
import Derived.Test.YtnocdkaonpdmjaaC7
set_option linter.unusedVariables false
namespace Go.Am.B
def cpS (k : Nat → Rat) (l i : Nat) : Rat := if i < dsN k l then dsF k l i else k i
theorem ds_same {k : Nat → Rat} : ∀ {b : Nat}, (∀ i, i < b → isNew k i) → dsN k b = b ∧ ∀ i, i < b → dsF k b i = k i
  | 0, _ => ⟨rfl, fun i hi => by omega⟩
  | b + 1, h => by
    obtain ⟨h1, h2⟩ := ds_same (k := k) (b := b) fun i hi => h i (by omega)
    rw [dsN, dsF, if_pos (h b (by omega)), if_pos (h b (by omega)), h1]
    refine ⟨rfl, fun i hi => ?_⟩
    unfold setK
    split
    · rename_i e; rw [e]
    · exact h2 i (by omega)
theorem cpS_start {k : Nat → Rat} {b : Nat} (h : ∀ i, i < b → isNew k i) (hb : ¬ isNew k b) : dsN k (b + 1) = b ∧ ∀ i, cpS k (b + 1) i = k i := by
  obtain ⟨h1, h2⟩ := ds_same h
  have e : dsN k (b + 1) = b := by rw [dsN, if_neg hb, h1]; rfl
  refine ⟨e, fun i => ?_⟩
  unfold cpS
  rw [e, dsF, if_neg hb]
  split
  · exact h2 i ‹_›
  · rfl
theorem cpS_all {k : Nat → Rat} {n : Nat} (h : ∀ i, i < n → isNew k i) : dsN k n = n ∧ ∀ i, i < n → dsF k n i = k i := ds_same h
theorem cpS_new {k : Nat → Rat} {l i : Nat} (h : isNew k l) (hl : dsN k l ≤ l) : cpS k (l + 1) i = if i = dsN k l then k l else cpS k l i := by
  unfold cpS
  rw [dsN, dsF, if_pos h, if_pos h]
  unfold setK
  by_cases h1 : i = dsN k l
  · subst h1
    rw [if_pos (by omega), if_pos rfl, if_pos rfl]
  · rw [if_neg h1]
    by_cases h2 : i < dsN k l
    · rw [if_pos (by omega), if_pos h2, if_neg h1]
    · rw [if_neg (by omega), if_neg h2, if_neg h1]
theorem cpS_old {k : Nat → Rat} {l i : Nat} (h : ¬ isNew k l) : dsN k (l + 1) = dsN k l ∧ cpS k (l + 1) i = cpS k l i := by
  unfold cpS
  rw [dsN, dsF, if_neg h, if_neg h]
  exact ⟨rfl, rfl⟩
theorem dsN_new {k : Nat → Rat} {l : Nat} (h : isNew k l) : dsN k (l + 1) = dsN k l + 1 := by rw [dsN, if_pos h]
theorem dsN_old {k : Nat → Rat} {l : Nat} (h : ¬ isNew k l) : dsN k (l + 1) = dsN k l := by rw [dsN, if_neg h]; rfl
theorem cpS_back {k : Nat → Rat} {l i : Nat} (h : dsN k l ≤ i) : cpS k l i = k i := by unfold cpS; rw [if_neg (by omega)]
theorem dsN_lt {k : Nat → Rat} {b : Nat} (hb : ¬ isNew k b) : ∀ {l : Nat}, b < l → dsN k l < l
  | 0, h => by omega
  | l + 1, h => by
    by_cases he : l = b
    · subst he; rw [dsN_old hb]; have := dsN_le (k := k) (n := l); omega
    · have := dsN_lt hb (l := l) (by omega)
      have h2 := dsN_le (k := k) (n := l)
      rw [dsN]; split <;> omega
open Classical in
theorem chkE_arg {n : Nat} {k : Nat → Rat} {p : Int} (h : p < 1 ∨ 6 < p) : chkE n k p = 1 := if_pos h
theorem chkE_short {n : Nat} {k : Nat → Rat} {p : Int} (h : ¬ (p < 1 ∨ 6 < p)) (h2 : (n : Int) < 2 * p + 2) : chkE n k p = 5 := by unfold chkE; rw [if_neg h, if_pos h2]
theorem chkE_size {n : Nat} {k : Nat → Rat} {p : Int} (h : ¬ (p < 1 ∨ 6 < p)) (h2 : ¬ (n : Int) < 2 * p + 2) (h3 : 40 < (n : Int) - p - 1) : chkE n k p = 2 := by unfold chkE; rw [if_neg h, if_neg h2, if_pos h3]
theorem chkE_ok {n : Nat} {k : Nat → Rat} {p : Int} (h : ¬ (p < 1 ∨ 6 < p)) (h2 : ¬ (n : Int) < 2 * p + 2) (h3 : ¬ 40 < (n : Int) - p - 1) (h4 : okK n k p.toNat) : chkE n k p = 0 := by unfold chkE; rw [if_neg h, if_neg h2, if_neg h3, if_pos h4]
theorem chkE_bad {n : Nat} {k : Nat → Rat} {p : Int} (h : ¬ (p < 1 ∨ 6 < p)) (h2 : ¬ (n : Int) < 2 * p + 2) (h3 : ¬ 40 < (n : Int) - p - 1) (h4 : ¬ okK n k p.toNat) : chkE n k p = 5 := by unfold chkE; rw [if_neg h, if_neg h2, if_neg h3, if_neg h4]
end Go.Am.B
