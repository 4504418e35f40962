/- Labels that go down until nothing changes. -/
import Derived.Test.YtjhhblmbiaghfaaGreatC10
set_option linter.unusedVariables false
namespace Go.Am
def fQ (ℓ : Nat → Nat) : Nat → Nat
 | 0 => 0
 | n + 1 => fQ ℓ n + ℓ n
theorem E5 {h ℓ : Nat → Nat} : ∀ {n : Nat}, (∀ a, a < n → h a ≤ ℓ a) → fQ h n ≤ fQ ℓ n
 | 0, _ => Nat.le_refl _
 | n + 1, hh => by
  have := E5 (n := n) fun a ha => hh a (by omega)
  have := hh n (by omega)
  simp only [fQ]; omega
theorem Cm {h ℓ : Nat → Nat} {b : Nat} : ∀ {n : Nat}, (∀ a, a < n → h a ≤ ℓ a) → b < n → h b < ℓ b → fQ h n < fQ ℓ n
 | 0, _, hb, _ => absurd hb (by omega)
 | n + 1, hh, hb, hlt => by
  simp only [fQ]
  have h1 := hh n (by omega)
  by_cases hbn : b = n
  ·subst hbn
   have := E5 (n := b) fun a ha => hh a (by omega)
   omega
  ·have := Cm (n := n) (fun a ha => hh a (by omega)) (by omega) hlt
   omega
def kT (ℓ : Nat → Nat) (i k m : Nat) : Nat → Nat := fun a => if a = k then m else if a = i then m else ℓ a
structure LI (T : Nat → Nat → Bool) (n : Nat) (ℓ : Nat → Nat) : Prop where
 le : ∀ i, i < n → ℓ i ≤ i
 cP : ∀ i, i < n → Go.Am.cP T n i (ℓ i) = true
structure LJ (T : Nat → Nat → Bool) (n : Nat) (ℓ0 : Nat → Nat) (i k : Nat) (ℓ : Nat → Nat) (ch : Bool) : Prop extends LI T n ℓ where
 u7 : fQ ℓ n ≤ fQ ℓ0 n
 z5 : ch = true → fQ ℓ n < fQ ℓ0 n
 fix : ch = false → ∀ a b, b < a → a < n → (a < i ∨ a = i ∧ b < k) → T a b = true → ℓ a = ℓ b
section
variable {T : Nat → Nat → Bool} {n : Nat} {ℓ0 ℓ : Nat → Nat} {i k : Nat} {ch : Bool}
theorem LI.start : LI T n fun a => a := ⟨fun _ _ => Nat.le_refl _, fun i _ => xx n i⟩
theorem LJ.start (h : LI T n ℓ) : LJ T n ℓ 0 0 ℓ false := ⟨h, Nat.le_refl _, fun h => by simp at h, fun _ a b _ _ h => by omega⟩
theorem LJ.same (h : LJ T n ℓ0 i k ℓ ch) (hh : ℓ i = ℓ k ∨ T i k = false) : LJ T n ℓ0 i (k + 1) ℓ ch :=
 ⟨h.toLI, h.u7, h.z5, fun hc a b hb ha hab ht => by
  by_cases hk : a = i ∧ b = k
  ·obtain ⟨rfl, rfl⟩ := hk
   rcases hh with hh | hh
   ·exact hh
   ·rw [hh] at ht; simp at ht
  ·exact h.fix hc a b hb ha (by omega) ht⟩
theorem LJ.row (h : LJ T n ℓ0 i i ℓ ch) : LJ T n ℓ0 (i + 1) 0 ℓ ch :=
 ⟨h.toLI, h.u7, h.z5, fun hc a b hb ha hab ht => h.fix hc a b hb ha (by omega) ht⟩
theorem LJ.step (hs : ∀ i j, T i j = T j i) (h : LJ T n ℓ0 i k ℓ ch) (hi : i < n) (hk : k < i) (hne : ℓ i ≠ ℓ k) (ht : T i k = true) : LJ T n ℓ0 i (k + 1) (kT ℓ i k (min (ℓ i) (ℓ k))) true := by
 have hkn : k < n := by omega
 have hlt : ∀ a, a < n → kT ℓ i k (min (ℓ i) (ℓ k)) a ≤ ℓ a := fun a _ => by
  unfold kT
  split
  ·rename_i e; subst e; exact Nat.min_le_right _ _
  ·split
   ·rename_i e; subst e; exact Nat.min_le_left _ _
   ·exact Nat.le_refl _
 have r1 := h.cP i hi
 have r2 := h.cP k hkn
 have r3 : cP T n i k = true := CD ht n
 have r4 : cP T n k i = true := by rw [pP hs]; exact r3
 have rm : ∀ a, (a = i ∨ a = k) → cP T n a (min (ℓ i) (ℓ k)) = true := fun a ha => by
  rcases Nat.le_total (ℓ i) (ℓ k) with hl | hl
  ·rw [Nat.min_eq_left hl]
   rcases ha with rfl | rfl
   ·exact r1
   ·exact mh hi r4 r1
  ·rw [Nat.min_eq_right hl]
   rcases ha with rfl | rfl
   ·exact mh hkn r3 r2
   ·exact r2
 have hsum : fQ (kT ℓ i k (min (ℓ i) (ℓ k))) n < fQ ℓ n := by
  rcases Nat.lt_or_gt_of_ne hne with hl | hl
  ·refine Cm hlt hkn ?_
   unfold kT
   rw [if_pos rfl]; omega
  ·refine Cm hlt hi ?_
   unfold kT
   rw [if_neg (by omega), if_pos rfl]; omega
 refine ⟨⟨fun a ha => ?_, fun a ha => ?_⟩, by have := h.u7; omega, fun _ => by have := h.u7; omega, fun hc => by simp at hc⟩
 ·exact Nat.le_trans (hlt a ha) (h.le a ha)
 ·unfold kT
  split
  ·rename_i e; exact rm a (.inr e)
  ·split
   ·rename_i e; exact rm a (.inl e)
   ·exact h.cP a ha
theorem LJ.end (hs : ∀ i j, T i j = T j i) (h : LJ T n ℓ0 n 0 ℓ false) {a : Nat} (ha : a < n) : ℓ a = bJ T n a :=
 Q4 h.le h.cP (fun i k hi hk ht => by
  rcases Nat.lt_trichotomy i k with hl | hl | hl
  ·exact (h.fix rfl k i hl hk (.inl hk) (by rw [hs]; exact ht)).symm
  ·rw [hl]
  ·exact h.fix rfl i k hl hi (.inl hi) ht) ha
end
end Go.Am
