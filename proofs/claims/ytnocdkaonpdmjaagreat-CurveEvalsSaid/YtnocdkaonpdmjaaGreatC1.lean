/- Plain laws of fE and B-spline functions: no program in sight. -/
import Init
set_option linter.unusedVariables false
namespace Go.Am.B
def iR (n : Nat) (f : Nat → Rat) : Rat := match n with
 | 0 => 0
 | n + 1 => iR n f + f n
structure Kn (n p : Nat) (k : Nat → Rat) : Prop where
 p1 : 1 ≤ p
 len : 2 * p + 2 ≤ n
 sorted : ∀ i, i + 1 < n → k i ≤ k (i + 1)
 first : ∀ i, i ≤ p → k i = k 0
 last : ∀ i, n ≤ i + p + 1 → i < n → k i = k (n - 1)
 mult : ∀ i, 1 ≤ i → i + p + 1 < n → k i < k (i + p)
theorem lz {n : Nat} {k : Nat → Rat} (h : ∀ i, i + 1 < n → k i ≤ k (i + 1)) {i : Nat} : ∀ {j : Nat}, i ≤ j → j < n → k i ≤ k j
 | 0, hij, _ => by
    have : i = 0 := by omega
    subst this; exact Rat.le_refl
 | j + 1, hij, hj => by
  by_cases he : i = j + 1
  ·subst he; exact Rat.le_refl
  ·exact Rat.le_trans (lz h (j := j) (by omega) (by omega)) (h j hj)
theorem Kn.mono {n p : Nat} {k : Nat → Rat} (h : Kn n p k) {i j : Nat} (hij : i ≤ j) (hj : j < n) : k i ≤ k j := lz h.sorted hij hj
def fr (a b t : Rat) : Rat := (t - a) / (b - a)
theorem W5 {a b t : Rat} (h : a < b) : fr a b t * (b - a) = t - a := by
 unfold fr; rw [Rat.div_mul_cancel]; intro e; grind
theorem Fw {a b t : Rat} (h : a < b) : 1 - fr a b t = (b - t) / (b - a) := by
 have hne : b - a ≠ 0 := by intro e; grind
 have e := W5 (t := t) h
 have e2 : (b - t) / (b - a) * (b - a) = b - t := Rat.div_mul_cancel hne
 generalize (b - t) / (b - a) = q at *
 generalize fr a b t = f at *
 have : (1 - f - q) * (b - a) = 0 := by grind
 rcases Rat.mul_eq_zero.1 this with h1 | h1
 ·grind
 ·exact absurd h1 hne
def vB (k : Nat → Rat) (i : Nat) (t : Rat) : Nat → Nat → Rat
 | 0, j => if j = 0 then 1 else 0
 | d + 1, j => (if j = 0 then 0 else fr (k (i - d + (j - 1))) (k (i - d + (j - 1) + (d + 1))) t * vB k i t d (j - 1)) +
   (if j ≤ d then (1 - fr (k (i - d + j)) (k (i - d + j + (d + 1))) t) * vB k i t d j else 0)
theorem C7 {k : Nat → Rat} {i : Nat} {t : Rat} : ∀ {d j : Nat}, d < j → vB k i t d j = 0
 | 0, j, h => by unfold vB; rw [if_neg (by omega)]
 | d + 1, j, h => by
  unfold vB
  rw [if_neg (by omega), if_neg (by omega), C7 (d := d) (j := j - 1) (by omega)]; grind
theorem Te {k : Nat → Rat} {i : Nat} {t : Rat} {d j : Nat} : vB k i t (d + 1) (j + 1) = fr (k (i - d + j)) (k (i - d + j + (d + 1))) t * vB k i t d j + (1 - fr (k (i - d + (j + 1))) (k (i - d + (j + 1) + (d + 1))) t) * vB k i t d (j + 1) := by
 rw [vB, if_neg (by omega), Nat.add_sub_cancel]
 by_cases h : j + 1 ≤ d
 ·rw [if_pos h]
 ·rw [if_neg h, C7 (d := d) (j := j + 1) (by omega)]; grind
theorem Mr {k : Nat → Rat} {i : Nat} {t : Rat} {d : Nat} : vB k i t (d + 1) 0 = (1 - fr (k (i - d)) (k (i - d + (d + 1))) t) * vB k i t d 0 := by
 rw [vB, if_pos rfl, if_pos (by omega)]; simp only [Nat.add_zero]; grind
structure At (n : Nat) (k : Nat → Rat) (i : Nat) : Prop where
 lt : i + 1 < n
 sorted : ∀ i, i + 1 < n → k i ≤ k (i + 1)
 wide : k i < k (i + 1)
theorem At.around {n : Nat} {k : Nat → Rat} {i : Nat} (h : At n k i) {a b : Nat} (ha : a ≤ i) (hb : i < b) (hn : b < n) : k a < k b := by
 have h1 := lz h.sorted ha (show i < n by have := h.lt; omega)
 have h2 := lz h.sorted (show i + 1 ≤ b by omega) hn
 have h3 := h.wide
 grind
def nC (k : Nat → Rat) (at_ : Nat) (t : Rat) : Nat → Nat → Rat
 | 0, i => if i = at_ then 1 else 0
 | d + 1, i => if at_ < i ∨ i + (d + 1) < at_ then 0 else
   (t - k i) / (k (i + (d + 1)) - k i) * nC k at_ t d i + (k (i + (d + 2)) - t) / (k (i + (d + 2)) - k (i + 1)) * nC k at_ t d (i + 1)
theorem E1 {k : Nat → Rat} {a : Nat} {t : Rat} {d i : Nat} (h : a < i ∨ i + d < a) : nC k a t d i = 0 := by
 cases d with
 | zero => unfold nC; rw [if_neg (by omega)]
 | succ d => unfold nC; rw [if_pos h]
theorem HD {n : Nat} {k : Nat → Rat} {i : Nat} (h : At n k i) {t : Rat} : ∀ {d : Nat}, d ≤ i → i + d < n → ∀ j, j ≤ d → vB k i t d j = nC k i t d (i - d + j)
 | 0, _, _, j, hj => by
  have : j = 0 := by omega
  subst this; simp [vB, nC]
 | d + 1, hd, hn, j, hj => by
  have ih := HD h (t := t) (d := d) (by omega) (by omega)
  rw [nC, if_neg (by omega)]
  cases j with
  | zero =>
   rw [Mr, E1 (d := d) (i := i - (d + 1) + 0) (by omega)]
   have hlt := h.around (a := i - d) (b := i - d + (d + 1)) (by omega) (by omega) (by omega)
   have e0 := ih 0 (by omega)
   simp only [Nat.add_zero] at e0
   rw [Fw hlt, e0]
   have e1 : i - (d + 1) + 0 + 1 = i - d := by omega
   have e2 : i - (d + 1) + 0 + (d + 2) = i - d + (d + 1) := by omega
   rw [e1, e2]; grind
  | succ j =>
   rw [Te]
   have e1 : i - (d + 1) + (j + 1) = i - d + j := by omega
   have e2 : i - d + j + 1 = i - d + (j + 1) := by omega
   have e3 : i - d + j + (d + 2) = i - d + (j + 1) + (d + 1) := by omega
   rw [e1, e2, e3, ih j (by omega)]
   by_cases hj1 : j + 1 ≤ d
   ·have hlt := h.around (a := i - d + (j + 1)) (b := i - d + (j + 1) + (d + 1)) (by omega) (by omega) (by omega)
    rw [Fw hlt, ih (j + 1) hj1]; rfl
   ·rw [C7 (d := d) (j := j + 1) (by omega), E1 (d := d) (i := i - d + (j + 1)) (by omega)]
    unfold fr; grind
end Go.Am.B
