/- Plain laws of fP and B-spline functions: no program in sight. -/
import Init
set_option linter.unusedVariables false
namespace Go.Am.B
def bz (n : Nat) (f : Nat → Rat) : Rat := match n with
 | 0 => 0
 | n + 1 => bz n f + f n
theorem od {f g : Nat → Rat} : ∀ {n : Nat}, (∀ i, i < n → f i = g i) → bz n f = bz n g
 | 0, _ => rfl
 | n + 1, h => by rw [bz, bz, od fun i hi => h i (by omega), h n (by omega)]
theorem CK {f g : Nat → Rat} : ∀ {n : Nat}, bz n (fun i => f i + g i) = bz n f + bz n g
 | 0 => by simp only [bz]; grind
 | n + 1 => by rw [bz, bz, bz, CK]; grind
theorem Ip {c : Rat} {f : Nat → Rat} : ∀ {n : Nat}, bz n (fun i => c * f i) = c * bz n f
 | 0 => by simp [bz]
 | n + 1 => by rw [bz, bz, Ip]; grind
theorem A4 {f : Nat → Rat} : ∀ {n : Nat}, bz (n + 1) f = f 0 + bz n fun i => f (i + 1)
 | 0 => by simp only [bz]; grind
 | n + 1 => by rw [bz, A4, bz]; grind
structure Kn (n p : Nat) (k : Nat → Rat) : Prop where
 p1 : 1 ≤ p
 len : 2 * p + 2 ≤ n
 sorted : ∀ i, i + 1 < n → k i ≤ k (i + 1)
 first : ∀ i, i ≤ p → k i = k 0
 last : ∀ i, n ≤ i + p + 1 → i < n → k i = k (n - 1)
 mult : ∀ i, 1 ≤ i → i + p + 1 < n → k i < k (i + p)
theorem jF {n : Nat} {k : Nat → Rat} (h : ∀ i, i + 1 < n → k i ≤ k (i + 1)) {i : Nat} : ∀ {j : Nat}, i ≤ j → j < n → k i ≤ k j
 | 0, hij, _ => by
    have : i = 0 := by omega
    subst this; exact Rat.le_refl
 | j + 1, hij, hj => by
  by_cases he : i = j + 1
  ·subst he; exact Rat.le_refl
  ·exact Rat.le_trans (jF h (j := j) (by omega) (by omega)) (h j hj)
theorem Kn.mono {n p : Nat} {k : Nat → Rat} (h : Kn n p k) {i j : Nat} (hij : i ≤ j) (hj : j < n) : k i ≤ k j := jF h.sorted hij hj
def fr (a b t : Rat) : Rat := (t - a) / (b - a)
theorem E3 {a b t : Rat} (h : a < b) : fr a b t * (b - a) = t - a := by
 unfold fr; rw [Rat.div_mul_cancel]; intro e; grind
theorem MZ {a b t : Rat} (h : a < b) (h0 : a ≤ t) : 0 ≤ fr a b t := by
 have e := E3 (t := t) h
 rcases Rat.le_total (a := 0) (b := fr a b t) with h1 | h1
 ·exact h1
 ·by_cases h2 : fr a b t = 0
  ·rw [h2]; exact Rat.le_refl
  ·have := Rat.mul_pos (a := -fr a b t) (b := b - a) (by grind) (by grind)
   grind
theorem Xf {a b t : Rat} (h : a < b) (h0 : t ≤ b) : fr a b t ≤ 1 := by
 have e := E3 (t := t) h
 rcases Rat.le_total (a := fr a b t) (b := 1) with h1 | h1
 ·exact h1
 ·by_cases h2 : fr a b t = 1
  ·rw [h2]; exact Rat.le_refl
  ·have := Rat.mul_pos (a := fr a b t - 1) (b := b - a) (by grind) (by grind)
   grind
def vB (k : Nat → Rat) (i : Nat) (t : Rat) : Nat → Nat → Rat
 | 0, j => if j = 0 then 1 else 0
 | d + 1, j => (if j = 0 then 0 else fr (k (i - d + (j - 1))) (k (i - d + (j - 1) + (d + 1))) t * vB k i t d (j - 1)) +
   (if j ≤ d then (1 - fr (k (i - d + j)) (k (i - d + j + (d + 1))) t) * vB k i t d j else 0)
theorem vL {k : Nat → Rat} {i : Nat} {t : Rat} : ∀ {d j : Nat}, d < j → vB k i t d j = 0
 | 0, j, h => by unfold vB; rw [if_neg (by omega)]
 | d + 1, j, h => by
  unfold vB
  rw [if_neg (by omega), if_neg (by omega), vL (d := d) (j := j - 1) (by omega)]; grind
theorem FZ {k : Nat → Rat} {i : Nat} {t : Rat} {d j : Nat} : vB k i t (d + 1) (j + 1) = fr (k (i - d + j)) (k (i - d + j + (d + 1))) t * vB k i t d j + (1 - fr (k (i - d + (j + 1))) (k (i - d + (j + 1) + (d + 1))) t) * vB k i t d (j + 1) := by
 rw [vB, if_neg (by omega), Nat.add_sub_cancel]
 by_cases h : j + 1 ≤ d
 ·rw [if_pos h]
 ·rw [if_neg h, vL (d := d) (j := j + 1) (by omega)]; grind
theorem KM {k : Nat → Rat} {i : Nat} {t : Rat} {d : Nat} : vB k i t (d + 1) 0 = (1 - fr (k (i - d)) (k (i - d + (d + 1))) t) * vB k i t d 0 := by
 rw [vB, if_pos rfl, if_pos (by omega)]; simp only [Nat.add_zero]; grind
theorem abu {k : Nat → Rat} {i : Nat} {t : Rat} {d : Nat} {c : Nat → Rat} :
  bz (d + 2) (fun j => c j * vB k i t (d + 1) j) =
   bz (d + 1) fun j => (c (j + 1) * fr (k (i - d + j)) (k (i - d + j + (d + 1))) t + c j * (1 - fr (k (i - d + j)) (k (i - d + j + (d + 1))) t)) * vB k i t d j := by
 rw [A4, KM]
 have h1 : bz (d + 1) (fun j => c (j + 1) * vB k i t (d + 1) (j + 1)) =
   bz (d + 1) (fun j => c (j + 1) * (fr (k (i - d + j)) (k (i - d + j + (d + 1))) t * vB k i t d j)) + bz (d + 1) (fun j => c (j + 1) * ((1 - fr (k (i - d + (j + 1))) (k (i - d + (j + 1) + (d + 1))) t) * vB k i t d (j + 1))) := by
  rw [← CK]
  refine od fun j _ => ?_
  rw [FZ]; grind
 have h2 : bz (d + 2) (fun j => c j * ((1 - fr (k (i - d + j)) (k (i - d + j + (d + 1))) t) * vB k i t d j)) =
   c 0 * ((1 - fr (k (i - d)) (k (i - d + (d + 1))) t) * vB k i t d 0) + bz (d + 1) (fun j => c (j + 1) * ((1 - fr (k (i - d + (j + 1))) (k (i - d + (j + 1) + (d + 1))) t) * vB k i t d (j + 1))) := by
  rw [A4]; rfl
 have h3 : bz (d + 2) (fun j => c j * ((1 - fr (k (i - d + j)) (k (i - d + j + (d + 1))) t) * vB k i t d j)) =
   bz (d + 1) (fun j => c j * ((1 - fr (k (i - d + j)) (k (i - d + j + (d + 1))) t) * vB k i t d j)) := by
  rw [bz, vL (d := d) (j := d + 1) (by omega)]; grind
 have h4 : bz (d + 1) (fun j => (c (j + 1) * fr (k (i - d + j)) (k (i - d + j + (d + 1))) t + c j * (1 - fr (k (i - d + j)) (k (i - d + j + (d + 1))) t)) * vB k i t d j) =
   bz (d + 1) (fun j => c (j + 1) * (fr (k (i - d + j)) (k (i - d + j + (d + 1))) t * vB k i t d j)) + bz (d + 1) (fun j => c j * ((1 - fr (k (i - d + j)) (k (i - d + j + (d + 1))) t) * vB k i t d j)) := by
  rw [← CK]
  exact od fun j _ => by grind
 rw [h1, h4, ← h3, h2]; grind
theorem Gi {k : Nat → Rat} {i : Nat} {t : Rat} : ∀ {d : Nat}, bz (d + 1) (vB k i t d) = 1
 | 0 => by simp only [bz, vB, if_true]; grind
 | d + 1 => by
  have h := abu (k := k) (i := i) (t := t) (d := d) (c := fun _ => 1)
  have h1 : bz (d + 2) (vB k i t (d + 1)) = bz (d + 2) (fun j => 1 * vB k i t (d + 1) j) := od fun j _ => by grind
  have e : ∀ f x : Rat, (1 * f + 1 * (1 - f)) * x = x := fun f x => by grind
  rw [h1, h]
  exact (od fun j _ => e _ _).trans (Gi (k := k) (i := i) (t := t) (d := d))
structure At (n : Nat) (k : Nat → Rat) (i : Nat) : Prop where
 lt : i + 1 < n
 sorted : ∀ i, i + 1 < n → k i ≤ k (i + 1)
 wide : k i < k (i + 1)
theorem At.around {n : Nat} {k : Nat → Rat} {i : Nat} (h : At n k i) {a b : Nat} (ha : a ≤ i) (hb : i < b) (hn : b < n) : k a < k b := by
 have h1 := jF h.sorted ha (show i < n by have := h.lt; omega)
 have h2 := jF h.sorted (show i + 1 ≤ b by omega) hn
 have h3 := h.wide
 grind
theorem Jv {n : Nat} {k : Nat → Rat} {i : Nat} (h : At n k i) {t : Rat} (h0 : k i ≤ t) (h1 : t ≤ k (i + 1)) : ∀ {d : Nat}, d ≤ i → i + d < n → ∀ j, 0 ≤ vB k i t d j
 | 0, _, _, j => by unfold vB; split <;> decide
 | d + 1, hd, hn, j => by
  have ih := Jv h h0 h1 (d := d) (by omega) (by omega)
  have key : ∀ j, j ≤ d → 0 ≤ fr (k (i - d + j)) (k (i - d + j + (d + 1))) t ∧ fr (k (i - d + j)) (k (i - d + j + (d + 1))) t ≤ 1 := fun j hj => by
   have hlt := h.around (a := i - d + j) (b := i - d + j + (d + 1)) (by omega) (by omega) (by omega)
   have g1 := jF h.sorted (show i - d + j ≤ i by omega) (show i < n by omega)
   have g2 := jF h.sorted (show i + 1 ≤ i - d + j + (d + 1) by omega) (by omega)
   exact ⟨MZ hlt (Rat.le_trans g1 h0), Xf hlt (Rat.le_trans h1 g2)⟩
  cases j with
  | zero =>
   rw [KM]
   have := key 0 (by omega)
   simp only [Nat.add_zero] at this
   exact Rat.mul_nonneg (by grind) (ih 0)
  | succ j =>
   rw [FZ]
   have a1 : 0 ≤ fr (k (i - d + j)) (k (i - d + j + (d + 1))) t * vB k i t d j := by
    by_cases hj : j ≤ d
    ·exact Rat.mul_nonneg (key j hj).1 (ih j)
    ·rw [vL (d := d) (j := j) (by omega), Rat.mul_zero]; exact Rat.le_refl
   have a2 : 0 ≤ (1 - fr (k (i - d + (j + 1))) (k (i - d + (j + 1) + (d + 1))) t) * vB k i t d (j + 1) := by
    by_cases hj : j + 1 ≤ d
    ·have := (key (j + 1) hj).2
     exact Rat.mul_nonneg (by grind) (ih (j + 1))
    ·rw [vL (d := d) (j := j + 1) (by omega), Rat.mul_zero]; exact Rat.le_refl
   grind
end Go.Am.B
