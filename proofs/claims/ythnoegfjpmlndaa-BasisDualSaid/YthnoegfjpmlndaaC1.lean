/- Plain laws of knots and B-spline functions: no program in sight. -/
import Init
set_option linter.unusedVariables false
namespace Go.Am.B
def sumR (n : Nat) (f : Nat → Rat) : Rat := match n with
  | 0 => 0
  | n + 1 => sumR n f + f n
theorem sumR_congr {f g : Nat → Rat} : ∀ {n : Nat}, (∀ i, i < n → f i = g i) → sumR n f = sumR n g
  | 0, _ => rfl
  | n + 1, h => by rw [sumR, sumR, sumR_congr fun i hi => h i (by omega), h n (by omega)]
theorem sumR_add {f g : Nat → Rat} : ∀ {n : Nat}, sumR n (fun i => f i + g i) = sumR n f + sumR n g
  | 0 => by simp only [sumR]; grind
  | n + 1 => by rw [sumR, sumR, sumR, sumR_add]; grind
theorem sumR_front {f : Nat → Rat} : ∀ {n : Nat}, sumR (n + 1) f = f 0 + sumR n fun i => f (i + 1)
  | 0 => by simp only [sumR]; grind
  | n + 1 => by rw [sumR, sumR_front, sumR]; grind
theorem sumR_zero {f : Nat → Rat} : ∀ {n : Nat}, (∀ i, i < n → f i = 0) → sumR n f = 0
  | 0, _ => rfl
  | n + 1, h => by rw [sumR, sumR_zero fun i hi => h i (by omega), h n (by omega)]; grind
structure Kn (n p : Nat) (k : Nat → Rat) : Prop where
  p1 : 1 ≤ p
  len : 2 * p + 2 ≤ n
  sorted : ∀ i, i + 1 < n → k i ≤ k (i + 1)
  first : ∀ i, i ≤ p → k i = k 0
  last : ∀ i, n ≤ i + p + 1 → i < n → k i = k (n - 1)
  mult : ∀ i, 1 ≤ i → i + p + 1 < n → k i < k (i + p)
theorem mono_of {n : Nat} {k : Nat → Rat} (h : ∀ i, i + 1 < n → k i ≤ k (i + 1)) {i : Nat} : ∀ {j : Nat}, i ≤ j → j < n → k i ≤ k j
  | 0, hij, _ => by have : i = 0 := by omega
                    subst this; exact Rat.le_refl
  | j + 1, hij, hj => by
    by_cases he : i = j + 1
    · subst he; exact Rat.le_refl
    · exact Rat.le_trans (mono_of h (j := j) (by omega) (by omega)) (h j hj)
theorem Kn.mono {n p : Nat} {k : Nat → Rat} (h : Kn n p k) {i j : Nat} (hij : i ≤ j) (hj : j < n) : k i ≤ k j := mono_of h.sorted hij hj
def fr (a b t : Rat) : Rat := (t - a) / (b - a)
theorem fr_mul {a b t : Rat} (h : a < b) : fr a b t * (b - a) = t - a := by
  unfold fr; rw [Rat.div_mul_cancel]; intro e; grind
theorem fr_self {a b : Rat} : fr a b a = 0 := by
  unfold fr; rw [Rat.sub_self, Rat.div_def, Rat.zero_mul]
theorem fr_end {a b : Rat} (h : a < b) : fr a b b = 1 := by
  unfold fr; rw [Rat.div_def, Rat.mul_inv_cancel]; intro e; grind
def vB (k : Nat → Rat) (i : Nat) (t : Rat) : Nat → Nat → Rat
  | 0, j => if j = 0 then 1 else 0
  | d + 1, j => (if j = 0 then 0 else fr (k (i - d + (j - 1))) (k (i - d + (j - 1) + (d + 1))) t * vB k i t d (j - 1)) +
      (if j ≤ d then (1 - fr (k (i - d + j)) (k (i - d + j + (d + 1))) t) * vB k i t d j else 0)
theorem vB_above {k : Nat → Rat} {i : Nat} {t : Rat} : ∀ {d j : Nat}, d < j → vB k i t d j = 0
  | 0, j, h => by unfold vB; rw [if_neg (by omega)]
  | d + 1, j, h => by
    unfold vB
    rw [if_neg (by omega), if_neg (by omega), vB_above (d := d) (j := j - 1) (by omega)]; grind
theorem vB_succ {k : Nat → Rat} {i : Nat} {t : Rat} {d j : Nat} : vB k i t (d + 1) (j + 1) = fr (k (i - d + j)) (k (i - d + j + (d + 1))) t * vB k i t d j + (1 - fr (k (i - d + (j + 1))) (k (i - d + (j + 1) + (d + 1))) t) * vB k i t d (j + 1) := by
  rw [vB, if_neg (by omega), Nat.add_sub_cancel]
  by_cases h : j + 1 ≤ d
  · rw [if_pos h]
  · rw [if_neg h, vB_above (d := d) (j := j + 1) (by omega)]; grind
theorem vB_first {k : Nat → Rat} {i : Nat} {t : Rat} {d : Nat} : vB k i t (d + 1) 0 = (1 - fr (k (i - d)) (k (i - d + (d + 1))) t) * vB k i t d 0 := by
  rw [vB, if_pos rfl, if_pos (by omega)]; simp only [Nat.add_zero]; grind
theorem sum_step {k : Nat → Rat} {i : Nat} {t : Rat} {d : Nat} {c : Nat → Rat} :
    sumR (d + 2) (fun j => c j * vB k i t (d + 1) j) =
      sumR (d + 1) fun j => (c (j + 1) * fr (k (i - d + j)) (k (i - d + j + (d + 1))) t + c j * (1 - fr (k (i - d + j)) (k (i - d + j + (d + 1))) t)) * vB k i t d j := by
  rw [sumR_front, vB_first]
  have h1 : sumR (d + 1) (fun j => c (j + 1) * vB k i t (d + 1) (j + 1)) =
      sumR (d + 1) (fun j => c (j + 1) * (fr (k (i - d + j)) (k (i - d + j + (d + 1))) t * vB k i t d j)) + sumR (d + 1) (fun j => c (j + 1) * ((1 - fr (k (i - d + (j + 1))) (k (i - d + (j + 1) + (d + 1))) t) * vB k i t d (j + 1))) := by
    rw [← sumR_add]
    refine sumR_congr fun j _ => ?_
    rw [vB_succ]; grind
  have h2 : sumR (d + 2) (fun j => c j * ((1 - fr (k (i - d + j)) (k (i - d + j + (d + 1))) t) * vB k i t d j)) =
      c 0 * ((1 - fr (k (i - d)) (k (i - d + (d + 1))) t) * vB k i t d 0) + sumR (d + 1) (fun j => c (j + 1) * ((1 - fr (k (i - d + (j + 1))) (k (i - d + (j + 1) + (d + 1))) t) * vB k i t d (j + 1))) := by
    rw [sumR_front]; rfl
  have h3 : sumR (d + 2) (fun j => c j * ((1 - fr (k (i - d + j)) (k (i - d + j + (d + 1))) t) * vB k i t d j)) =
      sumR (d + 1) (fun j => c j * ((1 - fr (k (i - d + j)) (k (i - d + j + (d + 1))) t) * vB k i t d j)) := by
    rw [sumR, vB_above (d := d) (j := d + 1) (by omega)]; grind
  have h4 : sumR (d + 1) (fun j => (c (j + 1) * fr (k (i - d + j)) (k (i - d + j + (d + 1))) t + c j * (1 - fr (k (i - d + j)) (k (i - d + j + (d + 1))) t)) * vB k i t d j) =
      sumR (d + 1) (fun j => c (j + 1) * (fr (k (i - d + j)) (k (i - d + j + (d + 1))) t * vB k i t d j)) + sumR (d + 1) (fun j => c j * ((1 - fr (k (i - d + j)) (k (i - d + j + (d + 1))) t) * vB k i t d j)) := by
    rw [← sumR_add]
    exact sumR_congr fun j _ => by grind
  rw [h1, h4, ← h3, h2]; grind
structure At (n : Nat) (k : Nat → Rat) (i : Nat) : Prop where
  lt : i + 1 < n
  sorted : ∀ i, i + 1 < n → k i ≤ k (i + 1)
  wide : k i < k (i + 1)
theorem At.around {n : Nat} {k : Nat → Rat} {i : Nat} (h : At n k i) {a b : Nat} (ha : a ≤ i) (hb : i < b) (hn : b < n) : k a < k b := by
  have h1 := mono_of h.sorted ha (show i < n by have := h.lt; omega)
  have h2 := mono_of h.sorted (show i + 1 ≤ b by omega) hn
  have h3 := h.wide
  grind
end Go.Am.B
