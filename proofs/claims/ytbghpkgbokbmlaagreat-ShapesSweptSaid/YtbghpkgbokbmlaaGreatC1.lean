/- Plain laws of fV and B-spline functions: no program in sight. -/
import Init
set_option linter.unusedVariables false
namespace Go.Am.B
def bB (n : Nat) (f : Nat → Rat) : Rat := match n with
 | 0 => 0
 | n + 1 => bB n f + f n
theorem kq {f g : Nat → Rat} : ∀ {n : Nat}, (∀ i, i < n → f i = g i) → bB n f = bB n g
 | 0, _ => rfl
 | n + 1, h => by rw [bB, bB, kq fun i hi => h i (by omega), h n (by omega)]
theorem qo {f g : Nat → Rat} : ∀ {n : Nat}, bB n (fun i => f i + g i) = bB n f + bB n g
 | 0 => by simp only [bB]; grind
 | n + 1 => by rw [bB, bB, bB, qo]; grind
theorem xw {c : Rat} {f : Nat → Rat} : ∀ {n : Nat}, bB n (fun i => c * f i) = c * bB n f
 | 0 => by simp [bB]
 | n + 1 => by rw [bB, bB, xw]; grind
theorem Ao {f : Nat → Rat} : ∀ {n : Nat}, bB (n + 1) f = f 0 + bB n fun i => f (i + 1)
 | 0 => by simp only [bB]; grind
 | n + 1 => by rw [bB, Ao, bB]; grind
structure Kn (n p : Nat) (k : Nat → Rat) : Prop where
 p1 : 1 ≤ p
 len : 2 * p + 2 ≤ n
 sorted : ∀ i, i + 1 < n → k i ≤ k (i + 1)
 first : ∀ i, i ≤ p → k i = k 0
 last : ∀ i, n ≤ i + p + 1 → i < n → k i = k (n - 1)
 mult : ∀ i, 1 ≤ i → i + p + 1 < n → k i < k (i + p)
theorem jC {n : Nat} {k : Nat → Rat} (h : ∀ i, i + 1 < n → k i ≤ k (i + 1)) {i : Nat} : ∀ {j : Nat}, i ≤ j → j < n → k i ≤ k j
 | 0, hij, _ => by
    have : i = 0 := by omega
    subst this; exact Rat.le_refl
 | j + 1, hij, hj => by
  by_cases he : i = j + 1
  ·subst he; exact Rat.le_refl
  ·exact Rat.le_trans (jC h (j := j) (by omega) (by omega)) (h j hj)
theorem Kn.mono {n p : Nat} {k : Nat → Rat} (h : Kn n p k) {i j : Nat} (hij : i ≤ j) (hj : j < n) : k i ≤ k j := jC h.sorted hij hj
def fr (a b t : Rat) : Rat := (t - a) / (b - a)
theorem zx {a b t : Rat} (h : a < b) : fr a b t * (b - a) = t - a := by
 unfold fr; rw [Rat.div_mul_cancel]; intro e; grind
theorem WU {a b t : Rat} (h : a < b) (h0 : a ≤ t) : 0 ≤ fr a b t := by
 have e := zx (t := t) h
 rcases Rat.le_total (a := 0) (b := fr a b t) with h1 | h1
 ·exact h1
 ·by_cases h2 : fr a b t = 0
  ·rw [h2]; exact Rat.le_refl
  ·have := Rat.mul_pos (a := -fr a b t) (b := b - a) (by grind) (by grind)
   grind
theorem Xo {a b t : Rat} (h : a < b) (h0 : t ≤ b) : fr a b t ≤ 1 := by
 have e := zx (t := t) h
 rcases Rat.le_total (a := fr a b t) (b := 1) with h1 | h1
 ·exact h1
 ·by_cases h2 : fr a b t = 1
  ·rw [h2]; exact Rat.le_refl
  ·have := Rat.mul_pos (a := fr a b t - 1) (b := b - a) (by grind) (by grind)
   grind
theorem Fz {a b t : Rat} (h : a < b) : 1 - fr a b t = (b - t) / (b - a) := by
 have hne : b - a ≠ 0 := by intro e; grind
 have e := zx (t := t) h
 have e2 : (b - t) / (b - a) * (b - a) = b - t := Rat.div_mul_cancel hne
 generalize (b - t) / (b - a) = q at *
 generalize fr a b t = f at *
 have : (1 - f - q) * (b - a) = 0 := by grind
 rcases Rat.mul_eq_zero.1 this with h1 | h1
 ·grind
 ·exact absurd h1 hne
def vB (k : Nat → Rat) (i : Nat) (t : Rat) : Nat → Nat → Rat
 | 0, j => if j = 0 then 1 else 0
 | d + 1, j => (if j = 0 then 0 else fr (k (i - d + (j - 1))) (k (i - d + (j - 1) + (d + 1))) t * vB k i t d (j - 1)) +
   (if j ≤ d then (1 - fr (k (i - d + j)) (k (i - d + j + (d + 1))) t) * vB k i t d j else 0)
theorem qC {k : Nat → Rat} {i : Nat} {t : Rat} : ∀ {d j : Nat}, d < j → vB k i t d j = 0
 | 0, j, h => by unfold vB; rw [if_neg (by omega)]
 | d + 1, j, h => by
  unfold vB
  rw [if_neg (by omega), if_neg (by omega), qC (d := d) (j := j - 1) (by omega)]; grind
theorem yq {k : Nat → Rat} {i : Nat} {t : Rat} {d j : Nat} : vB k i t (d + 1) (j + 1) = fr (k (i - d + j)) (k (i - d + j + (d + 1))) t * vB k i t d j + (1 - fr (k (i - d + (j + 1))) (k (i - d + (j + 1) + (d + 1))) t) * vB k i t d (j + 1) := by
 rw [vB, if_neg (by omega), Nat.add_sub_cancel]
 by_cases h : j + 1 ≤ d
 ·rw [if_pos h]
 ·rw [if_neg h, qC (d := d) (j := j + 1) (by omega)]; grind
theorem zZ {k : Nat → Rat} {i : Nat} {t : Rat} {d : Nat} : vB k i t (d + 1) 0 = (1 - fr (k (i - d)) (k (i - d + (d + 1))) t) * vB k i t d 0 := by
 rw [vB, if_pos rfl, if_pos (by omega)]; simp only [Nat.add_zero]; grind
theorem NO {k : Nat → Rat} {i : Nat} {t : Rat} {d : Nat} {c : Nat → Rat} :
  bB (d + 2) (fun j => c j * vB k i t (d + 1) j) =
   bB (d + 1) fun j => (c (j + 1) * fr (k (i - d + j)) (k (i - d + j + (d + 1))) t + c j * (1 - fr (k (i - d + j)) (k (i - d + j + (d + 1))) t)) * vB k i t d j := by
 rw [Ao, zZ]
 have h1 : bB (d + 1) (fun j => c (j + 1) * vB k i t (d + 1) (j + 1)) =
   bB (d + 1) (fun j => c (j + 1) * (fr (k (i - d + j)) (k (i - d + j + (d + 1))) t * vB k i t d j)) + bB (d + 1) (fun j => c (j + 1) * ((1 - fr (k (i - d + (j + 1))) (k (i - d + (j + 1) + (d + 1))) t) * vB k i t d (j + 1))) := by
  rw [← qo]
  refine kq fun j _ => ?_
  rw [yq]; grind
 have h2 : bB (d + 2) (fun j => c j * ((1 - fr (k (i - d + j)) (k (i - d + j + (d + 1))) t) * vB k i t d j)) =
   c 0 * ((1 - fr (k (i - d)) (k (i - d + (d + 1))) t) * vB k i t d 0) + bB (d + 1) (fun j => c (j + 1) * ((1 - fr (k (i - d + (j + 1))) (k (i - d + (j + 1) + (d + 1))) t) * vB k i t d (j + 1))) := by
  rw [Ao]; rfl
 have h3 : bB (d + 2) (fun j => c j * ((1 - fr (k (i - d + j)) (k (i - d + j + (d + 1))) t) * vB k i t d j)) =
   bB (d + 1) (fun j => c j * ((1 - fr (k (i - d + j)) (k (i - d + j + (d + 1))) t) * vB k i t d j)) := by
  rw [bB, qC (d := d) (j := d + 1) (by omega)]; grind
 have h4 : bB (d + 1) (fun j => (c (j + 1) * fr (k (i - d + j)) (k (i - d + j + (d + 1))) t + c j * (1 - fr (k (i - d + j)) (k (i - d + j + (d + 1))) t)) * vB k i t d j) =
   bB (d + 1) (fun j => c (j + 1) * (fr (k (i - d + j)) (k (i - d + j + (d + 1))) t * vB k i t d j)) + bB (d + 1) (fun j => c j * ((1 - fr (k (i - d + j)) (k (i - d + j + (d + 1))) t) * vB k i t d j)) := by
  rw [← qo]
  exact kq fun j _ => by grind
 rw [h1, h4, ← h3, h2]; grind
theorem GI {k : Nat → Rat} {i : Nat} {t : Rat} : ∀ {d : Nat}, bB (d + 1) (vB k i t d) = 1
 | 0 => by simp only [bB, vB, if_true]; grind
 | d + 1 => by
  have h := NO (k := k) (i := i) (t := t) (d := d) (c := fun _ => 1)
  have h1 : bB (d + 2) (vB k i t (d + 1)) = bB (d + 2) (fun j => 1 * vB k i t (d + 1) j) := kq fun j _ => by grind
  have e : ∀ f x : Rat, (1 * f + 1 * (1 - f)) * x = x := fun f x => by grind
  rw [h1, h]
  exact (kq fun j _ => e _ _).trans (GI (k := k) (i := i) (t := t) (d := d))
structure At (n : Nat) (k : Nat → Rat) (i : Nat) : Prop where
 lt : i + 1 < n
 sorted : ∀ i, i + 1 < n → k i ≤ k (i + 1)
 wide : k i < k (i + 1)
theorem At.around {n : Nat} {k : Nat → Rat} {i : Nat} (h : At n k i) {a b : Nat} (ha : a ≤ i) (hb : i < b) (hn : b < n) : k a < k b := by
 have h1 := jC h.sorted ha (show i < n by have := h.lt; omega)
 have h2 := jC h.sorted (show i + 1 ≤ b by omega) hn
 have h3 := h.wide
 grind
theorem Iv {n : Nat} {k : Nat → Rat} {i : Nat} (h : At n k i) {t : Rat} (h0 : k i ≤ t) (h1 : t ≤ k (i + 1)) : ∀ {d : Nat}, d ≤ i → i + d < n → ∀ j, 0 ≤ vB k i t d j
 | 0, _, _, j => by unfold vB; split <;> decide
 | d + 1, hd, hn, j => by
  have ih := Iv h h0 h1 (d := d) (by omega) (by omega)
  have key : ∀ j, j ≤ d → 0 ≤ fr (k (i - d + j)) (k (i - d + j + (d + 1))) t ∧ fr (k (i - d + j)) (k (i - d + j + (d + 1))) t ≤ 1 := fun j hj => by
   have hlt := h.around (a := i - d + j) (b := i - d + j + (d + 1)) (by omega) (by omega) (by omega)
   have g1 := jC h.sorted (show i - d + j ≤ i by omega) (show i < n by omega)
   have g2 := jC h.sorted (show i + 1 ≤ i - d + j + (d + 1) by omega) (by omega)
   exact ⟨WU hlt (Rat.le_trans g1 h0), Xo hlt (Rat.le_trans h1 g2)⟩
  cases j with
  | zero =>
   rw [zZ]
   have := key 0 (by omega)
   simp only [Nat.add_zero] at this
   exact Rat.mul_nonneg (by grind) (ih 0)
  | succ j =>
   rw [yq]
   have a1 : 0 ≤ fr (k (i - d + j)) (k (i - d + j + (d + 1))) t * vB k i t d j := by
    by_cases hj : j ≤ d
    ·exact Rat.mul_nonneg (key j hj).1 (ih j)
    ·rw [qC (d := d) (j := j) (by omega), Rat.mul_zero]; exact Rat.le_refl
   have a2 : 0 ≤ (1 - fr (k (i - d + (j + 1))) (k (i - d + (j + 1) + (d + 1))) t) * vB k i t d (j + 1) := by
    by_cases hj : j + 1 ≤ d
    ·have := (key (j + 1) hj).2
     exact Rat.mul_nonneg (by grind) (ih (j + 1))
    ·rw [qC (d := d) (j := j + 1) (by omega), Rat.mul_zero]; exact Rat.le_refl
   grind
def nC (k : Nat → Rat) (at_ : Nat) (t : Rat) : Nat → Nat → Rat
 | 0, i => if i = at_ then 1 else 0
 | d + 1, i => if at_ < i ∨ i + (d + 1) < at_ then 0 else
   (t - k i) / (k (i + (d + 1)) - k i) * nC k at_ t d i + (k (i + (d + 2)) - t) / (k (i + (d + 2)) - k (i + 1)) * nC k at_ t d (i + 1)
theorem IA {k : Nat → Rat} {a : Nat} {t : Rat} {d i : Nat} (h : a < i ∨ i + d < a) : nC k a t d i = 0 := by
 cases d with
 | zero => unfold nC; rw [if_neg (by omega)]
 | succ d => unfold nC; rw [if_pos h]
theorem Js {n : Nat} {k : Nat → Rat} {i : Nat} (h : At n k i) {t : Rat} : ∀ {d : Nat}, d ≤ i → i + d < n → ∀ j, j ≤ d → vB k i t d j = nC k i t d (i - d + j)
 | 0, _, _, j, hj => by
  have : j = 0 := by omega
  subst this; simp [vB, nC]
 | d + 1, hd, hn, j, hj => by
  have ih := Js h (t := t) (d := d) (by omega) (by omega)
  rw [nC, if_neg (by omega)]
  cases j with
  | zero =>
   rw [zZ, IA (d := d) (i := i - (d + 1) + 0) (by omega)]
   have hlt := h.around (a := i - d) (b := i - d + (d + 1)) (by omega) (by omega) (by omega)
   have e0 := ih 0 (by omega)
   simp only [Nat.add_zero] at e0
   rw [Fz hlt, e0]
   have e1 : i - (d + 1) + 0 + 1 = i - d := by omega
   have e2 : i - (d + 1) + 0 + (d + 2) = i - d + (d + 1) := by omega
   rw [e1, e2]; grind
  | succ j =>
   rw [yq]
   have e1 : i - (d + 1) + (j + 1) = i - d + j := by omega
   have e2 : i - d + j + 1 = i - d + (j + 1) := by omega
   have e3 : i - d + j + (d + 2) = i - d + (j + 1) + (d + 1) := by omega
   rw [e1, e2, e3, ih j (by omega)]
   by_cases hj1 : j + 1 ≤ d
   ·have hlt := h.around (a := i - d + (j + 1)) (b := i - d + (j + 1) + (d + 1)) (by omega) (by omega) (by omega)
    rw [Fz hlt, ih (j + 1) hj1]; rfl
   ·rw [qC (d := d) (j := j + 1) (by omega), IA (d := d) (i := i - d + (j + 1)) (by omega)]
    unfold fr; grind
end Go.Am.B
