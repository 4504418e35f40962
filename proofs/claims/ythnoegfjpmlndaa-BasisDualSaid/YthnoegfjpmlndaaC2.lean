/- Plain laws of polar forms: symmetric, affine; of knots: the coefficient; of equal arguments: the spline. -/
import Derived.Test.YthnoegfjpmlndaaC1
set_option linter.unusedVariables false
namespace Go.Am.B
def stepB (k : Nat → Rat) (b p r : Nat) (t : Rat) (x : Nat → Rat) (j : Nat) : Rat :=
  if r < j then x (j - 1) + fr (k (b + j)) (k (b + j + (p - r))) t * (x j - x (j - 1)) else x j
def bl (k : Nat → Rat) (b p : Nat) : Nat → (Nat → Rat) → List Rat → Nat → Rat
  | _, x, [] => x
  | r, x, t :: l => bl k b p (r + 1) (stepB k b p r t x) l
def ascL (t : Nat → Rat) : Nat → Nat → List Rat
  | _, 0 => []
  | a, l + 1 => t a :: ascL t (a + 1) l
def bR (k : Nat → Rat) (b p : Nat) (t : Nat → Rat) (x : Nat → Rat) : Nat → Nat → Rat
  | 0 => x
  | r + 1 => stepB k b p r (t r) (bR k b p t x r)
variable {k : Nat → Rat} {b p : Nat}
theorem bl_bR {t x : Nat → Rat} : ∀ {l r : Nat}, bl k b p r (bR k b p t x r) (ascL t r l) = bR k b p t x (r + l)
  | 0, r => rfl
  | l + 1, r => by
    have := bl_bR (t := t) (x := x) (l := l) (r := r + 1)
    rw [show r + (l + 1) = r + 1 + l by omega, ← this]; rfl
theorem bR_list {t x : Nat → Rat} {l : Nat} : bR k b p t x l = bl k b p 0 x (ascL t 0 l) := by
  have := bl_bR (k := k) (b := b) (p := p) (t := t) (x := x) (l := l) (r := 0)
  rw [Nat.zero_add] at this
  exact this.symm
theorem bl_congr : ∀ {l : List Rat} {r : Nat} {x y : Nat → Rat}, r + l.length = p → (∀ j, r ≤ j → j ≤ p → x j = y j) → bl k b p r x l p = bl k b p r y l p
  | [], r, x, y, hl, h => h p (by simp at hl; omega) (Nat.le_refl _)
  | t :: l, r, x, y, hl, h => by
    refine bl_congr (l := l) (r := r + 1) (by simp at hl; omega) fun j h1 h2 => ?_
    unfold stepB
    rw [if_pos (by omega), if_pos (by omega), h j (by omega) h2, h (j - 1) (by omega) (by omega)]
theorem two_cancel {x y u v : Rat} (hu : u ≠ 0) (hv : v ≠ 0) (h : x * (u * v) = y * (u * v)) : x = y := by
  have : (x - y) * (u * v) = 0 := by grind
  simp only [Rat.mul_eq_zero] at this
  rcases this with h1 | h1 | h1
  · grind
  · exact absurd h1 hu
  · exact absurd h1 hv
theorem swap_plain {a1 a2 b1 b2 s t x0 x1 x2 : Rat} (h1 : a1 < b1) (h2 : a2 < b1) (h3 : a2 < b2) :
    x0 + fr a1 b1 s * (x1 - x0) + fr a2 b1 t * (x1 + fr a2 b2 s * (x2 - x1) - (x0 + fr a1 b1 s * (x1 - x0))) =
      x0 + fr a1 b1 t * (x1 - x0) + fr a2 b1 s * (x1 + fr a2 b2 t * (x2 - x1) - (x0 + fr a1 b1 t * (x1 - x0))) := by
  have n1 : b1 - a1 ≠ 0 := by intro e; grind
  have n2 : b1 - a2 ≠ 0 := by intro e; grind
  have n3 : b2 - a2 ≠ 0 := by intro e; grind
  have e1 := fr_mul (t := s) h1
  have e2 := fr_mul (t := t) h1
  have e3 := fr_mul (t := s) h2
  have e4 := fr_mul (t := t) h2
  have e5 := fr_mul (t := s) h3
  have e6 := fr_mul (t := t) h3
  generalize fr a1 b1 s = f1s at *
  generalize fr a1 b1 t = f1t at *
  generalize fr a2 b1 s = gs at *
  generalize fr a2 b1 t = gt at *
  generalize fr a2 b2 s = f2s at *
  generalize fr a2 b2 t = f2t at *
  have c0 : (1 - gt) * (1 - f1s) = (1 - gs) * (1 - f1t) := by
    refine two_cancel n2 n1 ?_
    have q1 : (1 - gt) * (b1 - a2) = b1 - t := by grind
    have q2 : (1 - f1s) * (b1 - a1) = b1 - s := by grind
    have q3 : (1 - gs) * (b1 - a2) = b1 - s := by grind
    have q4 : (1 - f1t) * (b1 - a1) = b1 - t := by grind
    have l1 : (1 - gt) * (1 - f1s) * ((b1 - a2) * (b1 - a1)) = ((1 - gt) * (b1 - a2)) * ((1 - f1s) * (b1 - a1)) := by grind
    have l2 : (1 - gs) * (1 - f1t) * ((b1 - a2) * (b1 - a1)) = ((1 - gs) * (b1 - a2)) * ((1 - f1t) * (b1 - a1)) := by grind
    rw [l1, l2, q1, q2, q3, q4]; grind
  have c2 : gt * f2s = gs * f2t := by
    refine two_cancel n2 n3 ?_
    have l1 : gt * f2s * ((b1 - a2) * (b2 - a2)) = (gt * (b1 - a2)) * (f2s * (b2 - a2)) := by grind
    have l2 : gs * f2t * ((b1 - a2) * (b2 - a2)) = (gs * (b1 - a2)) * (f2t * (b2 - a2)) := by grind
    rw [l1, l2, e3, e4, e5, e6]; grind
  have f1 : x0 + f1s * (x1 - x0) + gt * (x1 + f2s * (x2 - x1) - (x0 + f1s * (x1 - x0))) = ((1 - gt) * (1 - f1s)) * x0 + (1 - (1 - gt) * (1 - f1s) - gt * f2s) * x1 + (gt * f2s) * x2 := by grind
  have f2 : x0 + f1t * (x1 - x0) + gs * (x1 + f2t * (x2 - x1) - (x0 + f1t * (x1 - x0))) = ((1 - gs) * (1 - f1t)) * x0 + (1 - (1 - gs) * (1 - f1t) - gs * f2t) * x1 + (gs * f2t) * x2 := by grind
  rw [f1, f2, c0, c2]
variable {n : Nat}
theorem step_swap (h : At n k (b + p)) (hn : b + p + p < n) {s t : Rat} {x : Nat → Rat} {r j : Nat} (h1 : r + 2 ≤ j) (h2 : j ≤ p) :
    stepB k b p (r + 1) t (stepB k b p r s x) j = stepB k b p (r + 1) s (stepB k b p r t x) j := by
  have a1 := h.around (a := b + (j - 1)) (b := b + (j - 1) + (p - r)) (by omega) (by omega) (by omega)
  have a2 := h.around (a := b + j) (b := b + j + (p - (r + 1))) (by omega) (by omega) (by omega)
  have a3 := h.around (a := b + j) (b := b + j + (p - r)) (by omega) (by omega) (by omega)
  have e : b + j + (p - (r + 1)) = b + (j - 1) + (p - r) := by omega
  rw [e] at a2
  simp only [stepB]
  rw [if_pos (by omega), if_pos (by omega), if_pos (by omega), if_pos (by omega), if_pos (by omega), if_pos (by omega), e]
  exact swap_plain a1 a2 a3
theorem bl_perm (h : At n k (b + p)) (hn : b + p + p < n) {l m : List Rat} (hp : l.Perm m) : ∀ {r : Nat} {x : Nat → Rat}, r + l.length = p → bl k b p r x l p = bl k b p r x m p := by
  induction hp with
  | nil => intro r x _; rfl
  | cons t _ ih => intro r x hl; exact ih (by simp at hl; omega)
  | swap s t l =>
    intro r x hl
    refine bl_congr (l := l) (r := r + 2) (by simp at hl; omega) fun j h1 h2 => ?_
    exact step_swap h hn h1 h2
  | trans h1 h2 ih1 ih2 => intro r x hl; rw [ih1 hl, ih2 (by rw [← h1.length_eq]; exact hl)]
def descL (t : Nat → Rat) (a : Nat) : Nat → List Rat
  | 0 => []
  | l + 1 => t (a + l) :: descL t a l
theorem ascL_snoc {t : Nat → Rat} : ∀ {l a : Nat}, ascL t a (l + 1) = ascL t a l ++ [t (a + l)]
  | 0, a => rfl
  | l + 1, a => by
    rw [ascL, ascL_snoc (l := l) (a := a + 1), ascL, List.cons_append, show a + 1 + l = a + (l + 1) by omega]
theorem descL_perm {t : Nat → Rat} {a : Nat} : ∀ {l : Nat}, (descL t a l).Perm (ascL t a l)
  | 0 => .nil
  | l + 1 => by
    rw [ascL_snoc, descL]
    exact ((descL_perm (l := l)).cons _).trans (List.perm_append_singleton _ _).symm
theorem ascL_append {t : Nat → Rat} {m : Nat} : ∀ {l a : Nat}, ascL t a (l + m) = ascL t a l ++ ascL t (a + l) m
  | 0, a => by rw [Nat.zero_add]; rfl
  | l + 1, a => by
    rw [show l + 1 + m = (l + m) + 1 by omega, ascL, ascL_append (l := l) (a := a + 1), ascL, List.cons_append, show a + 1 + l = a + (l + 1) by omega]
theorem ascL_length {t : Nat → Rat} : ∀ {l a : Nat}, (ascL t a l).length = l
  | 0, _ => rfl
  | l + 1, a => by rw [ascL, List.length_cons, ascL_length]
theorem bl_append {l m : List Rat} : ∀ {r : Nat} {x : Nat → Rat}, bl k b p r x (l ++ m) = bl k b p (r + l.length) (bl k b p r x l) m := by
  induction l with
  | nil => intro r x; rfl
  | cons t l ih =>
    intro r x
    rw [List.cons_append, bl, ih, bl, List.length_cons, show r + 1 + l.length = r + (l.length + 1) by omega]
theorem desc_keep (h : At n k (b + p)) (hn : b + p + p < n) {J : Nat} (hJ : J ≤ p) : ∀ {l r : Nat} {x : Nat → Rat}, r + l = J → bl k b p r x (descL k (b + p + 1) l) J = x J
  | 0, r, x, _ => rfl
  | l + 1, r, x, hr => by
    rw [descL, bl, desc_keep h hn hJ (l := l) (r := r + 1) (by omega)]
    unfold stepB
    have a1 := h.around (a := b + J) (b := b + J + (p - r)) (by omega) (by omega) (by omega)
    rw [if_pos (by omega), show b + p + 1 + l = b + J + (p - r) by omega, fr_end a1]; grind
theorem asc_keep {J : Nat} : ∀ {l q : Nat} {x : Nat → Rat}, bl k b p (J + q) x (ascL k (b + J + 1 + q) l) (J + q + l) = x (J + q)
  | 0, q, x => rfl
  | l + 1, q, x => by
    have ih := asc_keep (J := J) (l := l) (q := q + 1) (x := stepB k b p (J + q) (k (b + J + 1 + q)) x)
    rw [ascL, bl, show J + q + (l + 1) = J + (q + 1) + l by omega, show J + q + 1 = J + (q + 1) by omega, show b + J + 1 + q + 1 = b + J + 1 + (q + 1) by omega, ih]
    unfold stepB
    rw [if_pos (by omega), show b + J + 1 + q = b + (J + (q + 1)) by omega, fr_self, show J + (q + 1) - 1 = J + q by omega]; grind
theorem dual (h : At n k (b + p)) (hn : b + p + p < n) {J : Nat} (hJ : J ≤ p) {x : Nat → Rat} : bl k b p 0 x (ascL k (b + J + 1) p) p = x J := by
  have e : ascL k (b + J + 1) p = ascL k (b + J + 1) (p - J) ++ ascL k (b + p + 1) J := by
    have := ascL_append (t := k) (l := p - J) (a := b + J + 1) (m := J)
    rw [show p - J + J = p by omega, show b + J + 1 + (p - J) = b + p + 1 by omega] at this
    exact this
  have hp : (ascL k (b + J + 1) p).Perm (descL k (b + p + 1) J ++ ascL k (b + J + 1) (p - J)) := by
    rw [e]
    exact (List.perm_append_comm).trans ((descL_perm).symm.append_right _)
  rw [bl_perm h hn hp (by rw [ascL_length]; omega), bl_append]
  have hd : (descL k (b + p + 1) J).length = J := by rw [(descL_perm).length_eq, ascL_length]
  rw [hd, Nat.zero_add]
  have := asc_keep (k := k) (b := b) (p := p) (J := J) (l := p - J) (q := 0) (x := bl k b p 0 x (descL k (b + p + 1) J))
  simp only [Nat.add_zero] at this
  rw [show J + (p - J) = p by omega] at this
  rw [this]
  exact desc_keep h hn hJ (l := J) (r := 0) (by omega)
theorem fr_mid {a b u v : Rat} : fr a b ((u + v) * (1 / 2)) = (fr a b u + fr a b v) * (1 / 2) := by
  unfold fr
  rw [Rat.div_def, Rat.div_def (u - a), Rat.div_def (v - a)]
  generalize (b - a)⁻¹ = q
  grind
theorem bl_mid : ∀ {l : List Rat} {r : Nat} {x y : Nat → Rat} {j : Nat}, bl k b p r (fun j => (x j + y j) * (1 / 2)) l j = (bl k b p r x l j + bl k b p r y l j) * (1 / 2)
  | [], _, _, _, _ => rfl
  | t :: l, r, x, y, j => by
    rw [bl, bl, bl, ← bl_mid (l := l)]
    congr 1
    funext j
    unfold stepB
    split <;> grind
theorem bl_affine {u v : Rat} {l : List Rat} {x : Nat → Rat} (hl : l.length + 1 = p) : bl k b p 0 x ((u + v) * (1 / 2) :: l) p = (bl k b p 0 x (u :: l) p + bl k b p 0 x (v :: l) p) * (1 / 2) := by
  rw [bl, bl, bl, ← bl_mid]
  refine bl_congr (by omega) fun j h1 _ => ?_
  simp only [stepB]
  rw [if_pos (by omega), if_pos (by omega), if_pos (by omega), fr_mid]; grind
theorem diag (i : Nat) (hi : b + p = i) (t : Rat) {x : Nat → Rat} : ∀ {r : Nat}, r ≤ p → sumR (p - r + 1) (fun j => bR k b p (fun _ => t) x r (r + j) * vB k i t (p - r) j) = sumR (p + 1) fun j => x j * vB k i t p j
  | 0, _ => by simp only [Nat.sub_zero, Nat.zero_add]; rfl
  | r + 1, hr => by
    rw [← diag i hi t (x := x) (r := r) (by omega)]
    obtain ⟨d, hd⟩ : ∃ d, p - r = d + 1 := ⟨p - r - 1, by omega⟩
    rw [show p - (r + 1) = d by omega, hd, sum_step]
    refine sumR_congr fun j hj => ?_
    rw [bR, stepB, if_pos (by omega), show r + 1 + j - 1 = r + j by omega, show b + (r + 1 + j) = i - d + j by omega, hd, show r + (j + 1) = r + 1 + j by omega]
    grind
theorem diag_end (i : Nat) (hi : b + p = i) (t : Rat) {x : Nat → Rat} : bR k b p (fun _ => t) x p p = sumR (p + 1) fun j => x j * vB k i t p j := by
  rw [← diag i hi t (r := p) (Nat.le_refl _), Nat.sub_self]
  simp only [sumR, vB, Nat.add_zero, if_true]; grind
end Go.Am.B
