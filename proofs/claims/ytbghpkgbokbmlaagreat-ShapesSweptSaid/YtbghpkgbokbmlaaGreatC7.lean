/- Plain laws of fV: multiplicities, different fV, which lists are valid. -/
import Derived.Test.YtbghpkgbokbmlaaGreatC4
set_option linter.unusedVariables false
namespace Go.Am.B
def dn (k : Nat → Rat) (t : Rat) : Nat → Nat
 | 0 => 0
 | i + 1 => dn k t i + if k i = t then 1 else 0
def gl (k : Nat → Rat) (i : Nat) : Prop := i = 0 ∨ k i ≠ k (i - 1)
instance {k : Nat → Rat} {i : Nat} : Decidable (gl k i) := inferInstanceAs (Decidable (i = 0 ∨ k i ≠ k (i - 1)))
def bz (k : Nat → Rat) : Nat → Nat
 | 0 => 0
 | i + 1 => bz k i + if gl k i then 1 else 0
def cD (k : Nat → Rat) : Nat → Nat → Rat
 | 0 => fun _ => 0
 | i + 1 => if gl k i then ig (cD k i) (bz k i) (k i) else cD k i
theorem G3 {k : Nat → Rat} {t : Rat} : ∀ {n : Nat}, dn k t n ≤ n
 | 0 => Nat.le_refl _
 | n + 1 => by
  have := G3 (k := k) (t := t) (n := n)
  unfold dn; split <;> omega
theorem CV {k : Nat → Rat} : ∀ {n : Nat}, bz k n ≤ n
 | 0 => Nat.le_refl _
 | n + 1 => by
  have := CV (k := k) (n := n)
  unfold bz; split <;> omega
theorem pT {k : Nat → Rat} : ∀ {n : Nat}, 0 < bz k (n + 1) ∧ cD k (n + 1) 0 = k 0 ∧ cD k (n + 1) (bz k (n + 1) - 1) = k n
 | 0 => by simp [bz, cD, gl, ig]
 | n + 1 => by
  obtain ⟨h1, h2, h3⟩ := pT (k := k) (n := n)
  rw [bz, cD]
  by_cases h : gl k (n + 1)
  ·rw [if_pos h, if_pos h]
   refine ⟨by omega, by rw [gI (by omega)]; exact h2, ?_⟩
   rw [show bz k (n + 1) + 1 - 1 = bz k (n + 1) by omega, lJ]
  ·rw [if_neg h, if_neg h]
   refine ⟨by omega, h2, ?_⟩
   show cD k (n + 1) (bz k (n + 1) - 1) = _
   rw [h3]
   unfold gl at h
   have : k (n + 1) = k (n + 1 - 1) := by
    by_cases e : k (n + 1) = k (n + 1 - 1)
    ·exact e
    ·exact absurd (.inr e) h
   rw [this]; rfl
theorem Ab {k : Nat → Rat} : ∀ {n j : Nat}, j < bz k n → ∃ i, i < n ∧ cD k n j = k i
 | 0, j, h => by simp [bz] at h
 | n + 1, j, h => by
  rw [cD]
  rw [bz] at h
  by_cases hn : gl k n
  ·rw [if_pos hn] at h ⊢
   by_cases he : j = bz k n
   ·subst he; exact ⟨n, by omega, lJ⟩
   ·obtain ⟨i, h1, h2⟩ := Ab (k := k) (n := n) (j := j) (by omega)
    exact ⟨i, by omega, by rw [gI he]; exact h2⟩
  ·rw [if_neg hn] at h ⊢
   obtain ⟨i, h1, h2⟩ := Ab (k := k) (n := n) (j := j) (by omega)
   exact ⟨i, by omega, h2⟩
theorem Jt {k : Nat → Rat} : ∀ {n : Nat}, (∀ i, i + 1 < n → k i ≤ k (i + 1)) → ∀ {j : Nat}, j + 1 < bz k n → cD k n j < cD k n (j + 1)
 | 0, _, j, h => by simp [bz] at h
 | n + 1, hs, j, h => by
  have ih : ∀ {j : Nat}, j + 1 < bz k n → cD k n j < cD k n (j + 1) := fun {j} hj => Jt (k := k) (n := n) (fun i hi => hs i (by omega)) hj
  rw [cD]
  rw [bz] at h
  by_cases hn : gl k n
  ·rw [if_pos hn] at h ⊢
   by_cases he : j + 1 = bz k n
   ·rw [he, lJ, gI (by omega)]
    cases n with
    | zero => simp [bz] at he
    | succ m =>
     have := (pT (k := k) (n := m)).2.2
     rw [show j = bz k (m + 1) - 1 by omega, this]
     have h1 := hs m (by omega)
     unfold gl at hn
     have h2 : k (m + 1) ≠ k m := by rcases hn with hn | hn; omega; exact hn
     grind
   ·rw [gI (by omega), gI (by omega)]
    exact ih (by omega)
  ·rw [if_neg hn] at h ⊢
   exact ih (by omega)
theorem Aa {k : Nat → Rat} {n : Nat} (hs : ∀ i, i + 1 < n → k i ≤ k (i + 1)) {i : Nat} : ∀ {j : Nat}, i < j → j < bz k n → cD k n i < cD k n j
 | 0, h, _ => by omega
 | j + 1, h, hj => by
  have h1 := Jt hs (j := j) hj
  by_cases he : i = j
  ·subst he; exact h1
  ·have := Aa hs (i := i) (j := j) (by omega) (by omega)
   grind
def xe (n : Nat) (k : Nat → Rat) : Prop := ∀ i, i + 1 < n → k i ≤ k (i + 1)
def pQ (n : Nat) (k : Nat → Rat) (p : Nat) (t : Rat) : Prop := ((t = k 0 ∨ t = k (n - 1)) ∧ dn k t n ≠ p + 1) ∨ (¬ (t = k 0 ∨ t = k (n - 1)) ∧ p < dn k t n)
instance {n : Nat} {k : Nat → Rat} {p : Nat} {t : Rat} : Decidable (pQ n k p t) := inferInstanceAs (Decidable (((t = k 0 ∨ t = k (n - 1)) ∧ dn k t n ≠ p + 1) ∨ (¬ (t = k 0 ∨ t = k (n - 1)) ∧ p < dn k t n)))
def qx (n : Nat) (k : Nat → Rat) (p : Nat) : Prop := xe n k ∧ k 0 ≠ k (n - 1) ∧ ∀ j, j < bz k n → ¬ pQ n k p (cD k n j)
def lM (n : Nat) (k : Nat → Rat) (p j : Nat) : Prop := ((j = 0 ∨ j + 1 = bz k n) ∧ dn k (cD k n j) n ≠ p + 1) ∨ p + 1 < dn k (cD k n j) n ∨ (0 < j ∧ j + 1 < bz k n ∧ p < dn k (cD k n j) n)
theorem MA {n : Nat} {k : Nat → Rat} (hn : 0 < n) (hs : xe n k) : bz k n < 2 ↔ k 0 = k (n - 1) := by
 obtain ⟨m, rfl⟩ : ∃ m, n = m + 1 := ⟨n - 1, by omega⟩
 obtain ⟨h1, h2, h3⟩ := pT (k := k) (n := m)
 simp only [Nat.add_sub_cancel]
 constructor
 ·intro h
  rw [show bz k (m + 1) = 1 by omega] at h3
  rw [← h2, ← h3]
 ·intro h
  have key : ¬ (0 < bz k (m + 1) - 1) := fun hlt => by
   have := Aa hs hlt (by omega)
   rw [h2, h3] at this
   grind
  omega
theorem G6 {n : Nat} {k : Nat → Rat} {p j : Nat} (hn : 0 < n) (hs : xe n k) (hj : j < bz k n) : lM n k p j ↔ pQ n k p (cD k n j) := by
 obtain ⟨m, rfl⟩ : ∃ m, n = m + 1 := ⟨n - 1, by omega⟩
 obtain ⟨h1, h2, h3⟩ := pT (k := k) (n := m)
 have e0 : j = 0 ↔ cD k (m + 1) j = k 0 := by
  constructor
  ·intro h; rw [h, h2]
  ·intro h
   by_cases hj0 : j = 0
   ·exact hj0
   ·have := Aa hs (i := 0) (j := j) (by omega) hj
    rw [h2, h] at this; grind
 have e1 : j + 1 = bz k (m + 1) ↔ cD k (m + 1) j = k m := by
  constructor
  ·intro h; rw [← h3, ← h]; rfl
  ·intro h
   by_cases hj0 : j + 1 = bz k (m + 1)
   ·exact hj0
   ·have := Aa hs (i := j) (j := bz k (m + 1) - 1) (by omega) (by omega)
    rw [h3, h] at this; grind
 unfold lM pQ
 simp only [Nat.add_sub_cancel]
 rw [← e0, ← e1]
 generalize dn k (cD k (m + 1) j) (m + 1) = c
 omega
open Classical in
noncomputable def eP (n : Nat) (k : Nat → Rat) (p : Int) : Int :=
 if p < 1 ∨ 6 < p then 1 else if (n : Int) < 2 * p + 2 then 5 else if 40 < (n : Int) - p - 1 then 2 else if qx n k p.toNat then 0 else 5
theorem Jn {k : Nat → Rat} {t : Rat} {a b : Nat} (hab : a ≤ b) : ∀ {n : Nat}, (∀ i, i < n → k i = t → a ≤ i ∧ i < b) → dn k t n ≤ min n b - min n a
 | 0, _ => by simp [dn]
 | n + 1, h => by
  have ih := Jn (k := k) (t := t) hab (n := n) fun i hi => h i (by omega)
  rw [dn]
  split
  ·rename_i e
   have := h n (by omega) e
   omega
  ·omega
theorem Dk {k : Nat → Rat} {t : Rat} {a b : Nat} (hab : a ≤ b) : ∀ {n : Nat}, (∀ i, i < n → (k i = t ↔ a ≤ i ∧ i < b)) → dn k t n = min n b - min n a
 | 0, _ => by simp [dn]
 | n + 1, h => by
  have ih := Dk (k := k) (t := t) hab (n := n) fun i hi => h i (by omega)
  rw [dn]
  have := h n (by omega)
  split
  ·rename_i e
   have := this.1 e
   omega
  ·rename_i e
   have : ¬ (a ≤ n ∧ n < b) := fun h => e (this.2 h)
   omega
theorem least {q : Nat → Prop} [DecidablePred q] : ∀ {n : Nat}, q n → ∃ a, a ≤ n ∧ q a ∧ ∀ i, i < a → ¬ q i
 | 0, h => ⟨0, Nat.le_refl _, h, fun i hi => by omega⟩
 | n + 1, h => by
  by_cases h2 : ∃ i, i < n + 1 ∧ q i
  ·obtain ⟨i, hi, hq⟩ := h2
   obtain ⟨a, h3, h4, h5⟩ := least_lt hi hq
   exact ⟨a, by omega, h4, h5⟩
  ·exact ⟨n + 1, Nat.le_refl _, h, fun i hi hq => h2 ⟨i, hi, hq⟩⟩
where
 least_lt {q : Nat → Prop} [DecidablePred q] : ∀ {n i : Nat}, i < n → q i → ∃ a, a < n ∧ q a ∧ ∀ i, i < a → ¬ q i
 | 0, i, h, _ => by omega
 | n + 1, i, h, hq => by
  by_cases h2 : ∃ j, j < n ∧ q j
  ·obtain ⟨j, hj, hq⟩ := h2
   obtain ⟨a, h3, h4, h5⟩ := least_lt hj hq
   exact ⟨a, by omega, h4, h5⟩
  ·have : i = n := by
    by_cases e : i = n
    ·exact e
    ·exact absurd ⟨i, by omega, hq⟩ h2
   subst this
   exact ⟨i, h, hq, fun j hj hq => h2 ⟨j, hj, hq⟩⟩
theorem Kn.qx {n p : Nat} {k : Nat → Rat} (h : Kn n p k) : qx n k p := by
 have hp := h.p1
 have hl := h.len
 have hw : k p < k (p + 1) := by
  have := h.mult 1 (by omega) (by omega)
  rw [h.first 1 (by omega), show 1 + p = p + 1 by omega] at this
  rw [h.first p (by omega)]; exact this
 have hw2 : k (n - p - 2) < k (n - p - 1) := by
  by_cases he : n = 2 * p + 2
  ·have e1 : n - p - 2 = p := by omega
   have e2 : n - p - 1 = p + 1 := by omega
   rw [e1, e2]; exact hw
  ·have := h.mult (n - p - 2) (by omega) (by omega)
   rw [h.last (n - p - 2 + p) (by omega) (by omega), ← h.last (n - p - 1) (by omega) (by omega)] at this
   exact this
 have m : ∀ {i j}, i ≤ j → j < n → k i ≤ k j := fun hi hj => jC h.sorted hi hj
 have h0l : k 0 < k (n - 1) := by
  have a := m (i := p + 1) (j := n - 1) (by omega) (by omega)
  have b := h.first p (Nat.le_refl _)
  grind
 refine ⟨h.sorted, by grind, fun j hj => ?_⟩
 obtain ⟨i, hi, e⟩ := Ab hj
 rw [e]
 unfold pQ
 by_cases h0 : k i = k 0
 ·have : dn k (k i) n = p + 1 := by
   rw [Dk (a := 0) (b := p + 1) (by omega) (n := n) fun x hx => ?_]
   ·omega
   ·rw [h0]
    constructor
    ·intro ex
     refine ⟨by omega, ?_⟩
     by_cases hx2 : x < p + 1
     ·exact hx2
     ·have := m (i := p + 1) (j := x) (by omega) hx
      have b := h.first p (Nat.le_refl _)
      grind
    ·intro hx2; exact h.first x (by omega)
  rw [this]
  simp [h0]
 ·by_cases h1 : k i = k (n - 1)
  ·have : dn k (k i) n = p + 1 := by
    rw [Dk (a := n - p - 1) (b := n) (by omega) (n := n) fun x hx => ?_]
    ·omega
    ·rw [h1]
     constructor
     ·intro ex
      refine ⟨?_, hx⟩
      by_cases hx2 : n - p - 1 ≤ x
      ·exact hx2
      ·have := m (i := x) (j := n - p - 2) (by omega) (by omega)
       have b := h.last (n - p - 1) (by omega) (by omega)
       grind
     ·intro hx2; exact h.last x (by omega) hx
   rw [this]
   simp [h1]
  ·obtain ⟨a, ha, e, hlt⟩ := least (q := fun x => k x = k i) (n := i) rfl
   have ha0 : p < a := by
    by_cases hx : p < a
    ·exact hx
    ·have := h.first a (by omega)
     rw [this] at e; exact absurd e.symm h0
   have hal : a + p + 1 < n := by
    by_cases hx : a + p + 1 < n
    ·exact hx
    ·have := h.last a (by omega) (by omega)
     rw [this] at e; exact absurd e.symm h1
   have hm := h.mult a (by omega) hal
   have : dn k (k i) n ≤ min n (a + p) - min n a := by
    refine Jn (by omega) fun x hx ex => ⟨?_, ?_⟩
    ·by_cases hx2 : a ≤ x
     ·exact hx2
     ·exact absurd ex (hlt x (by omega))
    ·by_cases hx2 : x < a + p
     ·exact hx2
     ·have := m (i := a + p) (j := x) (by omega) hx
      grind
   intro hb
   rcases hb with ⟨h2, _⟩ | ⟨_, h2⟩
   ·exact h2.elim h0 h1
   ·omega
theorem Kn.AW {n p : Nat} {k : Nat → Rat} (h : Kn n p k) (hp6 : p ≤ 6) (hn : n ≤ p + 41) : eP n k p = 0 := by
 have hp := h.p1
 have hl := h.len
 unfold eP
 rw [if_neg (by omega), if_neg (by omega), if_neg (by omega), if_pos (by rw [Int.toNat_natCast]; exact h.qx)]
end Go.Am.B
