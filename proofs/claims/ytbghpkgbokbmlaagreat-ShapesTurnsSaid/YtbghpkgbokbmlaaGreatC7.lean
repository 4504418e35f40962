/- Plain laws of fM: multiplicities, different fM, which lists are valid. -/
import Derived.Test.YtbghpkgbokbmlaaGreatC4
set_option linter.unusedVariables false
namespace Go.Am.B
def dc (k : Nat → Rat) (t : Rat) : Nat → Nat
 | 0 => 0
 | i + 1 => dc k t i + if k i = t then 1 else 0
def fZ (k : Nat → Rat) (i : Nat) : Prop := i = 0 ∨ k i ≠ k (i - 1)
instance {k : Nat → Rat} {i : Nat} : Decidable (fZ k i) := inferInstanceAs (Decidable (i = 0 ∨ k i ≠ k (i - 1)))
def bw (k : Nat → Rat) : Nat → Nat
 | 0 => 0
 | i + 1 => bw k i + if fZ k i then 1 else 0
def cz (k : Nat → Rat) : Nat → Nat → Rat
 | 0 => fun _ => 0
 | i + 1 => if fZ k i then gE (cz k i) (bw k i) (k i) else cz k i
theorem J1 {k : Nat → Rat} {t : Rat} : ∀ {n : Nat}, dc k t n ≤ n
 | 0 => Nat.le_refl _
 | n + 1 => by
  have := J1 (k := k) (t := t) (n := n)
  unfold dc; split <;> omega
theorem zl {k : Nat → Rat} : ∀ {n : Nat}, bw k n ≤ n
 | 0 => Nat.le_refl _
 | n + 1 => by
  have := zl (k := k) (n := n)
  unfold bw; split <;> omega
theorem oa {k : Nat → Rat} : ∀ {n : Nat}, 0 < bw k (n + 1) ∧ cz k (n + 1) 0 = k 0 ∧ cz k (n + 1) (bw k (n + 1) - 1) = k n
 | 0 => by simp [bw, cz, fZ, gE]
 | n + 1 => by
  obtain ⟨h1, h2, h3⟩ := oa (k := k) (n := n)
  rw [bw, cz]
  by_cases h : fZ k (n + 1)
  ·rw [if_pos h, if_pos h]
   refine ⟨by omega, by rw [gp (by omega)]; exact h2, ?_⟩
   rw [show bw k (n + 1) + 1 - 1 = bw k (n + 1) by omega, kG]
  ·rw [if_neg h, if_neg h]
   refine ⟨by omega, h2, ?_⟩
   show cz k (n + 1) (bw k (n + 1) - 1) = _
   rw [h3]
   unfold fZ at h
   have : k (n + 1) = k (n + 1 - 1) := by
    by_cases e : k (n + 1) = k (n + 1 - 1)
    ·exact e
    ·exact absurd (.inr e) h
   rw [this]; rfl
theorem zE {k : Nat → Rat} : ∀ {n j : Nat}, j < bw k n → ∃ i, i < n ∧ cz k n j = k i
 | 0, j, h => by simp [bw] at h
 | n + 1, j, h => by
  rw [cz]
  rw [bw] at h
  by_cases hn : fZ k n
  ·rw [if_pos hn] at h ⊢
   by_cases he : j = bw k n
   ·subst he; exact ⟨n, by omega, kG⟩
   ·obtain ⟨i, h1, h2⟩ := zE (k := k) (n := n) (j := j) (by omega)
    exact ⟨i, by omega, by rw [gp he]; exact h2⟩
  ·rw [if_neg hn] at h ⊢
   obtain ⟨i, h1, h2⟩ := zE (k := k) (n := n) (j := j) (by omega)
   exact ⟨i, by omega, h2⟩
theorem HP {k : Nat → Rat} : ∀ {n : Nat}, (∀ i, i + 1 < n → k i ≤ k (i + 1)) → ∀ {j : Nat}, j + 1 < bw k n → cz k n j < cz k n (j + 1)
 | 0, _, j, h => by simp [bw] at h
 | n + 1, hs, j, h => by
  have ih : ∀ {j : Nat}, j + 1 < bw k n → cz k n j < cz k n (j + 1) := fun {j} hj => HP (k := k) (n := n) (fun i hi => hs i (by omega)) hj
  rw [cz]
  rw [bw] at h
  by_cases hn : fZ k n
  ·rw [if_pos hn] at h ⊢
   by_cases he : j + 1 = bw k n
   ·rw [he, kG, gp (by omega)]
    cases n with
    | zero => simp [bw] at he
    | succ m =>
     have := (oa (k := k) (n := m)).2.2
     rw [show j = bw k (m + 1) - 1 by omega, this]
     have h1 := hs m (by omega)
     unfold fZ at hn
     have h2 : k (m + 1) ≠ k m := by rcases hn with hn | hn; omega; exact hn
     grind
   ·rw [gp (by omega), gp (by omega)]
    exact ih (by omega)
  ·rw [if_neg hn] at h ⊢
   exact ih (by omega)
theorem x4 {k : Nat → Rat} {n : Nat} (hs : ∀ i, i + 1 < n → k i ≤ k (i + 1)) {i : Nat} : ∀ {j : Nat}, i < j → j < bw k n → cz k n i < cz k n j
 | 0, h, _ => by omega
 | j + 1, h, hj => by
  have h1 := HP hs (j := j) hj
  by_cases he : i = j
  ·subst he; exact h1
  ·have := x4 hs (i := i) (j := j) (by omega) (by omega)
   grind
def x7 (n : Nat) (k : Nat → Rat) : Prop := ∀ i, i + 1 < n → k i ≤ k (i + 1)
def oZ (n : Nat) (k : Nat → Rat) (p : Nat) (t : Rat) : Prop := ((t = k 0 ∨ t = k (n - 1)) ∧ dc k t n ≠ p + 1) ∨ (¬ (t = k 0 ∨ t = k (n - 1)) ∧ p < dc k t n)
instance {n : Nat} {k : Nat → Rat} {p : Nat} {t : Rat} : Decidable (oZ n k p t) := inferInstanceAs (Decidable (((t = k 0 ∨ t = k (n - 1)) ∧ dc k t n ≠ p + 1) ∨ (¬ (t = k 0 ∨ t = k (n - 1)) ∧ p < dc k t n)))
def qi (n : Nat) (k : Nat → Rat) (p : Nat) : Prop := x7 n k ∧ k 0 ≠ k (n - 1) ∧ ∀ j, j < bw k n → ¬ oZ n k p (cz k n j)
def lI (n : Nat) (k : Nat → Rat) (p j : Nat) : Prop := ((j = 0 ∨ j + 1 = bw k n) ∧ dc k (cz k n j) n ≠ p + 1) ∨ p + 1 < dc k (cz k n j) n ∨ (0 < j ∧ j + 1 < bw k n ∧ p < dc k (cz k n j) n)
theorem Qj {n : Nat} {k : Nat → Rat} (hn : 0 < n) (hs : x7 n k) : bw k n < 2 ↔ k 0 = k (n - 1) := by
 obtain ⟨m, rfl⟩ : ∃ m, n = m + 1 := ⟨n - 1, by omega⟩
 obtain ⟨h1, h2, h3⟩ := oa (k := k) (n := m)
 simp only [Nat.add_sub_cancel]
 constructor
 ·intro h
  rw [show bw k (m + 1) = 1 by omega] at h3
  rw [← h2, ← h3]
 ·intro h
  have key : ¬ (0 < bw k (m + 1) - 1) := fun hlt => by
   have := x4 hs hlt (by omega)
   rw [h2, h3] at this
   grind
  omega
theorem EI {n : Nat} {k : Nat → Rat} {p j : Nat} (hn : 0 < n) (hs : x7 n k) (hj : j < bw k n) : lI n k p j ↔ oZ n k p (cz k n j) := by
 obtain ⟨m, rfl⟩ : ∃ m, n = m + 1 := ⟨n - 1, by omega⟩
 obtain ⟨h1, h2, h3⟩ := oa (k := k) (n := m)
 have e0 : j = 0 ↔ cz k (m + 1) j = k 0 := by
  constructor
  ·intro h; rw [h, h2]
  ·intro h
   by_cases hj0 : j = 0
   ·exact hj0
   ·have := x4 hs (i := 0) (j := j) (by omega) hj
    rw [h2, h] at this; grind
 have e1 : j + 1 = bw k (m + 1) ↔ cz k (m + 1) j = k m := by
  constructor
  ·intro h; rw [← h3, ← h]; rfl
  ·intro h
   by_cases hj0 : j + 1 = bw k (m + 1)
   ·exact hj0
   ·have := x4 hs (i := j) (j := bw k (m + 1) - 1) (by omega) (by omega)
    rw [h3, h] at this; grind
 unfold lI oZ
 simp only [Nat.add_sub_cancel]
 rw [← e0, ← e1]
 generalize dc k (cz k (m + 1) j) (m + 1) = c
 omega
open Classical in
noncomputable def eP (n : Nat) (k : Nat → Rat) (p : Int) : Int :=
 if p < 1 ∨ 6 < p then 1 else if (n : Int) < 2 * p + 2 then 5 else if 40 < (n : Int) - p - 1 then 2 else if qi n k p.toNat then 0 else 5
theorem JN {k : Nat → Rat} {t : Rat} {a b : Nat} (hab : a ≤ b) : ∀ {n : Nat}, (∀ i, i < n → k i = t → a ≤ i ∧ i < b) → dc k t n ≤ min n b - min n a
 | 0, _ => by simp [dc]
 | n + 1, h => by
  have ih := JN (k := k) (t := t) hab (n := n) fun i hi => h i (by omega)
  rw [dc]
  split
  ·rename_i e
   have := h n (by omega) e
   omega
  ·omega
theorem zp {k : Nat → Rat} {t : Rat} {a b : Nat} (hab : a ≤ b) : ∀ {n : Nat}, (∀ i, i < n → (k i = t ↔ a ≤ i ∧ i < b)) → dc k t n = min n b - min n a
 | 0, _ => by simp [dc]
 | n + 1, h => by
  have ih := zp (k := k) (t := t) hab (n := n) fun i hi => h i (by omega)
  rw [dc]
  have := h n (by omega)
  split
  ·rename_i e
   have := this.1 e
   omega
  ·rename_i e
   have : ¬ (a ≤ n ∧ n < b) := fun h => e (this.2 h)
   omega
theorem least {q : Nat → Prop} [DecidablePred q] : ∀ {n : Nat}, q n → ∃ a, a ≤ n ∧ q a ∧ ∀ i, i < a → ¬ q i
 | 0, h => ⟨0, Nat.le_refl _, h, fun i hi => by omega⟩
 | n + 1, h => by
  by_cases h2 : ∃ i, i < n + 1 ∧ q i
  ·obtain ⟨i, hi, hq⟩ := h2
   obtain ⟨a, h3, h4, h5⟩ := least_lt hi hq
   exact ⟨a, by omega, h4, h5⟩
  ·exact ⟨n + 1, Nat.le_refl _, h, fun i hi hq => h2 ⟨i, hi, hq⟩⟩
where
 least_lt {q : Nat → Prop} [DecidablePred q] : ∀ {n i : Nat}, i < n → q i → ∃ a, a < n ∧ q a ∧ ∀ i, i < a → ¬ q i
 | 0, i, h, _ => by omega
 | n + 1, i, h, hq => by
  by_cases h2 : ∃ j, j < n ∧ q j
  ·obtain ⟨j, hj, hq⟩ := h2
   obtain ⟨a, h3, h4, h5⟩ := least_lt hj hq
   exact ⟨a, by omega, h4, h5⟩
  ·have : i = n := by
    by_cases e : i = n
    ·exact e
    ·exact absurd ⟨i, by omega, hq⟩ h2
   subst this
   exact ⟨i, h, hq, fun j hj hq => h2 ⟨j, hj, hq⟩⟩
theorem Kn.qi {n p : Nat} {k : Nat → Rat} (h : Kn n p k) : qi n k p := by
 have hp := h.p1
 have hl := h.len
 have hw : k p < k (p + 1) := by
  have := h.mult 1 (by omega) (by omega)
  rw [h.first 1 (by omega), show 1 + p = p + 1 by omega] at this
  rw [h.first p (by omega)]; exact this
 have hw2 : k (n - p - 2) < k (n - p - 1) := by
  by_cases he : n = 2 * p + 2
  ·have e1 : n - p - 2 = p := by omega
   have e2 : n - p - 1 = p + 1 := by omega
   rw [e1, e2]; exact hw
  ·have := h.mult (n - p - 2) (by omega) (by omega)
   rw [h.last (n - p - 2 + p) (by omega) (by omega), ← h.last (n - p - 1) (by omega) (by omega)] at this
   exact this
 have m : ∀ {i j}, i ≤ j → j < n → k i ≤ k j := fun hi hj => jW h.sorted hi hj
 have h0l : k 0 < k (n - 1) := by
  have a := m (i := p + 1) (j := n - 1) (by omega) (by omega)
  have b := h.first p (Nat.le_refl _)
  grind
 refine ⟨h.sorted, by grind, fun j hj => ?_⟩
 obtain ⟨i, hi, e⟩ := zE hj
 rw [e]
 unfold oZ
 by_cases h0 : k i = k 0
 ·have : dc k (k i) n = p + 1 := by
   rw [zp (a := 0) (b := p + 1) (by omega) (n := n) fun x hx => ?_]
   ·omega
   ·rw [h0]
    constructor
    ·intro ex
     refine ⟨by omega, ?_⟩
     by_cases hx2 : x < p + 1
     ·exact hx2
     ·have := m (i := p + 1) (j := x) (by omega) hx
      have b := h.first p (Nat.le_refl _)
      grind
    ·intro hx2; exact h.first x (by omega)
  rw [this]
  simp [h0]
 ·by_cases h1 : k i = k (n - 1)
  ·have : dc k (k i) n = p + 1 := by
    rw [zp (a := n - p - 1) (b := n) (by omega) (n := n) fun x hx => ?_]
    ·omega
    ·rw [h1]
     constructor
     ·intro ex
      refine ⟨?_, hx⟩
      by_cases hx2 : n - p - 1 ≤ x
      ·exact hx2
      ·have := m (i := x) (j := n - p - 2) (by omega) (by omega)
       have b := h.last (n - p - 1) (by omega) (by omega)
       grind
     ·intro hx2; exact h.last x (by omega) hx
   rw [this]
   simp [h1]
  ·obtain ⟨a, ha, e, hlt⟩ := least (q := fun x => k x = k i) (n := i) rfl
   have ha0 : p < a := by
    by_cases hx : p < a
    ·exact hx
    ·have := h.first a (by omega)
     rw [this] at e; exact absurd e.symm h0
   have hal : a + p + 1 < n := by
    by_cases hx : a + p + 1 < n
    ·exact hx
    ·have := h.last a (by omega) (by omega)
     rw [this] at e; exact absurd e.symm h1
   have hm := h.mult a (by omega) hal
   have : dc k (k i) n ≤ min n (a + p) - min n a := by
    refine JN (by omega) fun x hx ex => ⟨?_, ?_⟩
    ·by_cases hx2 : a ≤ x
     ·exact hx2
     ·exact absurd ex (hlt x (by omega))
    ·by_cases hx2 : x < a + p
     ·exact hx2
     ·have := m (i := a + p) (j := x) (by omega) hx
      grind
   intro hb
   rcases hb with ⟨h2, _⟩ | ⟨_, h2⟩
   ·exact h2.elim h0 h1
   ·omega
theorem Kn.Fk {n p : Nat} {k : Nat → Rat} (h : Kn n p k) (hp6 : p ≤ 6) (hn : n ≤ p + 41) : eP n k p = 0 := by
 have hp := h.p1
 have hl := h.len
 unfold eP
 rw [if_neg (by omega), if_neg (by omega), if_neg (by omega), if_pos (by rw [Int.toNat_natCast]; exact h.qi)]
end Go.Am.B
