/- Insertion sort of what lies in a function; a class put in order. -/
import Derived.Test.YtjhhblmbiaghfaaGreatC10
set_option linter.unusedVariables false
namespace Go.Am
def fE {α : Type} (g : Nat → α) (j : Nat) : Nat → α := fun i => if i = j then g (j + 1) else if i = j + 1 then g j else g i
def iy (g : Nat → Int) : Nat → (Nat → Int)
 | 0 => g
 | j + 1 => if g (j + 1) < g j then iy (fE g j) j else g
def eP (g : Nat → Int) : Nat → (Nat → Int)
 | 0 => g
 | m + 1 => iy (eP g m) (m + 1)
def Re (m : Nat) (g h : Nat → Int) : Prop := ∃ σ τ : Nat → Nat, (∀ i, h i = g (σ i)) ∧ (∀ i, σ (τ i) = i) ∧ (∀ i, τ (σ i) = i) ∧ (∀ i, i ≤ m → σ i ≤ m) ∧ ∀ i, i ≤ m → τ i ≤ m
theorem Re.refl {m : Nat} {g : Nat → Int} : Re m g g := ⟨id, id, fun _ => rfl, fun _ => rfl, fun _ => rfl, fun _ h => h, fun _ h => h⟩
theorem Re.trans {m : Nat} {g h l : Nat → Int} (a : Re m g h) (b : Re m h l) : Re m g l := by
 obtain ⟨σ, τ, a1, a2, a3, a4, a5⟩ := a
 obtain ⟨σ', τ', b1, b2, b3, b4, b5⟩ := b
 exact ⟨fun i => σ (σ' i), fun i => τ' (τ i), fun i => by rw [b1, a1], fun i => by dsimp only; rw [b2, a2], fun i => by dsimp only; rw [a3, b3], fun i h => a4 _ (b4 _ h), fun i h => b5 _ (a5 _ h)⟩
def l7 (j i : Nat) : Nat := if i = j then j + 1 else if i = j + 1 then j else i
theorem Fi {j i : Nat} : l7 j (l7 j i) = i := by
 unfold l7
 by_cases h : i = j
 ·subst h; simp
 ·by_cases h' : i = j + 1
  ·subst h'; simp
  ·simp [h, h']
theorem D4 {j m i : Nat} (hj : j + 1 ≤ m) (h : i ≤ m) : l7 j i ≤ m := by unfold l7; split <;> (try split) <;> omega
theorem Re.fE {m j : Nat} {g : Nat → Int} (hj : j + 1 ≤ m) : Re m g (fE g j) :=
 ⟨l7 j, l7 j, fun i => by unfold Go.Am.fE l7; split <;> (try split) <;> rfl, fun _ => Fi, fun _ => Fi, fun _ h => D4 hj h, fun _ h => D4 hj h⟩
theorem FY : ∀ {j m : Nat} {g : Nat → Int}, j ≤ m → Re m g (iy g j)
 | 0, _, _, _ => .refl
 | j + 1, m, g, h => by
  unfold iy
  split
  ·exact (Re.fE h).trans (FY (by omega))
  ·exact .refl
theorem Eg {g : Nat → Int} : ∀ {k m : Nat}, k ≤ m → Re m g (eP g k)
 | 0, _, _ => .refl
 | k + 1, _, h => (Eg (k := k) (by omega)).trans (FY h)
def oY (g : Nat → Int) (m : Nat) : Prop := ∀ i k, i < k → k ≤ m → g i ≤ g k
theorem Dj : ∀ {j : Nat} {g : Nat → Int}, (∀ i k, i < k → k < j → g i ≤ g k) → oY (iy g j) j ∧ (∀ i, j < i → iy g j i = g i) ∧ ∀ p : Int → Prop, (∀ i, i ≤ j → p (g i)) → ∀ i, i ≤ j → p (iy g j i)
 | 0, g, _ => ⟨fun i k h1 h2 => by omega, fun _ _ => rfl, fun _ h => h⟩
 | j + 1, g, h => by
  unfold iy
  by_cases hlt : g (j + 1) < g j
  ·rw [if_pos hlt]
   have e1 : fE g j j = g (j + 1) := by simp [fE]
   have e2 : fE g j (j + 1) = g j := by simp [fE]
   have e3 : ∀ i, i < j → fE g j i = g i := fun i hi => by unfold fE; rw [if_neg (by omega), if_neg (by omega)]
   have e4 : ∀ i, j + 1 < i → fE g j i = g i := fun i hi => by unfold fE; rw [if_neg (by omega), if_neg (by omega)]
   obtain ⟨a, b, c⟩ := Dj (j := j) (g := fE g j) fun i k h1 h2 => by rw [e3 i (by omega), e3 k h2]; exact h i k h1 (by omega)
   have top : ∀ i, i ≤ j → iy (fE g j) j i ≤ g j := c (fun x => x ≤ g j) fun i hi => by
    by_cases hij : i = j
    ·subst hij; rw [e1]; omega
    ·rw [e3 i (by omega)]; exact h i j (by omega) (by omega)
   refine ⟨fun i k h1 h2 => ?_, fun i hi => by rw [b i (by omega), e4 i hi], fun p hp i hi => ?_⟩
   ·by_cases hk : k = j + 1
    ·subst hk; rw [b (j + 1) (by omega), e2]; exact top i (by omega)
    ·exact a i k h1 (by omega)
   ·by_cases hij : i = j + 1
    ·subst hij; rw [b (j + 1) (by omega), e2]; exact hp j (by omega)
    ·refine c p (fun l hl => ?_) i (by omega)
     by_cases hlj : l = j
     ·subst hlj; rw [e1]; exact hp _ (by omega)
     ·rw [e3 l (by omega)]; exact hp l (by omega)
  ·rw [if_neg hlt]
   refine ⟨fun i k h1 h2 => ?_, fun _ _ => rfl, fun _ h => h⟩
   by_cases hk : k = j + 1
   ·subst hk
    by_cases hij : i = j
    ·subst hij; omega
    ·have := h i j (by omega) (by omega); omega
   ·exact h i k h1 (by omega)
theorem Eb {g : Nat → Int} : ∀ m, oY (eP g m) m
 | 0 => fun i k h1 h2 => by omega
 | m + 1 => (Dj (j := m + 1) (g := eP g m) fun i k h1 h2 => Eb m i k h1 (by omega)).1
theorem Zl {C : List Nat} {g : Nat → Int} (hC : C.Nodup) (hg : ∀ i, i < C.length → g i = (C.getD i 0 : Nat)) {m : Nat} (hm : C.length = m + 1) :
  (j5 C).length = C.length ∧ ∀ i, i < C.length → eP g m i = ((j5 C).getD i 0 : Nat) := by
 obtain ⟨σ, τ, h1, h2, h3, h4, h5⟩ := Eg (g := g) (Nat.le_refl m)
 have hv : ∀ i, i ≤ m → eP g m i = (C.getD (σ i) 0 : Nat) := fun i hi => by rw [h1, hg _ (by have := h4 i hi; omega)]
 have hget : ∀ i, i ≤ m → ∃ h : σ i < C.length, C.getD (σ i) 0 = C[σ i] := fun i hi => ⟨by have := h4 i hi; omega, by rw [List.getD_eq_getElem?_getD, List.getElem?_eq_getElem (by have := h4 i hi; omega)]; rfl⟩
 have hX : (List.range (m + 1)).map (fun i => C.getD (σ i) 0) = j5 C := by
  refine Bh ?_ (zW hC) fun x => ?_
  ·rw [List.pairwise_map]
   refine List.pairwise_lt_range.imp_of_mem fun {a b} ha hb hab => ?_
   have ha := List.mem_range.1 ha
   have hb := List.mem_range.1 hb
   have hle := Eb (g := g) m a b hab (by omega)
   rw [hv a (by omega), hv b (by omega)] at hle
   have hne : C.getD (σ a) 0 ≠ C.getD (σ b) 0 := fun e => by
    obtain ⟨q1, q2⟩ := hget a (by omega)
    obtain ⟨r1, r2⟩ := hget b (by omega)
    rw [q2, r2] at e
    have hp := List.pairwise_iff_getElem.1 hC
    have hne : σ a ≠ σ b := fun e2 => by have := h3 a; rw [e2, h3 b] at this; omega
    rcases Nat.lt_or_gt_of_ne hne with hl | hl
    ·exact hp _ _ q1 r1 hl e
    ·exact hp _ _ r1 q1 hl e.symm
   omega
  ·rw [yg]
   simp only [List.mem_map, List.mem_range]
   constructor
   ·rintro ⟨i, hi, rfl⟩
    obtain ⟨q1, q2⟩ := hget i (by omega)
    rw [q2]; exact List.getElem_mem q1
   ·intro hx
    obtain ⟨k, hk, rfl⟩ := List.getElem_of_mem hx
    refine ⟨τ k, by have := h5 k (by omega); omega, ?_⟩
    rw [h2, List.getD_eq_getElem?_getD, List.getElem?_eq_getElem hk]; rfl
 rw [← hX]
 refine ⟨by simp [hm], fun i hi => ?_⟩
 rw [hv i (by omega), List.getD_eq_getElem?_getD, List.getD_eq_getElem?_getD, List.getElem?_map, List.getElem?_range (by omega)]
 simp [List.getD_eq_getElem?_getD]
end Go.Am
