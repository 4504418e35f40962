/- The classes one after the other, and a list that says of each number in which class it lies. -/
import Derived.Test.YtjhhblmbiaghfaaC10
set_option linter.unusedVariables false
namespace Go.Am
section
variable {T : Nat → Nat → Bool} {m : Nat}
theorem Fx : (roots T m m).Pairwise (· < ·) := List.Pairwise.filter _ List.pairwise_lt_range
theorem oU {L : List Nat} {i : Nat} (h : i < L.length) : L.getD i 0 = L[i] := by
 rw [List.getD_eq_getElem?_getD, List.getElem?_eq_getElem h]; rfl
theorem y3 {L : List Nat} (hL : L.Pairwise (· < ·)) {i j : Nat} (hi : i < L.length) (hj : j < L.length) (h : L.getD i 0 = L.getD j 0) : i = j := by
 have hp := List.pairwise_iff_getElem.1 hL
 rw [oU hi, oU hj] at h
 rcases Nat.lt_trichotomy i j with hl | hl | hl
 ·have := hp i j hi hj hl; omega
 ·exact hl
 ·have := hp j i hj hi hl; omega
def bu (T : Nat → Nat → Bool) (m c : Nat) : List Nat := bV T m m ((roots T m m).getD c 0)
theorem mN {c a : Nat} : a ∈ bu T m c ↔ a < m ∧ bH T m a = (roots T m m).getD c 0 := uf
theorem Kw {c : Nat} : (bu T m c).length ≤ m := Hh
theorem jk {c k : Nat} (h : k < (bu T m c).length) : (bu T m c).getD k 0 < m ∧ bH T m ((bu T m c).getD k 0) = (roots T m m).getD c 0 := by
 rw [oU h]; exact mN.1 (List.getElem_mem h)
theorem Gw {c : Nat} (h : c < (roots T m m).length) : (roots T m m).getD c 0 < m ∧ bH T m ((roots T m m).getD c 0) = (roots T m m).getD c 0 := by
 rw [oU h]; exact B6.1 (List.getElem_mem h)
theorem CS {c : Nat} (h : c < (roots T m m).length) : 0 < (bu T m c).length := List.length_pos_of_mem (mN.2 (Gw h))
theorem Uo {c a : Nat} (h : a ∈ bu T m c) : ∃ k, k < (bu T m c).length ∧ (bu T m c).getD k 0 = a := by
 obtain ⟨k, hk, e⟩ := List.getElem_of_mem h
 exact ⟨k, hk, by rw [oU hk]; exact e⟩
theorem U4 {c d a : Nat} (hc : c < (roots T m m).length) (hd : d < (roots T m m).length) (h1 : a ∈ bu T m c) (h2 : a ∈ bu T m d) : c = d :=
 y3 Fx hc hd (by rw [← (mN.1 h1).2, ← (mN.1 h2).2])
theorem P7 (hs : ∀ i j, T i j = T j i) {a : Nat} (ha : a < m) : ∃ c, c < (roots T m m).length ∧ (roots T m m).getD c 0 = bH T m a := by
 have : bH T m a ∈ roots T m m := B6.2 ⟨Nat.lt_of_le_of_lt qq ha, Dz hs ha⟩
 obtain ⟨c, hc, e⟩ := List.getElem_of_mem this
 exact ⟨c, hc, by rw [oU hc]; exact e⟩
structure OI (T : Nat → Nat → Bool) (m i k : Nat) (o : Nat → Int) : Prop where
 A : ∀ c, c < i → ∀ a, a ∈ bu T m c → o a = c + 1
 B : ∀ b, b < k → o ((bu T m i).getD b 0) = i + 1
 Z : ∀ a, a < m → (∀ c, c < i → a ∉ bu T m c) → (∀ b, b < k → (bu T m i).getD b 0 ≠ a) → o a = 0
theorem OI.zero {o : Nat → Int} (h : ∀ a, a < m → o a = 0) : OI T m 0 0 o := ⟨fun c hc => by omega, fun b hb => by omega, fun a ha _ _ => h a ha⟩
variable {i k : Nat} {o : Nat → Int}
theorem OI.other (hi : i < (roots T m m).length) (hk : k < (bu T m i).length) : (∀ c, c < i → (bu T m i).getD k 0 ∉ bu T m c) ∧ ∀ b, b < k → (bu T m i).getD b 0 ≠ (bu T m i).getD k 0 := by
 refine ⟨fun c hc h => ?_, fun b hb h => ?_⟩
 ·have := U4 (by omega) hi h (mN.2 (jk hk)); omega
 ·have := y3 (L := bu T m i) y4 (by omega) hk h; omega
theorem OI.at (h : OI T m i k o) (hi : i < (roots T m m).length) (hk : k < (bu T m i).length) : o ((bu T m i).getD k 0) = 0 :=
 h.Z _ (jk hk).1 (OI.other hi hk).1 (OI.other hi hk).2
theorem OI.step (h : OI T m i k o) (hi : i < (roots T m m).length) (hk : k < (bu T m i).length) : OI T m i (k + 1) (fun a => if a = (bu T m i).getD k 0 then (i : Int) + 1 else o a) := by
 obtain ⟨g1, g2⟩ := OI.other hi hk
 refine ⟨fun c hc a ha => ?_, fun b hb => ?_, fun a ha h1 h2 => ?_⟩
 ·rw [if_neg (fun e : a = (bu T m i).getD k 0 => g1 c hc (e ▸ ha))]
  exact h.A c hc a ha
 ·by_cases hbk : b = k
  ·subst hbk; rw [if_pos rfl]
  ·rw [if_neg (g2 b (by omega))]
   exact h.B b (by omega)
 ·rw [if_neg (fun e : a = (bu T m i).getD k 0 => h2 k (by omega) e.symm)]
  exact h.Z a ha h1 fun b hb => h2 b (by omega)
theorem OI.next (h : OI T m i k o) (hk : k = (bu T m i).length) : OI T m (i + 1) 0 o := by
 subst hk
 refine ⟨fun c hc a ha => ?_, fun b hb => by omega, fun a ha h1 _ => h.Z a ha (fun c hc => h1 c (by omega)) fun b hb e => h1 i (by omega) (by rw [← e]; exact mN.2 (jk hb))⟩
 by_cases hci : c = i
 ·subst hci
  obtain ⟨b, hb, rfl⟩ := Uo ha
  exact h.B b hb
 ·exact h.A c (by omega) a ha
theorem OI.done (hs : ∀ i j, T i j = T j i) (h : OI T m i 0 o) (hi : i = (roots T m m).length) {a : Nat} (ha : a < m) : ∃ c, c < (roots T m m).length ∧ (roots T m m).getD c 0 = bH T m a ∧ o a = c + 1 := by
 obtain ⟨c, hc, e⟩ := P7 hs ha
 exact ⟨c, hc, e, h.A c (by omega) a (mN.2 ⟨ha, e.symm⟩)⟩
theorem SZ (hs : ∀ i j, T i j = T j i) {a : Nat} (ha : a < m) (h : ∀ b, b < m → b ≠ a → T a b = false) : (bV T m m (bH T m a)).length = 1 := by
 have all : ∀ b, b ∈ bV T m m (bH T m a) → b = a := fun b hb => by
  obtain ⟨hb, e⟩ := uf.1 hb
  have hr := (pT (T := T) hs ha hb).2 e.symm
  have := ot (T := T) (n := m) (E := fun c d => c = a ↔ d = a) (fun _ => Iff.rfl) (fun _ _ _ _ p q => p.trans q) (fun c d hc hd ht => by
   constructor
   ·intro e; subst e
    exact Decidable.byContradiction fun hne => by rw [h d hd hne] at ht; simp at ht
   ·intro e; subst e
    exact Decidable.byContradiction fun hne => by rw [hs, h c hc hne] at ht; simp at ht) (Nat.le_refl m) ha hb hr
  exact this.1 rfl
 have hm : a ∈ bV T m m (bH T m a) := uf.2 ⟨ha, rfl⟩
 have hnd := Mc (T := T) (n := m) (m := m) (r := bH T m a)
 generalize bV T m m (bH T m a) = C at *
 match C, hm, hnd, all with
 | [_], _, _, _ => rfl
 | b :: c :: l, _, hnd, all =>
  have e1 := all b (by simp)
  have e2 := all c (by simp)
  subst e1
  have := (List.nodup_cons.1 hnd).1
  rw [e2] at this
  exact absurd (by simp) this
end
end Go.Am
