/- brepkernelmade: Rat, Within; lists of numbers as arguments. -/
import Derived.Test.YtbghpkgbokbmlaaGreatB43
import Derived.Test.YtbghpkgbokbmlaaGreatY39
import Derived.Test.YtbghpkgbokbmlaaGreatZ2
import Derived.Test.YtbghpkgbokbmlaaGreatC4
import Derived.Test.YtbghpkgbokbmlaaGreatD1
set_option linter.unusedVariables false
namespace Go.Am.B
open Go Go.Am.N AV
def kL (s : Nat) : Kind (Nat × (Nat → Rat)) := ⟨fun v => match vZ v with
 | some (n, f) => some ((n, fun i => bQ (f i)), [fl f n s])
 | none => none, fun a => g8 a.2 a.1 s, fun {v a q} h hq => by
  split at h
  ·rename_i h1
   simp only [Option.some.injEq, Prod.mk.injEq] at h
   obtain ⟨rfl, rfl⟩ := h
   exact JL h1 hq
  ·simp at h⟩
def lf (s : Nat) : Kind Rat := ⟨fun v => match ga v with
 | some (q, n) => some (q, [n ≤ s])
 | none => none, fun a => .rat a s, fun {v a q} h hq => by
  split at h
  ·rename_i h1
   simp only [Option.some.injEq, Prod.mk.injEq] at h
   obtain ⟨rfl, rfl⟩ := h
   exact (gD h1).trans (dZ hq)
  ·simp at h⟩
structure nR (α : Type) where
 read : List AV → Option (α × List Prop)
 make : α → List AV
 ok : ∀ {l : List AV} {a : α} {q : List Prop}, read l = some (a, q) → ay q → dj l (make a)
def kN : nR Unit := ⟨fun l => match l with
 | [] => some ((), [])
 | _ => none, fun _ => [], fun {l a q} h _ => by
  split at h
  ·trivial
  ·simp at h⟩
def kC {α β : Type} (k : Kind α) (kl : nR β) : nR (α × β) := ⟨fun l => match l with
 | v :: l => match k.read v, kl.read l with
  | some (a, p), some (b, q) => some ((a, b), p ++ q)
  | _, _ => none
 | [] => none, fun a => k.make a.1 :: kl.make a.2, fun {l a q} h hq => by
  split at h
  ·split at h
   ·rename_i h1 h2
    simp only [Option.some.injEq, Prod.mk.injEq] at h
    obtain ⟨rfl, rfl⟩ := h
    obtain ⟨q1, q2⟩ := dU.1 hq
    exact ⟨k.ok h1 q1, kl.ok h2 q2⟩
   ·simp at h
  ·simp at h⟩
def gF {α : Type} (k : nR α) (g : α → AV) (need : α → List Prop) : Spec := bk fun l => match k.read l with
 | some (a, p) => some (aG (g a) (p ++ need a))
 | none => none
theorem fU {α : Type} {f : FuncId} {k : nR α} {g : α → AV} {need : α → List Prop} (h : ∀ a K, ay (need a) → az P f K (k.make a) [] (aG (g a) [])) : ∀ K args pre r, gF k g need K args pre = some r → az P f K args pre r := by
 refine bD fun K args r hk hs _ => ?_
 split at hs
 ·rename_i h1
  simp only [Option.some.injEq] at hs
  subst hs
  intro hn
  obtain ⟨n1, hn⟩ := dU.1 hn
  exact eF (h _ K hn) hk (k.ok h1 n1) [] trivial
 ·simp at hs
end Go.Am.B

/- knots.Interval, ref08.Interval; numbers of poles. -/
namespace Go.Am.B
open Go Go.Am.N AV aa ah IntKind
theorem K8 : aO P n5 pS (au pS) := aL Lq (by kernel_rfl) (by kernel_rfl) (by kernel_rfl)
def lP : aP := nG :: eV
abbrev sK : Nat := 4096
abbrev ls (k : Nat → Rat) (n : Nat) : AV := g8 k n sK
abbrev tP (t : Rat) (s : Nat) : aJ := ⟨false, true, 3, 1, fun _ => .rat t s⟩
abbrev oS : List Nat := [0, 5, 9, 6, 7]
abbrev rI (n : Nat) (k : Nat → Rat) (i : Nat) : List AV := [ls k n, .ptr 0 0 3 0 [], .int .i64 i, .int .i64 0, .int .i64 0]
noncomputable abbrev su : Code := au pS
theorem Iv {n p : Nat} {k : Nat → Rat} {t : Rat} : aI T lP [19, 27] 60 oS (before su [1,1,1,1,0]) ⟨aM 0 [ls k n, .int .i64 p, .rat t sK], [], 0⟩ =
  let c13 : AV := int i64 (0 : Int); let c12 : Prop := 0 < 1; let c10 : Prop := (0 : Int) ≤ (0 : Int) ∧ Int.toNat (0 : Int) < n; let c9 : AV := ak 3 n fun i ↦ rat (k i) 4096; let c7 : AV := ptr 0 0 (bN (rat t sK)).size 0 []; let c6 : Nat × aJ := ((0 : Nat), aJ.mk false true (bN (rat t sK)).size 1 fun x ↦ rat t 4096); let c5 : Int := (2 : Int) ^ 63; let c4 : Int := fy t (k (Int.toNat (0 : Int))); let c3 : Int := (↑n : Int) - (1 : Int); let c14 : Int := c3 - (↑p : Int); let c11 : Bool := decide (c4 < (0 : Int)); let c2 : aa (List AV × aC) := leaf ret ([c9, c7, tuple [], c13, int i64 (7 : Int)], [c6]); let c8 : Int := c14 - (1 : Int); let c1 : aa (List AV × aC) := af [-c5 ≤ c14 ∧ c14 < c5, -c5 ≤ c8 ∧ c8 < c5] (leaf normal ([c9, c7, int i64 c8, c13, c13], [c6])); some (af [-c5 ≤ c3 ∧ c3 < c5] (fork c11 (af [c12, c10, c11 = true] (fork true c2 c1)) (af [c12, c10, c11 = false, c12, (0 : Int) ≤ c3 ∧ c3.toNat < n] (fork (bif false then true else decide (fy t (k c3.toNat) > (0 : Int))) c2 c1)))) := by kernel_rfl
theorem HT {n i : Nat} {k : Nat → Rat} {t : Rat} : aI T lP [34, 42] 60 oS [part su [1,1,1,1,0,0,0]] ⟨aB oS (rI n k i), [(0, tP t sK)], 1⟩ =
  let c7 : AV := int i64 (0 : Int); let c6 : AV := ptr 0 0 3 0 []; let c5 : AV := ak 3 n fun i ↦ rat (k i) 4096; let c4 : Nat × aJ := ((0 : Nat), aJ.mk false true 3 1 fun x ↦ rat t 4096); let c3 : Int := (↑i : Int); let c9 : Int := c3 - (1 : Int); let c8 : Bool := decide (c3 > (0 : Int)); let c2 : aa (List AV × aC) := leaf (exit 0) ([c5, c6, int i64 c3, c7, c7], [c4]); let c1 : aa (List AV × aC) := af [-(2 : Int) ^ 63 ≤ c9 ∧ c9 < (2 : Int) ^ 63] (leaf normal ([c5, c6, int i64 c9, c7, c7], [c4])); some (fork c8 (af [c8 = true, (0 : Nat) < 1, (0 : Int) ≤ c3 ∧ c3.toNat < n] (fork (bif true then decide (fy t (k c3.toNat) < (0 : Int)) else false) c1 c2)) (af [c8 = false] (fork false c1 c2))) := by kernel_rfl
theorem M8 {n i : Nat} {k : Nat → Rat} {t : Rat} : cr T lP [] 60 pS [part su [1,1,1,1,1]] ⟨aB oS (rI n k i), [(0, tP t sK)], 1⟩ =
  some (leaf ret [int i64 (↑i : Int), int i64 (0 : Int)]) := by kernel_rfl
theorem F1 : aX P lP := ij fq
theorem nU {q : Rat} {n : Nat} : bQ (.rat q n) = q := rfl
theorem Hj : max 1 (aN (Int.natAbs 1)) = 1 := by decide
theorem yd {rl : List (Nat × Nat)} {l i s s' s2 : Nat} {x y : Nat → Rat} {t : Rat} (hx : ∀ i, i < l → x i = y i) (ht : t = y l) (h1 : s ≤ s2) (h2 : s' ≤ s2) (hi : i < l + 1) : gG rl (if i < l then .rat (x i) s else nth [.rat t s'] (.rat 0 1) (i - l + 0)) (.rat (y i) s2) := by
 by_cases h : i < l
 ·rw [if_pos h, hx i h]; exact .inr ⟨rfl, bJ rfl h1⟩
 ·have : i = l := by omega
  subst this
  rw [if_neg h, Nat.sub_self, ht]
  exact .inr ⟨rfl, bJ rfl h2⟩
theorem Jd {rl : List (Nat × Nat)} {i s' s2 : Nat} {y : Nat → Rat} {t : Rat} (ht : t = y 0) (h2 : s' ≤ s2) (hi : i < 1) : gG rl (nth [.rat t s'] (.rat 0 1) (i + 0)) (.rat (y i) s2) := by
 have : i = 0 := by omega
 subst this
 rw [ht]
 exact .inr ⟨rfl, bJ rfl h2⟩
def dG (n : Nat) (k : Nat → Rat) (t : Rat) : Prop := t < k 0 ∨ k (n - 1) < t
instance {n : Nat} {k : Nat → Rat} {t : Rat} : Decidable (dG n k t) := inferInstanceAs (Decidable (t < k 0 ∨ k (n - 1) < t))
def mB (n : Nat) (k : Nat → Rat) (t : Rat) : Nat := if dG n k t then 0 else cG n k t
def eB (n : Nat) (k : Nat → Rat) (t : Rat) : Int := if dG n k t then 7 else 0
abbrev oK (n : Nat) (k : Nat → Rat) (t : Rat) : AV := .tuple [.int .i64 (mB n k t), .int .i64 (eB n k t)]
theorem DM {n : Nat} {k : Nat → Rat} {t : Rat} (h : dG n k t) : dL [.int .i64 0, .int .i64 7] (oK n k t) :=
 ⟨bf (by unfold mB; rw [if_pos h]; rfl), bf (by unfold eB; rw [if_pos h]), trivial⟩
theorem Hu {n i : Nat} {k : Nat → Rat} {t : Rat} (h : ¬ dG n k t) (hi : i = cG n k t) : dL [.int .i64 i, .int .i64 0] (oK n k t) :=
 ⟨bf (by unfold mB; rw [if_neg h, hi]), bf (by unfold eB; rw [if_neg h]), trivial⟩
theorem Qv {n p : Nat} {k : Nat → Rat} {t : Rat} (h : Kn n p k) (hn : n < 2 ^ 40) (K : Nat) : az P n5 K [ls k n, .int .i64 p, .rat t sK] [] (aG (oK n k t) []) := by
 have hp := h.p1
 have hl := h.len
 refine ud (r := aG (oK n k t) []) hT F1 hm K8 rfl (of_decide_eq_true (by kernel_rfl)) rfl [1,1,1,1,0] (i := 0) (y := part su [1,1,1,1,0,0,0]) (z := part su [1,1,1,1,1]) (by kernel_rfl) (by kernel_rfl) (by kernel_rfl) (f1 := [19, 27]) (f2 := [34, 42]) (f3 := []) 60 oS 1
  (fun i : Nat => rI n k i) (fun _ => [(0, tP t sK)]) (fun i => i + p + 2 ≤ n ∧ (∀ j, i < j → j + p + 2 ≤ n → t < k j) ∧ ¬ dG n k t) (fun i => i = cG n k t ∧ ¬ dG n k t) (fun i => i) (fun _ => ⟨⟨_, Iv, ?_⟩, fun i ⟨h1, h2, h4⟩ => ⟨_, HT, ?_⟩, fun i ⟨h1, h2⟩ => ⟨_, M8, Hu h2 h1⟩⟩) K []
 ·simp only [aa.all, ay, decide_eq_true_eq, decide_eq_false_iff_not, y3, Dw, cond_false, Int.toNat_zero, show ((n : Int) - 1).toNat = n - 1 by omega]
  (repeat' with_reducible first | refine And.intro ?_ ?_ | intro _)
  all_goals first | omega | assumption | skip
  ·exact ⟨_, by kernel_rfl, DM (.inl ‹_›)⟩
  ·exact absurd ‹true = false› (by decide)
  ·exact ⟨_, by kernel_rfl, DM (.inr ‹_›)⟩
  ·rename_i a b
   have hin : ¬ dG n k t := fun h => h.elim (fun h => a h) fun h => b h
   refine ⟨n - p - 2, ⟨by omega, fun j h1 h2 => by omega, hin⟩, [(0, 0)], rfl, ?_, rfl, cj rfl rfl (bU rfl rfl) trivial⟩
   rw [show (n : Int) - 1 - (p : Int) - 1 = ((n - p - 2 : Nat) : Int) by omega]
   rfl
 ·simp only [aa.all, ay, decide_eq_true_eq, decide_eq_false_iff_not, y3, Int.toNat_natCast, cond_true]
  have hin : k 0 ≤ t ∧ t ≤ k (n - 1) := by
   constructor
   ·have : ¬ t < k 0 := fun h => h4 (.inl h)
    grind
   ·have : ¬ k (n - 1) < t := fun h => h4 (.inr h)
    grind
  have fin : k i ≤ t → i = cG n k t := fun h3 => by
   by_cases hi : i + p + 2 < n
   ·have h5 := h2 (i + 1) (by omega) (by omega)
    exact (zx ⟨⟨by omega, h.sorted, by grind⟩, h3, by grind, .inl h5⟩).symm
   ·have e1 := h.last (i + 1) (by omega) (by omega)
    have e2 := h.last (i + p) (by omega) (by omega)
    have e3 := h.mult i (by omega) (by omega)
    exact (zx ⟨⟨by omega, h.sorted, by rw [e1, ← e2]; exact e3⟩, h3, by rw [e1]; exact hin.2, .inr e1⟩).symm
  (repeat' with_reducible first | refine And.intro ?_ ?_ | intro _)
  all_goals first | omega | assumption | skip
  ·rename_i a b
   refine ⟨i - 1, ⟨by omega, fun j h5 h6 => ?_, h4⟩, by dsimp only; omega, [(0, 0)], rfl, ?_, rfl, cj rfl rfl (bU rfl rfl) trivial⟩
   ·by_cases hj : j = i
    ·subst hj; exact b
    ·exact h2 j (by omega) h6
   ·rw [show (i : Int) - 1 = ((i - 1 : Nat) : Int) by omega]; rfl
  ·rename_i a b
   exact ⟨rfl, i, ⟨fin (by grind), h4⟩, [(0, 0)], rfl, rfl, rfl, cj rfl rfl (bU rfl rfl) trivial⟩
  ·exact absurd ‹false = true› (by decide)
  ·have hi : i = 0 := by omega
   subst hi
   exact ⟨rfl, 0, ⟨fin hin.1, h4⟩, [(0, 0)], rfl, rfl, rfl, cj rfl rfl (bU rfl rfl) trivial⟩
abbrev Fp : nR ((Nat × (Nat → Rat)) × Int × Rat × Unit) := kC (kL sK) (kC kI (kC (lf sK) kN))
def yw : Spec := gF Fp (fun a => oK a.1.1 a.1.2 a.2.2.1) fun a => [Kn a.1.1 a.2.1.toNat a.1.2, 0 ≤ a.2.1, a.1.1 < 2 ^ 40]
theorem Bv : ∀ K args pre r, yw K args pre = some r → az P n5 K args pre r := fU fun ⟨⟨n, k⟩, p, t, _⟩ K hn => by
 have := Qv hn.1 hn.2.2 K (t := t)
 rw [Int.toNat_of_nonneg hn.2.1] at this
 exact this
end Go.Am.B

/- basis.fraction, basis.Values. -/
namespace Go.Am.B
open Go Go.Am.N AV aa ah IntKind
abbrev sF : Nat := 16386
def SB (d : Nat) : Nat := 65536 * 4 ^ d
abbrev vI (m : Nat) (x : Nat → Rat) (s : Nat → Nat) : aJ := ⟨true, true, 3, m, fun i => .rat (x i) (s i)⟩
theorem Dn {d : Nat} : SB (d + 1) = 4 * SB d := by unfold SB; rw [Nat.pow_succ]; omega
theorem Dr : ∀ {d : Nat}, 65536 ≤ SB d
 | 0 => by unfold SB; omega
 | d + 1 => by rw [Dn]; have := Dr (d := d); omega
theorem Jc : sF = 16386 := rfl
theorem Lk {d e : Nat} (h : d ≤ e) : SB d ≤ SB e := Nat.mul_le_mul_left _ (Nat.pow_le_pow_right (by omega) h)
abbrev sV : Nat := 268435456
theorem Ac {d : Nat} (h : d ≤ 6) : SB d ≤ sV := Nat.le_trans (Lk h) (by decide)
def pE (n : Nat) (k : Nat → Rat) (p : Nat) (t : Rat) (f : Nat → Rat) : AV := .tuple [.int .i64 (if dG n k t then 0 else (cG n k t : Int) - p), .ak 3 (if dG n k t then 0 else p + 1) (fun j => .rat (f j) sV), .int .i64 (eB n k t)]
abbrev x7 (n : Nat) (k : Nat → Rat) (p : Nat) (t : Rat) : AV := pE n k p t (vB k (cG n k t) t p)
theorem Nc {n p : Nat} {k f : Nat → Rat} {t : Rat} (h : dG n k t) : dL [.int .i64 0, .nil, .int .i64 7] (pE n k p t f) := by
 unfold pE eB
 rw [if_pos h, if_pos h, if_pos h]
 exact ⟨.refl _, fK (by omega), .refl _, trivial⟩
theorem MV {n p : Nat} {k f : Nat → Rat} {t : Rat} {g : Nat → AV} (h : ¬ dG n k t) (hg : ∀ j, j < p + 1 → bp (g j) (.rat (f j) sV)) : dL [.int .i64 ((cG n k t : Int) - p), .ak 3 (p + 1) g, .int .i64 0] (pE n k p t f) := by
 unfold pE eB
 rw [if_neg h, if_neg h, if_neg h]
 exact ⟨.refl _, iV hg, .refl _, trivial⟩
def z9 (k : Nat → Rat) (i : Nat) (t : Rat) (d j : Nat) : Rat := if j = 0 then 0 else fr (k (i - d + (j - 1))) (k (i - d + (j - 1) + (d + 1))) t * vB k i t d (j - 1)
end Go.Am.B

/- basis.Sum; numbers of poles. -/
namespace Go.Am.B
open Go Go.Am.N AV aa ah IntKind
def Dv : Spec := gF Fp (fun a => x7 a.1.1 a.1.2 a.2.1.toNat a.2.2.1) fun a => [Kn a.1.1 a.2.1.toNat a.1.2, 0 ≤ a.2.1, a.2.1 ≤ 6, a.1.1 < 2 ^ 40]
abbrev sU : Nat := 4294967296
theorem TQ {n : Nat} {k : Nat → Rat} {t : Rat} (h : eB n k t ≠ 0) : dG n k t := by
 unfold eB at h
 by_cases ho : dG n k t
 ·exact ho
 ·rw [if_neg ho] at h; exact absurd rfl h
theorem Ar {n : Nat} {k : Nat → Rat} {t : Rat} (h : eB n k t = 0) : ¬ dG n k t := fun ho => by unfold eB at h; rw [if_pos ho] at h; omega
theorem Kn.uL {n p : Nat} {k : Nat → Rat} (h : Kn n p k) {t : Rat} (hin : ¬ dG n k t) : p ≤ cG n k t ∧ cG n k t + p + 1 < n := by
 have h1 : ¬ t < k 0 := fun h => hin (.inl h)
 have h2 : ¬ k (n - 1) < t := fun h => hin (.inr h)
 exact (h.A4 (by grind) (by grind)).2
end Go.Am.B
