/- brepkernelmade: Rat, Within; lists of numbers as arguments. -/
import Derived.Test.YtbghpkgbokbmlaaGreatB43
import Derived.Test.YtbghpkgbokbmlaaGreatY39
import Derived.Test.YtbghpkgbokbmlaaGreatZ2
import Derived.Test.YtbghpkgbokbmlaaGreatC4
import Derived.Test.YtbghpkgbokbmlaaGreatD1
set_option linter.unusedVariables false
namespace Go.Am.B
open Go Go.Am.N AV
theorem Q9 : aN P xS ur (au ur) := aK Ye (by kernel_rfl) (by kernel_rfl) (by kernel_rfl)
theorem WV {x y : Int} : bA T ZE [] 60 ur (au ur) ⟨aL 0 [.int .i64 x, .int .i64 y], [], 0⟩ =
  some (aa.af [(0 : Int) < (41 : Int), (41 : Int) < (2 : Int) ^ 62, (0 : Int) < (8 : Int), (8 : Int) < (2 : Int) ^ 62, -(2 : Int) ^ 63 ≤ IntKind.i64.wrap (x % (41 : Int) - (20 : Int)), IntKind.i64.wrap (x % (41 : Int) - (20 : Int)) < (2 : Int) ^ 63, -(2 : Int) ^ 63 ≤ IntKind.i64.wrap (y % (8 : Int) + (1 : Int)), IntKind.i64.wrap (y % (8 : Int) + (1 : Int)) < (2 : Int) ^ 63, (0 : Nat) < 1] (aa.af [(0 : Nat) < 1] (aa.leaf aj.ret [rat ((↑(IntKind.i64.wrap (x % (41 : Int) - (20 : Int))) : Rat) / (↑(IntKind.i64.wrap (y % (8 : Int) + (1 : Int))) : Rat)) 64]))) := by kernel_rfl
def xJ (x y : Int) : Rat := ((x % 41 - 20 : Int) : Rat) / ((y % 8 + 1 : Int) : Rat)
def Gq : Spec := bp fun l => match l with
 | [.int .i64 x, .int .i64 y] => some (aG (.rat (xJ x y) 64) [])
 | _ => none
theorem Ta : ∀ K args pre r, Gq K args pre = some r → aA P xS K args pre r := by
 refine bF fun K args r hk hs _ => ?_
 split at hs
 ·rename_i x y
  simp only [Option.some.injEq] at hs
  subst hs
  refine bD hT (aD BP (aD vW aU)) hm Q9 rfl (of_decide_eq_true (by kernel_rfl)) rfl 60 WV (fun _ => ?_) K []
  unfold xJ
  have w1 := Int.emod_nonneg x (show (41 : Int) ≠ 0 by omega)
  have w2 := Int.emod_lt_of_pos x (show (0 : Int) < 41 by omega)
  have v1 := Int.emod_nonneg y (show (8 : Int) ≠ 0 by omega)
  have v2 := Int.emod_lt_of_pos y (show (0 : Int) < 8 by omega)
  generalize x % 41 = u at *
  generalize y % 8 = v at *
  have e1 : IntKind.i64.wrap (u - 20) = u - 20 := wrap_i64 (by omega) (by omega)
  have e2 : IntKind.i64.wrap (v + 1) = v + 1 := wrap_i64 (by omega) (by omega)
  rw [e1, e2]
  simp only [aa.all, ax]
  exact ⟨⟨by omega, by omega, by omega, by omega, by omega, by omega, by omega, by omega⟩, by omega, .refl _⟩
 ·simp at hs
def kL (s : Nat) : Kind (Nat × (Nat → Rat)) := ⟨fun v => match BI v with
 | some (n, f) => some ((n, fun i => bg (f i)), [b9 f n s])
 | none => none, fun a => bP a.2 a.1 s, fun {v a q} h hq => by
  split at h
  ·rename_i h1
   simp only [Option.some.injEq, Prod.mk.injEq] at h
   obtain ⟨rfl, rfl⟩ := h
   exact UC h1 hq
  ·simp at h⟩
def mM (s : Nat) : Kind Rat := ⟨fun v => match gA v with
 | some (q, n) => some (q, [n ≤ s])
 | none => none, fun a => .rat a s, fun {v a q} h hq => by
  split at h
  ·rename_i h1
   simp only [Option.some.injEq, Prod.mk.injEq] at h
   obtain ⟨rfl, rfl⟩ := h
   exact (ig h1).trans (dY hq)
  ·simp at h⟩
structure mS (α : Type) where
 read : List AV → Option (α × List Prop)
 make : α → List AV
 ok : ∀ {l : List AV} {a : α} {q : List Prop}, read l = some (a, q) → ax q → ej l (make a)
def kN : mS Unit := ⟨fun l => match l with
 | [] => some ((), [])
 | _ => none, fun _ => [], fun {l a q} h _ => by
  split at h
  ·trivial
  ·simp at h⟩
def kC {α β : Type} (k : Kind α) (kl : mS β) : mS (α × β) := ⟨fun l => match l with
 | v :: l => match k.read v, kl.read l with
  | some (a, p), some (b, q) => some ((a, b), p ++ q)
  | _, _ => none
 | [] => none, fun a => k.make a.1 :: kl.make a.2, fun {l a q} h hq => by
  split at h
  ·split at h
   ·rename_i h1 h2
    simp only [Option.some.injEq, Prod.mk.injEq] at h
    obtain ⟨rfl, rfl⟩ := h
    obtain ⟨q1, q2⟩ := dm.1 hq
    exact ⟨k.ok h1 q1, kl.ok h2 q2⟩
   ·simp at h
  ·simp at h⟩
def eA {α : Type} (k : mS α) (g : α → AV) (need : α → List Prop) : Spec := bp fun l => match k.read l with
 | some (a, p) => some (aG (g a) (p ++ need a))
 | none => none
theorem eC {α : Type} {f : FuncId} {k : mS α} {g : α → AV} {need : α → List Prop} (h : ∀ a K, ax (need a) → aA P f K (k.make a) [] (aG (g a) [])) : ∀ K args pre r, eA k g need K args pre = some r → aA P f K args pre r := by
 refine bF fun K args r hk hs _ => ?_
 split at hs
 ·rename_i h1
  simp only [Option.some.injEq] at hs
  subst hs
  intro hn
  obtain ⟨n1, hn⟩ := dm.1 hn
  exact fk (h _ K hn) hk (k.ok h1 n1) [] trivial
 ·simp at hs
end Go.Am.B

/- fM.Interval, ref08.Interval; numbers of qm. -/
namespace Go.Am.B
open Go Go.Am.N AV aa aj IntKind
theorem Ls : aN P oJ qp (au qp) := aK Wz (by kernel_rfl) (by kernel_rfl) (by kernel_rfl)
def gB : aO := nG :: gr
abbrev sK : Nat := 4096
abbrev ls (k : Nat → Rat) (n : Nat) : AV := bP k n sK
abbrev tP (t : Rat) (s : Nat) : aB := ⟨false, true, 3, 1, fun _ => .rat t s⟩
abbrev uH : List Nat := [0, 5, 9, 6, 7]
abbrev sr (n : Nat) (k : Nat → Rat) (i : Nat) : List AV := [ls k n, .ptr 0 0 3 0 [], .int .i64 i, .int .i64 0, .int .i64 0]
noncomputable abbrev ud : Code := au qp
theorem X2 {n p : Nat} {k : Nat → Rat} {t : Rat} : aH T gB [19, 27] 60 uH (before ud [1,1,1,1,0]) ⟨aL 0 [ls k n, .int .i64 p, .rat t sK], [], 0⟩ =
  let c13 : AV := int i64 (0 : Int); let c12 : Prop := 0 < 1; let c10 : Prop := (0 : Int) ≤ (0 : Int) ∧ Int.toNat (0 : Int) < n; let c9 : AV := ag 3 n fun i ↦ rat (k i) 4096; let c7 : AV := ptr 0 0 (br (rat t sK)).size 0 []; let c6 : Nat × aB := ((0 : Nat), aB.mk false true (br (rat t sK)).size 1 fun x ↦ rat t 4096); let c5 : Int := (2 : Int) ^ 63; let c4 : Int := fH t (k (Int.toNat (0 : Int))); let c3 : Int := (↑n : Int) - (1 : Int); let c14 : Int := c3 - (↑p : Int); let c11 : Bool := decide (c4 < (0 : Int)); let c2 : aa (List AV × aC) := leaf ret ([c9, c7, tuple [], c13, int i64 (7 : Int)], [c6]); let c8 : Int := c14 - (1 : Int); let c1 : aa (List AV × aC) := af [-c5 ≤ c14 ∧ c14 < c5, -c5 ≤ c8 ∧ c8 < c5] (leaf normal ([c9, c7, int i64 c8, c13, c13], [c6])); some (af [-c5 ≤ c3 ∧ c3 < c5] (fork c11 (af [c12, c10, c11 = true] (fork true c2 c1)) (af [c12, c10, c11 = false, c12, (0 : Int) ≤ c3 ∧ c3.toNat < n] (fork (bif false then true else decide (fH t (k c3.toNat) > (0 : Int))) c2 c1)))) := by kernel_rfl
theorem YB {n i : Nat} {k : Nat → Rat} {t : Rat} : aH T gB [34, 42] 60 uH [part ud [1,1,1,1,0,0,0]] ⟨az uH (sr n k i), [(0, tP t sK)], 1⟩ =
  let c7 : AV := int i64 (0 : Int); let c6 : AV := ptr 0 0 3 0 []; let c5 : AV := ag 3 n fun i ↦ rat (k i) 4096; let c4 : Nat × aB := ((0 : Nat), aB.mk false true 3 1 fun x ↦ rat t 4096); let c3 : Int := (↑i : Int); let c9 : Int := c3 - (1 : Int); let c8 : Bool := decide (c3 > (0 : Int)); let c2 : aa (List AV × aC) := leaf (exit 0) ([c5, c6, int i64 c3, c7, c7], [c4]); let c1 : aa (List AV × aC) := af [-(2 : Int) ^ 63 ≤ c9 ∧ c9 < (2 : Int) ^ 63] (leaf normal ([c5, c6, int i64 c9, c7, c7], [c4])); some (fork c8 (af [c8 = true, (0 : Nat) < 1, (0 : Int) ≤ c3 ∧ c3.toNat < n] (fork (bif true then decide (fH t (k c3.toNat) < (0 : Int)) else false) c1 c2)) (af [c8 = false] (fork false c1 c2))) := by kernel_rfl
theorem Vq {n i : Nat} {k : Nat → Rat} {t : Rat} : bR T gB [] 60 qp [part ud [1,1,1,1,1]] ⟨az uH (sr n k i), [(0, tP t sK)], 1⟩ =
  some (leaf ret [int i64 (↑i : Int), int i64 (0 : Int)]) := by kernel_rfl
theorem xT : aV P gB := eF gP
theorem mX {q : Rat} {n : Nat} : bg (.rat q n) = q := rfl
theorem P1 : max 1 (aQ (Int.natAbs 1)) = 1 := by decide
theorem Bb {rl : List (Nat × Nat)} {l i s s' s2 : Nat} {x y : Nat → Rat} {t : Rat} (hx : ∀ i, i < l → x i = y i) (ht : t = y l) (h1 : s ≤ s2) (h2 : s' ≤ s2) (hi : i < l + 1) : gb rl (if i < l then .rat (x i) s else nth [.rat t s'] (.rat 0 1) (i - l + 0)) (.rat (y i) s2) := by
 by_cases h : i < l
 ·rw [if_pos h, hx i h]; exact .inr ⟨rfl, bS rfl h1⟩
 ·have : i = l := by omega
  subst this
  rw [if_neg h, Nat.sub_self, ht]
  exact .inr ⟨rfl, bS rfl h2⟩
theorem WT {rl : List (Nat × Nat)} {i s' s2 : Nat} {y : Nat → Rat} {t : Rat} (ht : t = y 0) (h2 : s' ≤ s2) (hi : i < 1) : gb rl (nth [.rat t s'] (.rat 0 1) (i + 0)) (.rat (y i) s2) := by
 have : i = 0 := by omega
 subst this
 rw [ht]
 exact .inr ⟨rfl, bS rfl h2⟩
def ec (n : Nat) (k : Nat → Rat) (t : Rat) : Prop := t < k 0 ∨ k (n - 1) < t
instance {n : Nat} {k : Nat → Rat} {t : Rat} : Decidable (ec n k t) := inferInstanceAs (Decidable (t < k 0 ∨ k (n - 1) < t))
def pF (n : Nat) (k : Nat → Rat) (t : Rat) : Nat := if ec n k t then 0 else cT n k t
def fh (n : Nat) (k : Nat → Rat) (t : Rat) : Int := if ec n k t then 7 else 0
abbrev tJ (n : Nat) (k : Nat → Rat) (t : Rat) : AV := .tuple [.int .i64 (pF n k t), .int .i64 (fh n k t)]
theorem Ka {n : Nat} {k : Nat → Rat} {t : Rat} (h : ec n k t) : dG [.int .i64 0, .int .i64 7] (tJ n k t) :=
 ⟨bn (by unfold pF; rw [if_pos h]; rfl), bn (by unfold fh; rw [if_pos h]), trivial⟩
theorem Sa {n i : Nat} {k : Nat → Rat} {t : Rat} (h : ¬ ec n k t) (hi : i = cT n k t) : dG [.int .i64 i, .int .i64 0] (tJ n k t) :=
 ⟨bn (by unfold pF; rw [if_neg h, hi]), bn (by unfold fh; rw [if_neg h]), trivial⟩
theorem PA {n p : Nat} {k : Nat → Rat} {t : Rat} (h : Kn n p k) (hn : n < 2 ^ 40) (K : Nat) : aA P oJ K [ls k n, .int .i64 p, .rat t sK] [] (aG (tJ n k t) []) := by
 have hp := h.p1
 have hl := h.len
 refine iJ (r := aG (tJ n k t) []) hT xT hm Ls rfl (of_decide_eq_true (by kernel_rfl)) rfl [1,1,1,1,0] (i := 0) (y := part ud [1,1,1,1,0,0,0]) (z := part ud [1,1,1,1,1]) (by kernel_rfl) (by kernel_rfl) (by kernel_rfl) (f1 := [19, 27]) (f2 := [34, 42]) (f3 := []) 60 uH 1
  (fun i : Nat => sr n k i) (fun _ => [(0, tP t sK)]) (fun i => i + p + 2 ≤ n ∧ (∀ j, i < j → j + p + 2 ≤ n → t < k j) ∧ ¬ ec n k t) (fun i => i = cT n k t ∧ ¬ ec n k t) (fun i => i) (fun _ => ⟨⟨_, X2, ?_⟩, fun i ⟨h1, h2, h4⟩ => ⟨_, YB, ?_⟩, fun i ⟨h1, h2⟩ => ⟨_, Vq, Sa h2 h1⟩⟩) K []
 ·simp only [aa.all, ax, decide_eq_true_eq, decide_eq_false_iff_not, v7, JI, cond_false, Int.toNat_zero, show ((n : Int) - 1).toNat = n - 1 by omega]
  (repeat' with_reducible first | refine And.intro ?_ ?_ | intro _)
  all_goals first | omega | assumption | skip
  ·exact ⟨_, by kernel_rfl, Ka (.inl ‹_›)⟩
  ·exact absurd ‹true = false› (by decide)
  ·exact ⟨_, by kernel_rfl, Ka (.inr ‹_›)⟩
  ·rename_i a b
   have hin : ¬ ec n k t := fun h => h.elim (fun h => a h) fun h => b h
   refine ⟨n - p - 2, ⟨by omega, fun j h1 h2 => by omega, hin⟩, [(0, 0)], rfl, ?_, rfl, aT rfl rfl (aP rfl rfl) trivial⟩
   rw [show (n : Int) - 1 - (p : Int) - 1 = ((n - p - 2 : Nat) : Int) by omega]
   rfl
 ·simp only [aa.all, ax, decide_eq_true_eq, decide_eq_false_iff_not, v7, Int.toNat_natCast, cond_true]
  have hin : k 0 ≤ t ∧ t ≤ k (n - 1) := by
   constructor
   ·have : ¬ t < k 0 := fun h => h4 (.inl h)
    grind
   ·have : ¬ k (n - 1) < t := fun h => h4 (.inr h)
    grind
  have fin : k i ≤ t → i = cT n k t := fun h3 => by
   by_cases hi : i + p + 2 < n
   ·have h5 := h2 (i + 1) (by omega) (by omega)
    exact (J6 ⟨⟨by omega, h.sorted, by grind⟩, h3, by grind, .inl h5⟩).symm
   ·have e1 := h.last (i + 1) (by omega) (by omega)
    have e2 := h.last (i + p) (by omega) (by omega)
    have e3 := h.mult i (by omega) (by omega)
    exact (J6 ⟨⟨by omega, h.sorted, by rw [e1, ← e2]; exact e3⟩, h3, by rw [e1]; exact hin.2, .inr e1⟩).symm
  (repeat' with_reducible first | refine And.intro ?_ ?_ | intro _)
  all_goals first | omega | assumption | skip
  ·rename_i a b
   refine ⟨i - 1, ⟨by omega, fun j h5 h6 => ?_, h4⟩, by dsimp only; omega, [(0, 0)], rfl, ?_, rfl, aT rfl rfl (aP rfl rfl) trivial⟩
   ·by_cases hj : j = i
    ·subst hj; exact b
    ·exact h2 j (by omega) h6
   ·rw [show (i : Int) - 1 = ((i - 1 : Nat) : Int) by omega]; rfl
  ·rename_i a b
   exact ⟨rfl, i, ⟨fin (by grind), h4⟩, [(0, 0)], rfl, rfl, rfl, aT rfl rfl (aP rfl rfl) trivial⟩
  ·exact absurd ‹false = true› (by decide)
  ·have hi : i = 0 := by omega
   subst hi
   exact ⟨rfl, 0, ⟨fin hin.1, h4⟩, [(0, 0)], rfl, rfl, rfl, aT rfl rfl (aP rfl rfl) trivial⟩
abbrev Dy : mS ((Nat × (Nat → Rat)) × Int × Rat × Unit) := kC (kL sK) (kC kI (kC (mM sK) kN))
def BH : Spec := eA Dy (fun a => tJ a.1.1 a.1.2 a.2.2.1) fun a => [Kn a.1.1 a.2.1.toNat a.1.2, 0 ≤ a.2.1, a.1.1 < 2 ^ 40]
theorem Gg : ∀ K args pre r, BH K args pre = some r → aA P oJ K args pre r := eC fun ⟨⟨n, k⟩, p, t, _⟩ K hn => by
 have := PA hn.1 hn.2.2 K (t := t)
 rw [Int.toNat_of_nonneg hn.2.1] at this
 exact this
end Go.Am.B

/- basis.fraction, basis.Values. -/
namespace Go.Am.B
open Go Go.Am.N AV aa aj IntKind
abbrev sF : Nat := 16386
def SB (d : Nat) : Nat := 65536 * 4 ^ d
abbrev A5 (m : Nat) (x : Nat → Rat) (s : Nat → Nat) : aB := ⟨true, true, 3, m, fun i => .rat (x i) (s i)⟩
theorem J0 {d : Nat} : SB (d + 1) = 4 * SB d := by unfold SB; rw [Nat.pow_succ]; omega
theorem Hs : ∀ {d : Nat}, 65536 ≤ SB d
 | 0 => by unfold SB; omega
 | d + 1 => by rw [J0]; have := Hs (d := d); omega
theorem Vt : sF = 16386 := rfl
theorem S9 {d e : Nat} (h : d ≤ e) : SB d ≤ SB e := Nat.mul_le_mul_left _ (Nat.pow_le_pow_right (by omega) h)
abbrev sV : Nat := 268435456
theorem JE {d : Nat} (h : d ≤ 6) : SB d ≤ sV := Nat.le_trans (S9 h) (by decide)
def uw (n : Nat) (k : Nat → Rat) (p : Nat) (t : Rat) (f : Nat → Rat) : AV := .tuple [.int .i64 (if ec n k t then 0 else (cT n k t : Int) - p), .ag 3 (if ec n k t then 0 else p + 1) (fun j => .rat (f j) sV), .int .i64 (fh n k t)]
abbrev B5 (n : Nat) (k : Nat → Rat) (p : Nat) (t : Rat) : AV := uw n k p t (vB k (cT n k t) t p)
theorem ZM {n p : Nat} {k f : Nat → Rat} {t : Rat} (h : ec n k t) : dG [.int .i64 0, .nil, .int .i64 7] (uw n k p t f) := by
 unfold uw fh
 rw [if_pos h, if_pos h, if_pos h]
 exact ⟨.refl _, jB (by omega), .refl _, trivial⟩
theorem K8 {n p : Nat} {k f : Nat → Rat} {t : Rat} {g : Nat → AV} (h : ¬ ec n k t) (hg : ∀ j, j < p + 1 → bu (g j) (.rat (f j) sV)) : dG [.int .i64 ((cT n k t : Int) - p), .ag 3 (p + 1) g, .int .i64 0] (uw n k p t f) := by
 unfold uw fh
 rw [if_neg h, if_neg h, if_neg h]
 exact ⟨.refl _, gJ hg, .refl _, trivial⟩
def JO (k : Nat → Rat) (i : Nat) (t : Rat) (d j : Nat) : Rat := if j = 0 then 0 else fr (k (i - d + (j - 1))) (k (i - d + (j - 1) + (d + 1))) t * vB k i t d (j - 1)
end Go.Am.B

/- basis.Sum; numbers of qm. -/
namespace Go.Am.B
open Go Go.Am.N AV aa aj IntKind
theorem Zf : aN P sZ uc (au uc) := aK abH (by kernel_rfl) (by kernel_rfl) (by kernel_rfl)
def D8 : Spec := eA Dy (fun a => B5 a.1.1 a.1.2 a.2.1.toNat a.2.2.1) fun a => [Kn a.1.1 a.2.1.toNat a.1.2, 0 ≤ a.2.1, a.2.1 ≤ 6, a.1.1 < 2 ^ 40]
def Aa : Spec := eA (kC (kL sK) (kC kI kN)) (fun a => .int .i64 ((a.1.1 : Int) - a.2.1 - 1)) fun a => [a.1.1 < 2 ^ 40, -2 ^ 40 < a.2.1, a.2.1 < 2 ^ 40]
theorem ZP {n : Nat} {k : Nat → Rat} {p : Int} : bA T [nG] [] 60 uc (au uc) ⟨aL 0 [ls k n, .int .i64 p], [], 0⟩ =
  let c3 : Int := (↑n : Int) - p; let c1 : Int := (2 : Int) ^ 63; let c2 : Int := c3 - (1 : Int); some (af [-c1 ≤ c3 ∧ c3 < c1, -c1 ≤ c2 ∧ c2 < c1] (leaf ret [int i64 c2])) := by kernel_rfl
theorem J7 : ∀ K args pre r, Aa K args pre = some r → aA P sZ K args pre r := eC fun ⟨⟨n, k⟩, p, _⟩ K hn => by
 obtain ⟨h1, h2, h3⟩ := hn
 have h3 : p < 2 ^ 40 := h3
 simp only at h1 h2
 refine bD (r := aG (.int .i64 ((n : Int) - p - 1)) []) hT (eF aU) hm Zf rfl (of_decide_eq_true (by kernel_rfl)) rfl 60 ZP (fun _ => ?_) K []
 simp only [aa.all, ax]
 exact ⟨by omega, .refl _⟩
abbrev sU : Nat := 4294967296
theorem Yl {n : Nat} {k : Nat → Rat} {t : Rat} (h : fh n k t ≠ 0) : ec n k t := by
 unfold fh at h
 by_cases ho : ec n k t
 ·exact ho
 ·rw [if_neg ho] at h; exact absurd rfl h
theorem Dt {n : Nat} {k : Nat → Rat} {t : Rat} (h : fh n k t = 0) : ¬ ec n k t := fun ho => by unfold fh at h; rw [if_pos ho] at h; omega
theorem Kn.xm {n p : Nat} {k : Nat → Rat} (h : Kn n p k) {t : Rat} (hin : ¬ ec n k t) : p ≤ cT n k t ∧ cT n k t + p + 1 < n := by
 have h1 : ¬ t < k 0 := fun h => hin (.inl h)
 have h2 : ¬ k (n - 1) < t := fun h => hin (.inr h)
 exact (h.Iv (by grind) (by grind)).2
end Go.Am.B
