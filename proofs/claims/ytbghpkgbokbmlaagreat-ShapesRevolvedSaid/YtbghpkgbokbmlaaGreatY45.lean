/- brepkernelmade: Rat, Within; lists of numbers as arguments. -/
import Derived.Test.YtbghpkgbokbmlaaGreatB43
import Derived.Test.YtbghpkgbokbmlaaGreatY39
import Derived.Test.YtbghpkgbokbmlaaGreatZ2
import Derived.Test.YtbghpkgbokbmlaaGreatC4
import Derived.Test.YtbghpkgbokbmlaaGreatD1
set_option linter.unusedVariables false
namespace Go.Am.B
open Go Go.Am.N AV
theorem QY : aS P Ac zd (au zd) := aN Pp (by kernel_rfl) (by kernel_rfl) (by kernel_rfl)
noncomputable def Kl : aT := [(Ac, cZ T (sG :: (ye, Ez) :: gm) [] 60 zd)]
theorem PZ : bh P Kl := aE (dh hT (de (aE Xo gF)) hm QY _ _) aY
def kL (s : Nat) : Kind (Nat × (Nat → Rat)) := ⟨fun v => match zu v with
 | some (n, f) => some ((n, fun i => aM (f i)), [cq f n s])
 | none => none, fun a => bV a.2 a.1 s, fun {v a q} h hq => by
  split at h
  ·rename_i h1
   simp only [Option.some.injEq, Prod.mk.injEq] at h
   obtain ⟨rfl, rfl⟩ := h
   exact We h1 hq
  ·simp at h⟩
def iu (s : Nat) : Kind Rat := ⟨fun v => match iK v with
 | some (q, n) => some (q, [n ≤ s])
 | none => none, fun a => .rat a s, fun {v a q} h hq => by
  split at h
  ·rename_i h1
   simp only [Option.some.injEq, Prod.mk.injEq] at h
   obtain ⟨rfl, rfl⟩ := h
   exact (jM h1).trans (dF hq)
  ·simp at h⟩
structure nv (α : Type) where
 read : List AV → Option (α × List Prop)
 make : α → List AV
 ok : ∀ {l : List AV} {a : α} {q : List Prop}, read l = some (a, q) → ax q → eu l (make a)
def kN : nv Unit := ⟨fun l => match l with
 | [] => some ((), [])
 | _ => none, fun _ => [], fun {l a q} h _ => by
  split at h
  ·trivial
  ·simp at h⟩
def kC {α β : Type} (k : Kind α) (kl : nv β) : nv (α × β) := ⟨fun l => match l with
 | v :: l => match k.read v, kl.read l with
  | some (a, p), some (b, q) => some ((a, b), p ++ q)
  | _, _ => none
 | [] => none, fun a => k.make a.1 :: kl.make a.2, fun {l a q} h hq => by
  split at h
  ·split at h
   ·rename_i h1 h2
    simp only [Option.some.injEq, Prod.mk.injEq] at h
    obtain ⟨rfl, rfl⟩ := h
    obtain ⟨q1, q2⟩ := dX.1 hq
    exact ⟨k.ok h1 q1, kl.ok h2 q2⟩
   ·simp at h
  ·simp at h⟩
def ey {α : Type} (k : nv α) (g : α → AV) (need : α → List Prop) : Spec := bt fun l => match k.read l with
 | some (a, p) => some (aH (g a) (p ++ need a))
 | none => none
theorem eE {α : Type} {f : FuncId} {k : nv α} {g : α → AV} {need : α → List Prop} (h : ∀ a K, ax (need a) → aB P f K (k.make a) [] (aH (g a) [])) : ∀ K args pre r, ey k g need K args pre = some r → aB P f K args pre r := by
 refine bJ fun K args r hk hs _ => ?_
 split at hs
 ·rename_i h1
  simp only [Option.some.injEq] at hs
  subst hs
  intro hn
  obtain ⟨n1, hn⟩ := dX.1 hn
  exact fu (h _ K hn) hk (k.ok h1 n1) [] trivial
 ·simp at hs
end Go.Am.B

/- fL.Interval, ref08.Interval; numbers of oL. -/
namespace Go.Am.B
open Go Go.Am.N AV aa ah IntKind
theorem Z2 : aS P lQ vk (au vk) := aN ML (by kernel_rfl) (by kernel_rfl) (by kernel_rfl)
def yd : aT := nG :: jw
def gz : aT := nG :: gm
abbrev sK : Nat := 4096
abbrev ls (k : Nat → Rat) (n : Nat) : AV := bV k n sK
abbrev tP (t : Rat) (s : Nat) : ay := ⟨false, true, 3, 1, fun _ => .rat t s⟩
abbrev sZ : List Nat := [0, 5, 9, 6, 7]
abbrev uS (n : Nat) (k : Nat → Rat) (i : Nat) : List AV := [ls k n, .ptr 0 0 3 0 [], .int .i64 i, .int .i64 0, .int .i64 0]
noncomputable abbrev qD : Code := au vk
theorem RR {n p : Nat} {k : Nat → Rat} {t : Rat} : aI T gz [19, 27] 60 sZ (before qD [1,1,1,1,0]) ⟨aO 0 [ls k n, .int .i64 p, .rat t sK], [], 0⟩ =
  let c13 : AV := int i64 (0 : Int); let c12 : Prop := 0 < 1; let c10 : Prop := (0 : Int) ≤ (0 : Int) ∧ Int.toNat (0 : Int) < n; let c9 : AV := aj 3 n fun i ↦ rat (k i) 4096; let c7 : AV := ptr 0 0 (bu (rat t sK)).size 0 []; let c6 : Nat × ay := ((0 : Nat), ay.mk false true (bu (rat t sK)).size 1 fun x ↦ rat t 4096); let c5 : Int := (2 : Int) ^ 63; let c4 : Int := fS t (k (Int.toNat (0 : Int))); let c3 : Int := (↑n : Int) - (1 : Int); let c14 : Int := c3 - (↑p : Int); let c11 : Bool := decide (c4 < (0 : Int)); let c2 : aa (List AV × aD) := leaf ret ([c9, c7, tuple [], c13, int i64 (7 : Int)], [c6]); let c8 : Int := c14 - (1 : Int); let c1 : aa (List AV × aD) := af [-c5 ≤ c14 ∧ c14 < c5, -c5 ≤ c8 ∧ c8 < c5] (leaf normal ([c9, c7, int i64 c8, c13, c13], [c6])); some (af [-c5 ≤ c3 ∧ c3 < c5] (fork c11 (af [c12, c10, c11 = true] (fork true c2 c1)) (af [c12, c10, c11 = false, c12, (0 : Int) ≤ c3 ∧ c3.toNat < n] (fork (bif false then true else decide (fS t (k c3.toNat) > (0 : Int))) c2 c1)))) := by kernel_rfl
theorem Nc {n i : Nat} {k : Nat → Rat} {t : Rat} : aI T gz [34, 42] 60 sZ [part qD [1,1,1,1,0,0,0]] ⟨aA sZ (uS n k i), [(0, tP t sK)], 1⟩ =
  let c7 : AV := int i64 (0 : Int); let c6 : AV := ptr 0 0 3 0 []; let c5 : AV := aj 3 n fun i ↦ rat (k i) 4096; let c4 : Nat × ay := ((0 : Nat), ay.mk false true 3 1 fun x ↦ rat t 4096); let c3 : Int := (↑i : Int); let c9 : Int := c3 - (1 : Int); let c8 : Bool := decide (c3 > (0 : Int)); let c2 : aa (List AV × aD) := leaf (exit 0) ([c5, c6, int i64 c3, c7, c7], [c4]); let c1 : aa (List AV × aD) := af [-(2 : Int) ^ 63 ≤ c9 ∧ c9 < (2 : Int) ^ 63] (leaf normal ([c5, c6, int i64 c9, c7, c7], [c4])); some (fork c8 (af [c8 = true, (0 : Nat) < 1, (0 : Int) ≤ c3 ∧ c3.toNat < n] (fork (bif true then decide (fS t (k c3.toNat) < (0 : Int)) else false) c1 c2)) (af [c8 = false] (fork false c1 c2))) := by kernel_rfl
theorem TO {n i : Nat} {k : Nat → Rat} {t : Rat} : b9 T gz [] 60 vk [part qD [1,1,1,1,1]] ⟨aA sZ (uS n k i), [(0, tP t sK)], 1⟩ =
  some (leaf ret [int i64 (↑i : Int), int i64 (0 : Int)]) := by kernel_rfl
theorem MX : bh P yd := eP jI
theorem yc : bh P gz := eP gF
theorem lN {q : Rat} {n : Nat} : aM (.rat q n) = q := rfl
theorem S8 : max 1 (aV (Int.natAbs 1)) = 1 := by decide
theorem zE {rl : List (Nat × Nat)} {l i s s' s2 : Nat} {x y : Nat → Rat} {t : Rat} (hx : ∀ i, i < l → x i = y i) (ht : t = y l) (h1 : s ≤ s2) (h2 : s' ≤ s2) (hi : i < l + 1) : fY rl (if i < l then .rat (x i) s else nth [.rat t s'] (.rat 0 1) (i - l + 0)) (.rat (y i) s2) := by
 by_cases h : i < l
 ·rw [if_pos h, hx i h]; exact .inr ⟨rfl, cV rfl h1⟩
 ·have : i = l := by omega
  subst this
  rw [if_neg h, Nat.sub_self, ht]
  exact .inr ⟨rfl, cV rfl h2⟩
theorem aau {rl : List (Nat × Nat)} {i s' s2 : Nat} {y : Nat → Rat} {t : Rat} (ht : t = y 0) (h2 : s' ≤ s2) (hi : i < 1) : fY rl (nth [.rat t s'] (.rat 0 1) (i + 0)) (.rat (y i) s2) := by
 have : i = 0 := by omega
 subst this
 rw [ht]
 exact .inr ⟨rfl, cV rfl h2⟩
def bT (n : Nat) (k : Nat → Rat) (t : Rat) : Prop := t < k 0 ∨ k (n - 1) < t
instance {n : Nat} {k : Nat → Rat} {t : Rat} : Decidable (bT n k t) := inferInstanceAs (Decidable (t < k 0 ∨ k (n - 1) < t))
def p0 (n : Nat) (k : Nat → Rat) (t : Rat) : Nat := if bT n k t then 0 else cF n k t
def dH (n : Nat) (k : Nat → Rat) (t : Rat) : Int := if bT n k t then 7 else 0
abbrev tK (n : Nat) (k : Nat → Rat) (t : Rat) : AV := .tuple [.int .i64 (p0 n k t), .int .i64 (dH n k t)]
theorem Gp {n : Nat} {k : Nat → Rat} {t : Rat} (h : bT n k t) : dL [.int .i64 0, .int .i64 7] (tK n k t) :=
 ⟨br (by unfold p0; rw [if_pos h]; rfl), br (by unfold dH; rw [if_pos h]), trivial⟩
theorem SN {n i : Nat} {k : Nat → Rat} {t : Rat} (h : ¬ bT n k t) (hi : i = cF n k t) : dL [.int .i64 i, .int .i64 0] (tK n k t) :=
 ⟨br (by unfold p0; rw [if_neg h, hi]), br (by unfold dH; rw [if_neg h]), trivial⟩
theorem KO {n p : Nat} {k : Nat → Rat} {t : Rat} (h : Kn n p k) (hn : n < 2 ^ 40) (K : Nat) : aB P lQ K [ls k n, .int .i64 p, .rat t sK] [] (aH (tK n k t) []) := by
 have hp := h.p1
 have hl := h.len
 refine kY (r := aH (tK n k t) []) hT yc hm Z2 rfl (of_decide_eq_true (by kernel_rfl)) rfl [1,1,1,1,0] (i := 0) (y := part qD [1,1,1,1,0,0,0]) (z := part qD [1,1,1,1,1]) (by kernel_rfl) (by kernel_rfl) (by kernel_rfl) (f1 := [19, 27]) (f2 := [34, 42]) (f3 := []) 60 sZ 1
  (fun i : Nat => uS n k i) (fun _ => [(0, tP t sK)]) (fun i => i + p + 2 ≤ n ∧ (∀ j, i < j → j + p + 2 ≤ n → t < k j) ∧ ¬ bT n k t) (fun i => i = cF n k t ∧ ¬ bT n k t) (fun i => i) (fun _ => ⟨⟨_, RR, ?_⟩, fun i ⟨h1, h2, h4⟩ => ⟨_, Nc, ?_⟩, fun i ⟨h1, h2⟩ => ⟨_, TO, SN h2 h1⟩⟩) K []
 ·simp only [aa.all, ax, decide_eq_true_eq, decide_eq_false_iff_not, wu, DJ, cond_false, Int.toNat_zero, show ((n : Int) - 1).toNat = n - 1 by omega]
  (repeat' with_reducible first | refine And.intro ?_ ?_ | intro _)
  all_goals first | omega | assumption | skip
  ·exact ⟨_, by kernel_rfl, Gp (.inl ‹_›)⟩
  ·exact absurd ‹true = false› (by decide)
  ·exact ⟨_, by kernel_rfl, Gp (.inr ‹_›)⟩
  ·rename_i a b
   have hin : ¬ bT n k t := fun h => h.elim (fun h => a h) fun h => b h
   refine ⟨n - p - 2, ⟨by omega, fun j h1 h2 => by omega, hin⟩, [(0, 0)], rfl, ?_, rfl, aU rfl rfl (aQ rfl rfl) trivial⟩
   rw [show (n : Int) - 1 - (p : Int) - 1 = ((n - p - 2 : Nat) : Int) by omega]
   rfl
 ·simp only [aa.all, ax, decide_eq_true_eq, decide_eq_false_iff_not, wu, Int.toNat_natCast, cond_true]
  have hin : k 0 ≤ t ∧ t ≤ k (n - 1) := by
   constructor
   ·have : ¬ t < k 0 := fun h => h4 (.inl h)
    grind
   ·have : ¬ k (n - 1) < t := fun h => h4 (.inr h)
    grind
  have fin : k i ≤ t → i = cF n k t := fun h3 => by
   by_cases hi : i + p + 2 < n
   ·have h5 := h2 (i + 1) (by omega) (by omega)
    exact (Fj ⟨⟨by omega, h.sorted, by grind⟩, h3, by grind, .inl h5⟩).symm
   ·have e1 := h.last (i + 1) (by omega) (by omega)
    have e2 := h.last (i + p) (by omega) (by omega)
    have e3 := h.mult i (by omega) (by omega)
    exact (Fj ⟨⟨by omega, h.sorted, by rw [e1, ← e2]; exact e3⟩, h3, by rw [e1]; exact hin.2, .inr e1⟩).symm
  (repeat' with_reducible first | refine And.intro ?_ ?_ | intro _)
  all_goals first | omega | assumption | skip
  ·rename_i a b
   refine ⟨i - 1, ⟨by omega, fun j h5 h6 => ?_, h4⟩, by dsimp only; omega, [(0, 0)], rfl, ?_, rfl, aU rfl rfl (aQ rfl rfl) trivial⟩
   ·by_cases hj : j = i
    ·subst hj; exact b
    ·exact h2 j (by omega) h6
   ·rw [show (i : Int) - 1 = ((i - 1 : Nat) : Int) by omega]; rfl
  ·rename_i a b
   exact ⟨rfl, i, ⟨fin (by grind), h4⟩, [(0, 0)], rfl, rfl, rfl, aU rfl rfl (aQ rfl rfl) trivial⟩
  ·exact absurd ‹false = true› (by decide)
  ·have hi : i = 0 := by omega
   subst hi
   exact ⟨rfl, 0, ⟨fin hin.1, h4⟩, [(0, 0)], rfl, rfl, rfl, aU rfl rfl (aQ rfl rfl) trivial⟩
abbrev CR : nv ((Nat × (Nat → Rat)) × Int × Rat × Unit) := kC (kL sK) (kC kI (kC (iu sK) kN))
def vp : Spec := ey CR (fun a => tK a.1.1 a.1.2 a.2.2.1) fun a => [Kn a.1.1 a.2.1.toNat a.1.2, 0 ≤ a.2.1, a.1.1 < 2 ^ 40]
theorem xx : ∀ K args pre r, vp K args pre = some r → aB P lQ K args pre r := eE fun ⟨⟨n, k⟩, p, t, _⟩ K hn => by
 have := KO hn.1 hn.2.2 K (t := t)
 rw [Int.toNat_of_nonneg hn.2.1] at this
 exact this
end Go.Am.B

/- basis.fraction, basis.Values. -/
namespace Go.Am.B
open Go Go.Am.N AV aa ah IntKind
abbrev sF : Nat := 16386
def SB (d : Nat) : Nat := 65536 * 4 ^ d
abbrev Ap (m : Nat) (x : Nat → Rat) (s : Nat → Nat) : ay := ⟨true, true, 3, m, fun i => .rat (x i) (s i)⟩
theorem Jn {d : Nat} : SB (d + 1) = 4 * SB d := by unfold SB; rw [Nat.pow_succ]; omega
theorem G0 : ∀ {d : Nat}, 65536 ≤ SB d
 | 0 => by unfold SB; omega
 | d + 1 => by rw [Jn]; have := G0 (d := d); omega
theorem Vs : sF = 16386 := rfl
theorem abl {d e : Nat} (h : d ≤ e) : SB d ≤ SB e := Nat.mul_le_mul_left _ (Nat.pow_le_pow_right (by omega) h)
abbrev sV : Nat := 268435456
theorem Dq {d : Nat} (h : d ≤ 6) : SB d ≤ sV := Nat.le_trans (abl h) (by decide)
def vM (n : Nat) (k : Nat → Rat) (p : Nat) (t : Rat) (f : Nat → Rat) : AV := .tuple [.int .i64 (if bT n k t then 0 else (cF n k t : Int) - p), .aj 3 (if bT n k t then 0 else p + 1) (fun j => .rat (f j) sV), .int .i64 (dH n k t)]
abbrev Ah (n : Nat) (k : Nat → Rat) (p : Nat) (t : Rat) : AV := vM n k p t (vB k (cF n k t) t p)
theorem abI {n p : Nat} {k f : Nat → Rat} {t : Rat} (h : bT n k t) : dL [.int .i64 0, .nil, .int .i64 7] (vM n k p t f) := by
 unfold vM dH
 rw [if_pos h, if_pos h, if_pos h]
 exact ⟨.refl _, jD (by omega), .refl _, trivial⟩
theorem XK {n p : Nat} {k f : Nat → Rat} {t : Rat} {g : Nat → AV} (h : ¬ bT n k t) (hg : ∀ j, j < p + 1 → bD (g j) (.rat (f j) sV)) : dL [.int .i64 ((cF n k t : Int) - p), .aj 3 (p + 1) g, .int .i64 0] (vM n k p t f) := by
 unfold vM dH
 rw [if_neg h, if_neg h, if_neg h]
 exact ⟨.refl _, iP hg, .refl _, trivial⟩
def It (k : Nat → Rat) (i : Nat) (t : Rat) (d j : Nat) : Rat := if j = 0 then 0 else fr (k (i - d + (j - 1))) (k (i - d + (j - 1) + (d + 1))) t * vB k i t d (j - 1)
end Go.Am.B

/- basis.Sum; numbers of oL. -/
namespace Go.Am.B
open Go Go.Am.N AV aa ah IntKind
theorem Ld : aS P wh vw (au vw) := aN YJ (by kernel_rfl) (by kernel_rfl) (by kernel_rfl)
def IG : Spec := ey CR (fun a => Ah a.1.1 a.1.2 a.2.1.toNat a.2.2.1) fun a => [Kn a.1.1 a.2.1.toNat a.1.2, 0 ≤ a.2.1, a.2.1 ≤ 6, a.1.1 < 2 ^ 40]
def BA : Spec := ey (kC (kL sK) (kC kI kN)) (fun a => .int .i64 ((a.1.1 : Int) - a.2.1 - 1)) fun a => [a.1.1 < 2 ^ 40, -2 ^ 40 < a.2.1, a.2.1 < 2 ^ 40]
theorem YW {n : Nat} {k : Nat → Rat} {p : Int} : bB T [nG] [] 60 vw (au vw) ⟨aO 0 [ls k n, .int .i64 p], [], 0⟩ =
  let c3 : Int := (↑n : Int) - p; let c1 : Int := (2 : Int) ^ 63; let c2 : Int := c3 - (1 : Int); some (af [-c1 ≤ c3 ∧ c3 < c1, -c1 ≤ c2 ∧ c2 < c1] (leaf ret [int i64 c2])) := by kernel_rfl
theorem Hy : ∀ K args pre r, BA K args pre = some r → aB P wh K args pre r := eE fun ⟨⟨n, k⟩, p, _⟩ K hn => by
 obtain ⟨h1, h2, h3⟩ := hn
 have h3 : p < 2 ^ 40 := h3
 simp only at h1 h2
 refine bF (r := aH (.int .i64 ((n : Int) - p - 1)) []) hT (eP aY) hm Ld rfl (of_decide_eq_true (by kernel_rfl)) rfl 60 YW (fun _ => ?_) K []
 simp only [aa.all, ax]
 exact ⟨by omega, .refl _⟩
abbrev sU : Nat := 4294967296
theorem Y6 {n : Nat} {k : Nat → Rat} {t : Rat} (h : dH n k t ≠ 0) : bT n k t := by
 unfold dH at h
 by_cases ho : bT n k t
 ·exact ho
 ·rw [if_neg ho] at h; exact absurd rfl h
theorem Ca {n : Nat} {k : Nat → Rat} {t : Rat} (h : dH n k t = 0) : ¬ bT n k t := fun ho => by unfold dH at h; rw [if_pos ho] at h; omega
theorem Kn.u7 {n p : Nat} {k : Nat → Rat} (h : Kn n p k) {t : Rat} (hin : ¬ bT n k t) : p ≤ cF n k t ∧ cF n k t + p + 1 < n := by
 have h1 : ¬ t < k 0 := fun h => hin (.inl h)
 have h2 : ¬ k (n - 1) < t := fun h => hin (.inr h)
 exact (h.Aa (by grind) (by grind)).2
end Go.Am.B
