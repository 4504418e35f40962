/- brepkernelmade: Rat, Within; lists of numbers as arguments. -/
import Derived.Test.YtbghpkgbokbmlaaGreatY38
import Derived.Test.YtbghpkgbokbmlaaGreatZ2
import Derived.Test.YtbghpkgbokbmlaaGreatC4
import Derived.Test.YtbghpkgbokbmlaaGreatD1
set_option linter.unusedVariables false
namespace Go.Am.B
open Go Go.Am.N AV
theorem ZJ : aP P CN zw (au zw) := aL Y6 (by kernel_rfl) (by kernel_rfl) (by kernel_rfl)
noncomputable def IB : aQ := [(CN, cG T (sG :: (rX, BW) :: gn) [] 60 zw)]
theorem Zq : aW P IB := aC (cH hT (dc (aC LG gH)) hm ZJ _ _) aT
def kL (s : Nat) : Kind (Nat × (Nat → Rat)) := ⟨fun v => match AQ v with
 | some (n, f) => some ((n, fun i => aK (f i)), [bM f n s])
 | none => none, fun a => bX a.2 a.1 s, fun {v a q} h hq => by
  split at h
  ·rename_i h1
   simp only [Option.some.injEq, Prod.mk.injEq] at h
   obtain ⟨rfl, rfl⟩ := h
   exact VX h1 hq
  ·simp at h⟩
def iG (s : Nat) : Kind Rat := ⟨fun v => match gf v with
 | some (q, n) => some (q, [n ≤ s])
 | none => none, fun a => .rat a s, fun {v a q} h hq => by
  split at h
  ·rename_i h1
   simp only [Option.some.injEq, Prod.mk.injEq] at h
   obtain ⟨rfl, rfl⟩ := h
   exact (gG h1).trans (dN hq)
  ·simp at h⟩
structure nA (α : Type) where
 read : List AV → Option (α × List Prop)
 make : α → List AV
 ok : ∀ {l : List AV} {a : α} {q : List Prop}, read l = some (a, q) → ax q → dm l (make a)
def kN : nA Unit := ⟨fun l => match l with
 | [] => some ((), [])
 | _ => none, fun _ => [], fun {l a q} h _ => by
  split at h
  ·trivial
  ·simp at h⟩
def kC {α β : Type} (k : Kind α) (kl : nA β) : nA (α × β) := ⟨fun l => match l with
 | v :: l => match k.read v, kl.read l with
  | some (a, p), some (b, q) => some ((a, b), p ++ q)
  | _, _ => none
 | [] => none, fun a => k.make a.1 :: kl.make a.2, fun {l a q} h hq => by
  split at h
  ·split at h
   ·rename_i h1 h2
    simp only [Option.some.injEq, Prod.mk.injEq] at h
    obtain ⟨rfl, rfl⟩ := h
    obtain ⟨q1, q2⟩ := dA.1 hq
    exact ⟨k.ok h1 q1, kl.ok h2 q2⟩
   ·simp at h
  ·simp at h⟩
def dM {α : Type} (k : nA α) (g : α → AV) (need : α → List Prop) : Spec := bt fun l => match k.read l with
 | some (a, p) => some (aF (g a) (p ++ need a))
 | none => none
theorem dP {α : Type} {f : FuncId} {k : nA α} {g : α → AV} {need : α → List Prop} (h : ∀ a K, ax (need a) → az P f K (k.make a) [] (aF (g a) [])) : ∀ K args pre r, dM k g need K args pre = some r → az P f K args pre r := by
 refine bH fun K args r hk hs _ => ?_
 split at hs
 ·rename_i h1
  simp only [Option.some.injEq] at hs
  subst hs
  intro hn
  obtain ⟨n1, hn⟩ := dA.1 hn
  exact fk (h _ K hn) hk (k.ok h1 n1) [] trivial
 ·simp at hs
end Go.Am.B

/- fV.Interval, ref08.Interval; numbers of qF. -/
namespace Go.Am.B
open Go Go.Am.N AV aa ag IntKind
theorem OV : aP P mA wK (au wK) := aL Y2 (by kernel_rfl) (by kernel_rfl) (by kernel_rfl)
def x9 : aQ := nG :: jG
def gT : aQ := nG :: gn
abbrev sK : Nat := 4096
abbrev ls (k : Nat → Rat) (n : Nat) : AV := bX k n sK
abbrev tP (t : Rat) (s : Nat) : ay := ⟨false, true, 3, 1, fun _ => .rat t s⟩
abbrev rR : List Nat := [0, 5, 9, 6, 7]
abbrev sL (n : Nat) (k : Nat → Rat) (i : Nat) : List AV := [ls k n, .ptr 0 0 3 0 [], .int .i64 i, .int .i64 0, .int .i64 0]
noncomputable abbrev vv : Code := au wK
theorem S3 {n p : Nat} {k : Nat → Rat} {t : Rat} : aH T gT [19, 27] 60 rR (before vv [1,1,1,1,0]) ⟨aM 0 [ls k n, .int .i64 p, .rat t sK], [], 0⟩ =
  let c13 : AV := int i64 (0 : Int); let c12 : Prop := 0 < 1; let c10 : Prop := (0 : Int) ≤ (0 : Int) ∧ Int.toNat (0 : Int) < n; let c9 : AV := aj 3 n fun i ↦ rat (k i) 4096; let c7 : AV := ptr 0 0 (bk (rat t sK)).size 0 []; let c6 : Nat × ay := ((0 : Nat), ay.mk false true (bk (rat t sK)).size 1 fun x ↦ rat t 4096); let c5 : Int := (2 : Int) ^ 63; let c4 : Int := eV t (k (Int.toNat (0 : Int))); let c3 : Int := (↑n : Int) - (1 : Int); let c14 : Int := c3 - (↑p : Int); let c11 : Bool := decide (c4 < (0 : Int)); let c2 : aa (List AV × aD) := leaf ret ([c9, c7, tuple [], c13, int i64 (7 : Int)], [c6]); let c8 : Int := c14 - (1 : Int); let c1 : aa (List AV × aD) := af [-c5 ≤ c14 ∧ c14 < c5, -c5 ≤ c8 ∧ c8 < c5] (leaf normal ([c9, c7, int i64 c8, c13, c13], [c6])); some (af [-c5 ≤ c3 ∧ c3 < c5] (fork c11 (af [c12, c10, c11 = true] (fork true c2 c1)) (af [c12, c10, c11 = false, c12, (0 : Int) ≤ c3 ∧ c3.toNat < n] (fork (bif false then true else decide (eV t (k c3.toNat) > (0 : Int))) c2 c1)))) := by kernel_rfl
theorem Qd {n i : Nat} {k : Nat → Rat} {t : Rat} : aH T gT [34, 42] 60 rR [part vv [1,1,1,1,0,0,0]] ⟨aB rR (sL n k i), [(0, tP t sK)], 1⟩ =
  let c7 : AV := int i64 (0 : Int); let c6 : AV := ptr 0 0 3 0 []; let c5 : AV := aj 3 n fun i ↦ rat (k i) 4096; let c4 : Nat × ay := ((0 : Nat), ay.mk false true 3 1 fun x ↦ rat t 4096); let c3 : Int := (↑i : Int); let c9 : Int := c3 - (1 : Int); let c8 : Bool := decide (c3 > (0 : Int)); let c2 : aa (List AV × aD) := leaf (exit 0) ([c5, c6, int i64 c3, c7, c7], [c4]); let c1 : aa (List AV × aD) := af [-(2 : Int) ^ 63 ≤ c9 ∧ c9 < (2 : Int) ^ 63] (leaf normal ([c5, c6, int i64 c9, c7, c7], [c4])); some (fork c8 (af [c8 = true, (0 : Nat) < 1, (0 : Int) ≤ c3 ∧ c3.toNat < n] (fork (bif true then decide (eV t (k c3.toNat) < (0 : Int)) else false) c1 c2)) (af [c8 = false] (fork false c1 c2))) := by kernel_rfl
theorem adh {n i : Nat} {k : Nat → Rat} {t : Rat} : bW T gT [] 60 wK [part vv [1,1,1,1,1]] ⟨aB rR (sL n k i), [(0, tP t sK)], 1⟩ =
  some (leaf ret [int i64 (↑i : Int), int i64 (0 : Int)]) := by kernel_rfl
theorem Sr : aW P x9 := eu j5
theorem zf : aW P gT := eu gH
theorem lO {q : Rat} {n : Nat} : aK (.rat q n) = q := rfl
theorem UH : max 1 (aS (Int.natAbs 1)) = 1 := by decide
theorem yM {rl : List (Nat × Nat)} {l i s s' s2 : Nat} {x y : Nat → Rat} {t : Rat} (hx : ∀ i, i < l → x i = y i) (ht : t = y l) (h1 : s ≤ s2) (h2 : s' ≤ s2) (hi : i < l + 1) : ga rl (if i < l then .rat (x i) s else nth [.rat t s'] (.rat 0 1) (i - l + 0)) (.rat (y i) s2) := by
 by_cases h : i < l
 ·rw [if_pos h, hx i h]; exact .inr ⟨rfl, cr rfl h1⟩
 ·have : i = l := by omega
  subst this
  rw [if_neg h, Nat.sub_self, ht]
  exact .inr ⟨rfl, cr rfl h2⟩
theorem Uo {rl : List (Nat × Nat)} {i s' s2 : Nat} {y : Nat → Rat} {t : Rat} (ht : t = y 0) (h2 : s' ≤ s2) (hi : i < 1) : ga rl (nth [.rat t s'] (.rat 0 1) (i + 0)) (.rat (y i) s2) := by
 have : i = 0 := by omega
 subst this
 rw [ht]
 exact .inr ⟨rfl, cr rfl h2⟩
def bL (n : Nat) (k : Nat → Rat) (t : Rat) : Prop := t < k 0 ∨ k (n - 1) < t
instance {n : Nat} {k : Nat → Rat} {t : Rat} : Decidable (bL n k t) := inferInstanceAs (Decidable (t < k 0 ∨ k (n - 1) < t))
def qL (n : Nat) (k : Nat → Rat) (t : Rat) : Nat := if bL n k t then 0 else bT n k t
def dr (n : Nat) (k : Nat → Rat) (t : Rat) : Int := if bL n k t then 7 else 0
abbrev vQ (n : Nat) (k : Nat → Rat) (t : Rat) : AV := .tuple [.int .i64 (qL n k t), .int .i64 (dr n k t)]
theorem K6 {n : Nat} {k : Nat → Rat} {t : Rat} (h : bL n k t) : ec [.int .i64 0, .int .i64 7] (vQ n k t) :=
 ⟨bq (by unfold qL; rw [if_pos h]; rfl), bq (by unfold dr; rw [if_pos h]), trivial⟩
theorem ac9 {n i : Nat} {k : Nat → Rat} {t : Rat} (h : ¬ bL n k t) (hi : i = bT n k t) : ec [.int .i64 i, .int .i64 0] (vQ n k t) :=
 ⟨bq (by unfold qL; rw [if_neg h, hi]), bq (by unfold dr; rw [if_neg h]), trivial⟩
theorem Og {n p : Nat} {k : Nat → Rat} {t : Rat} (h : Kn n p k) (hn : n < 2 ^ 40) (K : Nat) : az P mA K [ls k n, .int .i64 p, .rat t sK] [] (aF (vQ n k t) []) := by
 have hp := h.p1
 have hl := h.len
 refine jy (r := aF (vQ n k t) []) hT zf hm OV rfl (of_decide_eq_true (by kernel_rfl)) rfl [1,1,1,1,0] (i := 0) (y := part vv [1,1,1,1,0,0,0]) (z := part vv [1,1,1,1,1]) (by kernel_rfl) (by kernel_rfl) (by kernel_rfl) (f1 := [19, 27]) (f2 := [34, 42]) (f3 := []) 60 rR 1
  (fun i : Nat => sL n k i) (fun _ => [(0, tP t sK)]) (fun i => i + p + 2 ≤ n ∧ (∀ j, i < j → j + p + 2 ≤ n → t < k j) ∧ ¬ bL n k t) (fun i => i = bT n k t ∧ ¬ bL n k t) (fun i => i) (fun _ => ⟨⟨_, S3, ?_⟩, fun i ⟨h1, h2, h4⟩ => ⟨_, Qd, ?_⟩, fun i ⟨h1, h2⟩ => ⟨_, adh, ac9 h2 h1⟩⟩) K []
 ·simp only [aa.all, ax, decide_eq_true_eq, decide_eq_false_iff_not, zQ, DG, cond_false, Int.toNat_zero, show ((n : Int) - 1).toNat = n - 1 by omega]
  (repeat' with_reducible first | refine And.intro ?_ ?_ | intro _)
  all_goals first | omega | assumption | skip
  ·exact ⟨_, by kernel_rfl, K6 (.inl ‹_›)⟩
  ·exact absurd ‹true = false› (by decide)
  ·exact ⟨_, by kernel_rfl, K6 (.inr ‹_›)⟩
  ·rename_i a b
   have hin : ¬ bL n k t := fun h => h.elim (fun h => a h) fun h => b h
   refine ⟨n - p - 2, ⟨by omega, fun j h1 h2 => by omega, hin⟩, [(0, 0)], rfl, ?_, rfl, aR rfl rfl (aN rfl rfl) trivial⟩
   rw [show (n : Int) - 1 - (p : Int) - 1 = ((n - p - 2 : Nat) : Int) by omega]
   rfl
 ·simp only [aa.all, ax, decide_eq_true_eq, decide_eq_false_iff_not, zQ, Int.toNat_natCast, cond_true]
  have hin : k 0 ≤ t ∧ t ≤ k (n - 1) := by
   constructor
   ·have : ¬ t < k 0 := fun h => h4 (.inl h)
    grind
   ·have : ¬ k (n - 1) < t := fun h => h4 (.inr h)
    grind
  have fin : k i ≤ t → i = bT n k t := fun h3 => by
   by_cases hi : i + p + 2 < n
   ·have h5 := h2 (i + 1) (by omega) (by omega)
    exact (DU ⟨⟨by omega, h.sorted, by grind⟩, h3, by grind, .inl h5⟩).symm
   ·have e1 := h.last (i + 1) (by omega) (by omega)
    have e2 := h.last (i + p) (by omega) (by omega)
    have e3 := h.mult i (by omega) (by omega)
    exact (DU ⟨⟨by omega, h.sorted, by rw [e1, ← e2]; exact e3⟩, h3, by rw [e1]; exact hin.2, .inr e1⟩).symm
  (repeat' with_reducible first | refine And.intro ?_ ?_ | intro _)
  all_goals first | omega | assumption | skip
  ·rename_i a b
   refine ⟨i - 1, ⟨by omega, fun j h5 h6 => ?_, h4⟩, by dsimp only; omega, [(0, 0)], rfl, ?_, rfl, aR rfl rfl (aN rfl rfl) trivial⟩
   ·by_cases hj : j = i
    ·subst hj; exact b
    ·exact h2 j (by omega) h6
   ·rw [show (i : Int) - 1 = ((i - 1 : Nat) : Int) by omega]; rfl
  ·rename_i a b
   exact ⟨rfl, i, ⟨fin (by grind), h4⟩, [(0, 0)], rfl, rfl, rfl, aR rfl rfl (aN rfl rfl) trivial⟩
  ·exact absurd ‹false = true› (by decide)
  ·have hi : i = 0 := by omega
   subst hi
   exact ⟨rfl, 0, ⟨fin hin.1, h4⟩, [(0, 0)], rfl, rfl, rfl, aR rfl rfl (aN rfl rfl) trivial⟩
abbrev DS : nA ((Nat × (Nat → Rat)) × Int × Rat × Unit) := kC (kL sK) (kC kI (kC (iG sK) kN))
def r4 : Spec := dM DS (fun a => vQ a.1.1 a.1.2 a.2.2.1) fun a => [Kn a.1.1 a.2.1.toNat a.1.2, 0 ≤ a.2.1, a.1.1 < 2 ^ 40]
theorem yh : ∀ K args pre r, r4 K args pre = some r → az P mA K args pre r := dP fun ⟨⟨n, k⟩, p, t, _⟩ K hn => by
 have := Og hn.1 hn.2.2 K (t := t)
 rw [Int.toNat_of_nonneg hn.2.1] at this
 exact this
end Go.Am.B

/- Parameters within a domain. -/
namespace Go.Am.B
open Go Go.Am.N AV aa ag IntKind
theorem Wj {d : Int} : 0 ≤ fo d ∧ fo d ≤ 1 := by
 unfold fo
 have h1 : 1 ≤ q8 d := by
  unfold q8
  have := Int.emod_nonneg (IntKind.i64.wrap (d.tdiv 17)) (show (12 : Int) ≠ 0 by omega)
  omega
 generalize q8 d = m at *
 have h2 := Int.emod_nonneg d (show m + 1 ≠ 0 by omega)
 have h3 := Int.emod_lt_of_pos d (show 0 < m + 1 by omega)
 generalize d % (m + 1) = x at *
 have e1 : (0 : Rat) ≤ (x : Rat) := by exact_mod_cast h2
 have e2 : (x : Rat) ≤ (m : Rat) := by exact_mod_cast (show x ≤ m by omega)
 have e3 : (0 : Rat) < (m : Rat) := by exact_mod_cast (show 0 < m by omega)
 have e4 : (x : Rat) / (m : Rat) * (m : Rat) = (x : Rat) := Rat.div_mul_cancel (by intro h; rw [h] at e3; exact absurd e3 (by decide))
 generalize (x : Rat) / (m : Rat) = q at *
 generalize (x : Rat) = u at *
 generalize (m : Rat) = v at *
 refine ⟨?_, ?_⟩
 ·rcases Rat.le_total (a := 0) (b := q) with h | h
  ·exact h
  ·by_cases hq : q = 0
   ·rw [hq]; exact Rat.le_refl
   ·have := Rat.mul_pos (a := -q) (b := v) (by grind) e3
    grind
 ·rcases Rat.le_total (a := q) (b := 1) with h | h
  ·exact h
  ·by_cases hq : q = 1
   ·rw [hq]; exact Rat.le_refl
   ·have := Rat.mul_pos (a := q - 1) (b := v) (by grind) e3
    grind
theorem abv {a b : Rat} {d : Int} (h : a ≤ b) : a ≤ a + fo d * (b - a) ∧ a + fo d * (b - a) ≤ b := by
 obtain ⟨h1, h2⟩ := Wj (d := d)
 generalize fo d = q at *
 have e1 := Rat.mul_nonneg h1 (show 0 ≤ b - a by grind)
 have e2 := Rat.mul_nonneg (show 0 ≤ 1 - q by grind) (show 0 ≤ b - a by grind)
 constructor <;> grind
theorem Kn.Fu {n p : Nat} {k : Nat → Rat} (h : Kn n p k) {d : Int} : ¬ bL n k (k 0 + fo d * (k (n - 1) - k 0)) := by
 have hl := h.len
 obtain ⟨h1, h2⟩ := abv (d := d) (h.mono (show 0 ≤ n - 1 by omega) (show n - 1 < n by omega))
 rintro (h3 | h3) <;> grind
end Go.Am.B

/- brepkernelmade: Knots. -/
namespace Go.Am.B
open Go Go.Am.N AV aa ag IntKind
theorem D7 : aP P uf vq (au vq) := aL Ub (by kernel_rfl) (by kernel_rfl) (by kernel_rfl)
def kX : aQ := nG :: (mG, fX qz) :: (iI, pD) :: (l5, ud) :: iy
abbrev jf (n : Nat) (z : Nat → Int) (a : Int) : ay := gN n (fun i => .int .i64 (z i)) a
abbrev tO (t : Rat) : ay := ⟨false, true, 3, 1, fun _ => .rat t 64⟩
abbrev Pr (m : Nat) (k : Nat → Rat) : ay := ⟨true, true, 3, m, fun i => .rat (k i) 64⟩
abbrev oF : List Nat := [0, 1, 2, 7, 8, 9]
abbrev xS (p m : Int) (v : AV) (i : Int) : List AV := [.ptr 0 0 2 0 [], .int .i64 p, .int .i64 m, .ptr 1 0 3 0 [], v, .int .i64 i]
noncomputable abbrev rJ : Code := au vq
noncomputable abbrev vX : Code := part rJ [1,1,1,1]
noncomputable abbrev oY : Code := part vX [1]
abbrev sD : List Nat := [0, 1, 7, 8, 10]
abbrev wP : List Nat := [0, 1, 7, 8, 11]
abbrev oo (p : Int) (l : Nat) (i : Int) : List AV := [.ptr 0 0 2 0 [], .int .i64 p, .ptr 1 0 3 0 [], .own 2 3 0 l, .int .i64 i]
abbrev jP (n : Nat) (z : Nat → Int) (a : Int) (t : Rat) (l : Nat) (k : Nat → Rat) : aD := [(2, Pr l k), (1, tO t), (0, jf n z a)]
theorem Tb {n : Nat} {z : Nat → Int} {a p m : Int} : aH T kX [] 60 oF (before rJ [1,1,1,0,1]) ⟨aM 0 [.ptr 0 0 2 0 [], .int .i64 p, .int .i64 m], [(0, jf n z a)], 1⟩ =
  let c2 : Int := (2 : Int) ^ 63; let c1 : Int := bU n (fun i ↦ int i64 (z i)) a (4 : Int) - (2 : Int); some (af [cm n (fun i ↦ int i64 (z i)) a, (0 : Int) < (4 : Int), (4 : Int) < (2 : Int) ^ 62, -c2 ≤ c1 ∧ c1 < c2, -c2 ≤ c1, c1 < c2, (0 : Nat) < 1] (leaf normal ([ptr 0 0 2 0 [], int i64 p, int i64 m, ptr 20481 0 3 0 [], nil, int i64 (0 : Int)], [((20481 : Nat), ay.mk false true 3 1 fun j ↦ if (j == 0) = true then bk (rat (↑c1 : Rat) (Max.max 1 (aS c1.natAbs))) else rat 0 1), ((0 : Nat), ay.mk false true 2 1 fun x ↦ agg [aj 1 n fun i ↦ int i64 (z i), int i64 (bh n a)])]))) := by kernel_rfl
theorem aco {n : Nat} {z : Nat → Int} {a p m : Int} {t : Rat} : aH T kX [18] 60 oF [part rJ [1,1,1,0,1,0,0]] ⟨aB oF (xS p m .nil 0), [(1, tO t), (0, jf n z a)], 3⟩ =
  let c3 : AV := ptr 1 0 3 0 []; let c2 : AV := ptr 0 0 2 0 []; let c1 : List (Nat × ay) := [((1 : Nat), ay.mk false true 3 1 fun x ↦ rat t 64), ((0 : Nat), ay.mk false true 2 1 fun x ↦ agg [aj 1 n fun i ↦ int i64 (z i), int i64 a])]; some (fork (decide ((0 : Int) ≤ p)) (af [(0 : Nat) < 1, (1 : Nat) * 3 ≤ 2 ^ 24, (0 : Nat) < 1 ∧ 1 * ((56 : Nat) + 1) * 2 ≤ 2 ^ 47] (af [-(2 : Int) ^ 63 ≤ (0 : Int) + (1 : Int) ∧ (0 : Int) + (1 : Int) < (2 : Int) ^ 63] (leaf normal ([c2, int i64 p, int i64 m, c3, own 24579 3 0 1, int i64 (1 : Int)], ((24579 : Nat), ay.mk true true 3 1 fun i ↦ nth [rat t 64] (rat 0 1) (i + 0)) :: c1)))) (leaf (exit 0) ([c2, int i64 p, int i64 m, c3, nil, int i64 (0 : Int)], c1))) := by kernel_rfl
theorem Mu {n j : Nat} {z : Nat → Int} {a p m : Int} {t : Rat} {k : Nat → Rat} : aH T kX [18] 60 oF [part rJ [1,1,1,0,1,0,0]] ⟨aB oF (xS p m (.own 2 3 0 (j + 1)) ((j + 1 : Nat) : Int)), jP n z a t (j + 1) k, 3⟩ =
  let c4 : AV := ptr 1 0 3 0 []; let c3 : AV := ptr 0 0 2 0 []; let c2 : Nat := j + 1; let c1 : List (Nat × ay) := [((1 : Nat), ay.mk false true 3 1 fun x ↦ rat t 64), ((0 : Nat), ay.mk false true 2 1 fun x ↦ agg [aj 1 n fun i ↦ int i64 (z i), int i64 a])]; let c7 : Nat := c2 + 1; let c6 : Int := (↑c2 : Int); let c5 : Int := c6 + (1 : Int); some (fork (decide (c6 ≤ p)) (af [(0 : Nat) < 1, (1 : Nat) * 3 ≤ 2 ^ 24, c7 * ((56 : Nat) + 1) * 2 ≤ 2 ^ 47] (af [-(2 : Int) ^ 63 ≤ c5 ∧ c5 < (2 : Int) ^ 63] (leaf normal ([c3, int i64 p, int i64 m, c4, own 24579 3 0 c7, int i64 c5], ((24579 : Nat), ay.mk true true 3 c7 fun i ↦ if i < c2 then rat (k i) 64 else nth [rat t 64] (rat 0 1) (i - c2 + 0)) :: c1)))) (leaf (exit 0) ([c3, int i64 p, int i64 m, c4, own 2 3 0 c2, int i64 c6], ((2 : Nat), ay.mk true true 3 c2 fun i ↦ rat (k i) 64) :: c1))) := by kernel_rfl
theorem Vp {n j : Nat} {z : Nat → Int} {a p m : Int} {t : Rat} {k : Nat → Rat} : aH T kX [] 60 sD (before vX [0,1]) ⟨aB oF (xS p m (.own 2 3 0 (j + 1)) ((j + 1 : Nat) : Int)), jP n z a t (j + 1) k, 3⟩ =
  let c1 : Int := m + (1 : Int); some (af [-(2 : Int) ^ 63 ≤ c1 ∧ c1 < (2 : Int) ^ 63, cm n (fun i ↦ int i64 (z i)) a, (0 : Int) < c1, c1 < (2 : Int) ^ 62] (leaf normal ([ptr 0 0 2 0 [], int i64 p, ptr 1 0 3 0 [], own 2 3 0 (j + 1), int i64 (bU n (fun i ↦ int i64 (z i)) a c1)], [((2 : Nat), ay.mk true true 3 (j + 1) fun i ↦ rat (k i) 64), ((1 : Nat), ay.mk false true 3 1 fun x ↦ rat t 64), ((0 : Nat), ay.mk false true 2 1 fun x ↦ agg [aj 1 n fun i ↦ int i64 (z i), int i64 (bh n a)])]))) := by kernel_rfl
theorem aad {n l : Nat} {z : Nat → Int} {a p i : Int} {t : Rat} {k : Nat → Rat} : aH T kX [30, 38, 43, 53] 60 sD [part vX [0,1,0,0]] ⟨aB sD (oo p l i), jP n z a t l k, 3⟩ =
  let c40 : Int := i - (1 : Int); let c39 : Nat := 64 + 64 + 1; let c35 : AV := rat t 64; let c34 : AV := rat 0 1; let c33 : Int := bh n a; let c31 : Nat := l + 1; let c30 : Prop := (0 : Int) < (3 : Int); let c28 : Prop := cm n (fun i ↦ int i64 (z i)) a; let c27 : Int := (↑l : Int); let c25 : AV := ptr 1 0 3 0 []; let c24 : AV := ptr 0 0 2 0 []; let c23 : Prop := 0 < 1; let c21 : Int := (2 : Int) ^ 62; let c20 : AV := aj 1 n fun i ↦ int i64 (z i); let c18 : Int := p + (1 : Int); let c16 : Prop := 64 < 2 ^ 41; let c7 : Int := bU n (fun i ↦ int i64 (z i)) a (3 : Int); let c5 : Int := (2 : Int) ^ 63; let c43 : Int := bh n c33; let c41 : Bool := c27 == c18; let c38 : Prop := cm n (fun i ↦ int i64 (z i)) c33; let c37 : Prop := (3 : Int) < c21; let c32 : Prop := -c5 ≤ c18 ∧ c18 < c5; let c29 : Int := (1 : Int) + c7; let c26 : Nat × ay := ((1 : Nat), ay.mk false true 3 1 fun x ↦ c35); let c22 : Bool := bif false then true else decide (c7 > (0 : Int)); let c19 : List Prop := [-c5 ≤ c40 ∧ c40 < c5]; let c17 : Nat := (c27 - p).toNat + 0; let c15 : Nat × ay := ((106499 : Nat), ay.mk true true 3 c31 fun i ↦ if i < l then rat (k i) 64 else nth [c35] c34 (i - l + 0)); let c13 : List AV := [c24, int i64 p, c25, own 147459 3 0 c31, int i64 c40]; let c12 : List AV := [c24, int i64 p, c25, own 106499 3 0 c31, int i64 c40]; let c10 : Int := (1 : Int) + bU n (fun i ↦ int i64 (z i)) c33 (2 : Int); let c9 : Int := (1 : Int) + bU n (fun i ↦ int i64 (z i)) c33 (3 : Int); let c6 : List Prop := [c23, (1 : Nat) * 3 ≤ 2 ^ 24, c31 * ((56 : Nat) + 1) * 2 ≤ 2 ^ 47]; let c42 : Rat := (↑c29 : Rat) / (↑c10 : Rat); let c36 : Bool := bif false then true else decide (t = k c17); let c14 : List (Nat × ay) := [c26, ((0 : Nat), ay.mk false true 2 1 fun x ↦ agg [c20, int i64 a])]; let c11 : List Prop := [c23, -c5 ≤ c27 - p ∧ c27 - p < c5, (0 : Int) ≤ c27 - p ∧ (c27 - p).toNat < l, c17 < l, c16, c16]; let c8 : Int := (1 : Int) + bU n (fun i ↦ int i64 (z i)) c43 (2 : Int); let c3 : aa (List AV × aD) := af c6 (af c19 (leaf normal (c12, [c15, c26, ((0 : Nat), ay.mk false true 2 1 fun x ↦ agg [c20, int i64 c33])]))); let c44 : Rat := (↑c9 : Rat) / (↑c8 : Rat); let c4 : aa (List AV × aD) := af c6 (af c19 (leaf normal (c12, c15 :: c14))); let c2 : aa (List AV × aD) := af [c23, c28, c30, c37, -c5 ≤ c29 ∧ c29 < c5, c38, (0 : Int) < (2 : Int), (2 : Int) < c21, -c5 ≤ c10 ∧ c10 < c5, -c5 ≤ c29, c29 < c5, -c5 ≤ c10, c10 < c5, c16, c16, c23] (af c6 (af c19 (leaf normal (c13, [((147459 : Nat), ay.mk true true 3 c31 fun i ↦ if i < l then rat (k i) 64 else nth [rat (t + c42) c39] c34 (i - l + 0)), ((1 : Nat), ay.mk false true 3 1 fun j ↦ if (j == 0) = true then bk (jE (t, (64 : Nat)) (c42, (64 : Nat))) else c35), ((0 : Nat), ay.mk false true 2 1 fun x ↦ agg [c20, int i64 c43])])))); let c1 : aa (List AV × aD) := af [c23, c38, c30, c37, -c5 ≤ c9 ∧ c9 < c5, cm n (fun i ↦ int i64 (z i)) c43, (0 : Int) < (2 : Int), (2 : Int) < c21, -c5 ≤ c8 ∧ c8 < c5, -c5 ≤ c9, c9 < c5, -c5 ≤ c8, c8 < c5, c16, c16, c23] (af c6 (af c19 (leaf normal (c13, [((147459 : Nat), ay.mk true true 3 c31 fun i ↦ if i < l then rat (k i) 64 else nth [rat (t + c44) c39] c34 (i - l + 0)), ((1 : Nat), ay.mk false true 3 1 fun j ↦ if (j == 0) = true then bk (jE (t, (64 : Nat)) (c44, (64 : Nat))) else c35), ((0 : Nat), ay.mk false true 2 1 fun x ↦ agg [c20, int i64 (bh n c43)])])))); some (fork (decide (i > (0 : Int))) (fork c41 (fork true (af [c32, c41 = true, true = true] (fork true c2 c4)) (af (c32 :: (c41 = true) :: (true = false) :: c11) (fork c36 c2 c4))) (fork c22 (af [c32, c41 = false, c28, c30, c37, c22 = true] (fork true c1 c3)) (af (c32 :: (c41 = false) :: c28 :: c30 :: c37 :: (c22 = false) :: c11) (fork c36 c1 c3)))) (leaf (exit 2) ([c24, int i64 p, c25, own 2 3 0 l, int i64 i], ((2 : Nat), ay.mk true true 3 l fun i ↦ rat (k i) 64) :: c14))) := by kernel_rfl
theorem Oa {n l : Nat} {z : Nat → Int} {a p i : Int} {t : Rat} {k : Nat → Rat} : aH T kX [] 60 wP (before oY [1,0,1]) ⟨aB sD (oo p l i), jP n z a t l k, 3⟩ =
  let c1 : Nat := Max.max 1 (aS (Int.natAbs (1 : Int))); some (af [(0 : Nat) < 1, -(2 : Int) ^ 63 ≤ (1 : Int), (1 : Int) < (2 : Int) ^ 63, (64 : Nat) < 2 ^ 41, c1 < 2 ^ 41, (0 : Nat) < 1] (leaf normal ([ptr 0 0 2 0 [], int i64 p, ptr 1 0 3 0 [], own 2 3 0 l, int i64 (0 : Int)], [((2 : Nat), ay.mk true true 3 l fun i ↦ rat (k i) 64), ((1 : Nat), ay.mk false true 3 1 fun j ↦ if (j == 0) = true then bk (jE (t, (64 : Nat)) ((↑(1 : Int) : Rat), c1)) else rat t 64), ((0 : Nat), ay.mk false true 2 1 fun x ↦ agg [aj 1 n fun i ↦ int i64 (z i), int i64 a])]))) := by kernel_rfl
theorem Qc {n l : Nat} {z : Nat → Int} {a p i : Int} {t : Rat} {k : Nat → Rat} : aH T kX [72] 60 wP [part oY [1,0,1,0,0]] ⟨aB wP (oo p l i), jP n z a t l k, 3⟩ =
  let c3 : AV := ptr 1 0 3 0 []; let c2 : AV := ptr 0 0 2 0 []; let c1 : List (Nat × ay) := [((1 : Nat), ay.mk false true 3 1 fun x ↦ rat t 64), ((0 : Nat), ay.mk false true 2 1 fun x ↦ agg [aj 1 n fun i ↦ int i64 (z i), int i64 a])]; some (fork (decide (i ≤ p)) (af [(0 : Nat) < 1, (1 : Nat) * 3 ≤ 2 ^ 24, (l + 1) * ((56 : Nat) + 1) * 2 ≤ 2 ^ 47] (af [-(2 : Int) ^ 63 ≤ i + (1 : Int) ∧ i + (1 : Int) < (2 : Int) ^ 63] (leaf normal ([c2, int i64 p, c3, own 24579 3 0 (l + 1), int i64 (i + (1 : Int))], ((24579 : Nat), ay.mk true true 3 (l + 1) fun i ↦ if i < l then rat (k i) 64 else nth [rat t 64] (rat 0 1) (i - l + 0)) :: c1)))) (leaf (exit 4) ([c2, int i64 p, c3, own 2 3 0 l, int i64 i], ((2 : Nat), ay.mk true true 3 l fun i ↦ rat (k i) 64) :: c1))) := by kernel_rfl
theorem P6 {n l : Nat} {z : Nat → Int} {a p i : Int} {t : Rat} {k : Nat → Rat} : zK T kX [] 60 vq [part oY [1,1]] ⟨aB wP (oo p l i), jP n z a t l k, 3⟩ =
  some (leaf ret ([aj 3 l fun i ↦ rat (k (i + 0)) 64], some (ay.mk false true 2 1 fun x ↦ agg [aj 1 n fun i ↦ int i64 (z i), int i64 a]))) := by kernel_rfl
structure pW where
 k : Nat → Rat
 t : Rat
 a : Int
def ou (n : Nat) (f : Nat → AV) (t : Rat) (a : Int) : Rat := t + ((1 + bU n f a 3 : Int) : Rat) / ((1 + bU n f (bh n a) 2 : Int) : Rat)
def nB (n : Nat) (f : Nat → AV) (p j : Nat) (s : pW) : pW :=
 if j = 0 ∨ 0 < bU n f s.a 3 ∨ s.t = s.k (j + 1) then
  ⟨ig s.k (p + 1 + j) (ou n f s.t (if j = 0 then s.a else bh n s.a)), ou n f s.t (if j = 0 then s.a else bh n s.a), bh n (bh n (if j = 0 then s.a else bh n s.a))⟩
 else ⟨ig s.k (p + 1 + j) s.t, s.t, if j = 0 then s.a else bh n s.a⟩
def mK (n : Nat) (f : Nat → AV) (p : Nat) (s0 : pW) : Nat → pW
 | 0 => s0
 | j + 1 => nB n f p j (mK n f p s0 j)
def mE (n : Nat) (f : Nat → AV) (a : Int) : pW := ⟨fun _ => ((bU n f a 4 - 2 : Int) : Rat), ((bU n f a 4 - 2 : Int) : Rat), bh n (bh n a)⟩
def iV (n : Nat) (f : Nat → AV) (a : Int) (m : Nat) : Nat := (bU n f (bh n a) (m + 1)).toNat
def xg (n : Nat) (f : Nat → AV) (a : Int) (p m : Nat) : pW := mK n f p (mE n f a) (iV n f a m)
def oc (n : Nat) (f : Nat → AV) (a : Int) (p m : Nat) : Nat := 2 * p + 2 + iV n f a m
def qe (n : Nat) (f : Nat → AV) (a : Int) (p m : Nat) : Nat → Rat := jK p (iV n f a m) (xg n f a p m).k (xg n f a p m).t
def oa (n : Nat) (f : Nat → AV) (a : Int) (p m : Nat) : Int := (xg n f a p m).a
theorem zB {n : Nat} {f : Nat → AV} {a : Int} {p : Nat} (hd : cm n f a) (hp : 1 ≤ p) : ∀ j, KG p j (mK n f p (mE n f a) j).k (mK n f p (mE n f a) j).t ∧ cm n f (mK n f p (mE n f a) j).a
 | 0 => by
  have h1 := ic (n := n) (f := f) (a := a) (m := 4) (by omega)
  have h2 := iu (n := n) (f := f) (a := a) (m := 4) (by omega)
  exact ⟨KG.start hp (by omega) (by omega), hd.next.next⟩
 | j + 1 => by
  obtain ⟨h1, h2⟩ := zB hd hp j
  unfold mK nB ou
  generalize mK n f p (mE n f a) j = s at *
  obtain ⟨k, t, b⟩ := s
  simp only at h1 h2 ⊢
  have hb : cm n f (if j = 0 then b else bh n b) := by split; exact h2; exact h2.next
  generalize (if j = 0 then b else bh n b) = a1 at *
  split
  ·have x1 := ic (n := n) (f := f) (a := a1) (m := 3) (by omega)
   have x2 := iu (n := n) (f := f) (a := a1) (m := 3) (by omega)
   have y1 := ic (n := n) (f := f) (a := bh n a1) (m := 2) (by omega)
   have y2 := iu (n := n) (f := f) (a := bh n a1) (m := 2) (by omega)
   refine ⟨h1.next (.inl ?_), hb.next.next⟩
   generalize bU n f a1 3 = x at *
   generalize bU n f (bh n a1) 2 = y at *
   have key : ∃ z : Int, ((1 + x : Int) : Rat) / ((1 + y : Int) : Rat) = (z : Rat) / 2 ∧ 1 ≤ z ∧ z ≤ 6 := by
    rcases (show y = 0 ∨ y = 1 by omega) with h | h
    ·subst h
     refine ⟨2 * (1 + x), ?_, by omega, by omega⟩
     have : ((2 * (1 + x) : Int) : Rat) = 2 * ((1 + x : Int) : Rat) := by simp
     rw [this]
     generalize ((1 + x : Int) : Rat) = w
     simp; grind
    ·subst h
     exact ⟨1 + x, by simp, by omega, by omega⟩
   obtain ⟨z, e, z1, z2⟩ := key
   rw [e]
   refine ⟨?_, z, rfl, z2⟩
   have : (1 : Rat) ≤ (z : Rat) := by exact_mod_cast z1
   grind
  ·rename_i hc
   have hc1 : ¬ j = 0 := fun h => hc (.inl h)
   have hc2 : ¬ t = k (j + 1) := fun h => hc (.inr (.inr h))
   exact ⟨h1.next (.inr ⟨rfl, by omega, hc2⟩), hb⟩
theorem Je {z : Int} (h1 : -2 ^ 63 ≤ z) (h2 : z < 2 ^ 63) : Sz ((z : Rat) / 2) 64 := by
 have := Gy h1 h2 (y := 2) (by omega) (by omega) (by omega)
 simpa using this
theorem KG.sz {p j : Nat} {k : Nat → Rat} {t : Rat} (h : KG p j k t) (hj : j < 2 ^ 50) : Sz t 64 := by
 obtain ⟨z, e, h1, h2⟩ := h.half (p + j) (Nat.le_refl _)
 rw [h.top] at e
 rw [e]
 exact Je (by omega) (by omega)
theorem acS {J j : Nat} (h : j < J) : ((J - j : Nat) : Int) - 1 = ((J - (j + 1) : Nat) : Int) := by omega
theorem AR {rl : List (Nat × Nat)} {l i : Nat} {k k' : Nat → Rat} {t : Rat} {s : Nat} (hk : k' = ig k l t) (ht : Sz t 64) (hi : i < l + 1) : ga rl (if i < l then .rat (k i) 64 else nth [.rat t s] (.rat 0 1) (i - l + 0)) (.rat (k' i) 64) := by
 subst hk
 by_cases h : i < l
 ·rw [if_pos h, gI (by omega)]; exact aN rfl rfl
 ·have : i = l := by omega
  subst this
  rw [if_neg h, lJ, Nat.sub_self]
  exact .inr ⟨rfl, eG rfl ht⟩
theorem xj : aW P kX := eu (aC z7 (aC uV (aC zj ja)))
theorem abM {k n p m : Nat} {z : Nat → Int} {a : Int} {o : ay} (ho : ∀ ρ, cF ρ o (jf n z a)) (h : cm n (fun i => .int .i64 (z i)) a) (hp : 1 ≤ p) (hp2 : p < 1000) (hm2 : m < 1000) (K : Nat) :
  az P uf K [.ptr k 0 2 0 [], .int .i64 p, .int .i64 m] [(k, o)] ⟨bX (qe n (fun i => .int .i64 (z i)) a p m) (oc n (fun i => .int .i64 (z i)) a p m) 64, [(k, jf n z (oa n (fun i => .int .i64 (z i)) a p m))], []⟩ := by
 refine Jm hT D7 rfl rfl (of_decide_eq_true (by kernel_rfl)) ho (fun _ c hk => ?_) K
 have a1 := ic (n := n) (f := fun i => .int .i64 (z i)) (a := a) (m := 4) (by omega)
 have a2 := iu (n := n) (f := fun i => .int .i64 (z i)) (a := a) (m := 4) (by omega)
 have b1 := ic (n := n) (f := fun i => .int .i64 (z i)) (a := bh n a) (m := m + 1) (by omega)
 have b2 := iu (n := n) (f := fun i => .int .i64 (z i)) (a := bh n a) (m := m + 1) (by omega)
 have hS := zB h hp
 unfold oa qe oc xg at *
 obtain ⟨J, hJ⟩ : ∃ J, J = iV n (fun i => .int .i64 (z i)) a m := ⟨_, rfl⟩
 have hJ2 : bU n (fun i => .int .i64 (z i)) (bh n a) (m + 1) = (J : Int) := by rw [hJ]; unfold iV; omega
 rw [← hJ] at *
 have hJ3 : J < 1000 := by omega
 obtain ⟨S, hSd⟩ : ∃ S, S = mK n (fun i => .int .i64 (z i)) p (mE n (fun i => .int .i64 (z i)) a) := ⟨_, rfl⟩
 have h00 : S 0 = mE n (fun i => .int .i64 (z i)) a := by rw [hSd]; rfl
 have hS1 : ∀ j, S (j + 1) = nB n (fun i => .int .i64 (z i)) p j (S j) := fun j => by rw [hSd]; rfl
 rw [← hSd] at hS ⊢
 clear hSd hJ
 obtain ⟨t0, ht0⟩ : ∃ t0 : Rat, t0 = ((bU n (fun i => .int .i64 (z i)) a 4 - 2 : Int) : Rat) := ⟨_, rfl⟩
 unfold mE at h00
 rw [← ht0] at h00
 have hs0 : Sz t0 64 := by have := (hS 0).1.sz (by omega); rw [h00] at this; exact this
 refine aq.jx hT xj hm [1,1,1,0,1] (i := 0) (y := part rJ [1,1,1,0,1,0,0]) (z := vX) (by kernel_rfl) (by kernel_rfl) (by kernel_rfl) D7.dst hk (f1 := []) (f2 := [18]) 60 oF 3
  (fun j : Nat => xS p m (match j with
   | 0 => .nil
   | _ + 1 => .own 2 3 0 j) j) (fun j => match j with
   | 0 => [(1, tO t0), (0, jf n z (bh n a))]
   | _ + 1 => jP n z (bh n a) t0 j (fun _ => t0)) (fun j => j ≤ p + 1) (fun j => j = p + 1) (fun j => p + 1 - j) (fun _ => False) ⟨_, Tb, ?_⟩ (fun j hj => ?_) (fun j hj => ?_) (fun _ _ h => h.elim)
 ·simp only [aa.all, ax]
  refine ⟨⟨h, by omega, by omega, by omega, by omega, by omega, by omega⟩, 0, by omega, [(0, 0), (1, 20481)], rfl, rfl, rfl, aR rfl rfl (.inr ⟨rfl, ?_⟩) (aR rfl rfl (aN rfl rfl) trivial)⟩
  rw [← ht0]
  exact eG rfl hs0
 ·cases j with
  | zero =>
   refine ⟨_, aco, ?_⟩
   simp only [aa.all, ax, decide_eq_true_eq, decide_eq_false_iff_not]
   refine ⟨fun _ => ⟨by omega, by omega, 1, by omega, by dsimp only; omega, [(0, 0), (1, 1), (2, 24579)], rfl, rfl, rfl, bP rfl rfl rfl (fun i hi => ?_) (aR rfl rfl (aN rfl rfl) (aR rfl rfl (aN rfl rfl) trivial))⟩, fun h => by omega⟩
   have : i = 0 := by omega
   subst this
   exact aN rfl rfl
  | succ j =>
   refine ⟨_, Mu, ?_⟩
   simp only [aa.all, ax, decide_eq_true_eq, decide_eq_false_iff_not]
   refine ⟨fun _ => ⟨by omega, by omega, j + 2, by omega, by dsimp only; omega, [(0, 0), (1, 1), (2, 24579)], rfl, rfl, rfl, bP rfl rfl rfl (fun i hi => AR (by funext i; unfold ig; split <;> rfl) hs0 hi) (aR rfl rfl (aN rfl rfl) (aR rfl rfl (aN rfl rfl) trivial))⟩,
    fun _ => ⟨rfl, j + 1, by omega, [(0, 0), (1, 1), (2, 2)], rfl, rfl, rfl, bP rfl rfl rfl (fun i hi => aN rfl rfl) (aR rfl rfl (aN rfl rfl) (aR rfl rfl (aN rfl rfl) trivial))⟩⟩
 subst hj
 refine aq.jx hT xj hm [0,1] (i := 2) (y := part vX [0,1,0,0]) (z := oY) (by kernel_rfl) (by kernel_rfl) (by kernel_rfl) (by kernel_rfl) hk (f1 := []) (f2 := [30, 38, 43, 53]) 60 sD 3
  (fun j : Nat => oo p (p + 1 + j) ((J - j : Nat) : Int)) (fun j => jP n z (S j).a (S j).t (p + 1 + j) (S j).k) (fun j => j ≤ J) (fun j => j = J) (fun j => J - j) (fun _ => False) ⟨_, Vp, ?_⟩ (fun j hj => ?_) (fun j hj => ?_) (fun _ _ h => h.elim)
 ·simp only [aa.all, ax]
  rw [hJ2]
  refine ⟨⟨by omega, h.next, by omega, by omega⟩, 0, by omega, [(0, 0), (1, 1), (2, 2)], rfl, rfl, rfl, ?_⟩
  dsimp only
  rw [h00]
  exact bP rfl rfl rfl (fun i hi => aN rfl rfl) (aR rfl rfl (aN rfl rfl) (aR rfl rfl (aN rfl rfl) trivial))
 ·refine ⟨_, aad, ?_⟩
  have hj1 := hS1 j
  obtain ⟨hg, hd⟩ := hS j
  have hs1 : ∀ {j}, j < 2000 → Sz (S j).t 64 := fun hj => (hS _).1.sz (by omega)
  have hsj := hs1 (j := j) (by omega)
  have hsj1 := hs1 (j := j + 1) (by omega)
  have e1 : (((p + 1 + j : Nat) : Int) - (p : Int)).toNat + 0 = j + 1 := by omega
  simp only [aa.all, ax, decide_eq_true_eq, decide_eq_false_iff_not, beq_iff_eq, beq_eq_false_iff_ne, e1, cond_false]
  have v3 := fun a => And.intro (ic (n := n) (f := fun i => .int .i64 (z i)) (a := a) (m := 3) (by omega)) (iu (n := n) (f := fun i => .int .i64 (z i)) (a := a) (m := 3) (by omega))
  have v2 := fun a => And.intro (ic (n := n) (f := fun i => .int .i64 (z i)) (a := a) (m := 2) (by omega)) (iu (n := n) (f := fun i => .int .i64 (z i)) (a := a) (m := 2) (by omega))
  have q1 := v3 (S j).a
  have q2 := v3 (bh n (S j).a)
  have q3 := v2 (bh n (S j).a)
  have q4 := v2 (bh n (bh n (S j).a))
  refine ⟨fun hi => ?_, fun hi => ⟨rfl, j, by omega, [(0, 0), (1, 1), (2, 2)], rfl, rfl, rfl, bP rfl rfl rfl (fun i hi => aN rfl rfl) (aR rfl rfl (aN rfl rfl) (aR rfl rfl (aN rfl rfl) trivial))⟩⟩
  have hlt : j < J := by omega
  have fin : ∀ (key : Nat) (t : Rat) (s s2 : Nat) (b : Int) (g : Nat → AV), S (j + 1) = ⟨ig (S j).k (p + 1 + j) t, t, b⟩ → g 0 = .rat t s2 → (iz 3 [(0, 0), (1, 1), (2, key)]) = true → (key == 1) = false → (key == 0) = false →
    Round [0] (fun j => oo p (p + 1 + j) ((J - j : Nat) : Int)) (fun j => jP n z (S j).a (S j).t (p + 1 + j) (S j).k) 3 (fun j => j ≤ J) (fun j => j = J) (fun j => J - j) 2 (fun _ => False) j normal
     ([ptr 0 0 2 0 [], int i64 p, ptr 1 0 3 0 [], own key 3 0 (p + 1 + j + 1), int i64 (((J - j : Nat) : Int) - 1)], [(key, ⟨true, true, 3, p + 1 + j + 1, fun i => if i < p + 1 + j then .rat ((S j).k i) 64 else nth [.rat t s] (.rat 0 1) (i - (p + 1 + j) + 0)⟩), (1, ⟨false, true, 3, 1, g⟩), (0, jf n z b)]) := by
   intro key t s s2 b g e1 e2 e3 hk1 hk0
   rw [e1] at hsj1
   refine ⟨j + 1, by omega, by dsimp only; omega, [(0, 0), (1, 1), (2, key)], by rw [e3]; rfl, by rw [acS hlt]; rfl, rfl, ?_⟩
   dsimp only
   rw [e1]
   exact bP rfl SA rfl (fun i hi => AR rfl hsj1 hi) (aR rfl ((IF hk1).trans rfl) (.inr ⟨by rw [e2]; rfl, by rw [e2]; exact eG rfl hsj1⟩) (aR rfl ((IF hk0).trans rfl) (aN rfl rfl) trivial))
  refine ⟨fun hl => ?_, fun hl => ⟨fun hc => ?_, fun hc => ?_⟩⟩
  all_goals (repeat' with_reducible first | refine And.intro ?_ ?_ | intro _)
  all_goals first | omega | exact hd | exact hd.next | exact hd.next.next | skip
  all_goals try exact absurd ‹true = false› (by decide)
  ·refine fin 147459 _ _ _ _ _ ?_ rfl rfl rfl rfl
   rw [hj1]; unfold nB ou
   have hj0 : j = 0 := by omega
   rw [if_pos (.inl hj0), if_pos hj0]
  ·refine fin 147459 _ _ _ _ _ ?_ rfl rfl rfl rfl
   rw [hj1]; unfold nB ou
   have hj0 : j ≠ 0 := by omega
   rw [if_pos (.inr (.inl hc)), if_neg hj0]
  ·refine fin 147459 _ _ _ _ _ ?_ rfl rfl rfl rfl
   rw [hj1]; unfold nB ou
   have hj0 : j ≠ 0 := by omega
   rename_i hk
   rw [if_pos (.inr (.inr hk)), if_neg hj0]
  ·refine fin 106499 _ _ _ _ _ ?_ rfl rfl rfl rfl
   rw [hj1]; unfold nB ou
   have hj0 : j ≠ 0 := by omega
   rename_i hk
   rw [if_neg (by simp only [hj0, hk, or_false, false_or]; omega), if_neg hj0]
 subst hj
 have hs1 : Sz ((S j).t + 1) 64 := by
  obtain ⟨z, e, h1, h2⟩ := (hS j).1.RF (p + 1 + j)
  unfold jK at e
  rw [if_neg (by omega)] at e
  rw [e]; exact Je (by omega) (by omega)
 refine aq.jx hT xj hm [1,0,1] (i := 4) (y := part oY [1,0,1,0,0]) (z := part oY [1,1]) (by kernel_rfl) (by kernel_rfl) (by kernel_rfl) (by kernel_rfl) hk (f1 := []) (f2 := [72]) 60 wP 3
  (fun i : Nat => oo p (p + 1 + j + i) i) (fun i => jP n z (S j).a ((S j).t + 1) (p + 1 + j + i) (jK p j (S j).k (S j).t)) (fun i => i ≤ p + 1) (fun i => i = p + 1) (fun i => p + 1 - i) (fun _ => False) ⟨_, Oa, ?_⟩ (fun i hi => ?_) (fun i hi => ?_) (fun _ _ h => h.elim)
 ·simp only [aa.all, ax]
  refine ⟨⟨by omega, by omega, by omega, by omega, by decide, by omega⟩, 0, by omega, [(0, 0), (1, 1), (2, 2)], rfl, rfl, rfl, bP rfl rfl rfl (fun i hi => ?_) (aR rfl rfl (.inr ⟨rfl, eG rfl hs1⟩) (aR rfl rfl (aN rfl rfl) trivial))⟩
  refine aN rfl ?_
  unfold jK
  rw [if_pos (by omega)]
 ·refine ⟨_, Qc, ?_⟩
  simp only [aa.all, ax, decide_eq_true_eq, decide_eq_false_iff_not]
  refine ⟨fun _ => ⟨by omega, by omega, i + 1, by omega, by dsimp only; omega, [(0, 0), (1, 1), (2, 24579)], rfl, rfl, rfl, bP rfl rfl rfl (fun i hi => AR ?_ hs1 hi) (aR rfl rfl (aN rfl rfl) (aR rfl rfl (aN rfl rfl) trivial))⟩,
   fun _ => ⟨rfl, i, by omega, [(0, 0), (1, 1), (2, 2)], rfl, rfl, rfl, bP rfl rfl rfl (fun i hi => aN rfl rfl) (aR rfl rfl (aN rfl rfl) (aR rfl rfl (aN rfl rfl) trivial))⟩⟩
  funext x
  unfold ig jK
  split
  ·rename_i hx; rw [if_neg (by omega)]
  ·split <;> rfl
 ·subst hi
  refine aq.jq (aA.IT hT xj hm 60 P6 (by kernel_rfl) ⟨?_, _, rfl, rfl, kM rfl rfl⟩)
  exact qV (by omega) fun _ _ => rfl
def CU (n : Nat) (f : Nat → AV) (a : Int) (l : List AV) : Option (AV × Int × List Prop) := match l with
 | [.int .i64 p, .int .i64 m] => some (bX (qe n f a p.toNat m.toNat) (oc n f a p.toNat m.toNat) 64, oa n f a p.toNat m.toNat, [1 ≤ p, p < 1000, 0 ≤ m, m < 1000])
 | _ => none
theorem Su : ∀ K args pre r, fX CU K args pre = some r → az P uf K args pre r := by
 refine pS fun {k n z a l v b q o} K hg ho hd hq => ?_
 unfold CU at hg
 split at hg
 ·rename_i p m
  simp only [Option.some.injEq, Prod.mk.injEq] at hg
  obtain ⟨rfl, rfl, rfl⟩ := hg
  obtain ⟨h1, h2, h3, h4⟩ := hq
  have h4 : m < 1000 := h4
  have := abM (k := k) (p := p.toNat) (m := m.toNat) ho hd (by omega) (by omega) (by omega) K
  rw [Int.toNat_of_nonneg (by omega), Int.toNat_of_nonneg h3] at this
  exact this
 ·simp at hg
end Go.Am.B

/- Poles, lists of qF, curves, surfaces as arguments. -/
namespace Go.Am.B
open Go Go.Am.N AV
def dx : AV → Pl
 | .agg [.agg [x, y, z], w] => ⟨⟨aK x, aK y, aK z⟩, aK w⟩
 | _ => ⟨⟨0, 0, 0⟩, 0⟩
def gd (f : Nat → AV) (n s : Nat) : Prop := ∀ i, i < n → bn (f i) (bw (dx (f i)) s)
abbrev ee (f : Nat → Pl) (n s : Nat) : AV := .aj 12 n (fun i => bw (f i) s)
theorem yz {u v : Pl} {n k : Nat} (h : u = v) (hk : n ≤ k) : bn (bw u n) (bw v k) :=
 h ▸ cN ⟨mc rfl hk, cr rfl hk, trivial⟩
theorem lD {f : Nat → Pl} {n s s' : Nat} (h : s ≤ s') : gd (fun i => bw (f i) s) n s' := fun _ _ => yz rfl h
def Bz : AV → Option (Nat × (Nat → AV))
 | .aj 12 n f => some (n, f)
 | .nil => some (0, fun _ => .nil)
 | _ => none
theorem RS {v : AV} {n s : Nat} {f : Nat → AV} (h : Bz v = some (n, f)) (ha : gd f n s) : bn v (ee (fun i => dx (f i)) n s) := by
 unfold Bz at h
 split at h
 ·simp only [Option.some.injEq, Prod.mk.injEq] at h
  obtain ⟨rfl, rfl⟩ := h
  exact gC ha
 ·simp only [Option.some.injEq, Prod.mk.injEq] at h
  obtain ⟨rfl, rfl⟩ := h
  exact gL (by omega)
 ·simp at h
def BE (s : Nat) : Kind (Nat × (Nat → Pl)) := ⟨fun v => match Bz v with
 | some (n, f) => some ((n, fun i => dx (f i)), [gd f n s])
 | none => none, fun a => ee a.2 a.1 s, fun {v a q} h hq => by
  split at h
  ·rename_i h1
   simp only [Option.some.injEq, Prod.mk.injEq] at h
   obtain ⟨rfl, rfl⟩ := h
   exact RS h1 hq
  ·simp at h⟩
def u7 (s : Nat) : Kind V3 := ⟨fun v => match v with
 | .agg [x, y, z] => match gf x, gf y, gf z with
  | some (x, a), some (y, b), some (z, c) => some (⟨x, y, z⟩, [a ≤ s, b ≤ s, c ≤ s])
  | _, _, _ => none
 | _ => none, fun a => vA a s, fun {v a q} h hq => by
  split at h
  ·split at h
   ·rename_i h1 h2 h3
    simp only [Option.some.injEq, Prod.mk.injEq] at h
    obtain ⟨rfl, rfl⟩ := h
    exact cN ⟨(gG h1).trans (cr rfl hq.1), (gG h2).trans (cr rfl hq.2.1), (gG h3).trans (cr rfl hq.2.2), trivial⟩
   ·simp at h
  ·simp at h⟩
abbrev jB (h : Pl) (s : Nat) : AV := .agg [.rat h.n.x s, .rat h.n.y s, .rat h.n.z s, .rat h.d s]
def E2 (s : Nat) : Kind Pl := ⟨fun v => match v with
 | .agg [x, y, z, w] => match gf x, gf y, gf z, gf w with
  | some (x, a), some (y, b), some (z, c), some (w, d) => some (⟨⟨x, y, z⟩, w⟩, [a ≤ s, b ≤ s, c ≤ s, d ≤ s])
  | _, _, _, _ => none
 | _ => none, fun a => jB a s, fun {v a q} h hq => by
  split at h
  ·split at h
   ·rename_i h1 h2 h3 h4
    simp only [Option.some.injEq, Prod.mk.injEq] at h
    obtain ⟨rfl, rfl⟩ := h
    exact cN ⟨(gG h1).trans (cr rfl hq.1), (gG h2).trans (cr rfl hq.2.1), (gG h3).trans (cr rfl hq.2.2.1), (gG h4).trans (cr rfl hq.2.2.2), trivial⟩
   ·simp at h
  ·simp at h⟩
structure Cu where
 p : Int
 n : Nat
 k : Nat → Rat
 m : Nat
 f : Nat → Pl
abbrev cQ (c : Cu) (s r : Nat) : AV := .agg [.int .i64 c.p, bX c.k c.n s, ee c.f c.m r]
def lf (s r : Nat) : Kind Cu := ⟨fun v => match v with
 | .agg [p, k, f] => match kI.read p, (kL s).read k, (BE r).read f with
  | some (p, q1), some ((n, k), q2), some ((m, f), q3) => some (⟨p, n, k, m, f⟩, q1 ++ (q2 ++ q3))
  | _, _, _ => none
 | _ => none, fun a => cQ a s r, fun {v a q} h hq => by
  split at h
  ·split at h
   ·rename_i h1 h2 h3
    simp only [Option.some.injEq, Prod.mk.injEq] at h
    obtain ⟨rfl, rfl⟩ := h
    obtain ⟨q1, hq⟩ := dA.1 hq
    obtain ⟨q2, q3⟩ := dA.1 hq
    exact cN ⟨kI.ok h1 q1, (kL s).ok h2 q2, (BE r).ok h3 q3, trivial⟩
   ·simp at h
  ·simp at h⟩
def od : AV → Nat
 | .aj _ n _ => n
 | _ => 0
def N5 : AV → Nat → AV
 | .aj _ _ f => f
 | _ => fun _ => .nil
def oe (g : Nat → AV) (i j : Nat) : Pl := dx (N5 (g i) j)
abbrev GC (f : Nat → Nat → Pl) (n m s : Nat) : AV := .aj 1 n (fun i => ee (f i) m s)
def kT (g : Nat → AV) (n s : Nat) : Prop := ∀ i, i < n → bn (g i) (ee (oe g i) (od (g 0)) s)
theorem wS {f : Nat → Nat → Pl} {n m s s' : Nat} (h : s ≤ s') : kT (fun i => ee (f i) m s) n s' := fun _ _ => gC fun _ _ => yz rfl h
def JT (s : Nat) : Kind (Nat × Nat × (Nat → Nat → Pl)) := ⟨fun v => match v with
 | .aj 1 n g => some ((n, od (g 0), oe g), [kT g n s])
 | _ => none, fun a => GC a.2.2 a.1 a.2.1 s, fun {v a q} h hq => by
  split at h
  ·simp only [Option.some.injEq, Prod.mk.injEq] at h
   obtain ⟨rfl, rfl⟩ := h
   exact gC hq
  ·simp at h⟩
structure Sf where
 u : Int
 v : Int
 a : Nat
 ku : Nat → Rat
 b : Nat
 kv : Nat → Rat
 n : Nat
 m : Nat
 f : Nat → Nat → Pl
abbrev dU (x : Sf) (s r : Nat) : AV := .agg [.int .i64 x.u, .int .i64 x.v, bX x.ku x.a s, bX x.kv x.b s, GC x.f x.n x.m r]
def wv (s r : Nat) : Kind Sf := ⟨fun v => match v with
 | .agg [u, w, a, b, f] => match kI.read u, kI.read w, (kL s).read a, (kL s).read b, (JT r).read f with
  | some (u, q1), some (w, q2), some ((a, ku), q3), some ((b, kv), q4), some ((n, m, f), q5) => some (⟨u, w, a, ku, b, kv, n, m, f⟩, q1 ++ (q2 ++ (q3 ++ (q4 ++ q5))))
  | _, _, _, _, _ => none
 | _ => none, fun a => dU a s r, fun {v a q} h hq => by
  split at h
  ·split at h
   ·rename_i h1 h2 h3 h4 h5
    simp only [Option.some.injEq, Prod.mk.injEq] at h
    obtain ⟨rfl, rfl⟩ := h
    obtain ⟨q1, hq⟩ := dA.1 hq
    obtain ⟨q2, hq⟩ := dA.1 hq
    obtain ⟨q3, hq⟩ := dA.1 hq
    obtain ⟨q4, q5⟩ := dA.1 hq
    exact cN ⟨kI.ok h1 q1, kI.ok h2 q2, (kL s).ok h3 q3, (kL s).ok h4 q4, (JT r).ok h5 q5, trivial⟩
   ·simp at h
  ·simp at h⟩
theorem yV {rl : List (Nat × Nat)} {l i s s' s2 : Nat} {x y : Nat → Pl} {t : AV} {z : AV} (hx : ∀ i, i < l → x i = y i) (ht : bn t (bw (y l) s')) (hk : keys t = []) (h1 : s ≤ s2) (h2 : s' ≤ s2) (hi : i < l + 1) :
  ga rl (if i < l then bw (x i) s else nth [t] z (i - l + 0)) (bw (y i) s2) := by
 by_cases h : i < l
 ·rw [if_pos h, hx i h]; exact .inr ⟨rfl, yz rfl h1⟩
 ·have : i = l := by omega
  subst this
  rw [if_neg h, Nat.sub_self]
  exact .inr ⟨hk, ht.trans (yz rfl h2)⟩
end Go.Am.B

/- brepkernelmade: pole, Curve. -/
namespace Go.Am.B
open Go Go.Am.N AV aa ag IntKind
theorem acB : aP P zc vW (au vW) := aL Ri (by kernel_rfl) (by kernel_rfl) (by kernel_rfl)
theorem F1 : aP P wB uC (au uC) := aL Xi (by kernel_rfl) (by kernel_rfl) (by kernel_rfl)
def LJ : aQ := [(mG, fX qz), (ua, fX zp), (iI, pD)]
def o7 (n : Nat) (f : Nat → AV) (a : Int) (b : Bool) : Pl := ⟨⟨dJ n f a, dJ n f (cK n f a), if b = true then 0 else dJ n f (cK n f (cK n f a))⟩, ((1 + bU n f (eF n f a) 3 : Int) : Rat)⟩
def DA (n : Nat) (f : Nat → AV) (a : Int) : Int := bh n (eF n f a)
def AX (n : Nat) (f : Nat → AV) (a : Int) (l : List AV) : Option (AV × Int × List Prop) := match l with
 | [.bool b] => some (bw (o7 n f a b) 64, DA n f a, [])
 | _ => none
def xR : aQ := nG :: (mG, fX qz) :: (uf, fX CU) :: (zc, fX AX) :: []
abbrev uA : List Nat := [0, 3, 8, 9, 10]
abbrev BX (b : Bool) (i : Nat) : List AV := [.ptr 0 0 2 0 [], .bool b, .ptr 1 0 3 0 [], .ptr 2 0 3 0 [], .int .i64 i]
abbrev AY (n : Nat) (z : Nat → Int) (a p : Int) (N : Nat) (k : Nat → Rat) (f : Nat → Pl) (j : Nat) : aD :=
 [(3, ⟨true, true, 12, j, fun i => bw (f i) 64⟩), (2, ⟨false, true, 3, 1, fun _ => .agg [.int .i64 p, bX k N 64, .own 3 12 0 j]⟩), (1, ⟨false, true, 3, 1, fun _ => .agg [.int .i64 0, .nil, .nil]⟩), (0, jf n z a)]
noncomputable abbrev vZ : Code := au uC
theorem Nq {n : Nat} {z : Nat → Int} {a : Int} {b : Bool} : pU T LJ [8] 60 vW (au vW) ⟨aM 0 [.ptr 0 0 2 0 [], .bool b], [(0, jf n z a)], 1⟩ =
  let c9 : Int := cK n (fun i ↦ int i64 (z i)) a; let c8 : AV := rat (dJ n (fun i ↦ int i64 (z i)) a) 64; let c6 : Int := eF n (fun i ↦ int i64 (z i)) a; let c4 : Prop := 0 < 1; let c5 : AV := rat (dJ n (fun i ↦ int i64 (z i)) c9) 64; let c3 : Option ay := some (ay.mk false true 2 1 fun x ↦ agg [aj 1 n fun i ↦ int i64 (z i), int i64 (bh n c6)]); let c1 : Int := i64.wrap ((1 : Int) + (bU n (fun i ↦ int i64 (z i)) c6 (3 : Int)).tmod (3 : Int)); let c7 : AV := rat (↑c1 : Rat) (Max.max 1 (aS c1.natAbs)); let c2 : List Prop := [c4, cm n (fun i ↦ int i64 (z i)) c6, (0 : Int) < (3 : Int), (3 : Int) < (2 : Int) ^ 62, (3 : Int) ≠ (0 : Int), -(2 : Int) ^ 63 ≤ c1, c1 < (2 : Int) ^ 63, c4]; some (af [cm n (fun i ↦ int i64 (z i)) a, c4] (fork b (af [(0 : Int) ≤ (2 : Int) ∧ (2 : Int) < (↑(3 : Nat) : Int), c4] (af c2 (af [c4] (leaf ret ([agg [agg [c8, c5, agg [AV.bool false, mag 0, mag 0]], c7]], c3))))) (af c2 (af [c4] (leaf ret ([agg [agg [c8, c5, rat (dJ n (fun i ↦ int i64 (z i)) (cK n (fun i ↦ int i64 (z i)) c9)) 64], c7]], c3)))))) := by kernel_rfl
theorem abd {n : Nat} {z : Nat → Int} {a p m : Int} {b : Bool} : aH T xR [] 60 uA (before vZ [1,1,1,0,1]) ⟨aM 0 [.ptr 0 0 2 0 [], .int .i64 p, .int .i64 m, .bool b], [(0, jf n z a)], 1⟩ =
  let c4 : Prop := 0 < 1; let c2 : AV := agg [int i64 (0 : Int), nil, nil]; let c1 : Int := (1 : Int) + bU n (fun i ↦ int i64 (z i)) a p; let c3 : AV := bk (agg (c2.kids.set 0 (bk (int i64 c1)))); some (af [cm n (fun i ↦ int i64 (z i)) a, (0 : Int) < p, p < (2 : Int) ^ 62, -(2 : Int) ^ 63 ≤ c1 ∧ c1 < (2 : Int) ^ 63, c4] (af [c4, cm n (fun i ↦ int i64 (z i)) (bh n a), (1 : Int) ≤ c1, c1 < (1000 : Int), (0 : Int) ≤ m, m < (1000 : Int), c4] (leaf normal ([ptr 0 0 2 0 [], AV.bool b, ptr 1 0 3 0 [], ptr 24577 0 3 0 [], int i64 (0 : Int)], [((24577 : Nat), ay.mk false true 3 1 fun j ↦ if (j == 0) = true then agg ((if ((0 : Nat) == 0) = true then c3 else c2).kids.set 1 (bk (bX (qe n (fun i ↦ int i64 (z i)) (bh n a) c1.toNat m.toNat) (oc n (fun i ↦ int i64 (z i)) (bh n a) c1.toNat m.toNat) 64))) else if (j == 0) = true then c3 else c2), ((1 : Nat), ay.mk false true 3 1 fun x ↦ c2), ((0 : Nat), ay.mk false true 2 1 fun x ↦ agg [aj 1 n fun i ↦ int i64 (z i), int i64 (oa n (fun i ↦ int i64 (z i)) (bh n a) c1.toNat m.toNat)])])))) := by kernel_rfl
theorem Rj {n N j : Nat} {z : Nat → Int} {a p : Int} {k : Nat → Rat} {f : Nat → Pl} {b : Bool} : aH T xR [30] 60 uA [part vZ [1,1,1,0,1,0,0]] ⟨aB uA (BX b j), AY n z a p N k f j, 4⟩ =
  let c15 : Int := (↑j : Int); let c14 : Int := (↑N : Int) - p; let c13 : Int := cK n (fun i ↦ int i64 (z i)) a; let c12 : AV := own 3 12 0 j; let c11 : AV := aj 1 n fun i ↦ int i64 (z i); let c9 : AV := ptr 2 0 3 0 []; let c8 : AV := ptr 1 0 3 0 []; let c7 : AV := ptr 0 0 2 0 []; let c6 : Prop := 0 < 1; let c5 : AV := rat 0 1; let c2 : Nat × ay := ((1 : Nat), ay.mk false true 3 1 fun x ↦ agg [int i64 (0 : Int), nil, nil]); let c1 : Int := (2 : Int) ^ 63; let c10 : Int := c15 + (1 : Int); let c4 : Int := c14 - (1 : Int); let c3 : AV := agg [int i64 p, bX k N 64, c12]; some (af [c6, c6, -c1 ≤ c14 ∧ c14 < c1, -c1 ≤ c4 ∧ c4 < c1] (fork (decide (c15 < c4)) (af [c6, cm n (fun i ↦ int i64 (z i)) a, (1 : Nat) * 12 ≤ 2 ^ 24, (j + 1) * ((224 : Nat) + 1) * 2 ≤ 2 ^ 47, c6] (af [-c1 ≤ c10 ∧ c10 < c1] (leaf normal ([c7, AV.bool b, c8, c9, int i64 c10], [((61444 : Nat), ay.mk true true 12 (j + 1) fun i ↦ if i < j then bw (f i) 64 else nth [agg [agg [rat (dJ n (fun i ↦ int i64 (z i)) a) 64, rat (dJ n (fun i ↦ int i64 (z i)) c13) 64, rat (if b = true then 0 else dJ n (fun i ↦ int i64 (z i)) (cK n (fun i ↦ int i64 (z i)) c13)) 64], rat (↑((1 : Int) + bU n (fun i ↦ int i64 (z i)) (eF n (fun i ↦ int i64 (z i)) a) (3 : Int)) : Rat) 64]] (agg [agg [c5, c5, c5], c5]) (i - j + 0)), ((2 : Nat), ay.mk false true 3 1 fun j_1 ↦ if (j_1 == 0) = true then agg (c3.kids.set 2 (bk (own (nat_lit 61443 + 1) 12 0 (j + 1)))) else c3), c2, ((0 : Nat), ay.mk false true 2 1 fun x ↦ agg [c11, int i64 (DA n (fun i ↦ int i64 (z i)) a)])])))) (leaf (exit 0) ([c7, AV.bool b, c8, c9, int i64 c15], [((3 : Nat), ay.mk true true 12 j fun i ↦ agg [agg [rat (f i).n.x 64, rat (f i).n.y 64, rat (f i).n.z 64], rat (f i).d 64]), ((2 : Nat), ay.mk false true 3 1 fun x ↦ agg [int i64 p, aj 3 N fun i ↦ rat (k i) 64, c12]), c2, ((0 : Nat), ay.mk false true 2 1 fun x ↦ agg [c11, int i64 a])])))) := by kernel_rfl
theorem Pv {n N j : Nat} {z : Nat → Int} {a p : Int} {k : Nat → Rat} {f : Nat → Pl} {b : Bool} : zK T xR [] 60 uC [part vZ [1,1,1,1]] ⟨aB uA (BX b j), AY n z a p N k f j, 4⟩ =
  let c1 : Prop := 0 < 1; some (af [c1, c1] (af [c1] (leaf ret ([agg [int i64 p, aj 3 N fun i ↦ rat (k i) 64, aj 12 j fun i ↦ agg [agg [rat (f (i + 0)).n.x 64, rat (f (i + 0)).n.y 64, rat (f (i + 0)).n.z 64], rat (f (i + 0)).d 64]]], some (ay.mk false true 2 1 fun x ↦ agg [aj 1 n fun i ↦ int i64 (z i), int i64 a]))))) := by kernel_rfl
theorem TH : aW P LJ := aC z7 (aC I7 (aC uV aT))
theorem Oq : ∀ K args pre r, fX AX K args pre = some r → az P zc K args pre r := by
 refine pS fun {k n z a l v b q o} K hg ho hd hq => ?_
 unfold AX at hg
 split at hg
 ·rename_i b
  simp only [Option.some.injEq, Prod.mk.injEq] at hg
  obtain ⟨rfl, rfl, rfl⟩ := hg
  refine zC hT TH hm acB rfl rfl (of_decide_eq_true (by kernel_rfl)) ho 60 Nq (fun _ => ?_) K
  have a1 := ic (n := n) (f := fun i => .int .i64 (z i)) (a := eF n (fun i => .int .i64 (z i)) a) (m := 3) (by omega)
  have a2 := iu (n := n) (f := fun i => .int .i64 (z i)) (a := eF n (fun i => .int .i64 (z i)) a) (m := 3) (by omega)
  unfold o7
  generalize bU n (fun i => .int .i64 (z i)) (eF n (fun i => .int .i64 (z i)) a) 3 = x at *
  have e1 : x.tmod 3 = x := by rw [Int.tmod_eq_of_lt a1 a2]
  have e2 : i64.wrap (1 + x) = 1 + x := wrap_i64 (by omega) (by omega)
  simp only [aa.all, ax, e1, e2]
  have hw : bn (.rat ((1 + x : Int) : Rat) (max 1 (aS (1 + x).natAbs))) (.rat ((1 + x : Int) : Rat) 64) := eG rfl (x8 (y := 0) (by omega) (by omega))
  refine ⟨⟨hd, by omega⟩, fun hb => ⟨by omega, ⟨by omega, hd.iH, by omega, by omega, by omega, by omega, by omega, by omega⟩, by omega, ?_, _, rfl, rfl, kM rfl rfl⟩, fun hb => ⟨⟨by omega, hd.iH, by omega, by omega, by omega, by omega, by omega, by omega⟩, by omega, ?_, _, rfl, rfl, kM rfl rfl⟩⟩
  ·rw [if_pos hb]
   exact cN ⟨cN ⟨.refl _, .refl _, lH (q := (0 : Rat)) ⟨by decide, by decide⟩ rfl rfl rfl, trivial⟩, hw, trivial⟩
  ·rw [if_neg (by rw [hb]; decide)]
   exact cN ⟨.refl _, hw, trivial⟩
 ·simp at hg
theorem Kb : aW P xR := eu (aC z7 (aC Su (aC Oq aT)))
def j4 (n : Nat) (f : Nat → AV) (a : Int) : Nat → Int
 | 0 => a
 | j + 1 => DA n f (j4 n f a j)
theorem cm.qF {n : Nat} {f : Nat → AV} {a : Int} (h : cm n f a) : ∀ j, cm n f (j4 n f a j)
 | 0 => h
 | j + 1 => (h.qF j).iH.next
theorem cm.fV {n : Nat} {f : Nat → AV} {a : Int} {p m : Nat} (h : cm n f a) (hp : 1 ≤ p) : cm n f (oa n f a p m) := (zB h hp _).2
def kP (n : Nat) (f : Nat → AV) (a d : Int) : Nat := (1 + bU n f a d).toNat
def qU (n : Nat) (f : Nat → AV) (a d : Int) (m : Nat) : Int := oa n f (bh n a) (kP n f a d) m
def fS (n : Nat) (f : Nat → AV) (a d : Int) (m : Nat) (b : Bool) : Cu :=
 ⟨(kP n f a d : Nat), oc n f (bh n a) (kP n f a d) m, qe n f (bh n a) (kP n f a d) m, kP n f a d + 1 + iV n f (bh n a) m, fun i => o7 n f (j4 n f (qU n f a d m) i) b⟩
def A4 (n : Nat) (f : Nat → AV) (a d : Int) (m : Nat) : Int := j4 n f (qU n f a d m) (kP n f a d + 1 + iV n f (bh n a) m)
def CM (n : Nat) (f : Nat → AV) (a : Int) (l : List AV) : Option (AV × Int × List Prop) := match l with
 | [.int .i64 d, .int .i64 m, .bool b] => some (cQ (fS n f a d m.toNat b) 64 64, A4 n f a d m.toNat, [1 ≤ d, d < 900, 0 ≤ m, m < 900])
 | _ => none
theorem LD {n : Nat} {f : Nat → AV} {a : Int} {m : Nat} : iV n f a m ≤ m := by
 have h1 := ic (n := n) (f := f) (a := bh n a) (m := m + 1) (by omega)
 have h2 := iu (n := n) (f := f) (a := bh n a) (m := m + 1) (by omega)
 unfold iV; omega
theorem aby {k n m : Nat} {z : Nat → Int} {a d : Int} {b : Bool} {o : ay} (ho : ∀ ρ, cF ρ o (jf n z a)) (h : cm n (fun i => .int .i64 (z i)) a) (hd1 : 1 ≤ d) (hd2 : d < 900) (hm2 : m < 900) (K : Nat) :
  az P wB K [.ptr k 0 2 0 [], .int .i64 d, .int .i64 m, .bool b] [(k, o)] ⟨cQ (fS n (fun i => .int .i64 (z i)) a d m b) 64 64, [(k, jf n z (A4 n (fun i => .int .i64 (z i)) a d m))], []⟩ := by
 refine Jm hT F1 rfl rfl (of_decide_eq_true (by kernel_rfl)) ho (fun _ c hk => ?_) K
 have a1 := ic (n := n) (f := fun i => .int .i64 (z i)) (a := a) (m := d) (by omega)
 have a2 := iu (n := n) (f := fun i => .int .i64 (z i)) (a := a) (m := d) (by omega)
 have hJ := LD (n := n) (f := fun i => .int .i64 (z i)) (a := bh n a) (m := m)
 unfold fS A4 qU kP
 obtain ⟨p, hp⟩ : ∃ p, p = (1 + bU n (fun i => .int .i64 (z i)) a d).toNat := ⟨_, rfl⟩
 have hp2 : 1 + bU n (fun i => .int .i64 (z i)) a d = (p : Int) := by omega
 rw [← hp]
 have hB := (h.next.fV (p := p) (m := m) (by omega))
 obtain ⟨N, hN⟩ : ∃ N, N = oc n (fun i => .int .i64 (z i)) (bh n a) p m := ⟨_, rfl⟩
 obtain ⟨kk, hkk⟩ : ∃ kk, kk = qe n (fun i => .int .i64 (z i)) (bh n a) p m := ⟨_, rfl⟩
 obtain ⟨B, hB2⟩ : ∃ B, B = oa n (fun i => .int .i64 (z i)) (bh n a) p m := ⟨_, rfl⟩
 have hN2 : N = 2 * p + 2 + iV n (fun i => .int .i64 (z i)) (bh n a) m := hN
 rw [← hN, ← hkk, ← hB2]
 rw [← hB2] at hB
 generalize iV n (fun i => .int .i64 (z i)) (bh n a) m = J at *
 refine aq.jx hT Kb hm [1,1,1,0,1] (i := 0) (y := part vZ [1,1,1,0,1,0,0]) (z := part vZ [1,1,1,1]) (by kernel_rfl) (by kernel_rfl) (by kernel_rfl) F1.dst hk (f1 := []) (f2 := [30]) 60 uA 4 (fun j : Nat => BX b j)
  (fun j => AY n z (j4 n (fun i => .int .i64 (z i)) B j) p N kk (fun i => o7 n (fun i => .int .i64 (z i)) (j4 n (fun i => .int .i64 (z i)) B i) b) j) (fun j => j ≤ p + 1 + J) (fun j => j = p + 1 + J) (fun j => p + 1 + J - j) (fun _ => False) ⟨_, abd, ?_⟩ (fun j hj => ⟨_, Rj, ?_⟩) (fun j hj => ?_) (fun _ _ h => h.elim)
 ·simp only [aa.all, ax, hp2, Int.toNat_natCast]
  rw [← hN, ← hkk, ← hB2]
  exact ⟨⟨h, by omega, by omega, by omega, by omega⟩, ⟨by omega, h.next, by omega, by omega, by omega, by omega, by omega⟩, 0, Nat.zero_le _, [(0, 0), (1, 1), (2, 24577)], rfl, rfl, rfl,
   pH rfl (by omega) (by omega) (aR rfl rfl (mm ⟨⟨rfl, aG rfl⟩, ⟨rfl, aG rfl⟩, ⟨rfl, pL (by omega)⟩, trivial⟩) (aR rfl rfl (aN rfl rfl) (aR rfl rfl (aN rfl rfl) trivial)))⟩
 ·simp only [aa.all, ax, decide_eq_true_eq, decide_eq_false_iff_not]
  have hv : ∀ {rl : List (Nat × Nat)} {a l : Nat}, aX rl 3 = some a → ga rl (.agg [.int .i64 p, bX kk N 64, .own a 12 0 l]) (.agg [.int .i64 p, bX kk N 64, .own 3 12 0 l]) := fun h => mm ⟨⟨rfl, aG rfl⟩, ⟨rfl, aG rfl⟩, ⟨rfl, cj h rfl rfl⟩, trivial⟩
  refine ⟨⟨by omega, by omega, by omega, by omega⟩, fun h => ⟨⟨by omega, hB.qF j, by omega, by omega, by omega⟩, by omega, j + 1, by omega, by dsimp only; omega, [(0, 0), (1, 1), (2, 2), (3, 61444)], rfl, rfl, rfl,
   bP rfl rfl rfl (fun i hi => yV (y := fun i => o7 n (fun i => .int .i64 (z i)) (j4 n (fun i => .int .i64 (z i)) B i) b) (fun _ _ => rfl) (.refl _) rfl (Nat.le_refl _) (Nat.le_refl _) hi) (aR rfl rfl (hv rfl) (aR rfl rfl (aN rfl rfl) (aR rfl rfl (aN rfl rfl) trivial)))⟩,
   fun h => ⟨rfl, j, by omega, [(0, 0), (1, 1), (2, 2), (3, 3)], rfl, rfl, rfl, bP rfl rfl rfl (fun _ _ => aN rfl rfl) (aR rfl rfl (hv rfl) (aR rfl rfl (aN rfl rfl) (aR rfl rfl (aN rfl rfl) trivial)))⟩⟩
 ·subst hj
  refine aq.jq (aA.IT hT Kb hm 60 Pv (by kernel_rfl) ?_)
  simp only [aa.all, ax]
  exact ⟨by omega, by omega, .refl _, _, rfl, rfl, kM rfl rfl⟩
theorem ZC : ∀ K args pre r, fX CM K args pre = some r → az P wB K args pre r := by
 refine pS fun {k n z a l v b q o} K hg ho hd hq => ?_
 unfold CM at hg
 split at hg
 ·rename_i d m b
  simp only [Option.some.injEq, Prod.mk.injEq] at hg
  obtain ⟨rfl, rfl, rfl⟩ := hg
  obtain ⟨h1, h2, h3, h4⟩ := hq
  have h4 : m < 900 := h4
  have := aby (k := k) (m := m.toNat) (b := b) ho hd h1 h2 (by omega) K
  rw [Int.toNat_of_nonneg h3] at this
  exact this
 ·simp at hg
theorem WR {n m : Nat} {f : Nat → AV} {a d : Int} {b : Bool} (h : cm n f a) (hd : 1 ≤ d) : Kn (fS n f a d m b).n (fS n f a d m b).p.toNat (fS n f a d m b).k ∧ 1 ≤ (fS n f a d m b).p ∧ (fS n f a d m b).p ≤ d ∧ ((fS n f a d m b).m : Int) = ((fS n f a d m b).n : Int) - (fS n f a d m b).p - 1 ∧
  (fS n f a d m b).m ≤ (fS n f a d m b).p.toNat + 1 + m ∧ ∀ i, 1 ≤ ((fS n f a d m b).f i).d ∧ ((fS n f a d m b).f i).d ≤ 3 := by
 have a1 := ic (n := n) (f := f) (a := a) (m := d) (by omega)
 have a2 := iu (n := n) (f := f) (a := a) (m := d) (by omega)
 have hJ := LD (n := n) (f := f) (a := bh n a) (m := m)
 unfold fS
 obtain ⟨p, hp⟩ : ∃ p, p = kP n f a d := ⟨_, rfl⟩
 have hp2 : 1 + bU n f a d = (p : Int) := by rw [hp]; unfold kP; omega
 rw [← hp]
 dsimp only
 refine ⟨?_, by omega, by omega, ?_, by omega, fun i => ?_⟩
 ·rw [Int.toNat_natCast]
  exact (zB h.next (by omega) _).1.done
 ·have : oc n f (bh n a) p m = 2 * p + 2 + iV n f (bh n a) m := rfl
  omega
 ·have c1 := ic (n := n) (f := f) (a := eF n f (j4 n f (qU n f a d m) i)) (m := 3) (by omega)
  have c2 := iu (n := n) (f := f) (a := eF n f (j4 n f (qU n f a d m) i)) (m := 3) (by omega)
  unfold o7
  dsimp only
  generalize bU n f (eF n f (j4 n f (qU n f a d m) i)) 3 = x at *
  exact ⟨by exact_mod_cast (show 1 ≤ 1 + x by omega), by exact_mod_cast (show 1 + x ≤ 3 by omega)⟩
end Go.Am.B

/- basis.fraction, basis.Values. -/
namespace Go.Am.B
open Go Go.Am.N AV aa ag IntKind
abbrev sF : Nat := 16386
def SB (d : Nat) : Nat := 65536 * 4 ^ d
abbrev B4 (m : Nat) (x : Nat → Rat) (s : Nat → Nat) : ay := ⟨true, true, 3, m, fun i => .rat (x i) (s i)⟩
theorem HC {d : Nat} : SB (d + 1) = 4 * SB d := by unfold SB; rw [Nat.pow_succ]; omega
theorem KW : ∀ {d : Nat}, 65536 ≤ SB d
 | 0 => by unfold SB; omega
 | d + 1 => by rw [HC]; have := KW (d := d); omega
theorem Vo : sF = 16386 := rfl
theorem Sx {d e : Nat} (h : d ≤ e) : SB d ≤ SB e := Nat.mul_le_mul_left _ (Nat.pow_le_pow_right (by omega) h)
abbrev sV : Nat := 268435456
theorem KX {d : Nat} (h : d ≤ 6) : SB d ≤ sV := Nat.le_trans (Sx h) (by decide)
def tr (n : Nat) (k : Nat → Rat) (p : Nat) (t : Rat) (f : Nat → Rat) : AV := .tuple [.int .i64 (if bL n k t then 0 else (bT n k t : Int) - p), .aj 3 (if bL n k t then 0 else p + 1) (fun j => .rat (f j) sV), .int .i64 (dr n k t)]
abbrev Be (n : Nat) (k : Nat → Rat) (p : Nat) (t : Rat) : AV := tr n k p t (vB k (bT n k t) t p)
theorem T7 {n p : Nat} {k f : Nat → Rat} {t : Rat} (h : bL n k t) : ec [.int .i64 0, .nil, .int .i64 7] (tr n k p t f) := by
 unfold tr dr
 rw [if_pos h, if_pos h, if_pos h]
 exact ⟨.refl _, gL (by omega), .refl _, trivial⟩
theorem aau {n p : Nat} {k f : Nat → Rat} {t : Rat} {g : Nat → AV} (h : ¬ bL n k t) (hg : ∀ j, j < p + 1 → bn (g j) (.rat (f j) sV)) : ec [.int .i64 ((bT n k t : Int) - p), .aj 3 (p + 1) g, .int .i64 0] (tr n k p t f) := by
 unfold tr dr
 rw [if_neg h, if_neg h, if_neg h]
 exact ⟨.refl _, gC hg, .refl _, trivial⟩
def EY (k : Nat → Rat) (i : Nat) (t : Rat) (d j : Nat) : Rat := if j = 0 then 0 else fr (k (i - d + (j - 1))) (k (i - d + (j - 1) + (d + 1))) t * vB k i t d (j - 1)
end Go.Am.B

/- basis.Sum; numbers of qF. -/
namespace Go.Am.B
open Go Go.Am.N AV aa ag IntKind
theorem Uh : aP P wu ru (au ru) := aL Qq (by kernel_rfl) (by kernel_rfl) (by kernel_rfl)
def Fj : Spec := dM DS (fun a => Be a.1.1 a.1.2 a.2.1.toNat a.2.2.1) fun a => [Kn a.1.1 a.2.1.toNat a.1.2, 0 ≤ a.2.1, a.2.1 ≤ 6, a.1.1 < 2 ^ 40]
def B7 : Spec := dM (kC (kL sK) (kC kI kN)) (fun a => .int .i64 ((a.1.1 : Int) - a.2.1 - 1)) fun a => [a.1.1 < 2 ^ 40, -2 ^ 40 < a.2.1, a.2.1 < 2 ^ 40]
theorem ND {n : Nat} {k : Nat → Rat} {p : Int} : bA T [nG] [] 60 ru (au ru) ⟨aM 0 [ls k n, .int .i64 p], [], 0⟩ =
  let c3 : Int := (↑n : Int) - p; let c1 : Int := (2 : Int) ^ 63; let c2 : Int := c3 - (1 : Int); some (af [-c1 ≤ c3 ∧ c3 < c1, -c1 ≤ c2 ∧ c2 < c1] (leaf ret [int i64 c2])) := by kernel_rfl
theorem Ft : ∀ K args pre r, B7 K args pre = some r → az P wu K args pre r := dP fun ⟨⟨n, k⟩, p, _⟩ K hn => by
 obtain ⟨h1, h2, h3⟩ := hn
 have h3 : p < 2 ^ 40 := h3
 simp only at h1 h2
 refine bD (r := aF (.int .i64 ((n : Int) - p - 1)) []) hT (eu aT) hm Uh rfl (of_decide_eq_true (by kernel_rfl)) rfl 60 ND (fun _ => ?_) K []
 simp only [aa.all, ax]
 exact ⟨by omega, .refl _⟩
abbrev sU : Nat := 4294967296
theorem T9 {n : Nat} {k : Nat → Rat} {t : Rat} (h : dr n k t ≠ 0) : bL n k t := by
 unfold dr at h
 by_cases ho : bL n k t
 ·exact ho
 ·rw [if_neg ho] at h; exact absurd rfl h
theorem C4 {n : Nat} {k : Nat → Rat} {t : Rat} (h : dr n k t = 0) : ¬ bL n k t := fun ho => by unfold dr at h; rw [if_pos ho] at h; omega
theorem Kn.ve {n p : Nat} {k : Nat → Rat} (h : Kn n p k) {t : Rat} (hin : ¬ bL n k t) : p ≤ bT n k t ∧ bT n k t + p + 1 < n := by
 have h1 : ¬ t < k 0 := fun h => hin (.inl h)
 have h2 : ¬ k (n - 1) < t := fun h => hin (.inr h)
 exact (h.xG (by grind) (by grind)).2
end Go.Am.B
