/- brepkernelmade: Rat, Within; lists of numbers as arguments. -/
import Derived.Test.YtnocdkaonpdmjaaGreatB43
import Derived.Test.YtnocdkaonpdmjaaGreatY39
import Derived.Test.YtnocdkaonpdmjaaGreatZ2
import Derived.Test.YtnocdkaonpdmjaaGreatC4
import Derived.Test.YtnocdkaonpdmjaaGreatD1
set_option linter.unusedVariables false
namespace Go.Am.B
open Go Go.Am.N AV
theorem Vp : aN P yY tX (au tX) := aP aev (by kernel_rfl) (by kernel_rfl) (by kernel_rfl)
theorem MY : aN P D7 Ar (au Ar) := aP adj (by kernel_rfl) (by kernel_rfl) (by kernel_rfl)
theorem YQ {x y : Int} : bu T KJ [] 60 tX (au tX) ⟨aL 0 [.int .i64 x, .int .i64 y], [], 0⟩ =
  some (aa.ag [(0 : Int) < (41 : Int), (41 : Int) < (2 : Int) ^ 62, (0 : Int) < (8 : Int), (8 : Int) < (2 : Int) ^ 62, -(2 : Int) ^ 63 ≤ IntKind.i64.wrap (x % (41 : Int) - (20 : Int)), IntKind.i64.wrap (x % (41 : Int) - (20 : Int)) < (2 : Int) ^ 63, -(2 : Int) ^ 63 ≤ IntKind.i64.wrap (y % (8 : Int) + (1 : Int)), IntKind.i64.wrap (y % (8 : Int) + (1 : Int)) < (2 : Int) ^ 63, (0 : Nat) < 1] (aa.ag [(0 : Nat) < 1] (aa.leaf ah.ret [rat ((↑(IntKind.i64.wrap (x % (41 : Int) - (20 : Int))) : Rat) / (↑(IntKind.i64.wrap (y % (8 : Int) + (1 : Int))) : Rat)) 64]))) := by kernel_rfl
def y5 (x y : Int) : Rat := ((x % 41 - 20 : Int) : Rat) / ((y % 8 + 1 : Int) : Rat)
def G7 : Spec := bw fun l => match l with
 | [.int .i64 x, .int .i64 y] => some (aG (.rat (y5 x y) 64) [])
 | _ => none
theorem VH : ∀ K args pre r, G7 K args pre = some r → aA P yY K args pre r := by
 refine bI fun K args r hk hs _ => ?_
 split at hs
 ·rename_i x y
  simp only [Option.some.injEq] at hs
  subst hs
  refine bC hT (aF A5 (aF xx bk)) hm Vp rfl (of_decide_eq_true (by kernel_rfl)) rfl 60 YQ (fun _ => ?_) K []
  unfold y5
  have w1 := Int.emod_nonneg x (show (41 : Int) ≠ 0 by omega)
  have w2 := Int.emod_lt_of_pos x (show (0 : Int) < 41 by omega)
  have v1 := Int.emod_nonneg y (show (8 : Int) ≠ 0 by omega)
  have v2 := Int.emod_lt_of_pos y (show (0 : Int) < 8 by omega)
  generalize x % 41 = u at *
  generalize y % 8 = v at *
  have e1 : IntKind.i64.wrap (u - 20) = u - 20 := wrap_i64 (by omega) (by omega)
  have e2 : IntKind.i64.wrap (v + 1) = v + 1 := wrap_i64 (by omega) (by omega)
  rw [e1, e2]
  simp only [aa.all, ay]
  exact ⟨⟨by omega, by omega, by omega, by omega, by omega, by omega, by omega, by omega⟩, by omega, .refl _⟩
 ·simp at hs
noncomputable def Hz : aQ := [(D7, fS T (sG :: (AW, Li) :: pn) [] 60 Ar)]
theorem US : aY P Hz := aF (ga hT (jj (aF RC qP)) hm MY _ _) bk
def kL (s : Nat) : Kind (Nat × (Nat → Rat)) := ⟨fun v => match Ad v with
 | some (n, f) => some ((n, fun i => aT (f i)), [ck f n s])
 | none => none, fun a => bH a.2 a.1 s, fun {v a q} h hq => by
  split at h
  ·rename_i h1
   simp only [Option.some.injEq, Prod.mk.injEq] at h
   obtain ⟨rfl, rfl⟩ := h
   exact abI h1 hq
  ·simp at h⟩
def gv (s : Nat) : Kind Rat := ⟨fun v => match gH v with
 | some (q, n) => some (q, [n ≤ s])
 | none => none, fun a => .rat a s, fun {v a q} h hq => by
  split at h
  ·rename_i h1
   simp only [Option.some.injEq, Prod.mk.injEq] at h
   obtain ⟨rfl, rfl⟩ := h
   exact (iB h1).trans (dm hq)
  ·simp at h⟩
structure pg (α : Type) where
 read : List AV → Option (α × List Prop)
 make : α → List AV
 ok : ∀ {l : List AV} {a : α} {q : List Prop}, read l = some (a, q) → ay q → ec l (make a)
def kN : pg Unit := ⟨fun l => match l with
 | [] => some ((), [])
 | _ => none, fun _ => [], fun {l a q} h _ => by
  split at h
  ·trivial
  ·simp at h⟩
def kC {α β : Type} (k : Kind α) (kl : pg β) : pg (α × β) := ⟨fun l => match l with
 | v :: l => match k.read v, kl.read l with
  | some (a, p), some (b, q) => some ((a, b), p ++ q)
  | _, _ => none
 | [] => none, fun a => k.make a.1 :: kl.make a.2, fun {l a q} h hq => by
  split at h
  ·split at h
   ·rename_i h1 h2
    simp only [Option.some.injEq, Prod.mk.injEq] at h
    obtain ⟨rfl, rfl⟩ := h
    obtain ⟨q1, q2⟩ := dF.1 hq
    exact ⟨k.ok h1 q1, kl.ok h2 q2⟩
   ·simp at h
  ·simp at h⟩
def cP {α : Type} (k : pg α) (g : α → AV) (need : α → List Prop) : Spec := bw fun l => match k.read l with
 | some (a, p) => some (aG (g a) (p ++ need a))
 | none => none
theorem cK {α : Type} {f : FuncId} {k : pg α} {g : α → AV} {need : α → List Prop} (h : ∀ a K, ay (need a) → aA P f K (k.make a) [] (aG (g a) [])) : ∀ K args pre r, cP k g need K args pre = some r → aA P f K args pre r := by
 refine bI fun K args r hk hs _ => ?_
 split at hs
 ·rename_i h1
  simp only [Option.some.injEq] at hs
  subst hs
  intro hn
  obtain ⟨n1, hn⟩ := dF.1 hn
  exact eR (h _ K hn) hk (k.ok h1 n1) [] trivial
 ·simp at hs
end Go.Am.B

/- fE.Interval, ref08.Interval; numbers of tZ. -/
namespace Go.Am.B
open Go Go.Am.N AV aa ah IntKind
theorem Rw : aN P rz vY (au vY) := aP adz (by kernel_rfl) (by kernel_rfl) (by kernel_rfl)
theorem T4 : aN P qC ve (au ve) := aP Ul (by kernel_rfl) (by kernel_rfl) (by kernel_rfl)
def fc : aQ := nG :: pN
def zI : aQ := nG :: pn
abbrev sK : Nat := 4096
abbrev ls (k : Nat → Rat) (n : Nat) : AV := bH k n sK
abbrev tP (t : Rat) (s : Nat) : az := ⟨false, true, 3, 1, fun _ => .rat t s⟩
abbrev uQ : List Nat := [0, 5, 8, 9, 6, 7]
abbrev D5 (n : Nat) (k : Nat → Rat) (l i : Nat) : List AV := [ls k n, .ptr 0 0 3 0 [], .int .i64 l, .int .i64 i, .int .i64 0, .int .i64 0]
noncomputable abbrev vf : Code := au vY
theorem OZ {n : Nat} {k : Nat → Rat} {p : Int} {t : Rat} : aI T fc [200013, 21, 31] 60 uQ (before vf [1,1,1,0,1]) ⟨aL 0 [ls k n, .int .i64 p, .rat t sK], [], 0⟩ =
  let c11 : Prop := ((↑n : Int) == (0 : Int)) = false; let c10 : Prop := 0 < 1; let c9 : AV := ak 3 n fun i ↦ rat (k i) 4096; let c8 : Nat := Int.toNat (0 : Int); let c7 : AV := ptr 0 0 (bA (rat t sK)).size 0 []; let c6 : AV := int i64 (0 : Int); let c5 : Nat × az := ((0 : Nat), az.mk false true (bA (rat t sK)).size 1 fun x ↦ rat t 4096); let c4 : Int := (↑n : Int) - (1 : Int); let c12 : Prop := (0 : Int) ≤ (0 : Int) ∧ c8 < n; let c3 : Bool := bif false then true else decide (dK t (k c8) < (0 : Int)); let c2 : aa (List AV × aD) := leaf ret ([c9, c7, tuple [], tuple [], c6, int i64 (7 : Int)], [c5]); let c1 : aa (List AV × aD) := leaf normal ([c9, c7, c6, c6, c6, c6], [c5]); some (fork c3 (ag [c11, c10, c12, c3 = true] (fork true c2 c1)) (ag [c11, c10, c12, c3 = false, c10, -(2 : Int) ^ 63 ≤ c4 ∧ c4 < (2 : Int) ^ 63, (0 : Int) ≤ c4 ∧ c4.toNat < n] (fork (bif false then true else decide (dK t (k c4.toNat) > (0 : Int))) c2 c1))) := by kernel_rfl
theorem Qo {n l i : Nat} {k : Nat → Rat} {t : Rat} : aI T fc [36, 49, 58] 60 uQ [part vf [1,1,1,0,1,0,0]] ⟨aB uQ (D5 n k l i), [(0, tP t sK)], 1⟩ =
  let c7 : Int := (↑i : Int); let c6 : List AV := [int i64 (0 : Int), int i64 (0 : Int)]; let c5 : AV := ptr 0 0 3 0 []; let c4 : AV := ak 3 n fun i ↦ rat (k i) 4096; let c2 : Nat × az := ((0 : Nat), az.mk false true 3 1 fun x ↦ rat t 4096); let c10 : AV := int i64 c7; let c1 : Int := c7 + (1 : Int); let c8 : Int := dK (k c7.toNat) (k c1.toNat); let c3 : Prop := -(2 : Int) ^ 63 ≤ c1 ∧ c1 < (2 : Int) ^ 63; let c9 : List Prop := [c3, (0 : Int) ≤ c1 ∧ c1.toNat < n]; some (ag [c3] (fork (decide (c1 < (↑n : Int))) (ag (((0 : Int) ≤ c7 ∧ c7.toNat < n) :: c9) (fork (decide (c8 ≥ (0 : Int))) (ag [c3] (leaf normal (c4 :: c5 :: int i64 (↑l : Int) :: int i64 c1 :: c6, [c2]))) (ag (((0 : Nat) < 1) :: c9) (fork (decide (dK t (k c1.toNat) < (0 : Int))) (leaf (exit 0) (c4 :: c5 :: c10 :: c10 :: c6, [c2])) (ag [c3] (leaf normal (c4 :: c5 :: c10 :: int i64 c1 :: c6, [c2]))))))) (leaf (exit 0) (c4 :: c5 :: int i64 (↑l : Int) :: c10 :: c6, [c2])))) := by kernel_rfl
theorem Ww {n l i : Nat} {k : Nat → Rat} {t : Rat} : b9 T fc [] 60 vY [part vf [1,1,1,1]] ⟨aB uQ (D5 n k l i), [(0, tP t sK)], 1⟩ =
  some (leaf ret [int i64 (↑l : Int), int i64 (0 : Int)]) := by kernel_rfl
abbrev sN : List Nat := [0, 5, 9, 6, 7]
abbrev uS (n : Nat) (k : Nat → Rat) (i : Nat) : List AV := [ls k n, .ptr 0 0 3 0 [], .int .i64 i, .int .i64 0, .int .i64 0]
noncomputable abbrev sC : Code := au ve
theorem Yt {n p : Nat} {k : Nat → Rat} {t : Rat} : aI T zI [19, 27] 60 sN (before sC [1,1,1,1,0]) ⟨aL 0 [ls k n, .int .i64 p, .rat t sK], [], 0⟩ =
  let c13 : AV := int i64 (0 : Int); let c12 : Prop := 0 < 1; let c10 : Prop := (0 : Int) ≤ (0 : Int) ∧ Int.toNat (0 : Int) < n; let c9 : AV := ak 3 n fun i ↦ rat (k i) 4096; let c7 : AV := ptr 0 0 (bA (rat t sK)).size 0 []; let c6 : Nat × az := ((0 : Nat), az.mk false true (bA (rat t sK)).size 1 fun x ↦ rat t 4096); let c5 : Int := (2 : Int) ^ 63; let c4 : Int := dK t (k (Int.toNat (0 : Int))); let c3 : Int := (↑n : Int) - (1 : Int); let c14 : Int := c3 - (↑p : Int); let c11 : Bool := decide (c4 < (0 : Int)); let c2 : aa (List AV × aD) := leaf ret ([c9, c7, tuple [], c13, int i64 (7 : Int)], [c6]); let c8 : Int := c14 - (1 : Int); let c1 : aa (List AV × aD) := ag [-c5 ≤ c14 ∧ c14 < c5, -c5 ≤ c8 ∧ c8 < c5] (leaf normal ([c9, c7, int i64 c8, c13, c13], [c6])); some (ag [-c5 ≤ c3 ∧ c3 < c5] (fork c11 (ag [c12, c10, c11 = true] (fork true c2 c1)) (ag [c12, c10, c11 = false, c12, (0 : Int) ≤ c3 ∧ c3.toNat < n] (fork (bif false then true else decide (dK t (k c3.toNat) > (0 : Int))) c2 c1)))) := by kernel_rfl
theorem Uh {n i : Nat} {k : Nat → Rat} {t : Rat} : aI T zI [34, 42] 60 sN [part sC [1,1,1,1,0,0,0]] ⟨aB sN (uS n k i), [(0, tP t sK)], 1⟩ =
  let c7 : AV := int i64 (0 : Int); let c6 : AV := ptr 0 0 3 0 []; let c5 : AV := ak 3 n fun i ↦ rat (k i) 4096; let c4 : Nat × az := ((0 : Nat), az.mk false true 3 1 fun x ↦ rat t 4096); let c3 : Int := (↑i : Int); let c9 : Int := c3 - (1 : Int); let c8 : Bool := decide (c3 > (0 : Int)); let c2 : aa (List AV × aD) := leaf (exit 0) ([c5, c6, int i64 c3, c7, c7], [c4]); let c1 : aa (List AV × aD) := ag [-(2 : Int) ^ 63 ≤ c9 ∧ c9 < (2 : Int) ^ 63] (leaf normal ([c5, c6, int i64 c9, c7, c7], [c4])); some (fork c8 (ag [c8 = true, (0 : Nat) < 1, (0 : Int) ≤ c3 ∧ c3.toNat < n] (fork (bif true then decide (dK t (k c3.toNat) < (0 : Int)) else false) c1 c2)) (ag [c8 = false] (fork false c1 c2))) := by kernel_rfl
theorem RN {n i : Nat} {k : Nat → Rat} {t : Rat} : b9 T zI [] 60 ve [part sC [1,1,1,1,1]] ⟨aB sN (uS n k i), [(0, tP t sK)], 1⟩ =
  some (leaf ret [int i64 (↑i : Int), int i64 (0 : Int)]) := by kernel_rfl
theorem js : aY P fc := cO r4
theorem ach : aY P zI := cO qP
theorem jY {q : Rat} {n : Nat} : aT (.rat q n) = q := rfl
theorem Fm : max 1 (bg (Int.natAbs 1)) = 1 := by decide
theorem BE {a b : Rat} : dK a b ≥ (0 : Int) ↔ b ≤ a := by
 have := @kB a b
 constructor
 ·intro h
  have : ¬ a < b := fun h' => by have := kB.2 h'; omega
  grind
 ·intro h
  have : ¬ dK a b < 0 := fun h' => by have := kB.1 h'; grind
  omega
theorem yE {rl : List (Nat × Nat)} {l i s s' s2 : Nat} {x y : Nat → Rat} {t : Rat} (hx : ∀ i, i < l → x i = y i) (ht : t = y l) (h1 : s ≤ s2) (h2 : s' ≤ s2) (hi : i < l + 1) : fq rl (if i < l then .rat (x i) s else nth [.rat t s'] (.rat 0 1) (i - l + 0)) (.rat (y i) s2) := by
 by_cases h : i < l
 ·rw [if_pos h, hx i h]; exact .inr ⟨rfl, bK rfl h1⟩
 ·have : i = l := by omega
  subst this
  rw [if_neg h, Nat.sub_self, ht]
  exact .inr ⟨rfl, bK rfl h2⟩
theorem N7 {rl : List (Nat × Nat)} {i s' s2 : Nat} {y : Nat → Rat} {t : Rat} (ht : t = y 0) (h2 : s' ≤ s2) (hi : i < 1) : fq rl (nth [.rat t s'] (.rat 0 1) (i + 0)) (.rat (y i) s2) := by
 have : i = 0 := by omega
 subst this
 rw [ht]
 exact .inr ⟨rfl, bK rfl h2⟩
def cC (n : Nat) (k : Nat → Rat) (t : Rat) : Prop := t < k 0 ∨ k (n - 1) < t
instance {n : Nat} {k : Nat → Rat} {t : Rat} : Decidable (cC n k t) := inferInstanceAs (Decidable (t < k 0 ∨ k (n - 1) < t))
def gL (n : Nat) (k : Nat → Rat) (t : Rat) : Nat := if cC n k t then 0 else bO n k t
def cH (n : Nat) (k : Nat → Rat) (t : Rat) : Int := if cC n k t then 7 else 0
abbrev oM (n : Nat) (k : Nat → Rat) (t : Rat) : AV := .tuple [.int .i64 (gL n k t), .int .i64 (cH n k t)]
theorem AE {n : Nat} {k : Nat → Rat} {t : Rat} (h : cC n k t) : dn [.int .i64 0, .int .i64 7] (oM n k t) :=
 ⟨bq (by unfold gL; rw [if_pos h]; rfl), bq (by unfold cH; rw [if_pos h]), trivial⟩
theorem JD {n i : Nat} {k : Nat → Rat} {t : Rat} (h : ¬ cC n k t) (hi : i = bO n k t) : dn [.int .i64 i, .int .i64 0] (oM n k t) :=
 ⟨bq (by unfold gL; rw [if_neg h, hi]), bq (by unfold cH; rw [if_neg h]), trivial⟩
abbrev qO (k : Nat → Rat) (t : Rat) (i : Nat) : Nat := jg (fun i => decide (k i < k (i + 1)) && decide (k i ≤ t)) i
theorem J5 {g : Nat → Bool} {m : Nat} : jg g (m + 1) = if g m then m else jg g m := rfl
theorem MD {n p0 : Nat} {k : Nat → Rat} {p : Int} {t : Rat} (h : Kn n p0 k) (hn : n < 2 ^ 40) (K : Nat) : aA P rz K [ls k n, .int .i64 p, .rat t sK] [] (aG (oM n k t) []) := by
 have hp := h.p1
 have hl := h.len
 refine gp (r := aG (oM n k t) []) hT js hm Rw rfl (of_decide_eq_true (by kernel_rfl)) rfl [1,1,1,0,1] (i := 0) (y := part vf [1,1,1,0,1,0,0]) (z := part vf [1,1,1,1]) (by kernel_rfl) (by kernel_rfl) (by kernel_rfl) (f1 := [200013, 21, 31]) (f2 := [36, 49, 58]) (f3 := []) 60 uQ 1
  (fun a : Nat × Nat => D5 n k a.2 a.1) (fun _ => [(0, tP t sK)]) (fun a => a.1 + 1 ≤ n ∧ a.2 = qO k t a.1 ∧ k a.1 ≤ t ∧ ¬ cC n k t) (fun a => a.2 = bO n k t ∧ ¬ cC n k t) (fun a => n - a.1) (fun _ => ⟨⟨_, OZ, ?_⟩, fun ⟨i, l⟩ ⟨h1, h2, h3, h4⟩ => ⟨_, Qo, ?_⟩, fun ⟨i, l⟩ ⟨h1, h2⟩ => ⟨_, Ww, JD h2 h1⟩⟩) K []
 ·simp only [aa.all, ay, decide_eq_true_eq, decide_eq_false_iff_not, kB, qD, cond_false, Int.toNat_zero, beq_eq_false_iff_ne, ne_eq, show ((n : Int) - 1).toNat = n - 1 by omega]
  (repeat' with_reducible first | refine And.intro ?_ ?_ | intro _)
  all_goals first | omega | assumption | skip
  ·exact ⟨_, by kernel_rfl, AE (.inl ‹_›)⟩
  ·exact absurd ‹true = false› (by decide)
  ·exact ⟨_, by kernel_rfl, AE (.inr ‹_›)⟩
  ·rename_i a b
   have hin : ¬ cC n k t := fun h => h.elim (fun h => a h) fun h => b h
   exact ⟨(0, 0), ⟨by omega, rfl, by show k 0 ≤ t; grind, hin⟩, [(0, 0)], rfl, rfl, rfl, aR rfl rfl (aM rfl rfl) trivial⟩
 ·have hs : ∀ i, i + 1 < n → k i ≤ k (i + 1) := h.sorted
  simp only at h1 h2 h3
  simp only [aa.all, ay, decide_eq_true_eq, decide_eq_false_iff_not, kB, BE, Int.toNat_natCast, show ((i : Int) + 1).toNat = i + 1 by omega]
  (repeat' with_reducible first | refine And.intro ?_ ?_ | intro _)
  all_goals first | omega | assumption | skip
  ·rename_i hi hge
   have := hs i (by omega)
   have e : qO k t (i + 1) = qO k t i := by
    have : ¬ k i < k (i + 1) := by grind
    rw [qO, J5, if_neg (by simp [this])]
   exact ⟨(i + 1, l), ⟨by omega, h2.trans e.symm, by show k (i + 1) ≤ t; grind, h4⟩, by dsimp only; omega, [(0, 0)], rfl, rfl, rfl, aR rfl rfl (aM rfl rfl) trivial⟩
  ·rename_i hi hlt hb
   have : k i < k (i + 1) := by grind
   have hiv : bO n k t = i := BN ⟨⟨by omega, hs, this⟩, h3, by grind, .inl hb⟩
   exact ⟨rfl, (i, i), ⟨hiv.symm, h4⟩, [(0, 0)], rfl, rfl, rfl, aR rfl rfl (aM rfl rfl) trivial⟩
  ·rename_i hi hlt hb
   have : k i < k (i + 1) := by grind
   have e : qO k t (i + 1) = i := by
    rw [qO, J5, if_pos (by simp [this, h3])]
   exact ⟨(i + 1, i), ⟨by omega, e.symm, by show k (i + 1) ≤ t; grind, h4⟩, by dsimp only; omega, [(0, 0)], rfl, rfl, rfl, aR rfl rfl (aM rfl rfl) trivial⟩
  ·have hin : i = n - 1 := by omega
   subst hin
   exact ⟨rfl, (n - 1, l), ⟨h2, h4⟩, [(0, 0)], rfl, rfl, rfl, aR rfl rfl (aM rfl rfl) trivial⟩
theorem adb {n p : Nat} {k : Nat → Rat} {t : Rat} (h : Kn n p k) (hn : n < 2 ^ 40) (K : Nat) : aA P qC K [ls k n, .int .i64 p, .rat t sK] [] (aG (oM n k t) []) := by
 have hp := h.p1
 have hl := h.len
 refine gp (r := aG (oM n k t) []) hT ach hm T4 rfl (of_decide_eq_true (by kernel_rfl)) rfl [1,1,1,1,0] (i := 0) (y := part sC [1,1,1,1,0,0,0]) (z := part sC [1,1,1,1,1]) (by kernel_rfl) (by kernel_rfl) (by kernel_rfl) (f1 := [19, 27]) (f2 := [34, 42]) (f3 := []) 60 sN 1
  (fun i : Nat => uS n k i) (fun _ => [(0, tP t sK)]) (fun i => i + p + 2 ≤ n ∧ (∀ j, i < j → j + p + 2 ≤ n → t < k j) ∧ ¬ cC n k t) (fun i => i = bO n k t ∧ ¬ cC n k t) (fun i => i) (fun _ => ⟨⟨_, Yt, ?_⟩, fun i ⟨h1, h2, h4⟩ => ⟨_, Uh, ?_⟩, fun i ⟨h1, h2⟩ => ⟨_, RN, JD h2 h1⟩⟩) K []
 ·simp only [aa.all, ay, decide_eq_true_eq, decide_eq_false_iff_not, kB, qD, cond_false, Int.toNat_zero, show ((n : Int) - 1).toNat = n - 1 by omega]
  (repeat' with_reducible first | refine And.intro ?_ ?_ | intro _)
  all_goals first | omega | assumption | skip
  ·exact ⟨_, by kernel_rfl, AE (.inl ‹_›)⟩
  ·exact absurd ‹true = false› (by decide)
  ·exact ⟨_, by kernel_rfl, AE (.inr ‹_›)⟩
  ·rename_i a b
   have hin : ¬ cC n k t := fun h => h.elim (fun h => a h) fun h => b h
   refine ⟨n - p - 2, ⟨by omega, fun j h1 h2 => by omega, hin⟩, [(0, 0)], rfl, ?_, rfl, aR rfl rfl (aM rfl rfl) trivial⟩
   rw [show (n : Int) - 1 - (p : Int) - 1 = ((n - p - 2 : Nat) : Int) by omega]
   rfl
 ·simp only [aa.all, ay, decide_eq_true_eq, decide_eq_false_iff_not, kB, Int.toNat_natCast, cond_true]
  have hin : k 0 ≤ t ∧ t ≤ k (n - 1) := by
   constructor
   ·have : ¬ t < k 0 := fun h => h4 (.inl h)
    grind
   ·have : ¬ k (n - 1) < t := fun h => h4 (.inr h)
    grind
  have fin : k i ≤ t → i = bO n k t := fun h3 => by
   by_cases hi : i + p + 2 < n
   ·have h5 := h2 (i + 1) (by omega) (by omega)
    exact (BN ⟨⟨by omega, h.sorted, by grind⟩, h3, by grind, .inl h5⟩).symm
   ·have e1 := h.last (i + 1) (by omega) (by omega)
    have e2 := h.last (i + p) (by omega) (by omega)
    have e3 := h.mult i (by omega) (by omega)
    exact (BN ⟨⟨by omega, h.sorted, by rw [e1, ← e2]; exact e3⟩, h3, by rw [e1]; exact hin.2, .inr e1⟩).symm
  (repeat' with_reducible first | refine And.intro ?_ ?_ | intro _)
  all_goals first | omega | assumption | skip
  ·rename_i a b
   refine ⟨i - 1, ⟨by omega, fun j h5 h6 => ?_, h4⟩, by dsimp only; omega, [(0, 0)], rfl, ?_, rfl, aR rfl rfl (aM rfl rfl) trivial⟩
   ·by_cases hj : j = i
    ·subst hj; exact b
    ·exact h2 j (by omega) h6
   ·rw [show (i : Int) - 1 = ((i - 1 : Nat) : Int) by omega]; rfl
  ·rename_i a b
   exact ⟨rfl, i, ⟨fin (by grind), h4⟩, [(0, 0)], rfl, rfl, rfl, aR rfl rfl (aM rfl rfl) trivial⟩
  ·exact absurd ‹false = true› (by decide)
  ·have hi : i = 0 := by omega
   subst hi
   exact ⟨rfl, 0, ⟨fin hin.1, h4⟩, [(0, 0)], rfl, rfl, rfl, aR rfl rfl (aM rfl rfl) trivial⟩
abbrev Kc : pg ((Nat × (Nat → Rat)) × Int × Rat × Unit) := kC (kL sK) (kC kI (kC (gv sK) kN))
def pP : Spec := cP Kc (fun a => oM a.1.1 a.1.2 a.2.2.1) fun a => [Kn a.1.1 a.2.1.toNat a.1.2, 0 ≤ a.2.1, a.1.1 < 2 ^ 40]
theorem IV : ∀ K args pre r, pP K args pre = some r → aA P rz K args pre r := cK fun _ K hn => MD hn.1 hn.2.2 K
theorem Iy : ∀ K args pre r, pP K args pre = some r → aA P qC K args pre r := cK fun ⟨⟨n, k⟩, p, t, _⟩ K hn => by
 have := adb hn.1 hn.2.2 K (t := t)
 rw [Int.toNat_of_nonneg hn.2.1] at this
 exact this
end Go.Am.B

/- basis.fraction, basis.Values. -/
namespace Go.Am.B
open Go Go.Am.N AV aa ah IntKind
theorem Xn : aN P vU yb (au yb) := aP Vo (by kernel_rfl) (by kernel_rfl) (by kernel_rfl)
theorem Fc : aN P tg rL (au rL) := aP abM (by kernel_rfl) (by kernel_rfl) (by kernel_rfl)
def HR : aQ := (rV, gM kR kR ug oR) :: fT
theorem aby {a b t : Rat} {n : Nat} : bu T HR [] 60 yb (au yb) ⟨aL 0 [.rat a n, .rat b n, .rat t n], [], 0⟩ =
  let c3 : Nat := n + n + 1; let c2 : Nat := 2 ^ 42; let c1 : Prop := 0 < 1; some (ag [c1, c1, n < c2, n < c2, c1, c1, n < c2, n < c2, c3 < c2, c3 < c2, c1] (ag [c1, c1] (ag [c1] (leaf ret [rat ((t - a) / (b - a)) (c3 + c3)])))) := by kernel_rfl
abbrev sF : Nat := 16386
def C4 : Spec := cP (kC (gv sK) (kC (gv sK) (kC (gv sK) kN))) (fun a => .rat (fr a.1 a.2.1 a.2.2.1) sF) fun _ => []
theorem XS : aY P HR := aF (hU fun _ _ K hn => CN hn.1 hn.2 K) g8
theorem FO : ∀ K args pre r, C4 K args pre = some r → aA P vU K args pre r := cK fun ⟨a, b, t, _⟩ K _ => by
 refine bC (r := aG (.rat (fr a b t) sF) []) hT XS hm Xn rfl (of_decide_eq_true (by kernel_rfl)) rfl 60 aby (fun _ => ?_) K []
 simp only [aa.all, ay]
 have h1 : sK = 4096 := rfl
 (repeat' with_reducible refine And.intro ?_ ?_)
 all_goals first | omega | exact (bK rfl (show sK + sK + 1 + (sK + sK + 1) ≤ sF by decide))
def ow : aQ := nG :: (rz, pP) :: (vU, C4) :: (oP, oX) :: fT
def SB (d : Nat) : Nat := 65536 * 4 ^ d
abbrev HB (d : Nat) : Nat := 1 + (sF + SB d) + 1
abbrev kz : List Nat := [0, 1, 5, 9, 11, 12, 6, 7, 8]
abbrev qV (n : Nat) (k : Nat → Rat) (p i d : Nat) : List AV := [ls k n, .int .i64 p, .ptr 0 0 3 0 [], .int .i64 i, .own 2 3 0 (d + 1), .int .i64 ((d + 1 : Nat) : Int), .int .i64 0, .nil, .int .i64 0]
abbrev gu (m : Nat) (x : Nat → Rat) (s : Nat → Nat) : az := ⟨true, true, 3, m, fun i => .rat (x i) (s i)⟩
noncomputable abbrev A8 : Code := au rL
noncomputable abbrev qI : Code := part A8 [1,1,1,1,1,0,1,0,0]
noncomputable abbrev oO : Code := part qI [1,0,0]
abbrev uu : List Nat := [0, 1, 5, 9, 12, 13, 54, 55, 56, 6, 7, 8]
abbrev Cv (n : Nat) (k : Nat → Rat) (p i d j : Nat) : List AV := [ls k n, .int .i64 p, .ptr 0 0 3 0 [], .int .i64 i, .int .i64 ((d + 1 : Nat) : Int), .own 3 3 0 (d + 2), .own 2 3 0 (d + 1), .int .i64 ((d + 1 : Nat) : Int), .int .i64 j, .int .i64 0, .nil, .int .i64 0]
theorem To {n p : Nat} {k : Nat → Rat} {t : Rat} : aI T ow [26, 30, 36, 43] 60 kz (before A8 [1,1,1,1,1,0,1]) ⟨aL 0 [ls k n, .int .i64 p, .rat t sK], [], 0⟩ =
  let c13 : Int := cH n (fun i ↦ aT (rat (k i) sK)) t; let c12 : AV := int i64 (0 : Int); let c9 : AV := ak 3 n fun i ↦ rat (k i) 4096; let c7 : AV := ptr 0 0 (bA (rat t sK)).size 0 []; let c6 : Int := (2 : Int) ^ 63; let c5 : Nat × az := ((0 : Nat), az.mk false true (bA (rat t sK)).size 1 fun x ↦ rat t 4096); let c4 : Int := (↑p : Int); let c3 : Int := (↑(gL n (fun i ↦ aT (rat (k i) sK)) t) : Int); let c15 : Prop := -c6 ≤ c3 - c4 ∧ c3 - c4 < c6; let c14 : Prop := -c6 ≤ c3 + c4 ∧ c3 + c4 < c6; let c11 : Bool := bif false then true else decide (c3 + c4 ≥ (↑n : Int)); let c10 : Bool := decide (c4 < (0 : Int)); let c8 : Bool := bif false then true else decide (c3 - c4 < (0 : Int)); let c2 : aa (List AV × aD) := leaf ret ([c9, int i64 c4, c7, int i64 c3, tuple [], tuple [], c12, nil, int i64 (7 : Int)], [c5]); let c1 : aa (List AV × aD) := ag [(1 : Nat) * 3 ≤ 2 ^ 24] (leaf normal ([c9, int i64 c4, c7, int i64 c3, own 131072 3 0 1, int i64 (1 : Int), c12, nil, c12], [((131072 : Nat), az.mk true true 3 1 fun i ↦ nth [rat (↑(1 : Int) : Rat) (Max.max 1 (bg (Int.natAbs (1 : Int))))] (rat 0 1) i), c5])); some (ag [(0 : Nat) < 1, ck (fun i ↦ rat (k i) sK) n sK, sK ≤ sK, Kn n c4.toNat fun i ↦ aT (rat (k i) sK), (0 : Int) ≤ c4, n < 2 ^ 40] (fork (c13 != (0 : Int)) (leaf ret ([c9, int i64 c4, c7, int i64 c3, tuple [], tuple [], c12, nil, int i64 c13], [c5])) (fork false (fork true (ag [c10 = true, true = true] (fork true c2 c1)) (ag [c10 = true, true = false, c14] (fork c11 c2 c1))) (fork c8 (ag [c10 = false, c15, c8 = true] (fork true c2 c1)) (ag [c10 = false, c15, c8 = false, c14] (fork c11 c2 c1)))))) := by kernel_rfl
theorem TT {n p i d : Nat} {k x : Nat → Rat} {t : Rat} : aI T ow [48] 60 kz (before qI [1,0]) ⟨aB kz (qV n k p i d), [(2, gu (d + 1) x fun _ => SB d), (0, tP t sK)], 3⟩ =
  let c2 : Int := (↑(d + 1) : Int); let c1 : List AV × aD := ([ak 3 n fun i ↦ rat (k i) 4096, int i64 (↑p : Int), ptr 0 0 3 0 [], int i64 (↑i : Int), own 2 3 0 (d + 1), int i64 c2, int i64 (0 : Int), nil, int i64 (0 : Int)], [((2 : Nat), az.mk true true 3 (d + 1) fun i ↦ rat (x i) (SB d)), ((0 : Nat), az.mk false true 3 1 fun x ↦ rat t 4096)]); some (fork (decide (c2 ≤ (↑p : Int))) (leaf normal c1) (leaf (exit 0) c1)) := by kernel_rfl
theorem ZB {n p i d : Nat} {k x : Nat → Rat} {t : Rat} : aI T ow [] 60 uu (before oO [1,0,1]) ⟨aB kz (qV n k p i d), [(2, gu (d + 1) x fun _ => SB d), (0, tP t sK)], 3⟩ =
  let c3 : AV := int i64 (0 : Int); let c2 : Int := (↑(d + 1) : Int); let c1 : Int := c2 + (1 : Int); some (ag [-(2 : Int) ^ 63 ≤ c1 ∧ c1 < (2 : Int) ^ 63, (0 : Int) ≤ c1 ∧ c1 ≤ c1 ∧ c1 ≤ (2 : Int) ^ 47 ∧ c1 * (↑(56 : Nat) : Int) ≤ (2 : Int) ^ 47] (leaf normal ([ak 3 n fun i ↦ rat (k i) 4096, int i64 (↑p : Int), ptr 0 0 3 0 [], int i64 (↑i : Int), int i64 c2, own 8195 3 0 c1.toNat, own 2 3 0 (d + 1), int i64 c2, c3, c3, nil, c3], [((2 : Nat), az.mk true true 3 (d + 1) fun i ↦ rat (x i) (SB d)), ((8195 : Nat), az.mk true true 3 c1.toNat fun x ↦ rat 0 1), ((0 : Nat), az.mk false true 3 1 fun x ↦ rat t 4096)]))) := by kernel_rfl
theorem Qh {n p i d j : Nat} {k x y : Nat → Rat} {s : Nat → Nat} {t : Rat} : aI T ow [57] 60 uu [part oO [1,0,1,0,0]] ⟨aB uu (Cv n k p i d j), [(3, gu (d + 2) y s), (2, gu (d + 1) x fun _ => SB d), (0, tP t sK)], 4⟩ =
  let c20 : AV := int i64 (0 : Int); let c19 : AV := ptr 0 0 3 0 []; let c18 : AV := ak 3 n fun i ↦ rat (k i) 4096; let c16 : Nat := d + 1; let c13 : Nat × az := ((0 : Nat), az.mk false true 3 1 fun x ↦ rat t 4096); let c11 : Int := (↑j : Int); let c10 : Prop := 0 < 1; let c9 : Nat := d + 2; let c8 : Nat := Max.max 1 (bg (Int.natAbs (1 : Int))); let c7 : Nat := 2 ^ 42; let c5 : Int := (2 : Int) ^ 63; let c25 : Prop := (0 : Int) ≤ c11 ∧ c11.toNat < c9; let c23 : Nat := c8 + sF + 1; let c22 : AV := own 3 3 0 c9; let c21 : AV := own 2 3 0 c16; let c12 : Nat × az := ((2 : Nat), az.mk true true 3 c16 fun i ↦ rat (x i) (SB d)); let c6 : Int := c11 + (1 : Int); let c4 : Nat := c11.toNat + 0; let c3 : Int := (↑c16 : Int); let c29 : AV := int i64 c3; let c27 : Prop := (0 : Int) ≤ c6 ∧ c6.toNat < c9; let c24 : Prop := -c5 ≤ c6 ∧ c6 < c5; let c17 : Int := (↑i : Int) - c3; let c2 : Nat := c6.toNat + 0; let c28 : Int := c17 + (1 : Int); let c26 : Nat := s c2 + (sF + SB d) + 1; let c15 : Nat := bif c4 == c2 then c26 else s c4; let c1 : Int := c28 + c11; let c14 : Rat := fr (k c1.toNat) (k (c1 + c3).toNat) t; some (fork (decide (c11 < c3)) (ag [(0 : Int) ≤ c11 ∧ c11.toNat < c16, c4 < c16, c10] (ag [-c5 ≤ c17 ∧ c17 < c5, -c5 ≤ c28 ∧ c28 < c5, -c5 ≤ c1 ∧ c1 < c5] (ag [(0 : Int) ≤ c1 ∧ c1.toNat < n, -c5 ≤ c1 + c3 ∧ c1 + c3 < c5, (0 : Int) ≤ c1 + c3 ∧ (c1 + c3).toNat < n, c10, sK ≤ sK, sK ≤ sK, sK ≤ sK, c10] (ag [c24, c24, c27, c2 < c9, c10, c10, sF < c7, SB d < c7, s c2 < c7, sF + SB d < c7, c27, c2 < c9] (ag [c25, c4 < c9, c10, c8 < c7, sF < c7, c10, c23 < c7, SB d < c7, c15 < c7, c23 + SB d < c7, c25, c4 < c9] (ag [c24] (leaf normal ([c18, int i64 (↑p : Int), c19, int i64 (↑i : Int), c29, c22, c21, c29, int i64 c6, c20, nil, c20], [c12, ((3 : Nat), az.mk true true 3 c9 fun j ↦ rat (bif j == c4 then (bif c4 == c2 then y c2 + c14 * x c4 else y c4) + ((↑(1 : Int) : Rat) - c14) * x c4 else bif j == c2 then y c2 + c14 * x c4 else y j) (bif j == c4 then c15 + (c23 + SB d) + 1 else bif j == c2 then c26 else s j)), c13])))))))) (leaf (exit 2) ([c18, int i64 (↑p : Int), c19, int i64 (↑i : Int), c29, c22, c21, c29, int i64 c11, c20, nil, c20], [c12, ((3 : Nat), az.mk true true 3 c9 fun i ↦ rat (y i) (s i)), c13]))) := by kernel_rfl
theorem acV {n p i d j : Nat} {k x y : Nat → Rat} {s : Nat → Nat} {t : Rat} : aI T ow [] 60 kz [part oO [1,1], part qI [1,1]] ⟨aB uu (Cv n k p i d j), [(3, gu (d + 2) y s), (2, gu (d + 1) x fun _ => SB d), (0, tP t sK)], 4⟩ =
  let c1 : Int := (↑(d + 1) : Int) + (1 : Int); some (ag [-(2 : Int) ^ 63 ≤ c1 ∧ c1 < (2 : Int) ^ 63] (leaf normal ([ak 3 n fun i ↦ rat (k i) 4096, int i64 (↑p : Int), ptr 0 0 3 0 [], int i64 (↑i : Int), own 3 3 0 (d + 2), int i64 c1, int i64 (0 : Int), nil, int i64 (0 : Int)], [((3 : Nat), az.mk true true 3 (d + 2) fun i ↦ rat (y i) (s i)), ((0 : Nat), az.mk false true 3 1 fun x ↦ rat t 4096)]))) := by kernel_rfl
theorem Xo {n p i d : Nat} {k x : Nat → Rat} {t : Rat} : b9 T ow [] 60 rL [part A8 [1,1,1,1,1,1]] ⟨aB kz (qV n k p i d), [(2, gu (d + 1) x fun _ => SB d), (0, tP t sK)], 3⟩ =
  let c1 : Int := (↑i : Int) - (↑p : Int); some (ag [-(2 : Int) ^ 63 ≤ c1 ∧ c1 < (2 : Int) ^ 63] (leaf ret [int i64 c1, ak 3 (d + 1) fun i ↦ rat (x (i + 0)) (SB d), int i64 (0 : Int)])) := by kernel_rfl
theorem vh {d : Nat} : SB (d + 1) = 4 * SB d := by unfold SB; rw [Nat.pow_succ]; omega
theorem pG : ∀ {d : Nat}, 65536 ≤ SB d
 | 0 => by unfold SB; omega
 | d + 1 => by rw [vh]; have := pG (d := d); omega
theorem tD : sF = 16386 := rfl
theorem TA {d e : Nat} (h : d ≤ e) : SB d ≤ SB e := Nat.mul_le_mul_left _ (Nat.pow_le_pow_right (by omega) h)
abbrev sV : Nat := 268435456
theorem nJ {d : Nat} (h : d ≤ 6) : SB d ≤ sV := Nat.le_trans (TA h) (by decide)
def x4 (n : Nat) (k : Nat → Rat) (p : Nat) (t : Rat) (f : Nat → Rat) : AV := .tuple [.int .i64 (if cC n k t then 0 else (bO n k t : Int) - p), .ak 3 (if cC n k t then 0 else p + 1) (fun j => .rat (f j) sV), .int .i64 (cH n k t)]
abbrev qE (n : Nat) (k : Nat → Rat) (p : Nat) (t : Rat) : AV := x4 n k p t (vB k (bO n k t) t p)
theorem K7 {n p : Nat} {k f : Nat → Rat} {t : Rat} (h : cC n k t) : dn [.int .i64 0, .nil, .int .i64 7] (x4 n k p t f) := by
 unfold x4 cH
 rw [if_pos h, if_pos h, if_pos h]
 exact ⟨.refl _, jo (by omega), .refl _, trivial⟩
theorem Lp {n p : Nat} {k f : Nat → Rat} {t : Rat} {g : Nat → AV} (h : ¬ cC n k t) (hg : ∀ j, j < p + 1 → bB (g j) (.rat (f j) sV)) : dn [.int .i64 ((bO n k t : Int) - p), .ak 3 (p + 1) g, .int .i64 0] (x4 n k p t f) := by
 unfold x4 cH
 rw [if_neg h, if_neg h, if_neg h]
 exact ⟨.refl _, lC hg, .refl _, trivial⟩
theorem sq : aY P ow := cO (aF IV (aF FO (aF (wU CM) g8)))
def uz (k : Nat → Rat) (i : Nat) (t : Rat) (d j : Nat) : Rat := if j = 0 then 0 else fr (k (i - d + (j - 1))) (k (i - d + (j - 1) + (d + 1))) t * vB k i t d (j - 1)
def jV (k : Nat → Rat) (i : Nat) (t : Rat) (d j x : Nat) : Rat := if x < j then vB k i t (d + 1) x else if x = j then uz k i t d j else 0
def hG (d j x : Nat) : Nat := if x < j then SB (d + 1) else if x = j then HB d else 1
theorem OG {rl : List (Nat × Nat)} {k : Nat → Rat} {i d j x : Nat} {t : Rat} (hj : j ≤ d) :
  fq rl (.rat (bif x == j then (bif j == j + 1 then jV k i t d j (j + 1) + fr (k (i - d + j)) (k (i - d + j + (d + 1))) t * vB k i t d j else jV k i t d j j) + (((1 : Int) : Rat) - fr (k (i - d + j)) (k (i - d + j + (d + 1))) t) * vB k i t d j
   else bif x == j + 1 then jV k i t d j (j + 1) + fr (k (i - d + j)) (k (i - d + j + (d + 1))) t * vB k i t d j else jV k i t d j x)
   (bif x == j then (bif j == j + 1 then hG d j (j + 1) + (sF + SB d) + 1 else hG d j j) + (1 + sF + 1 + SB d) + 1 else bif x == j + 1 then hG d j (j + 1) + (sF + SB d) + 1 else hG d j x))
   (.rat (jV k i t d (j + 1) x) (hG d (j + 1) x)) := by
 have h1 := vh (d := d)
 have h2 := pG (d := d)
 have h3 := tD
 have hjj : (j == j + 1) = false := by simp
 rw [hjj]
 refine .inr ⟨rfl, ?_⟩
 by_cases hx : x = j
 ·subst hx
  simp only [beq_self_eq_true, cond_true, cond_false]
  refine bK ?_ ?_
  ·unfold jV
   rw [if_neg (by omega), if_pos rfl, if_pos (by omega), vB, if_pos hj]
   have : ((1 : Int) : Rat) = 1 := rfl
   rw [this]; rfl
  ·unfold hG HB
   rw [if_neg (by omega), if_pos rfl, if_pos (by omega)]; omega
 ·have hb : (x == j) = false := by simpa using hx
  rw [hb]
  by_cases hx2 : x = j + 1
  ·subst hx2
   simp only [beq_self_eq_true, cond_true, cond_false]
   refine bK ?_ ?_
   ·unfold jV uz
    rw [if_neg (by omega), if_neg (by omega), if_neg (by omega), if_pos rfl, if_neg (by omega), Nat.add_sub_cancel, Rat.zero_add]
   ·unfold hG HB
    rw [if_neg (by omega), if_neg (by omega), if_neg (by omega), if_pos rfl]; omega
  ·have hb2 : (x == j + 1) = false := by simpa using hx2
   rw [hb2]
   simp only [cond_false]
   refine bK ?_ ?_
   ·unfold jV
    by_cases hlt : x < j
    ·rw [if_pos hlt, if_pos (by omega)]
    ·rw [if_neg hlt, if_neg hx, if_neg (by omega), if_neg hx2]
   ·unfold hG
    by_cases hlt : x < j
    ·rw [if_pos hlt, if_pos (by omega)]; omega
    ·rw [if_neg hlt, if_neg hx, if_neg (by omega), if_neg hx2]; omega
theorem Pa {n p : Nat} {k : Nat → Rat} {t : Rat} (h : Kn n p k) (hp6 : p ≤ 6) (hn : n < 2 ^ 40) (K : Nat) : aA P tg K [ls k n, .int .i64 p, .rat t sK] [] (aG (qE n k p t) []) := by
 refine fU (r := aG (qE n k p t) []) hT Fc rfl (of_decide_eq_true (by kernel_rfl)) rfl (fun _ c h0 => ?_) K []
 have hk := qc h0
 have hiv : ¬ cC n k t → p ≤ bO n k t ∧ bO n k t + p + 1 < n := fun hin => by
  have h1 : ¬ t < k 0 := fun h => hin (.inl h)
  have h2 : ¬ k (n - 1) < t := fun h => hin (.inr h)
  exact (h.Ek (by grind) (by grind)).2
 have hp1 := h.p1
 have hl := h.len
 refine aq.Aw hT sq hm [1,1,1,1,1,0,1] (i := 0) (y := qI) (z := part A8 [1,1,1,1,1,1]) (by kernel_rfl) (by kernel_rfl) (by kernel_rfl) Fc.dst hk (f1 := [26, 30, 36, 43]) 60 kz 3 (fun d : Nat => qV n k p (bO n k t) d) (fun d => [(2, gu (d + 1) (vB k (bO n k t) t d) fun _ => SB d), (0, tP t sK)])
  (fun d => d ≤ p ∧ ¬ cC n k t) (fun d => d = p ∧ ¬ cC n k t) (fun d => p - d) (lW rL kz (qE n k p t)) ⟨_, To, ?_⟩ (fun d ⟨hd, hin⟩ => ?_) (fun d ⟨hd, hin⟩ => ?_) (fun v s' hv hs' => hv.fin hs')
 ·simp only [aa.all, ay, jY, bne_iff_ne, ne_eq, bne_eq_false_iff_eq, decide_eq_true_eq, decide_eq_false_iff_not, cond_false, Int.toNat_natCast]
  refine ⟨⟨by omega, dj (Nat.le_refl _), Nat.le_refl _, h, by omega, hn⟩, fun hout => ?_, fun hin => ?_⟩
  ·have hout : cC n k t := by
    unfold cH at hout
    by_cases ho : cC n k t
    ·exact ho
    ·rw [if_neg ho] at hout; exact absurd rfl hout
   refine ⟨[.int .i64 0, .nil, .int .i64 7], ?_, K7 hout⟩
   unfold cH
   rw [if_pos hout]
   kernel_rfl
  ·have hin : ¬ cC n k t := fun ho => by unfold cH at hin; rw [if_pos ho] at hin; omega
   have hii : gL n k t = bO n k t := by unfold gL; rw [if_neg hin]
   have hv := hiv hin
   simp only [hii, decide_eq_true_eq, decide_eq_false_iff_not]
   (repeat' with_reducible first | refine And.intro ?_ ?_ | intro _)
   all_goals first | omega | (exfalso; omega) | exact absurd ‹false = true› (by decide) | exact absurd ‹true = false› (by decide) | skip
   refine ⟨0, ⟨by omega, hin⟩, [(0, 0), (2, 131072)], rfl, rfl, rfl, bD rfl rfl rfl (fun i hi => ?_) (aR rfl rfl (aM rfl rfl) trivial)⟩
   have : i = 0 := by omega
   subst this
   exact .inr ⟨rfl, bK rfl (by have := pG (d := 0); exact Nat.le_trans (by decide) this)⟩
 ·have hv := hiv hin
  refine aq.vG hT sq hm (y := qI) (x1 := oO) (zb := part qI [1,1]) [1,0] (j := 1) (by kernel_rfl) (by kernel_rfl) (by kernel_rfl) (by kernel_rfl) hk (f1 := [48]) 60 kz 3 (fun _ : Unit => qV n k p (bO n k t) d) (fun _ => [(2, gu (d + 1) (vB k (bO n k t) t d) fun _ => SB d), (0, tP t sK)]) (fun _ => d + 1 ≤ p) ⟨_, TT, ?_⟩ (fun _ hd' => ?_)
  ·simp only [aa.all, ay, decide_eq_true_eq, decide_eq_false_iff_not]
   have re : eA [] ([ak 3 n fun i => rat (k i) sK, int i64 p, ptr 0 0 3 0 [], int i64 (bO n k t), own 2 3 0 (d + 1), int i64 ((d + 1 : Nat) : Int), int i64 (0 : Int), nil, int i64 (0 : Int)], [((2 : Nat), az.mk true true 3 (d + 1) fun i ↦ rat (vB k (bO n k t) t d i) (SB d)), ((0 : Nat), az.mk false true 3 1 fun x ↦ rat t sK)]) (qV n k p (bO n k t) d) [(2, gu (d + 1) (vB k (bO n k t) t d) fun _ => SB d), (0, tP t sK)] 3 :=
    ⟨[(0, 0), (2, 2)], rfl, rfl, rfl, bD rfl rfl rfl (fun i hi => aM rfl rfl) (aR rfl rfl (aM rfl rfl) trivial)⟩
   exact ⟨fun h1 => ⟨(), by omega, re⟩, fun h1 s' hs' => ⟨rfl, d, ⟨by omega, hin⟩, re.le hs' hk⟩⟩
  refine aq.kY hT sq hm (x := oO) (z := part oO [1,1]) [1,0,1] (i := 2) (y := part oO [1,0,1,0,0]) (by kernel_rfl) (by kernel_rfl) (by kernel_rfl) (by kernel_rfl) hk (f1 := []) (f2 := [57]) 60 uu 4 (fun j : Nat => Cv n k p (bO n k t) d j)
   (fun j => [(3, gu (d + 2) (jV k (bO n k t) t d j) (hG d j)), (2, gu (d + 1) (vB k (bO n k t) t d) fun _ => SB d), (0, tP t sK)]) (fun j => j ≤ d + 1) (fun j => j = d + 1) (fun j => d + 1 - j) (fun _ => False) ⟨_, ZB, ?_⟩ (fun j hj => ⟨_, Qh, ?_⟩) (fun j hj => ?_) (fun _ _ h => h.elim)
  ·simp only [aa.all, ay]
   rw [show (((d + 1 : Nat) : Int) + 1).toNat = d + 2 by omega]
   refine ⟨⟨by omega, by omega⟩, 0, by omega, [(0, 0), (2, 2), (3, 8195)], rfl, rfl, rfl, bD rfl rfl rfl (fun i hi => ?_) (bD rfl rfl rfl (fun i hi => aM rfl rfl) (aR rfl rfl (aM rfl rfl) trivial))⟩
   refine .inr ⟨rfl, bK ?_ ?_⟩
   ·unfold jV uz; rw [if_neg (by omega)]; split <;> rfl
   ·unfold hG HB; rw [if_neg (by omega)]; split <;> omega
  ·have hF := tD
   have h1 := pG (d := d)
   have h2 := nJ (d := d) (by omega)
   have h3 := nJ (d := d + 1) (by omega)
   have h5 : sV = 268435456 := rfl
   have s0 : hG d j j = HB d := by unfold hG; rw [if_neg (by omega), if_pos rfl]
   have s1 : hG d j (j + 1) = 1 := by unfold hG; rw [if_neg (by omega), if_neg (by omega)]
   have e0 : ((bO n k t : Int) - ((d + 1 : Nat) : Int) + 1 + (j : Int)).toNat = bO n k t - d + j := by omega
   have e1 : ((bO n k t : Int) - ((d + 1 : Nat) : Int) + 1 + (j : Int) + ((d + 1 : Nat) : Int)).toNat = bO n k t - d + j + (d + 1) := by omega
   have e2 : ((j : Int) + 1).toNat = j + 1 := by omega
   simp only [aa.all, ay, decide_eq_true_eq, decide_eq_false_iff_not, Int.toNat_natCast, Nat.add_zero, e0, e1, e2, Fm]
   have hjj : (j == j + 1) = false := by simp
   refine ⟨fun h4 => ?_, fun h4 => ⟨rfl, j, by omega, [(0, 0), (2, 2), (3, 3)], rfl, rfl, rfl, bD rfl rfl rfl (fun i hi => aM rfl rfl) (bD rfl rfl rfl (fun i hi => aM rfl rfl) (aR rfl rfl (aM rfl rfl) trivial))⟩⟩
   (repeat' with_reducible refine And.intro ?_ ?_)
   all_goals first | omega | (rw [s1]; omega) | (rw [hjj, cond_false, s0]; unfold HB; omega) | skip
   refine ⟨j + 1, by omega, by dsimp only; omega, [(0, 0), (2, 2), (3, 3)], rfl, rfl, rfl, bD rfl rfl rfl (fun x hx => OG (by omega)) (bD rfl rfl rfl (fun i hi => aM rfl rfl) (aR rfl rfl (aM rfl rfl) trivial))⟩
  ·subst hj
   refine aq.tail (fun s' hh => by have := hh.1; omega) (aC.aZ hT sq hm 60 kz acV (by kernel_rfl) ?_)
   simp only [aa.all, ay]
   refine ⟨by omega, fun s' hs' => ⟨d + 1, ⟨hd', hin⟩, by dsimp only; omega, eA.le ⟨[(0, 0), (2, 3)], rfl, rfl, rfl, bD rfl rfl rfl (fun x hx => ?_) (aR rfl rfl (aM rfl rfl) trivial)⟩ hs' hk⟩⟩
   refine .inr ⟨rfl, bK ?_ ?_⟩
   ·unfold jV
    by_cases hlt : x < d + 1
    ·rw [if_pos hlt]
    ·have : x = d + 1 := by omega
     subst this
     rw [if_neg (by omega), if_pos rfl, vB, if_neg (show ¬ d + 1 ≤ d by omega), Rat.add_zero]; rfl
   ·have h1 := vh (d := d)
    have h2 := pG (d := d)
    have hF := tD
    show _ ≤ SB (d + 1)
    unfold hG HB
    split
    ·omega
    ·split <;> omega
 ·subst hd
  refine aq.lJ ((aC.fin hT sq hm 60 Xo (by kernel_rfl) ?_).mono fun _ _ h => .inl h)
  simp only [aa.all, ay]
  exact ⟨by have := hiv hin; omega, Lp hin fun j _ => dm (nJ hp6)⟩
end Go.Am.B

/- basis.Sum; numbers of tZ. -/
namespace Go.Am.B
open Go Go.Am.N AV aa ah IntKind
theorem abf : aN P oE wK (au wK) := aP Uc (by kernel_rfl) (by kernel_rfl) (by kernel_rfl)
def yQ : Spec := cP Kc (fun a => qE a.1.1 a.1.2 a.2.1.toNat a.2.2.1) fun a => [Kn a.1.1 a.2.1.toNat a.1.2, 0 ≤ a.2.1, a.2.1 ≤ 6, a.1.1 < 2 ^ 40]
theorem UN : ∀ K args pre r, yQ K args pre = some r → aA P tg K args pre r := cK fun ⟨⟨n, k⟩, p, t, _⟩ K hn => by
 obtain ⟨h1, h2, h3, h4⟩ := hn
 have h3 : p ≤ 6 := h3
 have := Pa h1 (by simp only; omega) h4 K (t := t)
 rw [Int.toNat_of_nonneg h2] at this
 exact this
def tw : Spec := cP (kC (kL sK) (kC kI kN)) (fun a => .int .i64 ((a.1.1 : Int) - a.2.1 - 1)) fun a => [a.1.1 < 2 ^ 40, -2 ^ 40 < a.2.1, a.2.1 < 2 ^ 40]
theorem S0 {n : Nat} {k : Nat → Rat} {p : Int} : bu T [nG] [] 60 wK (au wK) ⟨aL 0 [ls k n, .int .i64 p], [], 0⟩ =
  let c3 : Int := (↑n : Int) - p; let c1 : Int := (2 : Int) ^ 63; let c2 : Int := c3 - (1 : Int); some (ag [-c1 ≤ c3 ∧ c3 < c1, -c1 ≤ c2 ∧ c2 < c1] (leaf ret [int i64 c2])) := by kernel_rfl
theorem yR : ∀ K args pre r, tw K args pre = some r → aA P oE K args pre r := cK fun ⟨⟨n, k⟩, p, _⟩ K hn => by
 obtain ⟨h1, h2, h3⟩ := hn
 have h3 : p < 2 ^ 40 := h3
 simp only at h1 h2
 refine bC (r := aG (.int .i64 ((n : Int) - p - 1)) []) hT (cO bk) hm abf rfl (of_decide_eq_true (by kernel_rfl)) rfl 60 S0 (fun _ => ?_) K []
 simp only [aa.all, ay]
 exact ⟨by omega, .refl _⟩
abbrev zO : az := ⟨false, true, 3, 1, fun _ => .rat 0 1⟩
theorem CE {n : Nat} {k : Nat → Rat} {t : Rat} (h : cH n k t ≠ 0) : cC n k t := by
 unfold cH at h
 by_cases ho : cC n k t
 ·exact ho
 ·rw [if_neg ho] at h; exact absurd rfl h
theorem yI {n : Nat} {k : Nat → Rat} {t : Rat} (h : cH n k t = 0) : ¬ cC n k t := fun ho => by unfold cH at h; rw [if_pos ho] at h; omega
theorem Kn.oV {n p : Nat} {k : Nat → Rat} (h : Kn n p k) {t : Rat} (hin : ¬ cC n k t) : p ≤ bO n k t ∧ bO n k t + p + 1 < n := by
 have h1 : ¬ t < k 0 := fun h => hin (.inl h)
 have h2 : ¬ k (n - 1) < t := fun h => hin (.inr h)
 exact (h.Ek (by grind) (by grind)).2
end Go.Am.B
