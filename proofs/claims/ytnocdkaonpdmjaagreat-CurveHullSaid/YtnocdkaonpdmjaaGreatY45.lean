/- brepkernelmade: Rat, Within; lists of numbers as arguments. -/
import Derived.Test.YtnocdkaonpdmjaaGreatB43
import Derived.Test.YtnocdkaonpdmjaaGreatY39
import Derived.Test.YtnocdkaonpdmjaaGreatZ2
import Derived.Test.YtnocdkaonpdmjaaGreatC4
import Derived.Test.YtnocdkaonpdmjaaGreatD1
set_option linter.unusedVariables false
namespace Go.Am.B
open Go Go.Am.N AV
theorem Zu : aO P B7 yw (ax yw) := aP Sq (by kernel_rfl) (by kernel_rfl) (by kernel_rfl)
noncomputable def Fc : aQ := [(B7, mq T (sG :: (x9, Hs) :: ql) [] 60 yw)]
theorem aab : bg P Fc := aH (oN hT (mT (aH Xn wC)) hm Zu _ _) bn
def kL (s : Nat) : Kind (Nat × (Nat → Rat)) := ⟨fun v => match zA v with
 | some (n, f) => some ((n, fun i => bp (f i)), [cz f n s])
 | none => none, fun a => bI a.2 a.1 s, fun {v a q} h hq => by
  split at h
  ·rename_i h1
   simp only [Option.some.injEq, Prod.mk.injEq] at h
   obtain ⟨rfl, rfl⟩ := h
   exact Vi h1 hq
  ·simp at h⟩
def jM (s : Nat) : Kind Rat := ⟨fun v => match gG v with
 | some (q, n) => some (q, [n ≤ s])
 | none => none, fun a => .rat a s, fun {v a q} h hq => by
  split at h
  ·rename_i h1
   simp only [Option.some.injEq, Prod.mk.injEq] at h
   obtain ⟨rfl, rfl⟩ := h
   exact (iz h1).trans (ew hq)
  ·simp at h⟩
structure nT (α : Type) where
 read : List AV → Option (α × List Prop)
 make : α → List AV
 ok : ∀ {l : List AV} {a : α} {q : List Prop}, read l = some (a, q) → ay q → dP l (make a)
def kN : nT Unit := ⟨fun l => match l with
 | [] => some ((), [])
 | _ => none, fun _ => [], fun {l a q} h _ => by
  split at h
  ·trivial
  ·simp at h⟩
def kC {α β : Type} (k : Kind α) (kl : nT β) : nT (α × β) := ⟨fun l => match l with
 | v :: l => match k.read v, kl.read l with
  | some (a, p), some (b, q) => some ((a, b), p ++ q)
  | _, _ => none
 | [] => none, fun a => k.make a.1 :: kl.make a.2, fun {l a q} h hq => by
  split at h
  ·split at h
   ·rename_i h1 h2
    simp only [Option.some.injEq, Prod.mk.injEq] at h
    obtain ⟨rfl, rfl⟩ := h
    obtain ⟨q1, q2⟩ := dy.1 hq
    exact ⟨k.ok h1 q1, kl.ok h2 q2⟩
   ·simp at h
  ·simp at h⟩
def dn {α : Type} (k : nT α) (g : α → AV) (need : α → List Prop) : Spec := bu fun l => match k.read l with
 | some (a, p) => some (aG (g a) (p ++ need a))
 | none => none
theorem dD {α : Type} {f : FuncId} {k : nT α} {g : α → AV} {need : α → List Prop} (h : ∀ a K, ay (need a) → aA P f K (k.make a) [] (aG (g a) [])) : ∀ K args pre r, dn k g need K args pre = some r → aA P f K args pre r := by
 refine bN fun K args r hk hs _ => ?_
 split at hs
 ·rename_i h1
  simp only [Option.some.injEq] at hs
  subst hs
  intro hn
  obtain ⟨n1, hn⟩ := dy.1 hn
  exact fc (h _ K hn) hk (k.ok h1 n1) [] trivial
 ·simp at hs
end Go.Am.B

/- fP.Interval, ref08.Interval; numbers of vH. -/
namespace Go.Am.B
open Go Go.Am.N AV aa aj IntKind
theorem Ms : aO P rq uM (ax uM) := aP UK (by kernel_rfl) (by kernel_rfl) (by kernel_rfl)
def fl : aQ := nG :: x7
abbrev sK : Nat := 4096
abbrev ls (k : Nat → Rat) (n : Nat) : AV := bI k n sK
abbrev tP (t : Rat) (s : Nat) : az := ⟨false, true, 3, 1, fun _ => .rat t s⟩
abbrev wQ : List Nat := [0, 5, 8, 9, 6, 7]
abbrev A7 (n : Nat) (k : Nat → Rat) (l i : Nat) : List AV := [ls k n, .ptr 0 0 3 0 [], .int .i64 l, .int .i64 i, .int .i64 0, .int .i64 0]
noncomputable abbrev xw : Code := ax uM
theorem Xj {n : Nat} {k : Nat → Rat} {p : Int} {t : Rat} : aI T fl [200013, 21, 31] 60 wQ (before xw [1,1,1,0,1]) ⟨aL 0 [ls k n, .int .i64 p, .rat t sK], [], 0⟩ =
  let c11 : Prop := ((↑n : Int) == (0 : Int)) = false; let c10 : Prop := 0 < 1; let c9 : AV := ak 3 n fun i ↦ rat (k i) 4096; let c8 : Nat := Int.toNat (0 : Int); let c7 : AV := ptr 0 0 (bC (rat t sK)).size 0 []; let c6 : AV := int i64 (0 : Int); let c5 : Nat × az := ((0 : Nat), az.mk false true (bC (rat t sK)).size 1 fun x ↦ rat t 4096); let c4 : Int := (↑n : Int) - (1 : Int); let c12 : Prop := (0 : Int) ≤ (0 : Int) ∧ c8 < n; let c3 : Bool := bif false then true else decide (ef t (k c8) < (0 : Int)); let c2 : aa (List AV × aD) := leaf ret ([c9, c7, tuple [], tuple [], c6, int i64 (7 : Int)], [c5]); let c1 : aa (List AV × aD) := leaf normal ([c9, c7, c6, c6, c6, c6], [c5]); some (fork c3 (ag [c11, c10, c12, c3 = true] (fork true c2 c1)) (ag [c11, c10, c12, c3 = false, c10, -(2 : Int) ^ 63 ≤ c4 ∧ c4 < (2 : Int) ^ 63, (0 : Int) ≤ c4 ∧ c4.toNat < n] (fork (bif false then true else decide (ef t (k c4.toNat) > (0 : Int))) c2 c1))) := by kernel_rfl
theorem XF {n l i : Nat} {k : Nat → Rat} {t : Rat} : aI T fl [36, 49, 58] 60 wQ [part xw [1,1,1,0,1,0,0]] ⟨aC wQ (A7 n k l i), [(0, tP t sK)], 1⟩ =
  let c7 : Int := (↑i : Int); let c6 : List AV := [int i64 (0 : Int), int i64 (0 : Int)]; let c5 : AV := ptr 0 0 3 0 []; let c4 : AV := ak 3 n fun i ↦ rat (k i) 4096; let c2 : Nat × az := ((0 : Nat), az.mk false true 3 1 fun x ↦ rat t 4096); let c10 : AV := int i64 c7; let c1 : Int := c7 + (1 : Int); let c8 : Int := ef (k c7.toNat) (k c1.toNat); let c3 : Prop := -(2 : Int) ^ 63 ≤ c1 ∧ c1 < (2 : Int) ^ 63; let c9 : List Prop := [c3, (0 : Int) ≤ c1 ∧ c1.toNat < n]; some (ag [c3] (fork (decide (c1 < (↑n : Int))) (ag (((0 : Int) ≤ c7 ∧ c7.toNat < n) :: c9) (fork (decide (c8 ≥ (0 : Int))) (ag [c3] (leaf normal (c4 :: c5 :: int i64 (↑l : Int) :: int i64 c1 :: c6, [c2]))) (ag (((0 : Nat) < 1) :: c9) (fork (decide (ef t (k c1.toNat) < (0 : Int))) (leaf (exit 0) (c4 :: c5 :: c10 :: c10 :: c6, [c2])) (ag [c3] (leaf normal (c4 :: c5 :: c10 :: int i64 c1 :: c6, [c2]))))))) (leaf (exit 0) (c4 :: c5 :: int i64 (↑l : Int) :: c10 :: c6, [c2])))) := by kernel_rfl
theorem RQ {n l i : Nat} {k : Nat → Rat} {t : Rat} : cq T fl [] 60 uM [part xw [1,1,1,1]] ⟨aC wQ (A7 n k l i), [(0, tP t sK)], 1⟩ =
  some (leaf ret [int i64 (↑l : Int), int i64 (0 : Int)]) := by kernel_rfl
abbrev GL (n : Nat) (k : Nat → Rat) (i : Nat) : List AV := [ls k n, .ptr 0 0 3 0 [], .int .i64 i, .int .i64 0, .int .i64 0]
theorem jq : bg P fl := dM Dy
theorem pX {q : Rat} {n : Nat} : bp (.rat q n) = q := rfl
theorem ab8 : max 1 (aZ (Int.natAbs 1)) = 1 := by decide
theorem Cs {a b : Rat} : ef a b ≥ (0 : Int) ↔ b ≤ a := by
 have := @lX a b
 constructor
 ·intro h
  have : ¬ a < b := fun h' => by have := lX.2 h'; omega
  grind
 ·intro h
  have : ¬ ef a b < 0 := fun h' => by have := lX.1 h'; grind
  omega
theorem C5 {rl : List (Nat × Nat)} {l i s s' s2 : Nat} {x y : Nat → Rat} {t : Rat} (hx : ∀ i, i < l → x i = y i) (ht : t = y l) (h1 : s ≤ s2) (h2 : s' ≤ s2) (hi : i < l + 1) : fN rl (if i < l then .rat (x i) s else nth [.rat t s'] (.rat 0 1) (i - l + 0)) (.rat (y i) s2) := by
 by_cases h : i < l
 ·rw [if_pos h, hx i h]; exact .inr ⟨rfl, cm rfl h1⟩
 ·have : i = l := by omega
  subst this
  rw [if_neg h, Nat.sub_self, ht]
  exact .inr ⟨rfl, cm rfl h2⟩
def dL (n : Nat) (k : Nat → Rat) (t : Rat) : Prop := t < k 0 ∨ k (n - 1) < t
instance {n : Nat} {k : Nat → Rat} {t : Rat} : Decidable (dL n k t) := inferInstanceAs (Decidable (t < k 0 ∨ k (n - 1) < t))
def iS (n : Nat) (k : Nat → Rat) (t : Rat) : Nat := if dL n k t then 0 else cD n k t
def dB (n : Nat) (k : Nat → Rat) (t : Rat) : Int := if dL n k t then 7 else 0
abbrev uw (n : Nat) (k : Nat → Rat) (t : Rat) : AV := .tuple [.int .i64 (iS n k t), .int .i64 (dB n k t)]
theorem IP {n : Nat} {k : Nat → Rat} {t : Rat} (h : dL n k t) : dg [.int .i64 0, .int .i64 7] (uw n k t) :=
 ⟨bq (by unfold iS; rw [if_pos h]; rfl), bq (by unfold dB; rw [if_pos h]), trivial⟩
theorem aa5 {n i : Nat} {k : Nat → Rat} {t : Rat} (h : ¬ dL n k t) (hi : i = cD n k t) : dg [.int .i64 i, .int .i64 0] (uw n k t) :=
 ⟨bq (by unfold iS; rw [if_neg h, hi]), bq (by unfold dB; rw [if_neg h]), trivial⟩
abbrev qj (k : Nat → Rat) (t : Rat) (i : Nat) : Nat := ju (fun i => decide (k i < k (i + 1)) && decide (k i ≤ t)) i
theorem KO {g : Nat → Bool} {m : Nat} : ju g (m + 1) = if g m then m else ju g m := rfl
theorem MR {n p0 : Nat} {k : Nat → Rat} {p : Int} {t : Rat} (h : Kn n p0 k) (hn : n < 2 ^ 40) (K : Nat) : aA P rq K [ls k n, .int .i64 p, .rat t sK] [] (aG (uw n k t) []) := by
 have hp := h.p1
 have hl := h.len
 refine gV (r := aG (uw n k t) []) hT jq hm Ms rfl (of_decide_eq_true (by kernel_rfl)) rfl [1,1,1,0,1] (i := 0) (y := part xw [1,1,1,0,1,0,0]) (z := part xw [1,1,1,1]) (by kernel_rfl) (by kernel_rfl) (by kernel_rfl) (f1 := [200013, 21, 31]) (f2 := [36, 49, 58]) (f3 := []) 60 wQ 1
  (fun a : Nat × Nat => A7 n k a.2 a.1) (fun _ => [(0, tP t sK)]) (fun a => a.1 + 1 ≤ n ∧ a.2 = qj k t a.1 ∧ k a.1 ≤ t ∧ ¬ dL n k t) (fun a => a.2 = cD n k t ∧ ¬ dL n k t) (fun a => n - a.1) (fun _ => ⟨⟨_, Xj, ?_⟩, fun ⟨i, l⟩ ⟨h1, h2, h3, h4⟩ => ⟨_, XF, ?_⟩, fun ⟨i, l⟩ ⟨h1, h2⟩ => ⟨_, RQ, aa5 h2 h1⟩⟩) K []
 ·simp only [aa.all, ay, decide_eq_true_eq, decide_eq_false_iff_not, lX, v5, cond_false, Int.toNat_zero, beq_eq_false_iff_ne, ne_eq, show ((n : Int) - 1).toNat = n - 1 by omega]
  (repeat' with_reducible first | refine And.intro ?_ ?_ | intro _)
  all_goals first | omega | assumption | skip
  ·exact ⟨_, by kernel_rfl, IP (.inl ‹_›)⟩
  ·exact absurd ‹true = false› (by decide)
  ·exact ⟨_, by kernel_rfl, IP (.inr ‹_›)⟩
  ·rename_i a b
   have hin : ¬ dL n k t := fun h => h.elim (fun h => a h) fun h => b h
   exact ⟨(0, 0), ⟨by omega, rfl, by show k 0 ≤ t; grind, hin⟩, [(0, 0)], rfl, rfl, rfl, aR rfl rfl (aM rfl rfl) trivial⟩
 ·have hs : ∀ i, i + 1 < n → k i ≤ k (i + 1) := h.sorted
  simp only at h1 h2 h3
  simp only [aa.all, ay, decide_eq_true_eq, decide_eq_false_iff_not, lX, Cs, Int.toNat_natCast, show ((i : Int) + 1).toNat = i + 1 by omega]
  (repeat' with_reducible first | refine And.intro ?_ ?_ | intro _)
  all_goals first | omega | assumption | skip
  ·rename_i hi hge
   have := hs i (by omega)
   have e : qj k t (i + 1) = qj k t i := by
    have : ¬ k i < k (i + 1) := by grind
    rw [qj, KO, if_neg (by simp [this])]
   exact ⟨(i + 1, l), ⟨by omega, h2.trans e.symm, by show k (i + 1) ≤ t; grind, h4⟩, by dsimp only; omega, [(0, 0)], rfl, rfl, rfl, aR rfl rfl (aM rfl rfl) trivial⟩
  ·rename_i hi hlt hb
   have : k i < k (i + 1) := by grind
   have hiv : cD n k t = i := Y4 ⟨⟨by omega, hs, this⟩, h3, by grind, .inl hb⟩
   exact ⟨rfl, (i, i), ⟨hiv.symm, h4⟩, [(0, 0)], rfl, rfl, rfl, aR rfl rfl (aM rfl rfl) trivial⟩
  ·rename_i hi hlt hb
   have : k i < k (i + 1) := by grind
   have e : qj k t (i + 1) = i := by
    rw [qj, KO, if_pos (by simp [this, h3])]
   exact ⟨(i + 1, i), ⟨by omega, e.symm, by show k (i + 1) ≤ t; grind, h4⟩, by dsimp only; omega, [(0, 0)], rfl, rfl, rfl, aR rfl rfl (aM rfl rfl) trivial⟩
  ·have hin : i = n - 1 := by omega
   subst hin
   exact ⟨rfl, (n - 1, l), ⟨h2, h4⟩, [(0, 0)], rfl, rfl, rfl, aR rfl rfl (aM rfl rfl) trivial⟩
abbrev FA : nT ((Nat × (Nat → Rat)) × Int × Rat × Unit) := kC (kL sK) (kC kI (kC (jM sK) kN))
def Cm : Spec := dn FA (fun a => uw a.1.1 a.1.2 a.2.2.1) fun a => [Kn a.1.1 a.2.1.toNat a.1.2, 0 ≤ a.2.1, a.1.1 < 2 ^ 40]
theorem Gx : ∀ K args pre r, Cm K args pre = some r → aA P rq K args pre r := dD fun _ K hn => MR hn.1 hn.2.2 K
end Go.Am.B

/- basis.fraction, basis.Values. -/
namespace Go.Am.B
open Go Go.Am.N AV aa aj IntKind
theorem SA : aO P tX td (ax td) := aP Vw (by kernel_rfl) (by kernel_rfl) (by kernel_rfl)
theorem J7 : aO P vR pH (ax pH) := aP aaI (by kernel_rfl) (by kernel_rfl) (by kernel_rfl)
def I2 : aQ := (pW, iH kR kR Bx o3) :: fZ
theorem TZ {a b t : Rat} {n : Nat} : bB T I2 [] 60 td (ax td) ⟨aL 0 [.rat a n, .rat b n, .rat t n], [], 0⟩ =
  let c3 : Nat := n + n + 1; let c2 : Nat := 2 ^ 42; let c1 : Prop := 0 < 1; some (ag [c1, c1, n < c2, n < c2, c1, c1, n < c2, n < c2, c3 < c2, c3 < c2, c1] (ag [c1, c1] (ag [c1] (leaf ret [rat ((t - a) / (b - a)) (c3 + c3)])))) := by kernel_rfl
abbrev sF : Nat := 16386
def Bk : Spec := dn (kC (jM sK) (kC (jM sK) (kC (jM sK) kN))) (fun a => .rat (fr a.1 a.2.1 a.2.2.1) sF) fun _ => []
theorem ZL : bg P I2 := aH (jc fun _ _ K hn => CL hn.1 hn.2 K) gU
theorem Ez : ∀ K args pre r, Bk K args pre = some r → aA P tX K args pre r := dD fun ⟨a, b, t, _⟩ K _ => by
 refine bH (r := aG (.rat (fr a b t) sF) []) hT ZL hm SA rfl (of_decide_eq_true (by kernel_rfl)) rfl 60 TZ (fun _ => ?_) K []
 simp only [aa.all, ay]
 have h1 : sK = 4096 := rfl
 (repeat' with_reducible refine And.intro ?_ ?_)
 all_goals first | omega | exact (cm rfl (show sK + sK + 1 + (sK + sK + 1) ≤ sF by decide))
def oo : aQ := nG :: (rq, Cm) :: (tX, Bk) :: (nO, yL) :: fZ
def SB (d : Nat) : Nat := 65536 * 4 ^ d
abbrev HB (d : Nat) : Nat := 1 + (sF + SB d) + 1
abbrev ko : List Nat := [0, 1, 5, 9, 11, 12, 6, 7, 8]
abbrev qH (n : Nat) (k : Nat → Rat) (p i d : Nat) : List AV := [ls k n, .int .i64 p, .ptr 0 0 3 0 [], .int .i64 i, .own 2 3 0 (d + 1), .int .i64 ((d + 1 : Nat) : Int), .int .i64 0, .nil, .int .i64 0]
abbrev iP (m : Nat) (x : Nat → Rat) (s : Nat → Nat) : az := ⟨true, true, 3, m, fun i => .rat (x i) (s i)⟩
noncomputable abbrev yD : Code := ax pH
noncomputable abbrev pE : Code := part yD [1,1,1,1,1,0,1,0,0]
noncomputable abbrev oD : Code := part pE [1,0,0]
abbrev xB : List Nat := [0, 1, 5, 9, 12, 13, 54, 55, 56, 6, 7, 8]
abbrev A1 (n : Nat) (k : Nat → Rat) (p i d j : Nat) : List AV := [ls k n, .int .i64 p, .ptr 0 0 3 0 [], .int .i64 i, .int .i64 ((d + 1 : Nat) : Int), .own 3 3 0 (d + 2), .own 2 3 0 (d + 1), .int .i64 ((d + 1 : Nat) : Int), .int .i64 j, .int .i64 0, .nil, .int .i64 0]
theorem WY {n p : Nat} {k : Nat → Rat} {t : Rat} : aI T oo [26, 30, 36, 43] 60 ko (before yD [1,1,1,1,1,0,1]) ⟨aL 0 [ls k n, .int .i64 p, .rat t sK], [], 0⟩ =
  let c13 : Int := dB n (fun i ↦ bp (rat (k i) sK)) t; let c12 : AV := int i64 (0 : Int); let c9 : AV := ak 3 n fun i ↦ rat (k i) 4096; let c7 : AV := ptr 0 0 (bC (rat t sK)).size 0 []; let c6 : Int := (2 : Int) ^ 63; let c5 : Nat × az := ((0 : Nat), az.mk false true (bC (rat t sK)).size 1 fun x ↦ rat t 4096); let c4 : Int := (↑p : Int); let c3 : Int := (↑(iS n (fun i ↦ bp (rat (k i) sK)) t) : Int); let c15 : Prop := -c6 ≤ c3 - c4 ∧ c3 - c4 < c6; let c14 : Prop := -c6 ≤ c3 + c4 ∧ c3 + c4 < c6; let c11 : Bool := bif false then true else decide (c3 + c4 ≥ (↑n : Int)); let c10 : Bool := decide (c4 < (0 : Int)); let c8 : Bool := bif false then true else decide (c3 - c4 < (0 : Int)); let c2 : aa (List AV × aD) := leaf ret ([c9, int i64 c4, c7, int i64 c3, tuple [], tuple [], c12, nil, int i64 (7 : Int)], [c5]); let c1 : aa (List AV × aD) := ag [(1 : Nat) * 3 ≤ 2 ^ 24] (leaf normal ([c9, int i64 c4, c7, int i64 c3, own 131072 3 0 1, int i64 (1 : Int), c12, nil, c12], [((131072 : Nat), az.mk true true 3 1 fun i ↦ nth [rat (↑(1 : Int) : Rat) (Max.max 1 (aZ (Int.natAbs (1 : Int))))] (rat 0 1) i), c5])); some (ag [(0 : Nat) < 1, cz (fun i ↦ rat (k i) sK) n sK, sK ≤ sK, Kn n c4.toNat fun i ↦ bp (rat (k i) sK), (0 : Int) ≤ c4, n < 2 ^ 40] (fork (c13 != (0 : Int)) (leaf ret ([c9, int i64 c4, c7, int i64 c3, tuple [], tuple [], c12, nil, int i64 c13], [c5])) (fork false (fork true (ag [c10 = true, true = true] (fork true c2 c1)) (ag [c10 = true, true = false, c14] (fork c11 c2 c1))) (fork c8 (ag [c10 = false, c15, c8 = true] (fork true c2 c1)) (ag [c10 = false, c15, c8 = false, c14] (fork c11 c2 c1)))))) := by kernel_rfl
theorem QU {n p i d : Nat} {k x : Nat → Rat} {t : Rat} : aI T oo [48] 60 ko (before pE [1,0]) ⟨aC ko (qH n k p i d), [(2, iP (d + 1) x fun _ => SB d), (0, tP t sK)], 3⟩ =
  let c2 : Int := (↑(d + 1) : Int); let c1 : List AV × aD := ([ak 3 n fun i ↦ rat (k i) 4096, int i64 (↑p : Int), ptr 0 0 3 0 [], int i64 (↑i : Int), own 2 3 0 (d + 1), int i64 c2, int i64 (0 : Int), nil, int i64 (0 : Int)], [((2 : Nat), az.mk true true 3 (d + 1) fun i ↦ rat (x i) (SB d)), ((0 : Nat), az.mk false true 3 1 fun x ↦ rat t 4096)]); some (fork (decide (c2 ≤ (↑p : Int))) (leaf normal c1) (leaf (exit 0) c1)) := by kernel_rfl
theorem aco {n p i d : Nat} {k x : Nat → Rat} {t : Rat} : aI T oo [] 60 xB (before oD [1,0,1]) ⟨aC ko (qH n k p i d), [(2, iP (d + 1) x fun _ => SB d), (0, tP t sK)], 3⟩ =
  let c3 : AV := int i64 (0 : Int); let c2 : Int := (↑(d + 1) : Int); let c1 : Int := c2 + (1 : Int); some (ag [-(2 : Int) ^ 63 ≤ c1 ∧ c1 < (2 : Int) ^ 63, (0 : Int) ≤ c1 ∧ c1 ≤ c1 ∧ c1 ≤ (2 : Int) ^ 47 ∧ c1 * (↑(56 : Nat) : Int) ≤ (2 : Int) ^ 47] (leaf normal ([ak 3 n fun i ↦ rat (k i) 4096, int i64 (↑p : Int), ptr 0 0 3 0 [], int i64 (↑i : Int), int i64 c2, own 8195 3 0 c1.toNat, own 2 3 0 (d + 1), int i64 c2, c3, c3, nil, c3], [((2 : Nat), az.mk true true 3 (d + 1) fun i ↦ rat (x i) (SB d)), ((8195 : Nat), az.mk true true 3 c1.toNat fun x ↦ rat 0 1), ((0 : Nat), az.mk false true 3 1 fun x ↦ rat t 4096)]))) := by kernel_rfl
theorem Z3 {n p i d j : Nat} {k x y : Nat → Rat} {s : Nat → Nat} {t : Rat} : aI T oo [57] 60 xB [part oD [1,0,1,0,0]] ⟨aC xB (A1 n k p i d j), [(3, iP (d + 2) y s), (2, iP (d + 1) x fun _ => SB d), (0, tP t sK)], 4⟩ =
  let c20 : AV := int i64 (0 : Int); let c19 : AV := ptr 0 0 3 0 []; let c18 : AV := ak 3 n fun i ↦ rat (k i) 4096; let c16 : Nat := d + 1; let c13 : Nat × az := ((0 : Nat), az.mk false true 3 1 fun x ↦ rat t 4096); let c11 : Int := (↑j : Int); let c10 : Prop := 0 < 1; let c9 : Nat := d + 2; let c8 : Nat := Max.max 1 (aZ (Int.natAbs (1 : Int))); let c7 : Nat := 2 ^ 42; let c5 : Int := (2 : Int) ^ 63; let c25 : Prop := (0 : Int) ≤ c11 ∧ c11.toNat < c9; let c23 : Nat := c8 + sF + 1; let c22 : AV := own 3 3 0 c9; let c21 : AV := own 2 3 0 c16; let c12 : Nat × az := ((2 : Nat), az.mk true true 3 c16 fun i ↦ rat (x i) (SB d)); let c6 : Int := c11 + (1 : Int); let c4 : Nat := c11.toNat + 0; let c3 : Int := (↑c16 : Int); let c29 : AV := int i64 c3; let c27 : Prop := (0 : Int) ≤ c6 ∧ c6.toNat < c9; let c24 : Prop := -c5 ≤ c6 ∧ c6 < c5; let c17 : Int := (↑i : Int) - c3; let c2 : Nat := c6.toNat + 0; let c28 : Int := c17 + (1 : Int); let c26 : Nat := s c2 + (sF + SB d) + 1; let c15 : Nat := bif c4 == c2 then c26 else s c4; let c1 : Int := c28 + c11; let c14 : Rat := fr (k c1.toNat) (k (c1 + c3).toNat) t; some (fork (decide (c11 < c3)) (ag [(0 : Int) ≤ c11 ∧ c11.toNat < c16, c4 < c16, c10] (ag [-c5 ≤ c17 ∧ c17 < c5, -c5 ≤ c28 ∧ c28 < c5, -c5 ≤ c1 ∧ c1 < c5] (ag [(0 : Int) ≤ c1 ∧ c1.toNat < n, -c5 ≤ c1 + c3 ∧ c1 + c3 < c5, (0 : Int) ≤ c1 + c3 ∧ (c1 + c3).toNat < n, c10, sK ≤ sK, sK ≤ sK, sK ≤ sK, c10] (ag [c24, c24, c27, c2 < c9, c10, c10, sF < c7, SB d < c7, s c2 < c7, sF + SB d < c7, c27, c2 < c9] (ag [c25, c4 < c9, c10, c8 < c7, sF < c7, c10, c23 < c7, SB d < c7, c15 < c7, c23 + SB d < c7, c25, c4 < c9] (ag [c24] (leaf normal ([c18, int i64 (↑p : Int), c19, int i64 (↑i : Int), c29, c22, c21, c29, int i64 c6, c20, nil, c20], [c12, ((3 : Nat), az.mk true true 3 c9 fun j ↦ rat (bif j == c4 then (bif c4 == c2 then y c2 + c14 * x c4 else y c4) + ((↑(1 : Int) : Rat) - c14) * x c4 else bif j == c2 then y c2 + c14 * x c4 else y j) (bif j == c4 then c15 + (c23 + SB d) + 1 else bif j == c2 then c26 else s j)), c13])))))))) (leaf (exit 2) ([c18, int i64 (↑p : Int), c19, int i64 (↑i : Int), c29, c22, c21, c29, int i64 c11, c20, nil, c20], [c12, ((3 : Nat), az.mk true true 3 c9 fun i ↦ rat (y i) (s i)), c13]))) := by kernel_rfl
theorem Pd {n p i d j : Nat} {k x y : Nat → Rat} {s : Nat → Nat} {t : Rat} : aI T oo [] 60 ko [part oD [1,1], part pE [1,1]] ⟨aC xB (A1 n k p i d j), [(3, iP (d + 2) y s), (2, iP (d + 1) x fun _ => SB d), (0, tP t sK)], 4⟩ =
  let c1 : Int := (↑(d + 1) : Int) + (1 : Int); some (ag [-(2 : Int) ^ 63 ≤ c1 ∧ c1 < (2 : Int) ^ 63] (leaf normal ([ak 3 n fun i ↦ rat (k i) 4096, int i64 (↑p : Int), ptr 0 0 3 0 [], int i64 (↑i : Int), own 3 3 0 (d + 2), int i64 c1, int i64 (0 : Int), nil, int i64 (0 : Int)], [((3 : Nat), az.mk true true 3 (d + 2) fun i ↦ rat (y i) (s i)), ((0 : Nat), az.mk false true 3 1 fun x ↦ rat t 4096)]))) := by kernel_rfl
theorem Nc {n p i d : Nat} {k x : Nat → Rat} {t : Rat} : cq T oo [] 60 pH [part yD [1,1,1,1,1,1]] ⟨aC ko (qH n k p i d), [(2, iP (d + 1) x fun _ => SB d), (0, tP t sK)], 3⟩ =
  let c1 : Int := (↑i : Int) - (↑p : Int); some (ag [-(2 : Int) ^ 63 ≤ c1 ∧ c1 < (2 : Int) ^ 63] (leaf ret [int i64 c1, ak 3 (d + 1) fun i ↦ rat (x (i + 0)) (SB d), int i64 (0 : Int)])) := by kernel_rfl
theorem yX {d : Nat} : SB (d + 1) = 4 * SB d := by unfold SB; rw [Nat.pow_succ]; omega
theorem pL : ∀ {d : Nat}, 65536 ≤ SB d
 | 0 => by unfold SB; omega
 | d + 1 => by rw [yX]; have := pL (d := d); omega
theorem yA : sF = 16386 := rfl
theorem LQ {d e : Nat} (h : d ≤ e) : SB d ≤ SB e := Nat.mul_le_mul_left _ (Nat.pow_le_pow_right (by omega) h)
abbrev sV : Nat := 268435456
theorem vc {d : Nat} (h : d ≤ 6) : SB d ≤ sV := Nat.le_trans (LQ h) (by decide)
def wm (n : Nat) (k : Nat → Rat) (p : Nat) (t : Rat) (f : Nat → Rat) : AV := .tuple [.int .i64 (if dL n k t then 0 else (cD n k t : Int) - p), .ak 3 (if dL n k t then 0 else p + 1) (fun j => .rat (f j) sV), .int .i64 (dB n k t)]
abbrev x8 (n : Nat) (k : Nat → Rat) (p : Nat) (t : Rat) : AV := wm n k p t (vB k (cD n k t) t p)
theorem acj {n p : Nat} {k f : Nat → Rat} {t : Rat} (h : dL n k t) : dg [.int .i64 0, .nil, .int .i64 7] (wm n k p t f) := by
 unfold wm dB
 rw [if_pos h, if_pos h, if_pos h]
 exact ⟨.refl _, jf (by omega), .refl _, trivial⟩
theorem Mn {n p : Nat} {k f : Nat → Rat} {t : Rat} {g : Nat → AV} (h : ¬ dL n k t) (hg : ∀ j, j < p + 1 → bA (g j) (.rat (f j) sV)) : dg [.int .i64 ((cD n k t : Int) - p), .ak 3 (p + 1) g, .int .i64 0] (wm n k p t f) := by
 unfold wm dB
 rw [if_neg h, if_neg h, if_neg h]
 exact ⟨.refl _, k8 hg, .refl _, trivial⟩
theorem wL : bg P oo := dM (aH Gx (aH Ez (aH (Di DP) gU)))
def vS (k : Nat → Rat) (i : Nat) (t : Rat) (d j : Nat) : Rat := if j = 0 then 0 else fr (k (i - d + (j - 1))) (k (i - d + (j - 1) + (d + 1))) t * vB k i t d (j - 1)
def jB (k : Nat → Rat) (i : Nat) (t : Rat) (d j x : Nat) : Rat := if x < j then vB k i t (d + 1) x else if x = j then vS k i t d j else 0
def gR (d j x : Nat) : Nat := if x < j then SB (d + 1) else if x = j then HB d else 1
theorem Pg {rl : List (Nat × Nat)} {k : Nat → Rat} {i d j x : Nat} {t : Rat} (hj : j ≤ d) :
  fN rl (.rat (bif x == j then (bif j == j + 1 then jB k i t d j (j + 1) + fr (k (i - d + j)) (k (i - d + j + (d + 1))) t * vB k i t d j else jB k i t d j j) + (((1 : Int) : Rat) - fr (k (i - d + j)) (k (i - d + j + (d + 1))) t) * vB k i t d j
   else bif x == j + 1 then jB k i t d j (j + 1) + fr (k (i - d + j)) (k (i - d + j + (d + 1))) t * vB k i t d j else jB k i t d j x)
   (bif x == j then (bif j == j + 1 then gR d j (j + 1) + (sF + SB d) + 1 else gR d j j) + (1 + sF + 1 + SB d) + 1 else bif x == j + 1 then gR d j (j + 1) + (sF + SB d) + 1 else gR d j x))
   (.rat (jB k i t d (j + 1) x) (gR d (j + 1) x)) := by
 have h1 := yX (d := d)
 have h2 := pL (d := d)
 have h3 := yA
 have hjj : (j == j + 1) = false := by simp
 rw [hjj]
 refine .inr ⟨rfl, ?_⟩
 by_cases hx : x = j
 ·subst hx
  simp only [beq_self_eq_true, cond_true, cond_false]
  refine cm ?_ ?_
  ·unfold jB
   rw [if_neg (by omega), if_pos rfl, if_pos (by omega), vB, if_pos hj]
   have : ((1 : Int) : Rat) = 1 := rfl
   rw [this]; rfl
  ·unfold gR HB
   rw [if_neg (by omega), if_pos rfl, if_pos (by omega)]; omega
 ·have hb : (x == j) = false := by simpa using hx
  rw [hb]
  by_cases hx2 : x = j + 1
  ·subst hx2
   simp only [beq_self_eq_true, cond_true, cond_false]
   refine cm ?_ ?_
   ·unfold jB vS
    rw [if_neg (by omega), if_neg (by omega), if_neg (by omega), if_pos rfl, if_neg (by omega), Nat.add_sub_cancel, Rat.zero_add]
   ·unfold gR HB
    rw [if_neg (by omega), if_neg (by omega), if_neg (by omega), if_pos rfl]; omega
  ·have hb2 : (x == j + 1) = false := by simpa using hx2
   rw [hb2]
   simp only [cond_false]
   refine cm ?_ ?_
   ·unfold jB
    by_cases hlt : x < j
    ·rw [if_pos hlt, if_pos (by omega)]
    ·rw [if_neg hlt, if_neg hx, if_neg (by omega), if_neg hx2]
   ·unfold gR
    by_cases hlt : x < j
    ·rw [if_pos hlt, if_pos (by omega)]; omega
    ·rw [if_neg hlt, if_neg hx, if_neg (by omega), if_neg hx2]; omega
theorem PJ {n p : Nat} {k : Nat → Rat} {t : Rat} (h : Kn n p k) (hp6 : p ≤ 6) (hn : n < 2 ^ 40) (K : Nat) : aA P vR K [ls k n, .int .i64 p, .rat t sK] [] (aG (x8 n k p t) []) := by
 refine gb (r := aG (x8 n k p t) []) hT J7 rfl (of_decide_eq_true (by kernel_rfl)) rfl (fun _ c h0 => ?_) K []
 have hk := sX h0
 have hiv : ¬ dL n k t → p ≤ cD n k t ∧ cD n k t + p + 1 < n := fun hin => by
  have h1 : ¬ t < k 0 := fun h => hin (.inl h)
  have h2 : ¬ k (n - 1) < t := fun h => hin (.inr h)
  exact (h.BI (by grind) (by grind)).2
 have hp1 := h.p1
 have hl := h.len
 refine aq.zZ hT wL hm [1,1,1,1,1,0,1] (i := 0) (y := pE) (z := part yD [1,1,1,1,1,1]) (by kernel_rfl) (by kernel_rfl) (by kernel_rfl) J7.dst hk (f1 := [26, 30, 36, 43]) 60 ko 3 (fun d : Nat => qH n k p (cD n k t) d) (fun d => [(2, iP (d + 1) (vB k (cD n k t) t d) fun _ => SB d), (0, tP t sK)])
  (fun d => d ≤ p ∧ ¬ dL n k t) (fun d => d = p ∧ ¬ dL n k t) (fun d => p - d) (lT pH ko (x8 n k p t)) ⟨_, WY, ?_⟩ (fun d ⟨hd, hin⟩ => ?_) (fun d ⟨hd, hin⟩ => ?_) (fun v s' hv hs' => hv.fin hs')
 ·simp only [aa.all, ay, pX, bne_iff_ne, ne_eq, bne_eq_false_iff_eq, decide_eq_true_eq, decide_eq_false_iff_not, cond_false, Int.toNat_natCast]
  refine ⟨⟨by omega, ej (Nat.le_refl _), Nat.le_refl _, h, by omega, hn⟩, fun hout => ?_, fun hin => ?_⟩
  ·have hout : dL n k t := by
    unfold dB at hout
    by_cases ho : dL n k t
    ·exact ho
    ·rw [if_neg ho] at hout; exact absurd rfl hout
   refine ⟨[.int .i64 0, .nil, .int .i64 7], ?_, acj hout⟩
   unfold dB
   rw [if_pos hout]
   kernel_rfl
  ·have hin : ¬ dL n k t := fun ho => by unfold dB at hin; rw [if_pos ho] at hin; omega
   have hii : iS n k t = cD n k t := by unfold iS; rw [if_neg hin]
   have hv := hiv hin
   simp only [hii, decide_eq_true_eq, decide_eq_false_iff_not]
   (repeat' with_reducible first | refine And.intro ?_ ?_ | intro _)
   all_goals first | omega | (exfalso; omega) | exact absurd ‹false = true› (by decide) | exact absurd ‹true = false› (by decide) | skip
   refine ⟨0, ⟨by omega, hin⟩, [(0, 0), (2, 131072)], rfl, rfl, rfl, bG rfl rfl rfl (fun i hi => ?_) (aR rfl rfl (aM rfl rfl) trivial)⟩
   have : i = 0 := by omega
   subst this
   exact .inr ⟨rfl, cm rfl (by have := pL (d := 0); exact Nat.le_trans (by decide) this)⟩
 ·have hv := hiv hin
  refine aq.uL hT wL hm (y := pE) (x1 := oD) (zb := part pE [1,1]) [1,0] (j := 1) (by kernel_rfl) (by kernel_rfl) (by kernel_rfl) (by kernel_rfl) hk (f1 := [48]) 60 ko 3 (fun _ : Unit => qH n k p (cD n k t) d) (fun _ => [(2, iP (d + 1) (vB k (cD n k t) t d) fun _ => SB d), (0, tP t sK)]) (fun _ => d + 1 ≤ p) ⟨_, QU, ?_⟩ (fun _ hd' => ?_)
  ·simp only [aa.all, ay, decide_eq_true_eq, decide_eq_false_iff_not]
   have re : eB [] ([ak 3 n fun i => rat (k i) sK, int i64 p, ptr 0 0 3 0 [], int i64 (cD n k t), own 2 3 0 (d + 1), int i64 ((d + 1 : Nat) : Int), int i64 (0 : Int), nil, int i64 (0 : Int)], [((2 : Nat), az.mk true true 3 (d + 1) fun i ↦ rat (vB k (cD n k t) t d i) (SB d)), ((0 : Nat), az.mk false true 3 1 fun x ↦ rat t sK)]) (qH n k p (cD n k t) d) [(2, iP (d + 1) (vB k (cD n k t) t d) fun _ => SB d), (0, tP t sK)] 3 :=
    ⟨[(0, 0), (2, 2)], rfl, rfl, rfl, bG rfl rfl rfl (fun i hi => aM rfl rfl) (aR rfl rfl (aM rfl rfl) trivial)⟩
   exact ⟨fun h1 => ⟨(), by omega, re⟩, fun h1 s' hs' => ⟨rfl, d, ⟨by omega, hin⟩, re.le hs' hk⟩⟩
  refine aq.lP hT wL hm (x := oD) (z := part oD [1,1]) [1,0,1] (i := 2) (y := part oD [1,0,1,0,0]) (by kernel_rfl) (by kernel_rfl) (by kernel_rfl) (by kernel_rfl) hk (f1 := []) (f2 := [57]) 60 xB 4 (fun j : Nat => A1 n k p (cD n k t) d j)
   (fun j => [(3, iP (d + 2) (jB k (cD n k t) t d j) (gR d j)), (2, iP (d + 1) (vB k (cD n k t) t d) fun _ => SB d), (0, tP t sK)]) (fun j => j ≤ d + 1) (fun j => j = d + 1) (fun j => d + 1 - j) (fun _ => False) ⟨_, aco, ?_⟩ (fun j hj => ⟨_, Z3, ?_⟩) (fun j hj => ?_) (fun _ _ h => h.elim)
  ·simp only [aa.all, ay]
   rw [show (((d + 1 : Nat) : Int) + 1).toNat = d + 2 by omega]
   refine ⟨⟨by omega, by omega⟩, 0, by omega, [(0, 0), (2, 2), (3, 8195)], rfl, rfl, rfl, bG rfl rfl rfl (fun i hi => ?_) (bG rfl rfl rfl (fun i hi => aM rfl rfl) (aR rfl rfl (aM rfl rfl) trivial))⟩
   refine .inr ⟨rfl, cm ?_ ?_⟩
   ·unfold jB vS; rw [if_neg (by omega)]; split <;> rfl
   ·unfold gR HB; rw [if_neg (by omega)]; split <;> omega
  ·have hF := yA
   have h1 := pL (d := d)
   have h2 := vc (d := d) (by omega)
   have h3 := vc (d := d + 1) (by omega)
   have h5 : sV = 268435456 := rfl
   have s0 : gR d j j = HB d := by unfold gR; rw [if_neg (by omega), if_pos rfl]
   have s1 : gR d j (j + 1) = 1 := by unfold gR; rw [if_neg (by omega), if_neg (by omega)]
   have e0 : ((cD n k t : Int) - ((d + 1 : Nat) : Int) + 1 + (j : Int)).toNat = cD n k t - d + j := by omega
   have e1 : ((cD n k t : Int) - ((d + 1 : Nat) : Int) + 1 + (j : Int) + ((d + 1 : Nat) : Int)).toNat = cD n k t - d + j + (d + 1) := by omega
   have e2 : ((j : Int) + 1).toNat = j + 1 := by omega
   simp only [aa.all, ay, decide_eq_true_eq, decide_eq_false_iff_not, Int.toNat_natCast, Nat.add_zero, e0, e1, e2, ab8]
   have hjj : (j == j + 1) = false := by simp
   refine ⟨fun h4 => ?_, fun h4 => ⟨rfl, j, by omega, [(0, 0), (2, 2), (3, 3)], rfl, rfl, rfl, bG rfl rfl rfl (fun i hi => aM rfl rfl) (bG rfl rfl rfl (fun i hi => aM rfl rfl) (aR rfl rfl (aM rfl rfl) trivial))⟩⟩
   (repeat' with_reducible refine And.intro ?_ ?_)
   all_goals first | omega | (rw [s1]; omega) | (rw [hjj, cond_false, s0]; unfold HB; omega) | skip
   refine ⟨j + 1, by omega, by dsimp only; omega, [(0, 0), (2, 2), (3, 3)], rfl, rfl, rfl, bG rfl rfl rfl (fun x hx => Pg (by omega)) (bG rfl rfl rfl (fun i hi => aM rfl rfl) (aR rfl rfl (aM rfl rfl) trivial))⟩
  ·subst hj
   refine aq.tail (fun s' hh => by have := hh.1; omega) (aB.aX hT wL hm 60 ko Pd (by kernel_rfl) ?_)
   simp only [aa.all, ay]
   refine ⟨by omega, fun s' hs' => ⟨d + 1, ⟨hd', hin⟩, by dsimp only; omega, eB.le ⟨[(0, 0), (2, 3)], rfl, rfl, rfl, bG rfl rfl rfl (fun x hx => ?_) (aR rfl rfl (aM rfl rfl) trivial)⟩ hs' hk⟩⟩
   refine .inr ⟨rfl, cm ?_ ?_⟩
   ·unfold jB
    by_cases hlt : x < d + 1
    ·rw [if_pos hlt]
    ·have : x = d + 1 := by omega
     subst this
     rw [if_neg (by omega), if_pos rfl, vB, if_neg (show ¬ d + 1 ≤ d by omega), Rat.add_zero]; rfl
   ·have h1 := yX (d := d)
    have h2 := pL (d := d)
    have hF := yA
    show _ ≤ SB (d + 1)
    unfold gR HB
    split
    ·omega
    ·split <;> omega
 ·subst hd
  refine aq.nq ((aB.fin hT wL hm 60 Nc (by kernel_rfl) ?_).mono fun _ _ h => .inl h)
  simp only [aa.all, ay]
  exact ⟨by have := hiv hin; omega, Mn hin fun j _ => ew (vc hp6)⟩
end Go.Am.B

/- basis.Sum; numbers of vH. -/
namespace Go.Am.B
open Go Go.Am.N AV aa aj IntKind
theorem XZ : aO P oQ uT (ax uT) := aP Rb (by kernel_rfl) (by kernel_rfl) (by kernel_rfl)
def He : Spec := dn FA (fun a => x8 a.1.1 a.1.2 a.2.1.toNat a.2.2.1) fun a => [Kn a.1.1 a.2.1.toNat a.1.2, 0 ≤ a.2.1, a.2.1 ≤ 6, a.1.1 < 2 ^ 40]
theorem RO : ∀ K args pre r, He K args pre = some r → aA P vR K args pre r := dD fun ⟨⟨n, k⟩, p, t, _⟩ K hn => by
 obtain ⟨h1, h2, h3, h4⟩ := hn
 have h3 : p ≤ 6 := h3
 have := PJ h1 (by simp only; omega) h4 K (t := t)
 rw [Int.toNat_of_nonneg h2] at this
 exact this
def uQ : Spec := dn (kC (kL sK) (kC kI kN)) (fun a => .int .i64 ((a.1.1 : Int) - a.2.1 - 1)) fun a => [a.1.1 < 2 ^ 40, -2 ^ 40 < a.2.1, a.2.1 < 2 ^ 40]
theorem MP {n : Nat} {k : Nat → Rat} {p : Int} : bB T [nG] [] 60 uT (ax uT) ⟨aL 0 [ls k n, .int .i64 p], [], 0⟩ =
  let c3 : Int := (↑n : Int) - p; let c1 : Int := (2 : Int) ^ 63; let c2 : Int := c3 - (1 : Int); some (ag [-c1 ≤ c3 ∧ c3 < c1, -c1 ≤ c2 ∧ c2 < c1] (leaf ret [int i64 c2])) := by kernel_rfl
theorem xX : ∀ K args pre r, uQ K args pre = some r → aA P oQ K args pre r := dD fun ⟨⟨n, k⟩, p, _⟩ K hn => by
 obtain ⟨h1, h2, h3⟩ := hn
 have h3 : p < 2 ^ 40 := h3
 simp only at h1 h2
 refine bH (r := aG (.int .i64 ((n : Int) - p - 1)) []) hT (dM bn) hm XZ rfl (of_decide_eq_true (by kernel_rfl)) rfl 60 MP (fun _ => ?_) K []
 simp only [aa.all, ay]
 exact ⟨by omega, .refl _⟩
abbrev zO : az := ⟨false, true, 3, 1, fun _ => .rat 0 1⟩
theorem HO {n : Nat} {k : Nat → Rat} {t : Rat} (h : dB n k t ≠ 0) : dL n k t := by
 unfold dB at h
 by_cases ho : dL n k t
 ·exact ho
 ·rw [if_neg ho] at h; exact absurd rfl h
theorem IM {n : Nat} {k : Nat → Rat} {t : Rat} (h : dB n k t = 0) : ¬ dL n k t := fun ho => by unfold dB at h; rw [if_pos ho] at h; omega
theorem Kn.zB {n p : Nat} {k : Nat → Rat} (h : Kn n p k) {t : Rat} (hin : ¬ dL n k t) : p ≤ cD n k t ∧ cD n k t + p + 1 < n := by
 have h1 : ¬ t < k 0 := fun h => hin (.inl h)
 have h2 : ¬ k (n - 1) < t := fun h => hin (.inr h)
 exact (h.BI (by grind) (by grind)).2
end Go.Am.B
