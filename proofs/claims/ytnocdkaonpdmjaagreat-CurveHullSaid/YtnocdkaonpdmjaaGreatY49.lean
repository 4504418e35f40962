/- slices.Insert of one number uL a list of just its capacity; fP.Insert, ref08.Insert. -/
import Derived.Test.YtnocdkaonpdmjaaGreatY48
import Derived.Test.YtnocdkaonpdmjaaGreatY45
import Derived.Test.YtnocdkaonpdmjaaGreatB33
set_option linter.unusedVariables false
namespace Go.Am.B
open Go Go.Am.N AV aa aj IntKind
theorem MJ {c : Nat} {u v : AV} (hv : v.isAgg = false) (h : bA u v) : bA (.bw c u) (.bw c v) := by
 refine ⟨rfl, fun M w cs hc => ?_⟩
 cases hc with
 | bw _ h1 h2 => cases h2; exact .bw hv (h.2 _ _ _ h1) .nil
def TQ (s : Nat) : Kind (Nat × (Nat → Rat)) := ⟨fun v => match v with
 | .bw c v => match (kL s).read v with
  | some (a, q) => some (a, (c = a.1) :: q)
  | none => none
 | _ => none, fun a => .bw a.1 (bI a.2 a.1 s), fun {v a q} h hq => by
  split at h
  ·split at h
   ·rename_i h1
    simp only [Option.some.injEq, Prod.mk.injEq] at h
    obtain ⟨rfl, rfl⟩ := h
    obtain ⟨q1, q2⟩ := yO.1 hq
    subst q1
    exact MJ rfl ((kL s).ok h1 q2)
   ·simp at h
  ·simp at h⟩
abbrev xR : FuncId := D8
noncomputable abbrev Au : Func := JN
def fX (k : Nat → Rat) (t : Rat) : Nat → Nat
 | 0 => 0
 | n + 1 => if fX k t n = n ∧ k n ≤ t then n + 1 else fX k t n
def hH (k : Nat → Rat) (t : Rat) (p j : Nat) : Rat := if j < p then k j else if j = p then t else k (j - 1)
abbrev wY : List Nat := [3, 9, 10, 11]
abbrev Dn (n : Nat) (k : Nat → Rat) (s i : Nat) : List AV := [.bw n (.own 0 3 0 i), bI k n s, .int .i64 n, .int .i64 i]
abbrev yY : aQ := cG :: fZ
abbrev wq : List Nat := [0, 3, 5]
abbrev AJ (n : Nat) (k : Nat → Rat) (s i : Nat) : List AV := [bI k n s, .ptr 0 0 3 0 [], .int .i64 i]
noncomputable abbrev wk : Code := ax uZ
def JK (w : Nat) : Spec := dn (kC (TQ w) (kC kI (kC (kL w) kN))) (fun a => bI (hH a.1.2 (a.2.2.1.2 0) a.2.1.toNat) (a.1.1 + 1) w) fun a => [0 ≤ a.2.1, a.2.1 ≤ a.1.1, a.2.2.1.1 = 1, a.1.1 < 2 ^ 40]
def HW (s w : Nat) : Spec := dn (kC (kL s) kN) (fun a => .bw a.1.1 (bI a.1.2 a.1.1 w)) fun a => [a.1.1 < 2 ^ 40]
def Al (s w : Nat) : aQ := cG :: (l6, HW s w) :: (xR, JK w) :: fZ
theorem aaP : aO P xR Au (ax Au) := aP Pu (by kernel_rfl) (by kernel_rfl) (by kernel_rfl)
theorem aa7 : aO P r5 uZ (ax uZ) := aP TU (by kernel_rfl) (by kernel_rfl) (by kernel_rfl)
theorem LY {n i s : Nat} {k : Nat → Rat} {t : Rat} : bB T [cG] [22, 100031] 60 Au (ax Au) ⟨aL 0 [.bw n (bI k n s), .int .i64 i, bI (fun _ => t) 1 s], [], 0⟩ =
  let c11 : Nat := Int.toNat (0 : Int); let c9 : Int := (↑n : Int); let c7 : Int := (2 : Int) ^ 63; let c4 : Int := (↑i : Int); let c14 : Nat := c4.toNat - c11; let c13 : Prop := (0 : Int) ≤ c4; let c12 : Nat := 0 + c4.toNat; let c3 : Int := c9 + (↑(1 : Nat) : Int); let c2 : Int := c4 + (↑(1 : Nat) : Int); let c10 : Nat := 0 + c2.toNat; let c1 : Nat := c14 + (c3 - c4).toNat; let c8 : Int := (↑c1 : Int); let c6 : Nat := c12 + Min.min 1 (c8.toNat - c4.toNat); let c5 : Nat := c10 + Min.min (c9.toNat - c4.toNat) (c8.toNat - c2.toNat); some (ag [c13 ∧ c4 ≤ c9 ∧ c9 ≤ c9] (fork (c4 == c9) (ag [n < n + 1 ∧ (n + 1) * ((56 : Nat) + 1) * 2 ≤ 2 ^ 47] (leaf ret [ak 3 (n + 1) fun i ↦ if i + 0 < n then rat (k (i + 0)) s else rat t s])) (ag [-c7 ≤ c3 ∧ c3 < c7] (ag [decide (c3 > c9) = true] (ag [(0 : Int) ≤ (0 : Int) ∧ c13 ∧ c4 ≤ c9, -c7 ≤ c3 ∧ c3 < c7, -c7 ≤ c3 - c4 ∧ c3 - c4 < c7, (0 : Int) < c3 - c4 ∧ n - c11 < c1 ∧ c1 * ((56 : Nat) + 1) * 2 ≤ 2 ^ 47] (ag [c13 ∧ c4 ≤ c8 ∧ c8 ≤ c8 ∧ c8 ≤ c8] (ag [-c7 ≤ c2 ∧ c2 < c7, (0 : Int) ≤ c2 ∧ c2 ≤ c8 ∧ c8 ≤ c8 ∧ c8 ≤ c8, c13 ∧ c4 ≤ c9 ∧ c9 ≤ c9] (leaf ret [ak 3 c1 fun i ↦ if c10 ≤ i + 0 ∧ i + 0 < c5 then rat (k (i + 0 - c10 + c4.toNat)) s else if c12 ≤ i + 0 ∧ i + 0 < c6 then rat t s else if i + 0 < c14 then rat (k (i + 0 + c11)) s else rat 0 1])))))))) := by kernel_rfl
theorem K8 {n s : Nat} {k : Nat → Rat} : aI T yY [] 60 wY (before j6 [1,1,0,1]) ⟨aL 0 [bI k n s], [], 0⟩ =
  let c1 : Int := (↑n : Int); some (ag [(0 : Int) ≤ (0 : Int) ∧ (0 : Int) ≤ c1 ∧ c1 ≤ (2 : Int) ^ 47 ∧ c1 * (↑(56 : Nat) : Int) ≤ (2 : Int) ^ 47] (leaf normal ([bw c1.toNat (own 12288 3 0 0), ak 3 n fun i ↦ rat (k i) s, int i64 c1, int i64 (0 : Int)], [((12288 : Nat), az.mk true true 3 0 fun x ↦ rat 0 1)]))) := by kernel_rfl
theorem ZZ {n i s w : Nat} {k x : Nat → Rat} : aI T yY [12] 60 wY [part j6 [1,1,0,1,0,0]] ⟨aC wY (Dn n k s i), [(0, Bw i x w)], 1⟩ =
  let c5 : Int := (↑n : Int); let c3 : Nat := i + 1; let c2 : AV := ak 3 n fun i ↦ rat (k i) s; let c1 : Int := (↑i : Int); let c4 : Int := c1 + (1 : Int); some (fork (decide (c1 < c5)) (ag [(0 : Int) ≤ c1 ∧ c1.toNat < n, (0 : Nat) < 1] (ag [(0 : Nat) < 1, s < 2 ^ 42, (1 : Nat) < 2 ^ 42, (1 : Nat) * 3 ≤ 2 ^ 24, c3 ≤ n, c3 * ((56 : Nat) + 1) * 2 ≤ 2 ^ 47] (ag [-(2 : Int) ^ 63 ≤ c4 ∧ c4 < (2 : Int) ^ 63] (leaf normal ([bw n (own 40961 3 0 c3), c2, int i64 c5, int i64 c4], [((40961 : Nat), az.mk true true 3 c3 fun i_1 ↦ if i_1 < i then rat (x i_1) w else nth [rat (k c1.toNat + 0) (s + 1 + 1)] (rat 0 1) (i_1 - i + 0))]))))) (leaf (exit 0) ([bw n (own 0 3 0 i), c2, int i64 c5, int i64 c1], [((0 : Nat), az.mk true true 3 i fun i ↦ rat (x i) w)]))) := by kernel_rfl
theorem WU {n i s w : Nat} {k x : Nat → Rat} : cq T yY [] 60 wR [part j6 [1,1,1]] ⟨aC wY (Dn n k s i), [(0, Bw i x w)], 1⟩ =
  some (leaf ret [bw n (ak 3 i fun i ↦ rat (x (i + 0)) w)]) := by kernel_rfl
theorem QI {n s r w : Nat} {k : Nat → Rat} {t : Rat} : aI T (Al s w) [] 60 wq (before wk [1,1,0]) ⟨aL 0 [bI k n s, .rat t r], [], 0⟩ =
  some (leaf normal ([ak 3 n fun i ↦ rat (k i) s, ptr 0 0 (bC (rat t r)).size 0 [], int i64 (0 : Int)], [((0 : Nat), az.mk false true (bC (rat t r)).size 1 fun x ↦ rat t r)])) := by kernel_rfl
theorem Y9 {n i s r w : Nat} {k : Nat → Rat} {t : Rat} : aI T (Al s w) [10, 18] 60 wq [part wk [1,1,0,0,0]] ⟨aC wq (AJ n k s i), [(0, tP t r)], 1⟩ =
  let c7 : AV := ak 3 n fun i ↦ rat (k i) s; let c5 : AV := ptr 0 0 3 0 []; let c4 : Nat × az := ((0 : Nat), az.mk false true 3 1 fun x ↦ rat t r); let c3 : Int := (↑i : Int); let c8 : Int := c3 + (1 : Int); let c6 : Bool := decide (c3 < (↑n : Int)); let c2 : aa (List AV × aD) := leaf (exit 0) ([c7, c5, int i64 c3], [c4]); let c1 : aa (List AV × aD) := ag [-(2 : Int) ^ 63 ≤ c8 ∧ c8 < (2 : Int) ^ 63] (leaf normal ([c7, c5, int i64 c8], [c4])); some (fork c6 (ag [c6 = true, (0 : Int) ≤ c3 ∧ c3.toNat < n, (0 : Nat) < 1, s < 2 ^ 42, r < 2 ^ 42] (fork (bif true then decide (ef (k c3.toNat) t ≤ (0 : Int)) else false) c1 c2)) (ag [c6 = false] (fork false c1 c2))) := by kernel_rfl
theorem TF {n i s r w : Nat} {k : Nat → Rat} {t : Rat} : cq T (Al s w) [] 60 uZ [part wk [1,1,1]] ⟨aC wq (AJ n k s i), [(0, tP t r)], 1⟩ =
  let c3 : AV := rat 0 1; let c2 : Prop := n < 2 ^ 40; let c1 : AV := rat (t + 0) (r + 1 + 1); some (ag [cz (fun i ↦ rat (k i) s) n s, c2, (0 : Nat) < 1, r < 2 ^ 42, (1 : Nat) < 2 ^ 42, (1 : Nat) * 3 ≤ 2 ^ 24, n = n, cz (fun i ↦ rat (bp (rat (k i) s)) w) n w, cz (fun i ↦ nth [c1] c3 (i + 0)) 1 w, (0 : Int) ≤ (↑i : Int), (↑i : Int) ≤ (↑n : Int), (1 : Nat) = 1, c2] (leaf ret [ak 3 (n + 1) fun i_1 ↦ rat (hH (fun i ↦ bp (rat (bp (rat (k i) s)) w)) (bp (nth [c1] c3 ((0 : Nat) + 0))) (↑i : Int).toNat i_1) w])) := by kernel_rfl
theorem CM {Γ : aQ} (h : bg P Γ) : bg P (cG :: Γ) := aH (fun _ _ _ _ h => nomatch h) h
theorem Ma {a b : Rat} : ef a b ≤ (0 : Int) ↔ a ≤ b := by
 have := @v5 a b
 constructor
 ·intro h
  exact Rat.not_lt.1 fun h' => by have := v5.2 h'; omega
 ·intro h
  have : ¬ ef a b > 0 := fun h' => Rat.not_lt.2 h (v5.1 h')
  omega
theorem Ol {k : Nat → Rat} {t : Rat} {n : Nat} (h : fX k t n = n) (h2 : k n ≤ t) : fX k t (n + 1) = n + 1 := by unfold fX; rw [if_pos ⟨h, h2⟩]
theorem ED {k : Nat → Rat} {t : Rat} {i : Nat} (h : fX k t i = i) (h2 : t < k i) : ∀ {n : Nat}, i ≤ n → fX k t n = i
 | 0, hn => by
    have : i = 0 := by omega
    subst this; rfl
 | n + 1, hn => by
  by_cases he : i = n + 1
  ·subst he; exact h
  ·have ih := ED h h2 (n := n) (by omega)
   unfold fX
   rw [if_neg, ih]
   rintro ⟨g1, g2⟩
   have : i = n := by omega
   subst this
   exact absurd h2 (Rat.not_lt.2 g2)
theorem aa6 {n i s : Nat} {k : Nat → Rat} {t : Rat} (hi : i ≤ n) (hn : n < 2 ^ 40) (K : Nat) : aA P xR K [.bw n (bI k n s), .int .i64 i, bI (fun _ => t) 1 s] [] (aG (bI (hH k t i) (n + 1) s) []) := by
 refine bH (r := aG (bI (hH k t i) (n + 1) s) []) hT (CM bn) hm aaP rfl (of_decide_eq_true (by kernel_rfl)) rfl 60 LY (fun _ => ?_) K []
 simp only [aa.all, ay, decide_eq_true_eq, decide_eq_false_iff_not]
 have w1 : ((1 : Nat) : Int) = 1 := rfl
 simp only [w1, Int.toNat_natCast, Int.toNat_zero, Nat.sub_zero, Nat.zero_add, Nat.add_zero, beq_iff_eq, beq_eq_false_iff_ne, ne_eq, Int.ofNat_inj]
 refine ⟨by omega, fun h => ⟨by omega, k8 fun j hj => cI ?_⟩, fun h => ?_⟩
 ·subst h
  unfold hH
  by_cases h1 : j < i
  ·rw [if_pos h1, if_pos h1]
  ·rw [if_neg h1, if_neg h1, if_pos (by omega)]
 ·have eN : i + ((n : Int) + 1 - i).toNat = n + 1 := by omega
  have e2 : ((i : Int) + 1).toNat = i + 1 := by omega
  simp only [eN, e2]
  refine ⟨by omega, by omega, by omega, by omega, by omega, k8 fun j hj => cI ?_⟩
  unfold hH
  by_cases h1 : j < i
  ·rw [if_neg (by omega), if_neg (by omega), if_pos h1, if_pos h1]
  ·by_cases h2 : j = i
   ·rw [if_neg (by omega), if_pos (by omega), if_neg h1, if_pos h2]
   ·rw [if_pos (by omega), if_neg h1, if_neg h2, show j - (i + 1) + i = j - 1 by omega]
theorem aaM : bg P yY := CM gU
theorem VJ {n s w : Nat} {k : Nat → Rat} (h : s + 2 ≤ w) (hw : w < 2 ^ 40) (hn : n < 2 ^ 40) (K : Nat) : aA P l6 K [bI k n s] [] (aG (.bw n (bI k n w)) []) := by
 refine gV (r := aG (.bw n (bI k n w)) []) hT aaM hm Co rfl (of_decide_eq_true (by kernel_rfl)) rfl [1,1,0,1] (i := 0) (y := part j6 [1,1,0,1,0,0]) (z := part j6 [1,1,1]) (by kernel_rfl) (by kernel_rfl) (by kernel_rfl) (f1 := []) (f2 := [12]) (f3 := []) 60 wY 1
  (fun i : Nat => Dn n k s i) (fun i => [(0, Bw i k w)]) (fun i => i ≤ n) (fun i => i = n) (fun i => n - i) (fun _ => ⟨⟨_, K8, ?_⟩, fun i hi => ⟨_, ZZ, ?_⟩, fun i hi => ⟨_, WU, ?_⟩⟩) K []
 ·simp only [aa.all, ay]
  exact ⟨by omega, 0, Nat.zero_le _, [(0, 12288)], rfl, by rw [Int.toNat_natCast]; rfl, rfl, bG rfl rfl rfl (fun j hj => absurd hj (Nat.not_lt_zero j)) trivial⟩
 ·simp only [aa.all, ay, decide_eq_true_eq, decide_eq_false_iff_not, Int.toNat_natCast, Nat.add_zero]
  exact ⟨fun h1 => ⟨by omega, by omega, by omega, i + 1, by omega, by dsimp only; omega, [(0, 40961)], rfl, rfl, rfl, bG rfl rfl rfl (fun j hj => C5 (fun _ _ => rfl) (Rat.add_zero _) (Nat.le_refl _) (by omega) hj) trivial⟩,
   fun h1 => ⟨rfl, i, by omega, [(0, 0)], rfl, rfl, rfl, bG rfl rfl rfl (fun _ _ => aM rfl rfl) trivial⟩⟩
 ·subst hi
  simp only [aa.all, ay]
  exact .refl _
theorem YY {s w : Nat} (h : s + 2 ≤ w) (hw : w < 2 ^ 40) : ∀ K args pre r, HW s w K args pre = some r → aA P l6 K args pre r := dD fun ⟨⟨n, k⟩, _⟩ K hn => VJ h hw hn K
theorem Sc {w : Nat} : ∀ K args pre r, JK w K args pre = some r → aA P xR K args pre r := dD fun ⟨⟨n, k⟩, i, ⟨m, g⟩, _⟩ K hn => by
 obtain ⟨h1, h2, h3, h4⟩ := hn
 simp only at h1 h2 h3 h4
 subst h3
 have := fc (aa6 (k := k) (t := g 0) (s := w) (i := i.toNat) (n := n) (by omega) h4 K) (args := [.bw n (bI k n w), .int .i64 i, bI g 1 w]) rfl ⟨.refl _, bq (by omega), k8 fun j hj => cI (by rw [Nat.lt_one_iff.1 hj]), trivial⟩ []
 exact this
theorem VM {s w : Nat} (h : s + 2 ≤ w) (hw : w < 2 ^ 40) : bg P (Al s w) := CM (aH (YY h hw) (aH Sc gU))
theorem XE {n s r w : Nat} {k : Nat → Rat} {t : Rat} (h : s + 2 ≤ w) (h2 : r + 2 ≤ w) (hw : w < 2 ^ 40) (hn : n < 2 ^ 40) (K : Nat) : aA P r5 K [bI k n s, .rat t r] [] (aG (bI (hH k t (fX k t n)) (n + 1) w) []) := by
 refine gV (r := aG (bI (hH k t (fX k t n)) (n + 1) w) []) hT (VM h hw) hm aa7 rfl (of_decide_eq_true (by kernel_rfl)) rfl [1,1,0] (i := 0) (y := part wk [1,1,0,0,0]) (z := part wk [1,1,1]) (by kernel_rfl) (by kernel_rfl) (by kernel_rfl) (f1 := []) (f2 := [10, 18]) (f3 := []) 60 wq 1
  (fun i : Nat => AJ n k s i) (fun _ => [(0, tP t r)]) (fun i => i ≤ n ∧ fX k t i = i) (fun i => i ≤ n ∧ i = fX k t n) (fun i => n - i) (fun _ => ⟨⟨_, QI, ?_⟩, fun i hi => ⟨_, Y9, ?_⟩, fun i hi => ⟨_, TF, ?_⟩⟩) K []
 ·simp only [aa.all, ay]
  exact ⟨0, ⟨Nat.zero_le _, rfl⟩, [(0, 0)], rfl, rfl, rfl, aR rfl rfl (aM rfl rfl) trivial⟩
 ·simp only [aa.all, ay, decide_eq_true_eq, decide_eq_false_iff_not, Int.toNat_natCast]
  simp only [cond_true, decide_eq_true_eq, decide_eq_false_iff_not, Ma]
  exact ⟨fun h1 => ⟨⟨h1, by omega, by omega, by omega, by omega⟩, fun h2 => ⟨by omega, i + 1, ⟨by omega, Ol hi.2 h2⟩, by dsimp only; omega, [(0, 0)], rfl, rfl, rfl, aR rfl rfl (aM rfl rfl) trivial⟩,
    fun h2 => ⟨rfl, i, ⟨by omega, (ED hi.2 (Rat.not_le.1 h2) (by omega)).symm⟩, [(0, 0)], rfl, rfl, rfl, aR rfl rfl (aM rfl rfl) trivial⟩⟩,
   fun h1 => ⟨h1, fun h => absurd h (by decide), fun _ => ⟨rfl, i, ⟨hi.1, by rw [show n = i by omega]; exact hi.2.symm⟩, [(0, 0)], rfl, rfl, rfl, aR rfl rfl (aM rfl rfl) trivial⟩⟩⟩
 ·obtain ⟨hi, rfl⟩ := hi
  simp only [aa.all, ay]
  refine ⟨⟨ej (Nat.le_refl _), by omega, by omega, by omega, by omega, by omega, trivial, ej (Nat.le_refl _), fun j hj => ?_, by omega, by omega, trivial, by omega⟩, k8 fun j hj => cI ?_⟩
  ·rw [Nat.lt_one_iff.1 hj]; exact ew (by omega)
  ·show AV.rat (hH k (t + 0) ((fX k t n : Nat) : Int).toNat j) w = _
   rw [Rat.add_zero, Int.toNat_natCast]
def HK (s w : Nat) : Spec := dn (kC (kL s) (kC (jM s) kN)) (fun a => bI (hH a.1.2 a.2.1 (fX a.1.2 a.2.1 a.1.1)) (a.1.1 + 1) w) fun a => [a.1.1 < 2 ^ 40]
theorem Vy {s w : Nat} (h : s + 2 ≤ w) (hw : w < 2 ^ 40) : ∀ K args pre r, HK s w K args pre = some r → aA P r5 K args pre r := dD fun ⟨⟨n, k⟩, t, _⟩ K hn => XE h h hw hn K
end Go.Am.B

/- shapes.ints, ref14.ints. -/
namespace Go.Am.B
open Go Go.Am.N AV aa aj IntKind
end Go.Am.B

/- spline.Copied, shapes.clamped, shapes.Revolve. -/
namespace Go.Am.B
open Go Go.Am.N AV aa aj IntKind
theorem NN : aO P tv wP (ax wP) := aP Zn (by kernel_rfl) (by kernel_rfl) (by kernel_rfl)
abbrev AT (y m : Nat) (k : Nat → Rat) : az := ⟨true, true, 3, m, fun i => .rat (k i) y⟩
noncomputable abbrev rM : Code := ax wP
abbrev sy : List Nat := [3, 9, 10, 11]
abbrev Bf (x n : Nat) (k : Nat → Rat) (i : Nat) : List AV := [.own 0 3 0 i, bI k n x, .int .i64 n, .int .i64 i]
noncomputable def yt : aQ := nG :: fZ
theorem aai {x n : Nat} {k : Nat → Rat} : aI T yt [] 60 sy (before rM [1,1,0,1]) ⟨aL 0 [bI k n x], [], 0⟩ =
  let c1 : Int := (↑n : Int); some (ag [(0 : Int) ≤ (0 : Int) ∧ (0 : Int) ≤ c1 ∧ c1 ≤ (2 : Int) ^ 47 ∧ c1 * (↑(56 : Nat) : Int) ≤ (2 : Int) ^ 47] (leaf normal ([own 12288 3 0 0, ak 3 n fun i ↦ rat (k i) x, int i64 c1, int i64 (0 : Int)], [((12288 : Nat), az.mk true true 3 0 fun x ↦ rat 0 1)]))) := by kernel_rfl
theorem NJ {x y n i : Nat} {k : Nat → Rat} : aI T yt [12] 60 sy [part rM [1,1,0,1,0,0]] ⟨aC sy (Bf x n k i), [(0, AT y i k)], 1⟩ =
  let c4 : Int := (↑n : Int); let c2 : AV := ak 3 n fun i ↦ rat (k i) x; let c1 : Int := (↑i : Int); let c3 : Int := c1 + (1 : Int); some (fork (decide (c1 < c4)) (ag [(0 : Int) ≤ c1 ∧ c1.toNat < n, (0 : Nat) < 1] (ag [(0 : Nat) < 1, x < 2 ^ 42, (1 : Nat) < 2 ^ 42, (1 : Nat) * 3 ≤ 2 ^ 24, (i + 1) * ((56 : Nat) + 1) * 2 ≤ 2 ^ 47] (ag [-(2 : Int) ^ 63 ≤ c3 ∧ c3 < (2 : Int) ^ 63] (leaf normal ([own 40961 3 0 (i + 1), c2, int i64 c4, int i64 c3], [((40961 : Nat), az.mk true true 3 (i + 1) fun i_1 ↦ if i_1 < i then rat (k i_1) y else nth [rat (k c1.toNat + 0) (x + 1 + 1)] (rat 0 1) (i_1 - i + 0))]))))) (leaf (exit 0) ([own 0 3 0 i, c2, int i64 c4, int i64 c1], [((0 : Nat), az.mk true true 3 i fun i ↦ rat (k i) y)]))) := by kernel_rfl
theorem aat {x y n i : Nat} {k : Nat → Rat} : cq T yt [] 60 wP [part rM [1,1,1]] ⟨aC sy (Bf x n k i), [(0, AT y i k)], 1⟩ =
  some (leaf ret [ak 3 i fun i ↦ rat (k (i + 0)) y]) := by kernel_rfl
theorem Og : bg P yt := dM gU
theorem U0 {x y n : Nat} {k : Nat → Rat} (hxy : x + 10 ≤ y) (hy : y < 2 ^ 40) (hn : n < 2 ^ 40) (K : Nat) : aA P tv K [bI k n x] [] (aG (bI k n y) []) := by
 refine gV (r := aG (bI k n y) []) hT Og hm NN rfl (of_decide_eq_true (by kernel_rfl)) rfl [1,1,0,1] (i := 0) (y := part rM [1,1,0,1,0,0]) (z := part rM [1,1,1]) (by kernel_rfl) (by kernel_rfl) (by kernel_rfl) (f1 := []) (f2 := [12]) (f3 := []) 60 sy 1
  (fun i : Nat => Bf x n k i) (fun i => [(0, AT y i k)]) (fun i => i ≤ n) (fun i => i = n) (fun i => n - i) (fun _ => ⟨⟨_, aai, ?_⟩, fun i hi => ⟨_, NJ, ?_⟩, fun i hi => ⟨_, aat, ?_⟩⟩) K []
 ·simp only [aa.all, ay]
  exact ⟨by omega, 0, Nat.zero_le _, [(0, 12288)], rfl, rfl, rfl, bG rfl rfl rfl (fun i hi => absurd hi (Nat.not_lt_zero i)) trivial⟩
 ·simp only [aa.all, ay, decide_eq_true_eq, decide_eq_false_iff_not, Int.toNat_natCast, Nat.add_zero]
  exact ⟨fun h2 => ⟨by omega, by omega, by omega, i + 1, by omega, by dsimp only; omega, [(0, 40961)], rfl, rfl, rfl, bG rfl rfl rfl (fun j hj => C5 (fun _ _ => rfl) (Rat.add_zero _) (Nat.le_refl _) (by omega) hj) trivial⟩, fun h2 => ⟨rfl, i, by omega, [(0, 0)], rfl, rfl, rfl, bG rfl rfl rfl (fun j hj => aM rfl rfl) trivial⟩⟩
 ·subst hi
  simp only [aa.all, ay]
  exact wD rfl fun j hj => rfl
def Et (x y : Nat) : Spec := dn (kC (kL x) kN) (fun a => bI a.1.2 a.1.1 y) fun a => [x + 10 ≤ y, y < 2 ^ 40, a.1.1 < 2 ^ 40]
theorem Te (x y : Nat) : ∀ K args pre r, Et x y K args pre = some r → aA P tv K args pre r := dD fun ⟨⟨n, k⟩, _⟩ K hn => U0 hn.1 hn.2.1 hn.2.2 K
end Go.Am.B

/- Spline.Over, Spline.Insert, curve.back. -/
namespace Go.Am.B
open Go Go.Am.N AV aa aj IntKind
theorem WR : aO P xj vN (ax vN) := aP MS (by kernel_rfl) (by kernel_rfl) (by kernel_rfl)
theorem SU : aO P z7 vQ (ax vQ) := aP aaH (by kernel_rfl) (by kernel_rfl) (by kernel_rfl)
theorem VL : aO P uD sk (ax sk) := aP V4 (by kernel_rfl) (by kernel_rfl) (by kernel_rfl)
def yy (c : Cu) (n : Nat) (k : Nat → Rat) (j : Nat) : Pl := ud c (iS c.n c.k (k (fU k n j))) c.p.toNat (fun q => k (q + (j + 1)))
def xU (c : Cu) (n : Nat) (k : Nat → Rat) : Cu := ⟨c.p, n, k, n - c.p.toNat - 1, yy c n k⟩
noncomputable def zS : aQ := nG :: (oQ, uQ) :: (w8, Jn) :: (rq, Cm) :: (rQ, EF) :: fZ
abbrev tH : List Nat := [1, 2, 4, 5, 17, 18]
abbrev Bu (n m : Nat) (k : Nat → Rat) (j : Nat) : List AV := [ls k n, .ptr 0 0 3 0 [], .ptr 1 0 3 0 [], .ptr 2 0 3 0 [], .int .i64 m, .int .i64 j]
abbrev Bn (c : Cu) (n : Nat) (k : Nat → Rat) (h : Nat → Pl) (j : Nat) : aD := [(3, ⟨true, true, 12, j, fun i => cV (h i) sB⟩), (2, ⟨false, true, 3, 1, fun _ => .agg [.int .i64 c.p, ls k n, .own 3 12 0 j]⟩), (1, ⟨false, true, 3, 1, fun _ => .agg [.int .i64 0, .nil, .nil]⟩), (0, mG c sK)]
noncomputable abbrev xJ : Code := ax vN
theorem Kc {f : Nat → Pl} {m s s' : Nat} (h : s ≤ s') : mC (fun i => cV (f i) s) m s' := fun _ _ => yU rfl h
noncomputable def Gc : Spec := dn (kC (wg sK sK) (kC (kL sK) kN)) (fun a => eL (xU a.1 a.2.1.1 a.2.1.2) sK sB) fun a => [Kn a.1.n a.1.p.toNat a.1.k, 1 ≤ a.1.p, a.1.p ≤ 6, a.1.n < 2 ^ 40, a.1.m < 2 ^ 40, a.2.1.1 < 2 ^ 29, a.1.p + 1 ≤ a.2.1.1]
def ur (c : Cu) (t : Rat) : Cu := xU c (c.n + 1) (hH c.k t (fX c.k t c.n))
noncomputable def I4 : aQ := nG :: (r5, HK 2000 2002) :: (xj, Gc) :: []
abbrev vj : List Nat := [2, 3, 13, 14, 15]
abbrev C1 (c : Cu) (i : Nat) : List AV := [.ptr 0 0 3 0 [], .ptr 1 0 3 0 [], o5 c.f c.m sB, .int .i64 c.m, .int .i64 i]
abbrev DG (c : Cu) (i : Nat) : aD := [(2, ⟨true, true, 12, i, fun j => cY (iU (c.f j)) (sB + sB)⟩), (1, ⟨false, true, 3, 1, fun _ => .agg [.int .i64 c.p, bI c.k c.n (sK + 10), .own 2 12 0 i]⟩), (0, ⟨false, true, 3, 1, fun _ => .agg [.int .i64 0, .nil, .nil]⟩)]
noncomputable abbrev uX : Code := ax sk
def Ia : Spec := dn (kC (D1 sB) kN) (fun a => cY (iU a.1) (sB + sB)) fun _ => []
def y7 : aQ := nG :: (tv, Et sK (sK + 10)) :: (og, Ia) :: []
theorem Qf {c : Cu} {n : Nat} {k : Nat → Rat} : aI T zS [] 60 tH (before xJ [1,1,0,1]) ⟨aL 0 [eL c sK sK, ls k n], [], 0⟩ =
  let c3 : Nat := (bC (eL c sK sK)).size; let c2 : Prop := 0 < 1; let c1 : AV := agg [int i64 (0 : Int), nil, nil]; some (ag [c2, c2] (ag [c2, cz (fun i ↦ rat (k i) sK) n sK, n < 2 ^ 40, -(2 : Int) ^ 40 < c.p, c.p < (2 : Int) ^ 40] (leaf normal ([ak 3 n fun i ↦ rat (k i) 4096, ptr 0 0 c3 0 [], ptr 4096 0 3 0 [], ptr 24576 0 3 0 [], int i64 ((↑n : Int) - c.p - (1 : Int)), int i64 (0 : Int)], [((24576 : Nat), az.mk false true 3 1 fun j ↦ if (j == 0) = true then bC (agg ((c1.kids.set 0 (bC (int i64 c.p))).set 1 (bC (ls k n)))) else c1), ((4096 : Nat), az.mk false true 3 1 fun x ↦ c1), ((0 : Nat), az.mk false true c3 1 fun x ↦ agg [int i64 c.p, ak 3 c.n fun i ↦ rat (c.k i) 4096, ak 12 c.m fun i ↦ agg [rat (c.f i).n.x 4096, rat (c.f i).n.y 4096, rat (c.f i).n.z 4096, rat (c.f i).d 4096]])])))) := by kernel_rfl
theorem ab5 {c : Cu} {n m j : Nat} {k : Nat → Rat} {h : Nat → Pl} : aI T zS [19] 60 tH [part xJ [1,1,0,1,0,0]] ⟨aC tH (Bu n m k j), Bn c n k h j, 4⟩ =
  let c20 : Int := (↑m : Int); let c18 : Prop := cz (fun i ↦ rat (c.k i) sK) c.n sK; let c17 : AV := ptr 2 0 3 0 []; let c16 : AV := ptr 1 0 3 0 []; let c15 : AV := ptr 0 0 3 0 []; let c14 : Nat := 2 ^ 40; let c13 : AV := rat 0 1; let c12 : Int := (↑j : Int); let c10 : AV := own 3 12 0 j; let c9 : AV := ak 3 n fun i ↦ rat (k i) 4096; let c8 : Prop := 0 < 1; let c6 : Int := (2 : Int) ^ 63; let c5 : Cu := Cu.mk c.p c.n (fun i ↦ bp (rat (c.k i) sK)) c.m fun i ↦ vg (cV (c.f i) sK); let c2 : List (Nat × az) := [((1 : Nat), az.mk false true 3 1 fun x ↦ agg [int i64 (0 : Int), nil, nil]), ((0 : Nat), az.mk false true 3 1 fun x ↦ agg [int i64 c.p, ak 3 c.n fun i ↦ rat (c.k i) 4096, ak 12 c.m fun i ↦ agg [rat (c.f i).n.x 4096, rat (c.f i).n.y 4096, rat (c.f i).n.z 4096, rat (c.f i).d 4096]])]; let c19 : AV := agg [int i64 c.p, ls k n, c10]; let c7 : Int := (↑(fU (fun i ↦ bp (rat (k i) sK)) n c12.toNat) : Int); let c4 : Int := c12 + c.p + (1 : Int); let c3 : Int := c12 + (1 : Int); let c11 : Nat := c4.toNat - c3.toNat; let c1 : Int := (↑(iS c.n (fun i ↦ bp (rat (c.k i) sK)) (k c7.toNat)) : Int); some (fork (decide (c12 < c20)) (ag [cz (fun i ↦ rat (k i) sK) n sK, (0 : Int) ≤ c12, c12 ≤ (↑n : Int), n < c14] (ag [c8, c8, (0 : Int) ≤ c7 ∧ c7.toNat < n, c18, sK ≤ sK, Kn c.n c.p.toNat fun i ↦ bp (rat (c.k i) sK), (0 : Int) ≤ c.p, c.n < c14] (ag [c8, c8, -c6 ≤ c3 ∧ c3 < c6, c8, -c6 ≤ c12 + c.p ∧ c12 + c.p < c6, -c6 ≤ c4 ∧ c4 < c6, (0 : Int) ≤ c3 ∧ c3 ≤ c4 ∧ c4 ≤ c4 ∧ c4 ≤ (↑n : Int), c18, mC (fun i ↦ cV (c.f i) sK) c.m sK, cz (fun i ↦ rat (k (i + c3.toNat)) sK) c11 sK, (1 : Int) ≤ c.p, c.p ≤ (6 : Int), c.n < c14, c.m < c14, -(2 : Int) ^ 40 < c1, c1 < (2 : Int) ^ 40, (1 : Nat) * 12 ≤ 2 ^ 24, (j + 1) * ((224 : Nat) + 1) * 2 ≤ 2 ^ 47, c8] (ag [-c6 ≤ c3 ∧ c3 < c6] (leaf normal ([c9, c15, c16, c17, int i64 c20, int i64 c3], ((147460 : Nat), az.mk true true 12 (j + 1) fun i ↦ if i < j then cV (h i) sB else nth [agg [rat (gY c5 c1 c11 (fun i ↦ bp (rat (k (i + c3.toNat)) sK)) 0) sB, rat (gY c5 c1 c11 (fun i ↦ bp (rat (k (i + c3.toNat)) sK)) 1) sB, rat (gY c5 c1 c11 (fun i ↦ bp (rat (k (i + c3.toNat)) sK)) 2) sB, rat (gY c5 c1 c11 (fun i ↦ bp (rat (k (i + c3.toNat)) sK)) 3) sB]] (agg [c13, c13, c13, c13]) (i - j + 0)) :: ((2 : Nat), az.mk false true 3 1 fun j_1 ↦ if (j_1 == 0) = true then agg (c19.kids.set 2 (bC (own (nat_lit 147459 + 1) 12 0 (j + 1)))) else c19) :: c2)))))) (leaf (exit 0) ([c9, c15, c16, c17, int i64 c20, int i64 c12], ((3 : Nat), az.mk true true 12 j fun i ↦ agg [rat (h i).n.x 536870912, rat (h i).n.y 536870912, rat (h i).n.z 536870912, rat (h i).d 536870912]) :: ((2 : Nat), az.mk false true 3 1 fun x ↦ agg [int i64 c.p, c9, c10]) :: c2))) := by kernel_rfl
theorem YG {c : Cu} {n m j : Nat} {k : Nat → Rat} {h : Nat → Pl} : cq T zS [] 60 vN [part xJ [1,1,1]] ⟨aC tH (Bu n m k j), Bn c n k h j, 4⟩ =
  let c1 : Prop := 0 < 1; some (ag [c1, c1] (ag [c1] (leaf ret [agg [int i64 c.p, ak 3 n fun i ↦ rat (k i) 4096, ak 12 j fun i ↦ agg [rat (h (i + 0)).n.x 536870912, rat (h (i + 0)).n.y 536870912, rat (h (i + 0)).n.z 536870912, rat (h (i + 0)).d 536870912]]]))) := by kernel_rfl
theorem My {c : Cu} {t : Rat} : bB T I4 [] 60 vQ (ax vQ) ⟨aL 0 [eL c 2000 4000, .rat t 2000], [], 0⟩ =
  some (ag [0 < 1, 0 < 1, 0 < 1, cz (fun i => .rat (c.k i) 2000) c.n 2000, 2000 ≤ 2000, c.n < 2 ^ 40, cz (fun i => .rat (c.k i) 2000) c.n sK, mC (fun i => cV (c.f i) 4000) c.m sK, cz (fun i => .rat (hH c.k t (fX c.k t c.n) i) 2002) (c.n + 1) sK, Kn c.n c.p.toNat c.k, 1 ≤ c.p, c.p ≤ 6, c.n < 2 ^ 40, c.m < 2 ^ 40, c.n + 1 < 2 ^ 29, c.p + 1 ≤ (c.n + 1 : Nat), 0 < 1]
   (ag [0 < 1] (leaf .ret [eL (ur c t) sK sB]))) := by kernel_rfl
theorem aa0 {c : Cu} : aI T y7 [] 60 vj (before uX [1,1,0,1]) ⟨aL 0 [eL c sK sB], [], 0⟩ =
  let c3 : Nat := sK + 10; let c2 : Prop := 0 < 1; let c1 : AV := agg [int i64 (0 : Int), nil, nil]; some (ag [c2, c2, cz (fun i ↦ rat (c.k i) sK) c.n sK, c3 ≤ c3, c3 < 2 ^ 40, c.n < 2 ^ 40, c2] (ag [c2] (leaf normal ([ptr 4096 0 3 0 [], ptr 32768 0 3 0 [], ak 12 c.m fun i ↦ agg [rat (c.f i).n.x 536870912, rat (c.f i).n.y 536870912, rat (c.f i).n.z 536870912, rat (c.f i).d 536870912], int i64 (↑c.m : Int), int i64 (0 : Int)], [((32768 : Nat), az.mk false true 3 1 fun j ↦ if (j == 0) = true then bC (agg ((c1.kids.set 0 (bC (int i64 c.p))).set 1 (bC (bI (fun i ↦ bp (rat (c.k i) sK)) c.n c3)))) else c1), ((4096 : Nat), az.mk false true 3 1 fun x ↦ c1)])))) := by kernel_rfl
theorem Wj {c : Cu} {i : Nat} : aI T y7 [16] 60 vj [part uX [1,1,0,1,0,0]] ⟨aC vj (C1 c i), DG c i, 3⟩ =
  let c11 : Int := (↑c.m : Int); let c10 : AV := own 2 12 0 i; let c9 : AV := ptr 1 0 3 0 []; let c8 : AV := ptr 0 0 3 0 []; let c7 : Prop := 0 < 1; let c6 : Int := (↑i : Int); let c5 : AV := rat 0 1; let c4 : Nat × az := ((0 : Nat), az.mk false true 3 1 fun x ↦ agg [int i64 (0 : Int), nil, nil]); let c1 : AV := ak 12 c.m fun i ↦ agg [rat (c.f i).n.x 536870912, rat (c.f i).n.y 536870912, rat (c.f i).n.z 536870912, rat (c.f i).d 536870912]; let c12 : Int := c6 + (1 : Int); let c3 : AV := agg [int i64 c.p, bI c.k c.n (sK + 10), c10]; let c2 : Pl := c.f c6.toNat; some (fork (decide (c6 < c11)) (ag [(0 : Int) ≤ c6 ∧ c6.toNat < c.m, c7] (ag [c7, c7, sB ≤ sB, sB ≤ sB, sB ≤ sB, sB ≤ sB, (1 : Nat) * 12 ≤ 2 ^ 24, (i + 1) * ((224 : Nat) + 1) * 2 ≤ 2 ^ 47, c7] (ag [-(2 : Int) ^ 63 ≤ c12 ∧ c12 < (2 : Int) ^ 63] (leaf normal ([c8, c9, c1, int i64 c11, int i64 c12], [((40963 : Nat), az.mk true true 12 (i + 1) fun i_1 ↦ if i_1 < i then cY (iU (c.f i_1)) (sB + sB) else nth [agg [agg [rat (c2.n.x / c2.d) (sB + sB), rat (c2.n.y / c2.d) (sB + sB), rat (c2.n.z / c2.d) (sB + sB)], rat c2.d (sB + sB)]] (agg [agg [c5, c5, c5], c5]) (i_1 - i + 0)), ((1 : Nat), az.mk false true 3 1 fun j ↦ if (j == 0) = true then agg (c3.kids.set 2 (bC (own (nat_lit 40962 + 1) 12 0 (i + 1)))) else c3), c4]))))) (leaf (exit 0) ([c8, c9, c1, int i64 c11, int i64 c6], [((2 : Nat), az.mk true true 12 i fun j ↦ agg [agg [rat ((c.f j).n.x / (c.f j).d) 1073741824, rat ((c.f j).n.y / (c.f j).d) 1073741824, rat ((c.f j).n.z / (c.f j).d) 1073741824], rat (c.f j).d 1073741824]), ((1 : Nat), az.mk false true 3 1 fun x ↦ agg [int i64 c.p, ak 3 c.n fun i ↦ rat (c.k i) 4106, c10]), c4]))) := by kernel_rfl
theorem OJ {c : Cu} {i : Nat} : cq T y7 [] 60 sk [part uX [1,1,1]] ⟨aC vj (C1 c i), DG c i, 3⟩ =
  let c1 : Prop := 0 < 1; some (ag [c1, c1] (ag [c1] (leaf ret [agg [int i64 c.p, ak 3 c.n fun i ↦ rat (c.k i) 4106, ak 12 i fun i ↦ agg [agg [rat ((c.f (i + 0)).n.x / (c.f (i + 0)).d) 1073741824, rat ((c.f (i + 0)).n.y / (c.f (i + 0)).d) 1073741824, rat ((c.f (i + 0)).n.z / (c.f (i + 0)).d) 1073741824], rat (c.f (i + 0)).d 1073741824]]]))) := by kernel_rfl
theorem H8 {k : Nat → Rat} {n : Nat} : ∀ {f i : Nat}, i < n → qz k n f i < n
 | 0, _, h => h
 | f + 1, i, h => by
  unfold qz
  split
  ·exact H8 (by omega)
  ·exact h
theorem TS {k : Nat → Rat} {n i : Nat} (h : i < n) : fU k n i < n := H8 h
theorem W2 {n p : Nat} {k : Nat → Rat} (h : Kn n p k) {t : Rat} : iS n k t < n := by
 have hl := h.len
 unfold iS
 split
 ·omega
 ·have := h.zB ‹_›
  omega
theorem Q5 : bg P zS := dM (aH xX (aH ZV (aH Gx (aH T2 gU))))
theorem Vv {c : Cu} {n : Nat} {k : Nat → Rat} (hk : Kn c.n c.p.toNat c.k) (hp1 : 1 ≤ c.p) (hp6 : c.p ≤ 6) (hn : c.n < 2 ^ 40) (hm2 : c.m < 2 ^ 40) (hn2 : n < 2 ^ 29) (hpn : c.p + 1 ≤ n) (K : Nat) : aA P xj K [eL c sK sK, ls k n] [] (aG (eL (xU c n k) sK sB) []) := by
 obtain ⟨q, hq⟩ : ∃ q, q = c.p.toNat := ⟨_, rfl⟩
 have hqp : c.p = (q : Int) := by omega
 refine gV (r := aG (eL (xU c n k) sK sB) []) hT Q5 hm WR rfl (of_decide_eq_true (by kernel_rfl)) rfl [1,1,0,1] (i := 0) (y := part xJ [1,1,0,1,0,0]) (z := part xJ [1,1,1]) (by kernel_rfl) (by kernel_rfl) (by kernel_rfl) (f1 := []) (f2 := [19]) (f3 := []) 60 tH 4
  (fun j : Nat => Bu n (n - c.p.toNat - 1) k j) (fun j => Bn c n k (yy c n k) j) (fun j => j ≤ n - c.p.toNat - 1) (fun j => j = n - c.p.toNat - 1) (fun j => n - c.p.toNat - 1 - j) (fun _ => ⟨⟨_, Qf, ?_⟩, fun j hj => ⟨_, ab5, ?_⟩, fun j hj => ⟨_, YG, ?_⟩⟩) K []
 ·have e1 : (n : Int) - c.p - 1 = ((n - c.p.toNat - 1 : Nat) : Int) := by omega
  simp only [aa.all, ay, e1]
  exact ⟨⟨by omega, by omega⟩, ⟨by omega, ej (Nat.le_refl _), by omega, by omega, by omega⟩, 0, Nat.zero_le _, [(0, 0), (1, 4096), (2, 24576)], rfl, rfl, rfl, x4 rfl (by omega) (by omega) (aR rfl rfl (pN ⟨⟨rfl, aF rfl⟩, ⟨rfl, aF rfl⟩, ⟨rfl, s9 (by omega)⟩, trivial⟩) (aR rfl rfl (aM rfl rfl) (aR rfl rfl (aM rfl rfl) trivial)))⟩
 ·have e1 : ((j : Int) + 1).toNat = j + 1 := by omega
  have e2 : ((j : Int) + c.p + 1).toNat = j + q + 1 := by omega
  have e3 : j + q + 1 - (j + 1) = q := by omega
  simp only [aa.all, ay, decide_eq_true_eq, decide_eq_false_iff_not, Int.toNat_natCast, e1, e2, e3, Nat.add_zero]
  have h7 : fU (fun i => bp (rat (k i) sK)) n j = fU k n j := rfl
  have h8 : ∀ t, iS c.n (fun i => bp (rat (c.k i) sK)) t = iS c.n c.k t := fun _ => rfl
  simp only [h7, h8]
  refine ⟨fun h => ?_, fun h => ⟨rfl, j, by omega, [(0, 0), (1, 1), (2, 2), (3, 3)], rfl, rfl, rfl, bG rfl rfl rfl (fun _ _ => aM rfl rfl) (aR rfl rfl (qc rfl rfl rfl) (aR rfl rfl (aM rfl rfl) (aR rfl rfl (aM rfl rfl) trivial)))⟩⟩
  have h1 := TS (k := k) (n := n) (i := j) (by omega)
  have h2 := W2 hk (t := k (fU k n j))
  (repeat' with_reducible refine And.intro ?_ ?_)
  all_goals first | omega | exact ej (Nat.le_refl _) | exact hk | exact fun _ _ => .refl _ | skip
  refine ⟨j + 1, by omega, by dsimp only; omega, [(0, 0), (1, 1), (2, 2), (3, 147460)], rfl, rfl, rfl, bG rfl rfl rfl (fun j' hj' => BA (g := fun j => cV (yy c n k j) sB) (fun _ _ => ⟨rfl, rfl⟩) rfl ?_ hj') (aR rfl rfl (qc rfl rfl rfl) (aR rfl rfl (aM rfl rfl) (aR rfl rfl (aM rfl rfl) trivial)))⟩
  exact yU (h := ud c (iS c.n c.k (k (fU k n j))) q (fun q => k (q + (j + 1)))) (by unfold yy; rw [hq]) (Nat.le_refl _)
 ·subst hj
  simp only [aa.all, ay]
  exact ⟨⟨by omega, by omega⟩, by omega, .refl _⟩
theorem PR : ∀ K args pre r, Gc K args pre = some r → aA P xj K args pre r := dD fun ⟨c, ⟨n, k⟩, _⟩ K hn => Vv hn.1 hn.2.1 hn.2.2.1 hn.2.2.2.1 hn.2.2.2.2.1 hn.2.2.2.2.2.1 hn.2.2.2.2.2.2 K
theorem Lg : bg P I4 := dM (aH (Vy (by decide) (by decide)) (aH PR bn))
noncomputable def KJ : Spec := dn (kC (wg 2000 4000) (kC (jM 2000) kN)) (fun a => eL (ur a.1 a.2.1) sK sB) fun a => [Kn a.1.n a.1.p.toNat a.1.k, 1 ≤ a.1.p, a.1.p ≤ 6, a.1.n < 2 ^ 28, a.1.m < 2 ^ 40]
theorem Pq : ∀ K args pre r, KJ K args pre = some r → aA P z7 K args pre r := dD fun ⟨c, t, _⟩ K hn => by
 obtain ⟨h1, h2, h3, h4, h5⟩ : Kn c.n c.p.toNat c.k ∧ 1 ≤ c.p ∧ c.p ≤ 6 ∧ c.n < 2 ^ 28 ∧ c.m < 2 ^ 40 := hn
 have hl := h1.len
 refine bH (r := aG (eL (ur c t) sK sB) []) hT Lg hm SU rfl (of_decide_eq_true (by kernel_rfl)) rfl 60 My (fun _ => ?_) K []
 simp only [aa.all, ay]
 (repeat' with_reducible refine And.intro ?_ ?_)
 all_goals first | omega | exact ej (by decide) | exact h1 | exact Kc (by decide) | skip
 exact .refl _
theorem aaJ : ∀ K args pre r, Ia K args pre = some r → aA P og K args pre r := dD fun ⟨h, _⟩ K _ => Ix (by decide) (by decide) (by decide) K
theorem Y5 : bg P y7 := dM (aH (Te _ _) (aH aaJ bn))
theorem WX {c : Cu} (hn : c.n < 2 ^ 40) (hm2 : c.m < 2 ^ 29) (K : Nat) : aA P uD K [eL c sK sB] [] (aG (eV ⟨c.p, c.n, c.k, c.m, fun i => iU (c.f i)⟩ (sK + 10) (sB + sB)) []) := by
 refine gV (r := aG (eV ⟨c.p, c.n, c.k, c.m, fun i => iU (c.f i)⟩ (sK + 10) (sB + sB)) []) hT Y5 hm VL rfl (of_decide_eq_true (by kernel_rfl)) rfl [1,1,0,1] (i := 0) (y := part uX [1,1,0,1,0,0]) (z := part uX [1,1,1]) (by kernel_rfl) (by kernel_rfl) (by kernel_rfl) (f1 := []) (f2 := [16]) (f3 := []) 60 vj 3
  (fun i : Nat => C1 c i) (fun i => DG c i) (fun i => i ≤ c.m) (fun i => i = c.m) (fun i => c.m - i) (fun _ => ⟨⟨_, aa0, ?_⟩, fun i hi => ⟨_, Wj, ?_⟩, fun i hi => ⟨_, OJ, ?_⟩⟩) K []
 ·simp only [aa.all, ay]
  exact ⟨⟨by omega, by omega, ej (Nat.le_refl _), by omega, by decide, by omega, by omega⟩, by omega, 0, Nat.zero_le _, [(0, 4096), (1, 32768)], rfl, rfl, rfl, x4 rfl (by omega) (by omega) (aR rfl rfl (pN ⟨⟨rfl, aF rfl⟩, ⟨rfl, aF rfl⟩, ⟨rfl, s9 (by omega)⟩, trivial⟩) (aR rfl rfl (aM rfl rfl) trivial))⟩
 ·simp only [aa.all, ay, decide_eq_true_eq, decide_eq_false_iff_not, Int.toNat_natCast, Nat.add_zero]
  refine ⟨fun h => ?_, fun h => ⟨rfl, i, by omega, [(0, 0), (1, 1), (2, 2)], rfl, rfl, rfl, bG rfl rfl rfl (fun _ _ => aM rfl rfl) (aR rfl rfl (qc rfl rfl rfl) (aR rfl rfl (aM rfl rfl) trivial))⟩⟩
  (repeat' with_reducible refine And.intro ?_ ?_)
  all_goals first | omega | exact Nat.le_refl _ | skip
  exact ⟨i + 1, by omega, by dsimp only; omega, [(0, 0), (1, 1), (2, 40963)], rfl, rfl, rfl, bG rfl rfl rfl (fun j hj => BA (g := fun j => cY (iU (c.f j)) (sB + sB)) (fun _ _ => ⟨rfl, rfl⟩) rfl (.refl _) hj) (aR rfl rfl (qc rfl rfl rfl) (aR rfl rfl (aM rfl rfl) trivial))⟩
 ·subst hi
  simp only [aa.all, ay]
  exact ⟨⟨by omega, by omega⟩, by omega, .refl _⟩
def Hg : Spec := dn (kC (wg sK sB) kN) (fun a => eV ⟨a.1.p, a.1.n, a.1.k, a.1.m, fun i => iU (a.1.f i)⟩ (sK + 10) (sB + sB)) fun a => [a.1.n < 2 ^ 40, a.1.m < 2 ^ 29]
theorem YP : ∀ K args pre r, Hg K args pre = some r → aA P uD K args pre r := dD fun ⟨c, _⟩ K hn => WX hn.1 hn.2 K
end Go.Am.B

/- curve.inner, curve.Insert. -/
namespace Go.Am.B
open Go Go.Am.N AV aa aj IntKind
theorem SO : aO P Ar xu (ax xu) := aP PX (by kernel_rfl) (by kernel_rfl) (by kernel_rfl)
theorem abE : aO P y8 wF (ax wF) := aP OG (by kernel_rfl) (by kernel_rfl) (by kernel_rfl)
noncomputable def Je : aQ := nG :: (uC, Db) :: fZ
def IF : Spec := dn (kC (mQ 2000 2000) (kC (jM 2000) kN)) (fun a => .bool (decide (a.1.k 0 < a.2.1) && decide (a.2.1 < a.1.k (a.1.n - 1)))) fun a => [fy a.1]
def EB : Spec := dn (kC (mQ 2000 2000) kN) (fun a => eL ⟨a.1.p, a.1.n, a.1.k, a.1.m, fun i => iK (a.1.f i)⟩ 2000 4000) fun a => [a.1.n < 2 ^ 40, a.1.m < 2 ^ 30]
noncomputable def IT : aQ := nG :: (Ar, IF) :: (qU, C8) :: (oY, EB) :: (z7, KJ) :: (uD, Hg) :: []
def jT (c : Cu) (t : Rat) : Int := if ¬ (c.k 0 < t ∧ t < c.k (c.n - 1)) then 7 else if c.p ≤ (dA c.k t c.n : Int) then 5 else if 40 ≤ c.m then 2 else 0
def BD (c : Cu) (t : Rat) : Cu := ⟨c.p, c.n + 1, hH c.k t (fX c.k t c.n), c.n + 1 - c.p.toNat - 1, fun i => iU ((ur ⟨c.p, c.n, c.k, c.m, fun i => iK (c.f i)⟩ t).f i)⟩
def CZ : Cu := ⟨0, 0, fun _ => 0, 0, fun _ => ⟨⟨0, 0, 0⟩, 0⟩⟩
def rZ (c : Cu) (t : Rat) : Cu := if jT c t = 0 then BD c t else CZ
theorem We {c : Cu} {t : Rat} : bB T Je [16] 60 xu (ax xu) ⟨aL 0 [eV c 2000 2000, .rat t 2000], [], 0⟩ =
  let c9 : Prop := jv (fun i ↦ cY (c.f i) 2000) c.m sJ; let c8 : Prop := cz (fun i ↦ rat (c.k i) 2000) c.n sJ; let c7 : Prop := (0 : Int) ≤ (0 : Int) ∧ Int.toNat (0 : Int) < c.n; let c5 : Prop := fy (Cu.mk c.p c.n (fun i ↦ bp (rat (c.k i) 2000)) c.m fun i ↦ jH (cY (c.f i) 2000)); let c4 : Int := (↑c.n : Int) - (1 : Int); let c3 : Prop := 0 < 1; let c2 : Int := ef (c.k (Int.toNat (0 : Int))) t; let c1 : Prop := 2000 < 2 ^ 42; let c6 : Bool := bif true then decide (c2 < (0 : Int)) else false; some (fork c6 (ag [c3, c8, c9, c5, c3, c7, c3, c1, c1, c6 = true, c3, c3, c3, -(2 : Int) ^ 63 ≤ c4 ∧ c4 < (2 : Int) ^ 63, (0 : Int) ≤ c4 ∧ c4.toNat < c.n, c1, c1] (leaf ret [AV.bool (bif true then decide (ef t (c.k c4.toNat) < (0 : Int)) else false)])) (ag [c3, c8, c9, c5, c3, c7, c3, c1, c1, c6 = false] (leaf ret [AV.bool false]))) := by kernel_rfl
theorem Mg {c : Cu} {t : Rat} : bB T IT [6, 12, 21] 60 wF (ax wF) ⟨aL 0 [eV c 2000 2000, .rat t 2000], [], 0⟩ =
  let no : Int → aa (List AV) := fun e => ag [0 < 1] (ag [0 < 1] (leaf .ret [.agg [.int .i64 0, .nil, .nil], .int .i64 e])); let k : Prop := cz (fun i => .rat (c.k i) 2000) c.n 2000; let f : Prop := jv (fun i => cY (c.f i) 2000) c.m 2000
  some (ag [0 < 1, 0 < 1, k, f, 2000 ≤ 2000, fy c] (fork (!(decide (c.k 0 < t) && decide (t < c.k (c.n - 1)))) (no 7) (ag [0 < 1, 0 < 1, cz (fun i => .rat (c.k i) 2000) c.n sK, 2000 ≤ sK, c.n < 2 ^ 40, 0 < 1] (fork (decide ((dA c.k t c.n : Int) ≥ c.p)) (no 5) (ag [0 < 1] (fork (decide ((c.m : Int) ≥ 40)) (no 2)
   (ag [0 < 1, k, f, c.n < 2 ^ 40, c.m < 2 ^ 30, 0 < 1, k, mC (fun i => cV (iK (c.f i)) 4000) c.m 4000, 2000 ≤ 2000, Kn c.n c.p.toNat c.k, 1 ≤ c.p, c.p ≤ 6, c.n < 2 ^ 28, c.m < 2 ^ 40, cz (fun i => .rat (hH c.k t (fX c.k t c.n) i) sK) (c.n + 1) sK, mC (fun i => cV ((ur ⟨c.p, c.n, c.k, c.m, fun i => iK (c.f i)⟩ t).f i) sB) (c.n + 1 - c.p.toNat - 1) sB, c.n + 1 < 2 ^ 40, c.n + 1 - c.p.toNat - 1 < 2 ^ 29, 0 < 1] (ag [0 < 1] (leaf .ret [eV (BD c t) (sK + 10) (sB + sB), .int .i64 0]))))))))) := by kernel_rfl
theorem Tt : bg P Je := dM (aH I8 gU)
theorem WT {a b : Rat} : ef a b < (0 : Int) ↔ a < b := lX
theorem Sk : ∀ K args pre r, IF K args pre = some r → aA P Ar K args pre r := dD fun ⟨c, t, _⟩ K hn => by
 have hc : fy c := hn
 obtain ⟨h1, h2, h3, h4, h5⟩ := id hc
 have hl := h1.len
 refine bH (r := aG (.bool (decide (c.k 0 < t) && decide (t < c.k (c.n - 1)))) []) hT Tt hm SO rfl (of_decide_eq_true (by kernel_rfl)) rfl 60 We (fun _ => ?_) K []
 have e1 : ((c.n : Int) - 1).toNat = c.n - 1 := by omega
 simp only [aa.all, ay, e1, Int.toNat_zero, cond_true, cond_false, decide_eq_true_eq, decide_eq_false_iff_not, WT]
 refine ⟨fun h => ?_, fun h => ?_⟩
 ·(repeat' with_reducible refine And.intro ?_ ?_)
  all_goals first | omega | exact ej (by decide) | exact lG (by decide) | exact hc | exact h | decide | skip
  exact eO (by rw [decide_eq_true h, Bool.true_and])
 ·(repeat' with_reducible refine And.intro ?_ ?_)
  all_goals first | omega | exact ej (by decide) | exact lG (by decide) | exact hc | exact h | decide | skip
  exact eO (by rw [decide_eq_false h, Bool.false_and])
theorem ZO : ∀ K args pre r, EB K args pre = some r → aA P oY K args pre r := dD fun ⟨c, _⟩ K hn => Kp (by decide) (by decide) (by decide) hn.1 hn.2 K
theorem Xa : bg P IT := dM (aH Sk (aH I9 (aH ZO (aH Pq (aH YP bn)))))
theorem Qq {x y : Nat} : bA (.agg [.int .i64 0, .nil, .nil]) (eV CZ x y) := ee ⟨.refl _, jf (by decide), jf (by decide), trivial⟩
def IQ : Spec := dn (kC (mQ 2000 2000) (kC (jM 2000) kN)) (fun a => .tuple [eV (rZ a.1 a.2.1) (sK + 10) (sB + sB), .int .i64 (jT a.1 a.2.1)]) fun a => [fy a.1]
theorem ZG : ∀ K args pre r, IQ K args pre = some r → aA P y8 K args pre r := dD fun ⟨c, t, _⟩ K hn => by
 have hc : fy c := hn
 obtain ⟨h1, h2, h3, h4, h5⟩ := id hc
 have hl := h1.len
 refine bH (r := aG (.tuple [eV (rZ c t) (sK + 10) (sB + sB), .int .i64 (jT c t)]) []) hT Xa hm abE rfl (of_decide_eq_true (by kernel_rfl)) rfl 60 Mg (fun _ => ?_) K []
 have no : ∀ {e : Int}, jT c t = e → e ≠ 0 → dg [.agg [.int .i64 0, .nil, .nil], .int .i64 e] (.tuple [eV (rZ c t) (sK + 10) (sB + sB), .int .i64 (jT c t)]) := fun {e} he h0 => by
  refine ⟨?_, bq he.symm, trivial⟩
  rw [show rZ c t = CZ from if_neg (by rw [he]; exact h0)]
  exact Qq
 simp only [aa.all, ay, decide_eq_true_eq, decide_eq_false_iff_not, Bool.not_eq_true', Bool.not_eq_false', Bool.and_eq_true, Bool.and_eq_false_iff]
 refine ⟨⟨by omega, by omega, ej (Nat.le_refl _), lG (Nat.le_refl _), Nat.le_refl _, hc⟩, fun ho => ⟨by omega, by omega, no ?_ (by decide)⟩, fun hi => ⟨?_, fun h6 => ⟨by omega, by omega, no ?_ (by decide)⟩, fun h6 => ⟨by omega, fun h7 => ⟨by omega, by omega, no ?_ (by decide)⟩, fun h7 => ⟨?_, by omega, ?_⟩⟩⟩⟩
 ·unfold jT; rw [if_pos fun h => ho.elim (fun g => g h.1) fun g => g h.2]
 ·exact ⟨by omega, by omega, ej (by decide), by decide, by omega, by omega⟩
 ·unfold jT; rw [if_neg (fun g => g hi), if_pos h6]
 ·unfold jT; rw [if_neg (fun g => g hi), if_neg h6, if_pos (by omega)]
 ·(repeat' with_reducible refine And.intro ?_ ?_)
  all_goals first | omega | exact ej (by decide) | exact lG (Nat.le_refl _) | exact Kc (Nat.le_refl _) | exact h1 | exact Nat.le_refl _ | skip
 ·have he : jT c t = 0 := by unfold jT; rw [if_neg (fun g => g hi), if_neg h6, if_neg (by omega)]
  refine ⟨?_, bq he.symm, trivial⟩
  rw [show rZ c t = BD c t from if_pos he]
  exact .refl _
end Go.Am.B

/- rational.Valid, rational.Bits; the closures of curve.Check; slices.Clone, curve.numbers, curve.Check. -/
namespace Go.Am.B
open Go Go.Am.N AV aa aj IntKind
theorem Q9 : aO P tT su (ax su) := aP U2 (by kernel_rfl) (by kernel_rfl) (by kernel_rfl)
theorem X6 : aO P wT uo (ax uo) := aP NG (by kernel_rfl) (by kernel_rfl) (by kernel_rfl)
theorem Xw : aO P sP xE (ax xE) := aP Zl (by kernel_rfl) (by kernel_rfl) (by kernel_rfl)
theorem Tz : aO P rE zI (ax zI) := aP Wx (by kernel_rfl) (by kernel_rfl) (by kernel_rfl)
theorem Qw : aO P g8 vF (ax vF) := aP XV (by kernel_rfl) (by kernel_rfl) (by kernel_rfl)
theorem ab7 : aO P fC vP (ax vP) := aP Xq (by kernel_rfl) (by kernel_rfl) (by kernel_rfl)
theorem VE : aO P gP ua (ax ua) := aP L7 (by kernel_rfl) (by kernel_rfl) (by kernel_rfl)
theorem JR : aO P u7 uh (ax uh) := aP Wu (by kernel_rfl) (by kernel_rfl) (by kernel_rfl)
theorem OH : aO P r6 vh (ax vh) := aP Nx (by kernel_rfl) (by kernel_rfl) (by kernel_rfl)
theorem UX : aO P zg tK (ax tK) := aP Ww (by kernel_rfl) (by kernel_rfl) (by kernel_rfl)
theorem Yv : aO P zn uN (ax uN) := aP W3 (by kernel_rfl) (by kernel_rfl) (by kernel_rfl)
theorem abI : aO P uE uB (ax uB) := aP VI (by kernel_rfl) (by kernel_rfl) (by kernel_rfl)
theorem Ta : aO P zM tF (ax tF) := aP Nz (by kernel_rfl) (by kernel_rfl) (by kernel_rfl)
def KE : Spec := bu fun l => match l with
 | [.mag N] => some (aG (.bool true) [nl N < 2 ^ 40])
 | _ => none
def CX : aQ := nG :: (tT, KE) :: (qM, bu (jr DE)) :: (ru, bu (fM DB)) :: (qQ, B9) :: []
def Il : Spec := bu fun l => match l with
 | [.rat q n] => some (aG (.bool true) [n < 2 ^ 44])
 | _ => none
def FR : Spec := bu fun l => match l with
 | [.rat q n] => some (aG (.int .i64 (bS q : Nat)) [n < 2 ^ 44])
 | _ => none
def yq : Spec := bu fun l => match l with
 | [.rat q n] => some (aG (.bool false) [n ≤ 2048])
 | _ => none
def yM : aQ := nG :: (wT, Il) :: (sP, FR) :: fZ
def abG (s : Nat) : Kind Pl := ⟨fun v => match yB v with
 | some (a, q) => some (a.1, q ++ [a.2 ≤ s])
 | none => none, fun a => cY a s, fun {v a q} h hq => by
  split at h
  ·rename_i b q' hb
   simp only [Option.some.injEq, Prod.mk.injEq] at h
   obtain ⟨rfl, rfl⟩ := h
   obtain ⟨q1, q2⟩ := dy.1 hq
   refine bA.trans (Ub.ok hb q1) ?_
   show bA (cY b.1 b.2) (cY b.1 s)
   exact ee ⟨ee ⟨ew q2, ew q2, ew q2, trivial⟩, ew q2, trivial⟩
  ·simp at h⟩
def I5 : Spec := dn (kC (abG 2048) kN) (fun _ => .bool false) fun a => [0 < a.1.d]
def yJ : Kind FuncId := ⟨fun v => match v with
 | .func f [] => some (f, [])
 | _ => none, fun g => .func g [], fun {v a q} h _ => by
  split at h
  ·simp only [Option.some.injEq, Prod.mk.injEq] at h
   obtain ⟨rfl, rfl⟩ := h
   exact .refl _
  ·simp at h⟩
noncomputable def GX : aQ := nG :: (g8, yq) :: (gP, yq) :: (fC, I5) :: []
abbrev iR : List Nat := [4, 0, 1, 7, 8]
abbrev rR (n i : Nat) (k : Nat → Rat) (g : FuncId) : List AV := [.int .i64 0, bI k n 2048, .func g [], .int .i64 n, .int .i64 i]
abbrev Br (n i : Nat) (f : Nat → Pl) (g : FuncId) : List AV := [.int .i64 0, lN f n 2048, .func g [], .int .i64 n, .int .i64 i]
noncomputable abbrev nu : Code := ax uh
noncomputable abbrev wu : Code := ax vh
noncomputable def HV : Spec := dn (kC (kL 2048) (kC yJ kN)) (fun _ => .int .i64 (-1)) fun a => [a.1.1 < 2 ^ 40, a.2.1 = g8 ∨ a.2.1 = gP]
noncomputable def ID : Spec := dn (kC (kL 2048) (kC yJ kN)) (fun _ => .bool false) fun a => [a.1.1 < 2 ^ 40, a.2.1 = g8 ∨ a.2.1 = gP]
noncomputable def GY : aQ := nG :: (u7, HV) :: []
def IA : Spec := pS fun K l => match l with
 | [v] => match (kL 2048).read v with
  | some ((n, k), q) => some ⟨.own K 3 0 n, [(K, ⟨true, true, 3, n, fun i => .rat (k i) 2048⟩)], q ++ [1 ≤ n, n < 2 ^ 30]⟩
  | none => none
 | _ => none
def iD (c : Cu) (j : Nat) : Rat := if j < c.n then c.k j else l8 (c.f ((j - c.n) / 4)) ((j - c.n) % 4)
def x5 : aQ := nG :: (rE, IA) :: []
abbrev r9 : List Nat := [2, 3, 10, 11, 12]
abbrev C7 (c : Cu) (i : Nat) : List AV := [.nil, .own 0 3 0 (c.n + 4 * i), lN c.f c.m 2048, .int .i64 c.m, .int .i64 i]
abbrev CS (c : Cu) (i : Nat) : aD := [(0, ⟨true, true, 3, c.n + 4 * i, fun j => .rat (iD c j) 2048⟩)]
noncomputable abbrev xd : Code := ax uB
def Hx : Spec := dn (kC (mQ 2048 2048) kN) (fun a => bI (iD a.1) (a.1.n + 4 * a.1.m) 2048) fun a => [1 ≤ a.1.n, a.1.n < 2 ^ 30, a.1.m < 2 ^ 28]
theorem abJ {N : Nat} : bB T [nG] [6] 60 su (ax su) ⟨aL 0 [.mag N], [], 0⟩ =
  let c2 : Bool := (↑(nl N) : Int) == (0 : Int); let c1 : Int := (↑(nl N) : Int) - (1 : Int); some (fork c2 (ag [c2 = true] (leaf ret [AV.bool true])) (ag [c2 = false, -(2 : Int) ^ 63 ≤ c1 ∧ c1 < (2 : Int) ^ 63, (0 : Int) ≤ c1 ∧ c1.toNat < nl N] (leaf ret [AV.bool (bif false then true else (↑(au N c1.toNat) : Int) != (0 : Int))]))) := by kernel_rfl
theorem Zr {q : Rat} {n : Nat} : bB T CX [18, 25, 29, 33, 43] 60 uo (ax uo) ⟨aL 0 [.rat q n], [], 0⟩ =
  let c9 : aa (List AV) := leaf ret [AV.bool false]; let c7 : Bool := !decide (q < 0); let c6 : Nat := q.num.natAbs; let c4 : Nat := 2 ^ 40; let c3 : Prop := 0 < 1; let c2 : Nat := if q.den = 1 then 0 else q.den; let c5 : Int := (↑(nl c2) : Int); let c10 : Bool := c5 == (1 : Int); let c8 : Bool := c5 == (0 : Int); let c1 : aa (List AV) := ag [c3] (fork ((↑(nl c6) : Int) == (0 : Int)) (fork c7 (ag [c3, c7 = true, c3] (leaf ret [AV.bool (bif true then c8 else false)])) (ag [c3, c7 = false] c9)) (fork c8 (ag [c3, c8 = true] (leaf ret [AV.bool true])) (ag [c3, c8 = false, c3, c3, nl c6 < c4, nl c2 < c4, nl (c6.gcd c2) < c4] (leaf ret [AV.bool (bif false then true else (↑(aZ (c6.gcd c2)) : Int) == (1 : Int))])))); some (fork c10 (ag [c3, nl c6 < c4, c3, nl c2 < c4, c3, c10 = true, c3, (0 : Int) ≤ (0 : Int) ∧ Int.toNat (0 : Int) < nl c2] (fork (bif bif !true then true else !true then true else bif true then (↑(au c2 (Int.toNat (0 : Int))) : Int) == (1 : Int) else false) c9 c1)) (ag [c3, nl c6 < c4, c3, nl c2 < c4, c3, c10 = false] (fork false c9 c1))) := by kernel_rfl
theorem Ny {q : Rat} {n : Nat} : bB T CX [] 60 xE (ax xE) ⟨aL 0 [.rat q n], [], 0⟩ =
  let c2 : Int := (↑(aZ q.den) : Int); let c1 : Int := (↑(aZ q.num.natAbs) : Int); some (ag [(0 : Nat) < 1, nl q.num.natAbs < 2 ^ 40, (0 : Nat) < 1, nl q.den < 2 ^ 40] (leaf ret [int i64 (if c1 < c2 then c2 else c1)])) := by kernel_rfl
theorem Sy {q : Rat} {n : Nat} : bB T yM [] 60 vF (ax vF) ⟨aL 0 [.rat q n], [], 0⟩ =
  some (ag [(0 : Nat) < 1, n < 2 ^ 44] (leaf ret [AV.bool false])) := by kernel_rfl
theorem XX {q : Rat} {n : Nat} : bB T yM [] 60 ua (ax ua) ⟨aL 0 [.rat q n], [], 0⟩ =
  some (ag [(0 : Nat) < 1, n < 2 ^ 44] (leaf ret [AV.bool (decide ((↑(bS q) : Int) > (2048 : Int)))])) := by kernel_rfl
theorem ab3 {p : Pl} : bB T yM [] 60 vP (ax vP) ⟨aL 0 [cY p 2048], [], 0⟩ =
  some (ag [(0 : Nat) < 1, (2048 : Nat) < 2 ^ 42] (leaf ret [AV.bool (decide (bK p.d ≤ (0 : Int)))])) := by kernel_rfl
theorem PB {n s : Nat} {k : Nat → Rat} : aI T [nG] [] 60 [2] [ax zI] ⟨aL 0 [.cL false 3 n (fun i => .rat (k i) s)], [], 0⟩ =
  some (ag [(0 : Nat) * 3 ≤ 2 ^ 24, ((0 : Nat) + n) * ((56 : Nat) + 1) * 2 ≤ 2 ^ 47] (leaf ret ([own 20480 3 0 ((0 : Nat) + n)], [((20480 : Nat), az.mk true true 3 ((0 : Nat) + n) fun i ↦ rat (k (i - 0)) s)]))) := by kernel_rfl
theorem HH {n : Nat} {k : Nat → Rat} {g : FuncId} : aI T GX [] 60 iR (before nu [1,0,1]) ⟨aL 0 [bI k n 2048, .func g []], [], 0⟩ =
  some (leaf normal ([int i64 (0 : Int), ak 3 n fun i ↦ rat (k i) 2048, func g [], int i64 (↑n : Int), int i64 (0 : Int)], [])) := by kernel_rfl
theorem X4 {n i : Nat} {k : Nat → Rat} : aI T GX [9] 60 iR [part nu [1,0,1,0,0]] ⟨aC iR (rR n i k g8), [], 0⟩ =
  let c4 : Int := (↑n : Int); let c2 : AV := ak 3 n fun i ↦ rat (k i) 2048; let c1 : Int := (↑i : Int); let c3 : Int := c1 + (1 : Int); some (fork (decide (c1 < c4)) (ag [(0 : Int) ≤ c1 ∧ c1.toNat < n, (2048 : Nat) ≤ 2048] (ag [-(2 : Int) ^ 63 ≤ c3 ∧ c3 < (2 : Int) ^ 63] (leaf normal ([int i64 (0 : Int), c2, func g8 [], int i64 c4, int i64 c3], [])))) (leaf (exit 0) ([int i64 (0 : Int), c2, func g8 [], int i64 c4, int i64 c1], []))) := by kernel_rfl
theorem Mv {n i : Nat} {k : Nat → Rat} : aI T GX [9] 60 iR [part nu [1,0,1,0,0]] ⟨aC iR (rR n i k gP), [], 0⟩ =
  let c4 : Int := (↑n : Int); let c2 : AV := ak 3 n fun i ↦ rat (k i) 2048; let c1 : Int := (↑i : Int); let c3 : Int := c1 + (1 : Int); some (fork (decide (c1 < c4)) (ag [(0 : Int) ≤ c1 ∧ c1.toNat < n, (2048 : Nat) ≤ 2048] (ag [-(2 : Int) ^ 63 ≤ c3 ∧ c3 < (2 : Int) ^ 63] (leaf normal ([int i64 (0 : Int), c2, func gP [], int i64 c4, int i64 c3], [])))) (leaf (exit 0) ([int i64 (0 : Int), c2, func gP [], int i64 c4, int i64 c1], []))) := by kernel_rfl
theorem E1 {n i : Nat} {k : Nat → Rat} {g : FuncId} : cq T GX [] 60 uh [part nu [1,1]] ⟨aC iR (rR n i k g), [], 0⟩ =
  some (leaf ret [int i64 (-1 : Int)]) := by kernel_rfl
theorem V7 {n : Nat} {f : Nat → Pl} : aI T GX [] 60 iR (before wu [1,0,1]) ⟨aL 0 [lN f n 2048, .func fC []], [], 0⟩ =
  some (leaf normal ([int i64 (0 : Int), ak 12 n fun i ↦ agg [agg [rat (f i).n.x 2048, rat (f i).n.y 2048, rat (f i).n.z 2048], rat (f i).d 2048], func fC [], int i64 (↑n : Int), int i64 (0 : Int)], [])) := by kernel_rfl
theorem Tm {n i : Nat} {f : Nat → Pl} : aI T GX [9] 60 iR [part wu [1,0,1,0,0]] ⟨aC iR (Br n i f fC), [], 0⟩ =
  let c5 : Int := (↑n : Int); let c3 : Prop := 2048 ≤ 2048; let c2 : Int := (↑i : Int); let c1 : AV := ak 12 n fun i ↦ agg [agg [rat (f i).n.x 2048, rat (f i).n.y 2048, rat (f i).n.z 2048], rat (f i).d 2048]; let c4 : Int := c2 + (1 : Int); some (fork (decide (c2 < c5)) (ag [(0 : Int) ≤ c2 ∧ c2.toNat < n, c3, c3, Max.max 2048 2048 ≤ 2048, (0 : Rat) < (f c2.toNat).d] (ag [-(2 : Int) ^ 63 ≤ c4 ∧ c4 < (2 : Int) ^ 63] (leaf normal ([int i64 (0 : Int), c1, func fC [], int i64 c5, int i64 c4], [])))) (leaf (exit 0) ([int i64 (0 : Int), c1, func fC [], int i64 c5, int i64 c2], []))) := by kernel_rfl
theorem LW {n i : Nat} {f : Nat → Pl} : cq T GX [] 60 vh [part wu [1,1]] ⟨aC iR (Br n i f fC), [], 0⟩ =
  some (leaf ret [int i64 (-1 : Int)]) := by kernel_rfl
theorem S7 {n : Nat} {k : Nat → Rat} {g : FuncId} : bB T GY [] 60 tK (ax tK) ⟨aL 0 [bI k n 2048, .func g []], [], 0⟩ =
  some (ag [cz (fun i ↦ rat (k i) 2048) n 2048, n < 2 ^ 40, g = g8 ∨ g = gP] (leaf ret [AV.bool false])) := by kernel_rfl
theorem ZQ {c : Cu} : aI T x5 [] 60 r9 (before xd [1,1,0,1]) ⟨aL 0 [eV c 2048 2048], [], 0⟩ =
  some (ag [(0 : Nat) < 1, cz (fun i ↦ rat (c.k i) 2048) c.n 2048, (1 : Nat) ≤ c.n, c.n < 2 ^ 30] (ag [(0 : Nat) < 1] (leaf normal ([nil, own 16384 3 0 c.n, ak 12 c.m fun i ↦ agg [agg [rat (c.f i).n.x 2048, rat (c.f i).n.y 2048, rat (c.f i).n.z 2048], rat (c.f i).d 2048], int i64 (↑c.m : Int), int i64 (0 : Int)], [((16384 : Nat), az.mk true true 3 c.n fun i ↦ rat (bp (rat (c.k i) 2048)) 2048)])))) := by kernel_rfl
theorem Ws {c : Cu} {i : Nat} : aI T x5 [13] 60 r9 [part xd [1,1,0,1,0,0]] ⟨aC r9 (C7 c i), CS c i, 1⟩ =
  let c7 : Int := (↑c.m : Int); let c5 : Int := (↑(3 : Nat) : Int); let c4 : Prop := 0 < 1; let c3 : Int := (↑i : Int); let c2 : Nat := c.n + 4 * i; let c1 : AV := ak 12 c.m fun i ↦ agg [agg [rat (c.f i).n.x 2048, rat (c.f i).n.y 2048, rat (c.f i).n.z 2048], rat (c.f i).d 2048]; let c9 : Nat := c2 + 4; let c8 : Int := c3 + (1 : Int); let c6 : Pl := c.f c3.toNat; some (fork (decide (c3 < c7)) (ag [(0 : Int) ≤ c3 ∧ c3.toNat < c.m, c4] (ag [(0 : Int) ≤ (0 : Int) ∧ (0 : Int) < c5, c4, (0 : Int) ≤ (1 : Int) ∧ (1 : Int) < c5, c4, (0 : Int) ≤ (2 : Int) ∧ (2 : Int) < c5, c4, c4, (4 : Nat) * 3 ≤ 2 ^ 24, c9 * ((56 : Nat) + 1) * 2 ≤ 2 ^ 47] (ag [-(2 : Int) ^ 63 ≤ c8 ∧ c8 < (2 : Int) ^ 63] (leaf normal ([nil, own 73729 3 0 c9, c1, int i64 c7, int i64 c8], [((73729 : Nat), az.mk true true 3 c9 fun i ↦ if i < c2 then rat (iD c i) 2048 else nth [rat c6.n.x 2048, rat c6.n.y 2048, rat c6.n.z 2048, rat c6.d 2048] (rat 0 1) (i - c2 + 0))]))))) (leaf (exit 0) ([nil, own 0 3 0 c2, c1, int i64 c7, int i64 c3], [((0 : Nat), az.mk true true 3 c2 fun j ↦ rat (iD c j) 2048)]))) := by kernel_rfl
theorem Y2 {c : Cu} {i : Nat} : cq T x5 [] 60 uB [part xd [1,1,1]] ⟨aC r9 (C7 c i), CS c i, 1⟩ =
  some (leaf ret [ak 3 (c.n + 4 * i) fun i ↦ rat (iD c (i + 0)) 2048]) := by kernel_rfl
theorem LC {N : Nat} (hn : nl N < 2 ^ 40) (K : Nat) : aA P tT K [.mag N] [] (aG (.bool true) []) := by
 refine bH hT (dM bn) hm Q9 rfl (of_decide_eq_true (by kernel_rfl)) rfl 60 abJ (fun _ => ?_) K []
 simp only [aa.all, ay]
 refine ⟨fun h => ⟨h, .refl _⟩, fun h => ?_⟩
 have h0 : nl N ≠ 0 := fun he => by rw [he] at h; exact absurd h (by decide)
 have h1 : N ≠ 0 := fun he => h0 (gH.2 he)
 have e1 : ((nl N : Int) - 1).toNat = nl N - 1 := by omega
 have h2 := Af h1
 rw [e1]
 refine ⟨⟨h, by omega, by omega⟩, eO ?_⟩
 rw [cond_false]
 exact bne_iff_ne.2 (by omega)
theorem Yb : ∀ K args pre r, KE K args pre = some r → aA P tT K args pre r := by
 refine bN fun K args r hk hs _ => ?_
 split at hs
 ·simp only [Option.some.injEq] at hs
  subst hs
  exact fun need => LC need K trivial
 ·simp at hs
theorem Fb : bg P CX := dM (aH Yb (aH FQ (aH J1 (aH Gw bn))))
theorem Y3 {N : Nat} (h : nl N = 1) (h1 : au N 0 = 1) : N = 1 := by
 have h2 : N < 2 ^ (32 * 1) := cB.1 (by omega)
 unfold au at h1
 omega
theorem VK {q : Rat} {n : Nat} (hn : n < 2 ^ 44) (K : Nat) : aA P wT K [.rat q n] [] (aG (.bool true) []) := by
 refine gL fun ⟨hs1, _⟩ => ?_
 obtain ⟨a1, a2, a3⟩ := Sz.gr hs1 hn
 refine bH hT Fb hm X6 rfl (of_decide_eq_true (by kernel_rfl)) rfl 60 Zr (fun _ => ?_) K []
 obtain ⟨D, hD⟩ : ∃ D, D = if q.den = 1 then 0 else q.den := ⟨_, rfl⟩
 have hD1 : D ≠ 1 := by rw [hD]; split <;> omega
 have hg : D ≠ 0 → q.num.natAbs.gcd D = 1 := fun h => by
  have : D = q.den := by rw [hD] at h ⊢; split <;> simp_all
  rw [this]; exact q.reduced
 have hz : q.num.natAbs = 0 → ¬ q < 0 ∧ D = 0 := fun h => by
  have h0 := mB.1 h
  subst h0
  exact ⟨by decide, by rw [hD]; rfl⟩
 rw [← hD] at a3 ⊢
 have nneg : ((nl q.num.natAbs : Int) == 0) = true → (!decide (q < 0)) = true ∧ ((nl D : Int) == 0) = true := fun h => by
  obtain ⟨z1, z2⟩ := hz (gH.1 (by have := beq_iff_eq.1 h; omega))
  rw [decide_eq_false z1, z2]; exact ⟨rfl, rfl⟩
 have last : ((nl D : Int) == 0) = false → D ≠ 0 := fun h he => by rw [he] at h; exact absurd h (by decide)
 simp only [aa.all, ay, cond_true, cond_false, Bool.not_true]
 refine ⟨fun h => ⟨⟨by omega, a1, by omega, a3, by omega, h, by omega, by omega, ?_⟩, fun h2 => ?_, fun h2 => ⟨by omega, fun h3 => ⟨fun h4 => ⟨⟨by omega, h4, by omega⟩, eO (nneg h3).2⟩, fun h4 => absurd (h4.symm.trans (nneg h3).1) (by decide)⟩, fun h3 => ⟨fun h4 => ⟨⟨by omega, h4⟩, .refl _⟩, fun h4 => ?_⟩⟩⟩,
  fun h => ⟨⟨by omega, a1, by omega, a3, by omega, h⟩, fun h => absurd h (by decide), fun _ => ⟨by omega, fun h3 => ⟨fun h4 => ⟨⟨by omega, h4, by omega⟩, eO (nneg h3).2⟩, fun h4 => absurd (h4.symm.trans (nneg h3).1) (by decide)⟩, fun h3 => ⟨fun h4 => ⟨⟨by omega, h4⟩, .refl _⟩, fun h4 => ?_⟩⟩⟩⟩
 ·have := beq_iff_eq.1 h
  rw [Int.toNat_zero]; omega
 ·have e1 := beq_iff_eq.1 h
  have e2 := beq_iff_eq.1 h2
  exact absurd (Y3 (by omega) (by rw [Int.toNat_zero] at e2; omega)) hD1
 ·rw [hg (last h4)]
  exact ⟨⟨by omega, h4, by omega, by omega, a1, a3, by decide⟩, eO (by decide)⟩
 ·rw [hg (last h4)]
  exact ⟨⟨by omega, h4, by omega, by omega, a1, a3, by decide⟩, eO (by decide)⟩
theorem MW : ∀ K args pre r, Il K args pre = some r → aA P wT K args pre r := by
 refine bN fun K args r hk hs _ => ?_
 split at hs
 ·simp only [Option.some.injEq] at hs
  subst hs
  exact fun need => VK need K trivial
 ·simp at hs
theorem Yw {q : Rat} {n : Nat} (hn : n < 2 ^ 44) (K : Nat) : aA P sP K [.rat q n] [] (aG (.int .i64 (bS q : Nat)) []) := by
 refine gL fun ⟨hs1, _⟩ => ?_
 obtain ⟨a1, a2, a3⟩ := Sz.gr hs1 hn
 refine bH hT Fb hm Xw rfl (of_decide_eq_true (by kernel_rfl)) rfl 60 Ny (fun _ => ?_) K []
 simp only [aa.all, ay]
 refine ⟨⟨by omega, a1, by omega, a2⟩, bq ?_⟩
 unfold bS
 split <;> omega
theorem RY : ∀ K args pre r, FR K args pre = some r → aA P sP K args pre r := by
 refine bN fun K args r hk hs _ => ?_
 split at hs
 ·simp only [Option.some.injEq] at hs
  subst hs
  exact fun need => Yw need K trivial
 ·simp at hs
theorem B6 : bg P yM := dM (aH MW (aH RY gU))
theorem Zi : ∀ K args pre r, yq K args pre = some r → aA P g8 K args pre r := by
 refine bN fun K args r hk hs _ => ?_
 split at hs
 ·rename_i q n
  simp only [Option.some.injEq] at hs
  subst hs
  intro need
  have hn : n ≤ 2048 := need
  refine bH (r := aG (.bool false) [n ≤ 2048]) hT B6 hm Qw rfl (of_decide_eq_true (by kernel_rfl)) rfl 60 Sy (fun _ => ?_) K [] need
  simp only [aa.all, ay]
  (repeat' with_reducible refine And.intro ?_ ?_)
  all_goals first | omega | exact .refl _ | skip
 ·simp at hs
theorem aaG : ∀ K args pre r, yq K args pre = some r → aA P gP K args pre r := by
 refine bN fun K args r hk hs _ => ?_
 split at hs
 ·rename_i q n
  simp only [Option.some.injEq] at hs
  subst hs
  intro need
  have hn : n ≤ 2048 := need
  refine (gL (P := P) (f := gP) (K := K) (args := [.rat q n]) (pre := []) (v := .bool false) (l := [n ≤ 2048]) fun ⟨hs1, _⟩ => ?_) need
  have h1 := Pb.1 hs1
  refine bH (r := aG (.bool false) [n ≤ 2048]) hT B6 hm VE rfl (of_decide_eq_true (by kernel_rfl)) rfl 60 XX (fun _ => ?_) K []
  simp only [aa.all, ay]
  (repeat' with_reducible refine And.intro ?_ ?_)
  all_goals first | omega | skip
  exact eO (decide_eq_false (by omega))
 ·simp at hs
theorem SF : ∀ K args pre r, I5 K args pre = some r → aA P fC K args pre r := dD fun ⟨p, _⟩ K hn => by
 have hd : 0 < p.d := hn
 refine bH (r := aG (.bool false) []) hT B6 hm ab7 rfl (of_decide_eq_true (by kernel_rfl)) rfl 60 ab3 (fun _ => ?_) K []
 have hs : bK p.d = 1 := by
  unfold bK
  rw [if_neg (by grind), if_pos hd]
 simp only [aa.all, ay, hs]
 (repeat' with_reducible refine And.intro ?_ ?_)
 all_goals first | omega | decide | exact .refl _ | skip
theorem By : bg P GX := dM (aH Zi (aH aaG (aH SF bn)))
theorem Mt {n : Nat} {k : Nat → Rat} {g : FuncId} (hn : n < 2 ^ 40) (hg : g = g8 ∨ g = gP) (K : Nat) : aA P u7 K [bI k n 2048, .func g []] [] (aG (.int .i64 (-1)) []) := by
 rcases hg with rfl | rfl
 ·refine gV (r := aG (.int .i64 (-1)) []) hT By hm JR rfl (of_decide_eq_true (by kernel_rfl)) rfl [1,0,1] (i := 0) (y := part nu [1,0,1,0,0]) (z := part nu [1,1]) (by kernel_rfl) (by kernel_rfl) (by kernel_rfl) (f1 := []) (f2 := [9]) (f3 := []) 60 iR 0
   (fun i : Nat => rR n i k g8) (fun _ => []) (fun i => i ≤ n) (fun i => i = n) (fun i => n - i) (fun _ => ⟨⟨_, HH, ?_⟩, fun i hi => ⟨_, X4, ?_⟩, fun i hi => ⟨_, E1, ?_⟩⟩) K []
  ·simp only [aa.all, ay]
   exact ⟨0, Nat.zero_le _, [], rfl, rfl, rfl, trivial⟩
  ·simp only [aa.all, ay, decide_eq_true_eq, decide_eq_false_iff_not, Int.toNat_natCast]
   exact ⟨fun h => ⟨⟨by omega, by omega⟩, by omega, i + 1, by omega, by dsimp only; omega, [], rfl, rfl, rfl, trivial⟩, fun h => ⟨rfl, i, by omega, [], rfl, rfl, rfl, trivial⟩⟩
  ·simp only [aa.all, ay]
   exact .refl _
 ·refine gV (r := aG (.int .i64 (-1)) []) hT By hm JR rfl (of_decide_eq_true (by kernel_rfl)) rfl [1,0,1] (i := 0) (y := part nu [1,0,1,0,0]) (z := part nu [1,1]) (by kernel_rfl) (by kernel_rfl) (by kernel_rfl) (f1 := []) (f2 := [9]) (f3 := []) 60 iR 0
   (fun i : Nat => rR n i k gP) (fun _ => []) (fun i => i ≤ n) (fun i => i = n) (fun i => n - i) (fun _ => ⟨⟨_, HH, ?_⟩, fun i hi => ⟨_, Mv, ?_⟩, fun i hi => ⟨_, E1, ?_⟩⟩) K []
  ·simp only [aa.all, ay]
   exact ⟨0, Nat.zero_le _, [], rfl, rfl, rfl, trivial⟩
  ·simp only [aa.all, ay, decide_eq_true_eq, decide_eq_false_iff_not, Int.toNat_natCast]
   exact ⟨fun h => ⟨⟨by omega, by omega⟩, by omega, i + 1, by omega, by dsimp only; omega, [], rfl, rfl, rfl, trivial⟩, fun h => ⟨rfl, i, by omega, [], rfl, rfl, rfl, trivial⟩⟩
  ·simp only [aa.all, ay]
   exact .refl _
theorem Oz : ∀ K args pre r, HV K args pre = some r → aA P u7 K args pre r := dD fun ⟨⟨n, k⟩, g, _⟩ K hn => Mt hn.1 hn.2 K
theorem LH : bg P GY := dM (aH Oz bn)
theorem Z8 : ∀ K args pre r, ID K args pre = some r → aA P zg K args pre r := dD fun ⟨⟨n, k⟩, g, _⟩ K hn => by
 refine bH (r := aG (.bool false) []) hT LH hm UX rfl (of_decide_eq_true (by kernel_rfl)) rfl 60 S7 (fun _ => ?_) K []
 simp only [aa.all, ay]
 exact ⟨⟨ej (Nat.le_refl _), hn.1, hn.2⟩, .refl _⟩
noncomputable def Fz : Spec := dn (kC (yo 2048) (kC yJ kN)) (fun _ => .int .i64 (-1)) fun a => [a.1.1 < 2 ^ 40, ∀ i, i < a.1.1 → 0 < (a.1.2 i).d, a.2.1 = fC]
noncomputable def Jt : Spec := dn (kC (yo 2048) (kC yJ kN)) (fun _ => .bool false) fun a => [a.1.1 < 2 ^ 40, ∀ i, i < a.1.1 → 0 < (a.1.2 i).d, a.2.1 = fC]
noncomputable def FH : aQ := nG :: (r6, Fz) :: []
noncomputable def E7 : aQ := nG :: (uE, Hx) :: (zg, ID) :: (zn, Jt) :: (qG, B0) :: (oQ, uQ) :: []
theorem SW {n : Nat} {f : Nat → Pl} (hn : n < 2 ^ 40) (hf : ∀ i, i < n → 0 < (f i).d) (K : Nat) : aA P r6 K [lN f n 2048, .func fC []] [] (aG (.int .i64 (-1)) []) := by
 refine gV (r := aG (.int .i64 (-1)) []) hT By hm OH rfl (of_decide_eq_true (by kernel_rfl)) rfl [1,0,1] (i := 0) (y := part wu [1,0,1,0,0]) (z := part wu [1,1]) (by kernel_rfl) (by kernel_rfl) (by kernel_rfl) (f1 := []) (f2 := [9]) (f3 := []) 60 iR 0
  (fun i : Nat => Br n i f fC) (fun _ => []) (fun i => i ≤ n) (fun i => i = n) (fun i => n - i) (fun _ => ⟨⟨_, V7, ?_⟩, fun i hi => ⟨_, Tm, ?_⟩, fun i hi => ⟨_, LW, ?_⟩⟩) K []
 ·simp only [aa.all, ay]
  exact ⟨0, Nat.zero_le _, [], rfl, rfl, rfl, trivial⟩
 ·simp only [aa.all, ay, decide_eq_true_eq, decide_eq_false_iff_not, Int.toNat_natCast]
  exact ⟨fun h => ⟨⟨by omega, by omega, by omega, by decide, hf i (by omega)⟩, by omega, i + 1, by omega, by dsimp only; omega, [], rfl, rfl, rfl, trivial⟩, fun h => ⟨rfl, i, by omega, [], rfl, rfl, rfl, trivial⟩⟩
 ·simp only [aa.all, ay]
  exact .refl _
theorem QA : ∀ K args pre r, Fz K args pre = some r → aA P r6 K args pre r := dD fun ⟨⟨n, f⟩, g, _⟩ K hn => by
 have hg : g = fC := hn.2.2
 subst hg
 exact SW hn.1 hn.2.1 K
theorem X3 {args : List AV} {n : Nat} {k : Nat → Rat} {l : List Prop} (ha : ay l → ep (aS []) args [.cL false 3 n (fun i => .rat (k i) 2048)]) (hn : ay l → 1 ≤ n ∧ n < 2 ^ 30) (K : Nat) : aA P rE K args [] ⟨jn [.own K 3 0 n], [(K, ⟨true, true, 3, n, fun i => .rat (k i) 2048⟩)], l⟩ := by
 refine FE hT Tz ha (of_decide_eq_true (by kernel_rfl)) fun need c hk => ?_
 obtain ⟨h1, h2⟩ := hn need
 refine aq.aX hT (dM bn) hm 60 [2] PB (by kernel_rfl) ?_
 simp only [aa.all, ay]
 exact ⟨⟨by omega, by omega⟩, fun s' hs' => ⟨.inr trivial, [2], _, [.own 20480 3 0 (0 + n)], _, 20480, _, hs', by kernel_rfl, ⟨⟨rfl, cF (by simp [aS, look]) rfl (by omega)⟩, trivial⟩, rfl, gM (by omega) fun i hi => aF rfl⟩⟩
theorem Vd {n : Nat} {k : Nat → Rat} {l : List Prop} (hn : ay l → 1 ≤ n ∧ n < 2 ^ 30) (K : Nat) : aA P rE K [bI k n 2048] [] ⟨jn [.own K 3 0 n], [(K, ⟨true, true, 3, n, fun i => .rat (k i) 2048⟩)], l⟩ := by
 refine Gn fun b hb => ?_
 intro need
 have h1 := hn need
 cases b
 ·exact X3 (args := [.cL false 3 n (fun i => .rat (k i) 2048)]) (fun _ => ⟨⟨rfl, aF rfl⟩, trivial⟩) hn K need
 ·have := hb rfl
  omega
theorem Ua : ∀ K args pre r, IA K args pre = some r → aA P rE K args pre r := by
 refine yH fun K args r hk hs => ?_
 split at hs
 ·rename_i v
  split at hs
  ·rename_i n k q hv
   simp only [Option.some.injEq] at hs
   subst hs
   intro need
   obtain ⟨hn1, hn2⟩ := dy.1 need
   exact fc (Vd (l := q ++ [1 ≤ n, n < 2 ^ 30]) (fun h => ⟨(dy.1 h).2.1, (dy.1 h).2.2⟩) K) hk ⟨(kL 2048).ok hv hn1, trivial⟩ [] need
  ·simp at hs
 ·simp at hs
theorem VO : bg P x5 := dM (aH Ua bn)
theorem RU {c : Cu} {i j : Nat} {rl : List (Nat × Nat)} (hj : j < c.n + 4 * i + 4) : fN rl (if j < c.n + 4 * i then .rat (iD c j) 2048 else nth [.rat (c.f i).n.x 2048, .rat (c.f i).n.y 2048, .rat (c.f i).n.z 2048, .rat (c.f i).d 2048] (.rat 0 1) (j - (c.n + 4 * i) + 0)) (.rat (iD c j) 2048) := by
 by_cases h : j < c.n + 4 * i
 ·rw [if_pos h]; exact aM rfl rfl
 ·rw [if_neg h]
  have key : ∀ a, a < 4 → j = c.n + 4 * i + a → iD c j = l8 (c.f i) a := fun a ha hj => by
   unfold iD
   rw [if_neg (by omega), show (j - c.n) / 4 = i by omega, show (j - c.n) % 4 = a by omega]
  rcases (show j = c.n + 4 * i + 0 ∨ j = c.n + 4 * i + 1 ∨ j = c.n + 4 * i + 2 ∨ j = c.n + 4 * i + 3 by omega) with h' | h' | h' | h'
  ·rw [key 0 (by omega) h', h', show c.n + 4 * i + 0 - (c.n + 4 * i) + 0 = 0 by omega]; exact aM rfl rfl
  ·rw [key 1 (by omega) h', h', show c.n + 4 * i + 1 - (c.n + 4 * i) + 0 = 1 by omega]; exact aM rfl rfl
  ·rw [key 2 (by omega) h', h', show c.n + 4 * i + 2 - (c.n + 4 * i) + 0 = 2 by omega]; exact aM rfl rfl
  ·rw [key 3 (by omega) h', h', show c.n + 4 * i + 3 - (c.n + 4 * i) + 0 = 3 by omega]; exact aM rfl rfl
theorem abB {c : Cu} (h1 : 1 ≤ c.n) (hn : c.n < 2 ^ 30) (hm2 : c.m < 2 ^ 28) (K : Nat) : aA P uE K [eV c 2048 2048] [] (aG (bI (iD c) (c.n + 4 * c.m) 2048) []) := by
 refine gV (r := aG (bI (iD c) (c.n + 4 * c.m) 2048) []) hT VO hm abI rfl (of_decide_eq_true (by kernel_rfl)) rfl [1,1,0,1] (i := 0) (y := part xd [1,1,0,1,0,0]) (z := part xd [1,1,1]) (by kernel_rfl) (by kernel_rfl) (by kernel_rfl) (f1 := []) (f2 := [13]) (f3 := []) 60 r9 1
  (fun i : Nat => C7 c i) (fun i => CS c i) (fun i => i ≤ c.m) (fun i => i = c.m) (fun i => c.m - i) (fun _ => ⟨⟨_, ZQ, ?_⟩, fun i hi => ⟨_, Ws, ?_⟩, fun i hi => ⟨_, Y2, ?_⟩⟩) K []
 ·simp only [aa.all, ay]
  exact ⟨⟨by omega, ej (Nat.le_refl _), by omega, by omega⟩, by omega, 0, Nat.zero_le _, [(0, 16384)], rfl, rfl, rfl, bG rfl rfl rfl (fun j hj => aM rfl (by unfold iD; rw [if_pos (by omega)]; rfl)) trivial⟩
 ·simp only [aa.all, ay, decide_eq_true_eq, decide_eq_false_iff_not, Int.toNat_natCast]
  refine ⟨fun h => ?_, fun h => ⟨rfl, i, by omega, [(0, 0)], rfl, rfl, rfl, bG rfl rfl rfl (fun j hj => aM rfl rfl) trivial⟩⟩
  (repeat' with_reducible refine And.intro ?_ ?_)
  all_goals first | omega | decide | skip
  refine ⟨i + 1, by omega, by dsimp only; omega, [(0, 73729)], rfl, ?_, rfl, bG rfl rfl ?_ (fun j hj => RU (by omega)) trivial⟩
  ·show _ = [_, AV.own 0 3 0 (c.n + 4 * (i + 1)), _, _, _].map _
   rw [show c.n + 4 * (i + 1) = c.n + 4 * i + 4 by omega]; rfl
  ·show c.n + 4 * (i + 1) = c.n + 4 * i + 4
   omega
 ·subst hi
  simp only [aa.all, ay]
  exact .refl _
theorem Vx : ∀ K args pre r, Hx K args pre = some r → aA P uE K args pre r := dD fun ⟨c, _⟩ K hn => abB hn.1 hn.2.1 hn.2.2 K
theorem abK {n : Nat} {f : Nat → Pl} : bB T FH [] 60 uN (ax uN) ⟨aL 0 [lN f n 2048, .func fC []], [], 0⟩ =
  some (ag [jv (fun i ↦ cY (f i) 2048) n 2048, n < 2 ^ 40, ∀ (i : Nat), i < n → 0 < bp (rat (f i).d 2048), fC = fC] (leaf ret [AV.bool false])) := by kernel_rfl
theorem S1 {c : Cu} : bB T E7 [200015, 200017] 60 tF (ax tF) ⟨aL 0 [eV c 2048 2048], [], 0⟩ =
  let c5 : Nat := c.n + 4 * c.m; let c4 : Prop := jv (fun i ↦ cY (c.f i) 2048) c.m 2048; let c3 : Nat := 2 ^ 40; let c2 : Prop := 0 < 1; let c1 : Prop := cz (fun i ↦ rat (iD (Cu.mk c.p c.n (fun i ↦ bp (rat (c.k i) 2048)) c.m fun i ↦ jH (cY (c.f i) 2048)) i) 2048) c5 2048; some (ag [c2, cz (fun i ↦ rat (c.k i) 2048) c.n 2048, c4, (1 : Nat) ≤ c.n, c.n < 2 ^ 30, c.m < 2 ^ 28] (ag [c1, c5 < c3, (114 : Nat) = g8 ∨ 114 = gP] (ag [c2, c2, cz (fun i ↦ rat (c.k i) 2048) c.n sJ, c.n < c3] (ag [(fm c.n (fun i ↦ bp (rat (c.k i) 2048)) c.p != (0 : Int)) = false] (ag [c2, c2, c2, cz (fun i ↦ rat (c.k i) 2048) c.n sK, c.n < c3, -(2 : Int) ^ 40 < c.p, c.p < (2 : Int) ^ 40] (ag [((↑c.m : Int) != (↑c.n : Int) - c.p - (1 : Int)) = false] (ag [c2, c4, c.m < c3, ∀ (i : Nat), i < c.m → 0 < bp (rat (c.f i).d 2048), (116 : Nat) = fC] (ag [c1, c5 < c3, (117 : Nat) = g8 ∨ 117 = gP] (leaf ret [int i64 (0 : Int)]))))))))) := by kernel_rfl
theorem VR : bg P FH := dM (aH QA bn)
theorem UJ : ∀ K args pre r, Jt K args pre = some r → aA P zn K args pre r := dD fun ⟨⟨n, f⟩, g, _⟩ K hn => by
 have hg : g = fC := hn.2.2
 subst hg
 refine bH (r := aG (.bool false) []) hT VR hm Yv rfl (of_decide_eq_true (by kernel_rfl)) rfl 60 abK (fun _ => ?_) K []
 simp only [aa.all, ay]
 exact ⟨⟨lG (Nat.le_refl _), hn.1, hn.2.1, by trivial⟩, .refl _⟩
theorem Ru : bg P E7 := dM (aH Vx (aH Z8 (aH UJ (aH FN (aH xX bn)))))
noncomputable def JO : Spec := dn (kC (mQ 2048 2048) kN) (fun _ => .int .i64 0) fun a => [fy a.1, ∀ i, i < a.1.m → 0 < (a.1.f i).d]
theorem UN : ∀ K args pre r, JO K args pre = some r → aA P zM K args pre r := dD fun ⟨c, _⟩ K hn => by
 obtain ⟨⟨h1, h2, h3, h4, h5⟩, hw⟩ : fy c ∧ _ := hn
 have hl := h1.len
 refine bH (r := aG (.int .i64 0) []) hT Ru hm Ta rfl (of_decide_eq_true (by kernel_rfl)) rfl 60 S1 (fun _ => ?_) K []
 have hc0 : fm c.n c.k c.p = 0 := by have := h1.Kx (by omega) h4; rwa [Int.toNat_of_nonneg (by omega)] at this
 simp only [aa.all, ay]
 (repeat' with_reducible refine And.intro ?_ ?_)
 all_goals first | omega | exact ej (by decide) | exact lG (by decide) | exact hw | exact bne_eq_false_iff_eq.2 hc0 | exact bne_eq_false_iff_eq.2 h5 | exact .inl trivial | exact .inr trivial | trivial | exact .refl _ | skip
end Go.Am.B

/- ref10.Check. -/
namespace Go.Am.B
open Go Go.Am.N AV aa aj IntKind
end Go.Am.B

/- brepkernelmade: Knots. -/
namespace Go.Am.B
open Go Go.Am.N AV aa aj IntKind
theorem Em : aO P uz vv (ax vv) := aP abO (by kernel_rfl) (by kernel_rfl) (by kernel_rfl)
def lD : aQ := nG :: (mR, fD qq) :: (lS, xG) :: (mw, xb) :: Ih
abbrev ji (n : Nat) (z : Nat → Int) (a : Int) : az := gl n (fun i => .int .i64 (z i)) a
abbrev tO (t : Rat) : az := ⟨false, true, 3, 1, fun _ => .rat t 64⟩
abbrev YN (m : Nat) (k : Nat → Rat) : az := ⟨true, true, 3, m, fun i => .rat (k i) 64⟩
abbrev o8 : List Nat := [0, 1, 2, 7, 8, 9]
abbrev Ax (p m : Int) (v : AV) (i : Int) : List AV := [.ptr 0 0 2 0 [], .int .i64 p, .int .i64 m, .ptr 1 0 3 0 [], v, .int .i64 i]
noncomputable abbrev wH : Code := ax vv
noncomputable abbrev vC : Code := part wH [1,1,1,1]
noncomputable abbrev qI : Code := part vC [1]
abbrev xq : List Nat := [0, 1, 7, 8, 10]
abbrev tw : List Nat := [0, 1, 7, 8, 11]
abbrev nK (p : Int) (l : Nat) (i : Int) : List AV := [.ptr 0 0 2 0 [], .int .i64 p, .ptr 1 0 3 0 [], .own 2 3 0 l, .int .i64 i]
abbrev jZ (n : Nat) (z : Nat → Int) (a : Int) (t : Rat) (l : Nat) (k : Nat → Rat) : aD := [(2, YN l k), (1, tO t), (0, ji n z a)]
theorem L9 {n : Nat} {z : Nat → Int} {a p m : Int} : aI T lD [] 60 o8 (before wH [1,1,1,0,1]) ⟨aL 0 [.ptr 0 0 2 0 [], .int .i64 p, .int .i64 m], [(0, ji n z a)], 1⟩ =
  let c2 : Int := (2 : Int) ^ 63; let c1 : Int := b7 n (fun i ↦ int i64 (z i)) a (4 : Int) - (2 : Int); some (ag [ct n (fun i ↦ int i64 (z i)) a, (0 : Int) < (4 : Int), (4 : Int) < (2 : Int) ^ 62, -c2 ≤ c1 ∧ c1 < c2, -c2 ≤ c1, c1 < c2, (0 : Nat) < 1] (leaf normal ([ptr 0 0 2 0 [], int i64 p, int i64 m, ptr 20481 0 3 0 [], nil, int i64 (0 : Int)], [((20481 : Nat), az.mk false true 3 1 fun j ↦ if (j == 0) = true then bC (rat (↑c1 : Rat) (Max.max 1 (aZ c1.natAbs))) else rat 0 1), ((0 : Nat), az.mk false true 2 1 fun x ↦ agg [ak 1 n fun i ↦ int i64 (z i), int i64 (bh n a)])]))) := by kernel_rfl
theorem NK {n : Nat} {z : Nat → Int} {a p m : Int} {t : Rat} : aI T lD [18] 60 o8 [part wH [1,1,1,0,1,0,0]] ⟨aC o8 (Ax p m .nil 0), [(1, tO t), (0, ji n z a)], 3⟩ =
  let c3 : AV := ptr 1 0 3 0 []; let c2 : AV := ptr 0 0 2 0 []; let c1 : List (Nat × az) := [((1 : Nat), az.mk false true 3 1 fun x ↦ rat t 64), ((0 : Nat), az.mk false true 2 1 fun x ↦ agg [ak 1 n fun i ↦ int i64 (z i), int i64 a])]; some (fork (decide ((0 : Int) ≤ p)) (ag [(0 : Nat) < 1, (1 : Nat) * 3 ≤ 2 ^ 24, (0 : Nat) < 1 ∧ 1 * ((56 : Nat) + 1) * 2 ≤ 2 ^ 47] (ag [-(2 : Int) ^ 63 ≤ (0 : Int) + (1 : Int) ∧ (0 : Int) + (1 : Int) < (2 : Int) ^ 63] (leaf normal ([c2, int i64 p, int i64 m, c3, own 24579 3 0 1, int i64 (1 : Int)], ((24579 : Nat), az.mk true true 3 1 fun i ↦ nth [rat t 64] (rat 0 1) (i + 0)) :: c1)))) (leaf (exit 0) ([c2, int i64 p, int i64 m, c3, nil, int i64 (0 : Int)], c1))) := by kernel_rfl
theorem O1 {n j : Nat} {z : Nat → Int} {a p m : Int} {t : Rat} {k : Nat → Rat} : aI T lD [18] 60 o8 [part wH [1,1,1,0,1,0,0]] ⟨aC o8 (Ax p m (.own 2 3 0 (j + 1)) ((j + 1 : Nat) : Int)), jZ n z a t (j + 1) k, 3⟩ =
  let c4 : AV := ptr 1 0 3 0 []; let c3 : AV := ptr 0 0 2 0 []; let c2 : Nat := j + 1; let c1 : List (Nat × az) := [((1 : Nat), az.mk false true 3 1 fun x ↦ rat t 64), ((0 : Nat), az.mk false true 2 1 fun x ↦ agg [ak 1 n fun i ↦ int i64 (z i), int i64 a])]; let c7 : Nat := c2 + 1; let c6 : Int := (↑c2 : Int); let c5 : Int := c6 + (1 : Int); some (fork (decide (c6 ≤ p)) (ag [(0 : Nat) < 1, (1 : Nat) * 3 ≤ 2 ^ 24, c7 * ((56 : Nat) + 1) * 2 ≤ 2 ^ 47] (ag [-(2 : Int) ^ 63 ≤ c5 ∧ c5 < (2 : Int) ^ 63] (leaf normal ([c3, int i64 p, int i64 m, c4, own 24579 3 0 c7, int i64 c5], ((24579 : Nat), az.mk true true 3 c7 fun i ↦ if i < c2 then rat (k i) 64 else nth [rat t 64] (rat 0 1) (i - c2 + 0)) :: c1)))) (leaf (exit 0) ([c3, int i64 p, int i64 m, c4, own 2 3 0 c2, int i64 c6], ((2 : Nat), az.mk true true 3 c2 fun i ↦ rat (k i) 64) :: c1))) := by kernel_rfl
theorem ZH {n j : Nat} {z : Nat → Int} {a p m : Int} {t : Rat} {k : Nat → Rat} : aI T lD [] 60 xq (before vC [0,1]) ⟨aC o8 (Ax p m (.own 2 3 0 (j + 1)) ((j + 1 : Nat) : Int)), jZ n z a t (j + 1) k, 3⟩ =
  let c1 : Int := m + (1 : Int); some (ag [-(2 : Int) ^ 63 ≤ c1 ∧ c1 < (2 : Int) ^ 63, ct n (fun i ↦ int i64 (z i)) a, (0 : Int) < c1, c1 < (2 : Int) ^ 62] (leaf normal ([ptr 0 0 2 0 [], int i64 p, ptr 1 0 3 0 [], own 2 3 0 (j + 1), int i64 (b7 n (fun i ↦ int i64 (z i)) a c1)], [((2 : Nat), az.mk true true 3 (j + 1) fun i ↦ rat (k i) 64), ((1 : Nat), az.mk false true 3 1 fun x ↦ rat t 64), ((0 : Nat), az.mk false true 2 1 fun x ↦ agg [ak 1 n fun i ↦ int i64 (z i), int i64 (bh n a)])]))) := by kernel_rfl
theorem Nq {n l : Nat} {z : Nat → Int} {a p i : Int} {t : Rat} {k : Nat → Rat} : aI T lD [30, 38, 43, 53] 60 xq [part vC [0,1,0,0]] ⟨aC xq (nK p l i), jZ n z a t l k, 3⟩ =
  let c40 : Int := i - (1 : Int); let c39 : Nat := 64 + 64 + 1; let c35 : AV := rat t 64; let c34 : AV := rat 0 1; let c33 : Int := bh n a; let c31 : Nat := l + 1; let c30 : Prop := (0 : Int) < (3 : Int); let c28 : Prop := ct n (fun i ↦ int i64 (z i)) a; let c27 : Int := (↑l : Int); let c25 : AV := ptr 1 0 3 0 []; let c24 : AV := ptr 0 0 2 0 []; let c23 : Prop := 0 < 1; let c21 : Int := (2 : Int) ^ 62; let c20 : AV := ak 1 n fun i ↦ int i64 (z i); let c18 : Int := p + (1 : Int); let c16 : Prop := 64 < 2 ^ 41; let c7 : Int := b7 n (fun i ↦ int i64 (z i)) a (3 : Int); let c5 : Int := (2 : Int) ^ 63; let c43 : Int := bh n c33; let c41 : Bool := c27 == c18; let c38 : Prop := ct n (fun i ↦ int i64 (z i)) c33; let c37 : Prop := (3 : Int) < c21; let c32 : Prop := -c5 ≤ c18 ∧ c18 < c5; let c29 : Int := (1 : Int) + c7; let c26 : Nat × az := ((1 : Nat), az.mk false true 3 1 fun x ↦ c35); let c22 : Bool := bif false then true else decide (c7 > (0 : Int)); let c19 : List Prop := [-c5 ≤ c40 ∧ c40 < c5]; let c17 : Nat := (c27 - p).toNat + 0; let c15 : Nat × az := ((106499 : Nat), az.mk true true 3 c31 fun i ↦ if i < l then rat (k i) 64 else nth [c35] c34 (i - l + 0)); let c13 : List AV := [c24, int i64 p, c25, own 147459 3 0 c31, int i64 c40]; let c12 : List AV := [c24, int i64 p, c25, own 106499 3 0 c31, int i64 c40]; let c10 : Int := (1 : Int) + b7 n (fun i ↦ int i64 (z i)) c33 (2 : Int); let c9 : Int := (1 : Int) + b7 n (fun i ↦ int i64 (z i)) c33 (3 : Int); let c6 : List Prop := [c23, (1 : Nat) * 3 ≤ 2 ^ 24, c31 * ((56 : Nat) + 1) * 2 ≤ 2 ^ 47]; let c42 : Rat := (↑c29 : Rat) / (↑c10 : Rat); let c36 : Bool := bif false then true else decide (t = k c17); let c14 : List (Nat × az) := [c26, ((0 : Nat), az.mk false true 2 1 fun x ↦ agg [c20, int i64 a])]; let c11 : List Prop := [c23, -c5 ≤ c27 - p ∧ c27 - p < c5, (0 : Int) ≤ c27 - p ∧ (c27 - p).toNat < l, c17 < l, c16, c16]; let c8 : Int := (1 : Int) + b7 n (fun i ↦ int i64 (z i)) c43 (2 : Int); let c3 : aa (List AV × aD) := ag c6 (ag c19 (leaf normal (c12, [c15, c26, ((0 : Nat), az.mk false true 2 1 fun x ↦ agg [c20, int i64 c33])]))); let c44 : Rat := (↑c9 : Rat) / (↑c8 : Rat); let c4 : aa (List AV × aD) := ag c6 (ag c19 (leaf normal (c12, c15 :: c14))); let c2 : aa (List AV × aD) := ag [c23, c28, c30, c37, -c5 ≤ c29 ∧ c29 < c5, c38, (0 : Int) < (2 : Int), (2 : Int) < c21, -c5 ≤ c10 ∧ c10 < c5, -c5 ≤ c29, c29 < c5, -c5 ≤ c10, c10 < c5, c16, c16, c23] (ag c6 (ag c19 (leaf normal (c13, [((147459 : Nat), az.mk true true 3 c31 fun i ↦ if i < l then rat (k i) 64 else nth [rat (t + c42) c39] c34 (i - l + 0)), ((1 : Nat), az.mk false true 3 1 fun j ↦ if (j == 0) = true then bC (jx (t, (64 : Nat)) (c42, (64 : Nat))) else c35), ((0 : Nat), az.mk false true 2 1 fun x ↦ agg [c20, int i64 c43])])))); let c1 : aa (List AV × aD) := ag [c23, c38, c30, c37, -c5 ≤ c9 ∧ c9 < c5, ct n (fun i ↦ int i64 (z i)) c43, (0 : Int) < (2 : Int), (2 : Int) < c21, -c5 ≤ c8 ∧ c8 < c5, -c5 ≤ c9, c9 < c5, -c5 ≤ c8, c8 < c5, c16, c16, c23] (ag c6 (ag c19 (leaf normal (c13, [((147459 : Nat), az.mk true true 3 c31 fun i ↦ if i < l then rat (k i) 64 else nth [rat (t + c44) c39] c34 (i - l + 0)), ((1 : Nat), az.mk false true 3 1 fun j ↦ if (j == 0) = true then bC (jx (t, (64 : Nat)) (c44, (64 : Nat))) else c35), ((0 : Nat), az.mk false true 2 1 fun x ↦ agg [c20, int i64 (bh n c43)])])))); some (fork (decide (i > (0 : Int))) (fork c41 (fork true (ag [c32, c41 = true, true = true] (fork true c2 c4)) (ag (c32 :: (c41 = true) :: (true = false) :: c11) (fork c36 c2 c4))) (fork c22 (ag [c32, c41 = false, c28, c30, c37, c22 = true] (fork true c1 c3)) (ag (c32 :: (c41 = false) :: c28 :: c30 :: c37 :: (c22 = false) :: c11) (fork c36 c1 c3)))) (leaf (exit 2) ([c24, int i64 p, c25, own 2 3 0 l, int i64 i], ((2 : Nat), az.mk true true 3 l fun i ↦ rat (k i) 64) :: c14))) := by kernel_rfl
theorem Np {n l : Nat} {z : Nat → Int} {a p i : Int} {t : Rat} {k : Nat → Rat} : aI T lD [] 60 tw (before qI [1,0,1]) ⟨aC xq (nK p l i), jZ n z a t l k, 3⟩ =
  let c1 : Nat := Max.max 1 (aZ (Int.natAbs (1 : Int))); some (ag [(0 : Nat) < 1, -(2 : Int) ^ 63 ≤ (1 : Int), (1 : Int) < (2 : Int) ^ 63, (64 : Nat) < 2 ^ 41, c1 < 2 ^ 41, (0 : Nat) < 1] (leaf normal ([ptr 0 0 2 0 [], int i64 p, ptr 1 0 3 0 [], own 2 3 0 l, int i64 (0 : Int)], [((2 : Nat), az.mk true true 3 l fun i ↦ rat (k i) 64), ((1 : Nat), az.mk false true 3 1 fun j ↦ if (j == 0) = true then bC (jx (t, (64 : Nat)) ((↑(1 : Int) : Rat), c1)) else rat t 64), ((0 : Nat), az.mk false true 2 1 fun x ↦ agg [ak 1 n fun i ↦ int i64 (z i), int i64 a])]))) := by kernel_rfl
theorem WH {n l : Nat} {z : Nat → Int} {a p i : Int} {t : Rat} {k : Nat → Rat} : aI T lD [72] 60 tw [part qI [1,0,1,0,0]] ⟨aC tw (nK p l i), jZ n z a t l k, 3⟩ =
  let c3 : AV := ptr 1 0 3 0 []; let c2 : AV := ptr 0 0 2 0 []; let c1 : List (Nat × az) := [((1 : Nat), az.mk false true 3 1 fun x ↦ rat t 64), ((0 : Nat), az.mk false true 2 1 fun x ↦ agg [ak 1 n fun i ↦ int i64 (z i), int i64 a])]; some (fork (decide (i ≤ p)) (ag [(0 : Nat) < 1, (1 : Nat) * 3 ≤ 2 ^ 24, (l + 1) * ((56 : Nat) + 1) * 2 ≤ 2 ^ 47] (ag [-(2 : Int) ^ 63 ≤ i + (1 : Int) ∧ i + (1 : Int) < (2 : Int) ^ 63] (leaf normal ([c2, int i64 p, c3, own 24579 3 0 (l + 1), int i64 (i + (1 : Int))], ((24579 : Nat), az.mk true true 3 (l + 1) fun i ↦ if i < l then rat (k i) 64 else nth [rat t 64] (rat 0 1) (i - l + 0)) :: c1)))) (leaf (exit 4) ([c2, int i64 p, c3, own 2 3 0 l, int i64 i], ((2 : Nat), az.mk true true 3 l fun i ↦ rat (k i) 64) :: c1))) := by kernel_rfl
theorem UT {n l : Nat} {z : Nat → Int} {a p i : Int} {t : Rat} {k : Nat → Rat} : zP T lD [] 60 vv [part qI [1,1]] ⟨aC tw (nK p l i), jZ n z a t l k, 3⟩ =
  some (leaf ret ([ak 3 l fun i ↦ rat (k (i + 0)) 64], some (az.mk false true 2 1 fun x ↦ agg [ak 1 n fun i ↦ int i64 (z i), int i64 a]))) := by kernel_rfl
structure qR where
 k : Nat → Rat
 t : Rat
 a : Int
def nN (n : Nat) (f : Nat → AV) (t : Rat) (a : Int) : Rat := t + ((1 + b7 n f a 3 : Int) : Rat) / ((1 + b7 n f (bh n a) 2 : Int) : Rat)
def ot (n : Nat) (f : Nat → AV) (p j : Nat) (s : qR) : qR :=
 if j = 0 ∨ 0 < b7 n f s.a 3 ∨ s.t = s.k (j + 1) then
  ⟨iW s.k (p + 1 + j) (nN n f s.t (if j = 0 then s.a else bh n s.a)), nN n f s.t (if j = 0 then s.a else bh n s.a), bh n (bh n (if j = 0 then s.a else bh n s.a))⟩
 else ⟨iW s.k (p + 1 + j) s.t, s.t, if j = 0 then s.a else bh n s.a⟩
def lY (n : Nat) (f : Nat → AV) (p : Nat) (s0 : qR) : Nat → qR
 | 0 => s0
 | j + 1 => ot n f p j (lY n f p s0 j)
def nc (n : Nat) (f : Nat → AV) (a : Int) : qR := ⟨fun _ => ((b7 n f a 4 - 2 : Int) : Rat), ((b7 n f a 4 - 2 : Int) : Rat), bh n (bh n a)⟩
def ja (n : Nat) (f : Nat → AV) (a : Int) (m : Nat) : Nat := (b7 n f (bh n a) (m + 1)).toNat
def An (n : Nat) (f : Nat → AV) (a : Int) (p m : Nat) : qR := lY n f p (nc n f a) (ja n f a m)
def nM (n : Nat) (f : Nat → AV) (a : Int) (p m : Nat) : Nat := 2 * p + 2 + ja n f a m
def qJ (n : Nat) (f : Nat → AV) (a : Int) (p m : Nat) : Nat → Rat := jA p (ja n f a m) (An n f a p m).k (An n f a p m).t
def nR (n : Nat) (f : Nat → AV) (a : Int) (p m : Nat) : Int := (An n f a p m).a
theorem xY {n : Nat} {f : Nat → AV} {a : Int} {p : Nat} (hd : ct n f a) (hp : 1 ≤ p) : ∀ j, KG p j (lY n f p (nc n f a) j).k (lY n f p (nc n f a) j).t ∧ ct n f (lY n f p (nc n f a) j).a
 | 0 => by
  have h1 := hU (n := n) (f := f) (a := a) (m := 4) (by omega)
  have h2 := iA (n := n) (f := f) (a := a) (m := 4) (by omega)
  exact ⟨KG.start hp (by omega) (by omega), hd.next.next⟩
 | j + 1 => by
  obtain ⟨h1, h2⟩ := xY hd hp j
  unfold lY ot nN
  generalize lY n f p (nc n f a) j = s at *
  obtain ⟨k, t, b⟩ := s
  simp only at h1 h2 ⊢
  have hb : ct n f (if j = 0 then b else bh n b) := by split; exact h2; exact h2.next
  generalize (if j = 0 then b else bh n b) = a1 at *
  split
  ·have x1 := hU (n := n) (f := f) (a := a1) (m := 3) (by omega)
   have x2 := iA (n := n) (f := f) (a := a1) (m := 3) (by omega)
   have y1 := hU (n := n) (f := f) (a := bh n a1) (m := 2) (by omega)
   have y2 := iA (n := n) (f := f) (a := bh n a1) (m := 2) (by omega)
   refine ⟨h1.next (.inl ?_), hb.next.next⟩
   generalize b7 n f a1 3 = x at *
   generalize b7 n f (bh n a1) 2 = y at *
   have key : ∃ z : Int, ((1 + x : Int) : Rat) / ((1 + y : Int) : Rat) = (z : Rat) / 2 ∧ 1 ≤ z ∧ z ≤ 6 := by
    rcases (show y = 0 ∨ y = 1 by omega) with h | h
    ·subst h
     refine ⟨2 * (1 + x), ?_, by omega, by omega⟩
     have : ((2 * (1 + x) : Int) : Rat) = 2 * ((1 + x : Int) : Rat) := by simp
     rw [this]
     generalize ((1 + x : Int) : Rat) = w
     simp; grind
    ·subst h
     exact ⟨1 + x, by simp, by omega, by omega⟩
   obtain ⟨z, e, z1, z2⟩ := key
   rw [e]
   refine ⟨?_, z, rfl, z2⟩
   have : (1 : Rat) ≤ (z : Rat) := by exact_mod_cast z1
   grind
  ·rename_i hc
   have hc1 : ¬ j = 0 := fun h => hc (.inl h)
   have hc2 : ¬ t = k (j + 1) := fun h => hc (.inr (.inr h))
   exact ⟨h1.next (.inr ⟨rfl, by omega, hc2⟩), hb⟩
theorem Gr {z : Int} (h1 : -2 ^ 63 ≤ z) (h2 : z < 2 ^ 63) : Sz ((z : Rat) / 2) 64 := by
 have := EC h1 h2 (y := 2) (by omega) (by omega) (by omega)
 simpa using this
theorem KG.sz {p j : Nat} {k : Nat → Rat} {t : Rat} (h : KG p j k t) (hj : j < 2 ^ 50) : Sz t 64 := by
 obtain ⟨z, e, h1, h2⟩ := h.half (p + j) (Nat.le_refl _)
 rw [h.top] at e
 rw [e]
 exact Gr (by omega) (by omega)
theorem Qs {J j : Nat} (h : j < J) : ((J - j : Nat) : Int) - 1 = ((J - (j + 1) : Nat) : Int) := by omega
theorem AI {rl : List (Nat × Nat)} {l i : Nat} {k k' : Nat → Rat} {t : Rat} {s : Nat} (hk : k' = iW k l t) (ht : Sz t 64) (hi : i < l + 1) : fN rl (if i < l then .rat (k i) 64 else nth [.rat t s] (.rat 0 1) (i - l + 0)) (.rat (k' i) 64) := by
 subst hk
 by_cases h : i < l
 ·rw [if_pos h, jR (by omega)]; exact aM rfl rfl
 ·have : i = l := by omega
  subst this
  rw [if_neg h, pG, Nat.sub_self]
  exact .inr ⟨rfl, eU rfl ht⟩
theorem zG : bg P lD := dM (aH z5 (aH Aa (aH yP WA)))
theorem Rh {k n p m : Nat} {z : Nat → Int} {a : Int} {o : az} (ho : ∀ ρ, ck ρ o (ji n z a)) (h : ct n (fun i => .int .i64 (z i)) a) (hp : 1 ≤ p) (hp2 : p < 1000) (hm2 : m < 1000) (K : Nat) :
  aA P uz K [.ptr k 0 2 0 [], .int .i64 p, .int .i64 m] [(k, o)] ⟨bI (qJ n (fun i => .int .i64 (z i)) a p m) (nM n (fun i => .int .i64 (z i)) a p m) 64, [(k, ji n z (nR n (fun i => .int .i64 (z i)) a p m))], []⟩ := by
 refine Hj hT Em rfl rfl (of_decide_eq_true (by kernel_rfl)) ho (fun _ c hk => ?_) K
 have a1 := hU (n := n) (f := fun i => .int .i64 (z i)) (a := a) (m := 4) (by omega)
 have a2 := iA (n := n) (f := fun i => .int .i64 (z i)) (a := a) (m := 4) (by omega)
 have b1 := hU (n := n) (f := fun i => .int .i64 (z i)) (a := bh n a) (m := m + 1) (by omega)
 have b2 := iA (n := n) (f := fun i => .int .i64 (z i)) (a := bh n a) (m := m + 1) (by omega)
 have hS := xY h hp
 unfold nR qJ nM An at *
 obtain ⟨J, hJ⟩ : ∃ J, J = ja n (fun i => .int .i64 (z i)) a m := ⟨_, rfl⟩
 have hJ2 : b7 n (fun i => .int .i64 (z i)) (bh n a) (m + 1) = (J : Int) := by rw [hJ]; unfold ja; omega
 rw [← hJ] at *
 have hJ3 : J < 1000 := by omega
 obtain ⟨S, hSd⟩ : ∃ S, S = lY n (fun i => .int .i64 (z i)) p (nc n (fun i => .int .i64 (z i)) a) := ⟨_, rfl⟩
 have h00 : S 0 = nc n (fun i => .int .i64 (z i)) a := by rw [hSd]; rfl
 have hS1 : ∀ j, S (j + 1) = ot n (fun i => .int .i64 (z i)) p j (S j) := fun j => by rw [hSd]; rfl
 rw [← hSd] at hS ⊢
 clear hSd hJ
 obtain ⟨t0, ht0⟩ : ∃ t0 : Rat, t0 = ((b7 n (fun i => .int .i64 (z i)) a 4 - 2 : Int) : Rat) := ⟨_, rfl⟩
 unfold nc at h00
 rw [← ht0] at h00
 have hs0 : Sz t0 64 := by have := (hS 0).1.sz (by omega); rw [h00] at this; exact this
 refine aq.lP hT zG hm [1,1,1,0,1] (i := 0) (y := part wH [1,1,1,0,1,0,0]) (z := vC) (by kernel_rfl) (by kernel_rfl) (by kernel_rfl) Em.dst hk (f1 := []) (f2 := [18]) 60 o8 3
  (fun j : Nat => Ax p m (match j with
   | 0 => .nil
   | _ + 1 => .own 2 3 0 j) j) (fun j => match j with
   | 0 => [(1, tO t0), (0, ji n z (bh n a))]
   | _ + 1 => jZ n z (bh n a) t0 j (fun _ => t0)) (fun j => j ≤ p + 1) (fun j => j = p + 1) (fun j => p + 1 - j) (fun _ => False) ⟨_, L9, ?_⟩ (fun j hj => ?_) (fun j hj => ?_) (fun _ _ h => h.elim)
 ·simp only [aa.all, ay]
  refine ⟨⟨h, by omega, by omega, by omega, by omega, by omega, by omega⟩, 0, by omega, [(0, 0), (1, 20481)], rfl, rfl, rfl, aR rfl rfl (.inr ⟨rfl, ?_⟩) (aR rfl rfl (aM rfl rfl) trivial)⟩
  rw [← ht0]
  exact eU rfl hs0
 ·cases j with
  | zero =>
   refine ⟨_, NK, ?_⟩
   simp only [aa.all, ay, decide_eq_true_eq, decide_eq_false_iff_not]
   refine ⟨fun _ => ⟨by omega, by omega, 1, by omega, by dsimp only; omega, [(0, 0), (1, 1), (2, 24579)], rfl, rfl, rfl, bG rfl rfl rfl (fun i hi => ?_) (aR rfl rfl (aM rfl rfl) (aR rfl rfl (aM rfl rfl) trivial))⟩, fun h => by omega⟩
   have : i = 0 := by omega
   subst this
   exact aM rfl rfl
  | succ j =>
   refine ⟨_, O1, ?_⟩
   simp only [aa.all, ay, decide_eq_true_eq, decide_eq_false_iff_not]
   refine ⟨fun _ => ⟨by omega, by omega, j + 2, by omega, by dsimp only; omega, [(0, 0), (1, 1), (2, 24579)], rfl, rfl, rfl, bG rfl rfl rfl (fun i hi => AI (by funext i; unfold iW; split <;> rfl) hs0 hi) (aR rfl rfl (aM rfl rfl) (aR rfl rfl (aM rfl rfl) trivial))⟩,
    fun _ => ⟨rfl, j + 1, by omega, [(0, 0), (1, 1), (2, 2)], rfl, rfl, rfl, bG rfl rfl rfl (fun i hi => aM rfl rfl) (aR rfl rfl (aM rfl rfl) (aR rfl rfl (aM rfl rfl) trivial))⟩⟩
 subst hj
 refine aq.lP hT zG hm [0,1] (i := 2) (y := part vC [0,1,0,0]) (z := qI) (by kernel_rfl) (by kernel_rfl) (by kernel_rfl) (by kernel_rfl) hk (f1 := []) (f2 := [30, 38, 43, 53]) 60 xq 3
  (fun j : Nat => nK p (p + 1 + j) ((J - j : Nat) : Int)) (fun j => jZ n z (S j).a (S j).t (p + 1 + j) (S j).k) (fun j => j ≤ J) (fun j => j = J) (fun j => J - j) (fun _ => False) ⟨_, ZH, ?_⟩ (fun j hj => ?_) (fun j hj => ?_) (fun _ _ h => h.elim)
 ·simp only [aa.all, ay]
  rw [hJ2]
  refine ⟨⟨by omega, h.next, by omega, by omega⟩, 0, by omega, [(0, 0), (1, 1), (2, 2)], rfl, rfl, rfl, ?_⟩
  dsimp only
  rw [h00]
  exact bG rfl rfl rfl (fun i hi => aM rfl rfl) (aR rfl rfl (aM rfl rfl) (aR rfl rfl (aM rfl rfl) trivial))
 ·refine ⟨_, Nq, ?_⟩
  have hj1 := hS1 j
  obtain ⟨hg, hd⟩ := hS j
  have hs1 : ∀ {j}, j < 2000 → Sz (S j).t 64 := fun hj => (hS _).1.sz (by omega)
  have hsj := hs1 (j := j) (by omega)
  have hsj1 := hs1 (j := j + 1) (by omega)
  have e1 : (((p + 1 + j : Nat) : Int) - (p : Int)).toNat + 0 = j + 1 := by omega
  simp only [aa.all, ay, decide_eq_true_eq, decide_eq_false_iff_not, beq_iff_eq, beq_eq_false_iff_ne, e1, cond_false]
  have v3 := fun a => And.intro (hU (n := n) (f := fun i => .int .i64 (z i)) (a := a) (m := 3) (by omega)) (iA (n := n) (f := fun i => .int .i64 (z i)) (a := a) (m := 3) (by omega))
  have v2 := fun a => And.intro (hU (n := n) (f := fun i => .int .i64 (z i)) (a := a) (m := 2) (by omega)) (iA (n := n) (f := fun i => .int .i64 (z i)) (a := a) (m := 2) (by omega))
  have q1 := v3 (S j).a
  have q2 := v3 (bh n (S j).a)
  have q3 := v2 (bh n (S j).a)
  have q4 := v2 (bh n (bh n (S j).a))
  refine ⟨fun hi => ?_, fun hi => ⟨rfl, j, by omega, [(0, 0), (1, 1), (2, 2)], rfl, rfl, rfl, bG rfl rfl rfl (fun i hi => aM rfl rfl) (aR rfl rfl (aM rfl rfl) (aR rfl rfl (aM rfl rfl) trivial))⟩⟩
  have hlt : j < J := by omega
  have fin : ∀ (key : Nat) (t : Rat) (s s2 : Nat) (b : Int) (g : Nat → AV), S (j + 1) = ⟨iW (S j).k (p + 1 + j) t, t, b⟩ → g 0 = .rat t s2 → (gf 3 [(0, 0), (1, 1), (2, key)]) = true → (key == 1) = false → (key == 0) = false →
    Round [0] (fun j => nK p (p + 1 + j) ((J - j : Nat) : Int)) (fun j => jZ n z (S j).a (S j).t (p + 1 + j) (S j).k) 3 (fun j => j ≤ J) (fun j => j = J) (fun j => J - j) 2 (fun _ => False) j normal
     ([ptr 0 0 2 0 [], int i64 p, ptr 1 0 3 0 [], own key 3 0 (p + 1 + j + 1), int i64 (((J - j : Nat) : Int) - 1)], [(key, ⟨true, true, 3, p + 1 + j + 1, fun i => if i < p + 1 + j then .rat ((S j).k i) 64 else nth [.rat t s] (.rat 0 1) (i - (p + 1 + j) + 0)⟩), (1, ⟨false, true, 3, 1, g⟩), (0, ji n z b)]) := by
   intro key t s s2 b g e1 e2 e3 hk1 hk0
   rw [e1] at hsj1
   refine ⟨j + 1, by omega, by dsimp only; omega, [(0, 0), (1, 1), (2, key)], by rw [e3]; rfl, by rw [Qs hlt]; rfl, rfl, ?_⟩
   dsimp only
   rw [e1]
   exact bG rfl y5 rfl (fun i hi => AI rfl hsj1 hi) (aR rfl ((Jy hk1).trans rfl) (.inr ⟨by rw [e2]; rfl, by rw [e2]; exact eU rfl hsj1⟩) (aR rfl ((Jy hk0).trans rfl) (aM rfl rfl) trivial))
  refine ⟨fun hl => ?_, fun hl => ⟨fun hc => ?_, fun hc => ?_⟩⟩
  all_goals (repeat' with_reducible first | refine And.intro ?_ ?_ | intro _)
  all_goals first | omega | exact hd | exact hd.next | exact hd.next.next | skip
  all_goals try exact absurd ‹true = false› (by decide)
  ·refine fin 147459 _ _ _ _ _ ?_ rfl rfl rfl rfl
   rw [hj1]; unfold ot nN
   have hj0 : j = 0 := by omega
   rw [if_pos (.inl hj0), if_pos hj0]
  ·refine fin 147459 _ _ _ _ _ ?_ rfl rfl rfl rfl
   rw [hj1]; unfold ot nN
   have hj0 : j ≠ 0 := by omega
   rw [if_pos (.inr (.inl hc)), if_neg hj0]
  ·refine fin 147459 _ _ _ _ _ ?_ rfl rfl rfl rfl
   rw [hj1]; unfold ot nN
   have hj0 : j ≠ 0 := by omega
   rename_i hk
   rw [if_pos (.inr (.inr hk)), if_neg hj0]
  ·refine fin 106499 _ _ _ _ _ ?_ rfl rfl rfl rfl
   rw [hj1]; unfold ot nN
   have hj0 : j ≠ 0 := by omega
   rename_i hk
   rw [if_neg (by simp only [hj0, hk, or_false, false_or]; omega), if_neg hj0]
 subst hj
 have hs1 : Sz ((S j).t + 1) 64 := by
  obtain ⟨z, e, h1, h2⟩ := (hS j).1.Qi (p + 1 + j)
  unfold jA at e
  rw [if_neg (by omega)] at e
  rw [e]; exact Gr (by omega) (by omega)
 refine aq.lP hT zG hm [1,0,1] (i := 4) (y := part qI [1,0,1,0,0]) (z := part qI [1,1]) (by kernel_rfl) (by kernel_rfl) (by kernel_rfl) (by kernel_rfl) hk (f1 := []) (f2 := [72]) 60 tw 3
  (fun i : Nat => nK p (p + 1 + j + i) i) (fun i => jZ n z (S j).a ((S j).t + 1) (p + 1 + j + i) (jA p j (S j).k (S j).t)) (fun i => i ≤ p + 1) (fun i => i = p + 1) (fun i => p + 1 - i) (fun _ => False) ⟨_, Np, ?_⟩ (fun i hi => ?_) (fun i hi => ?_) (fun _ _ h => h.elim)
 ·simp only [aa.all, ay]
  refine ⟨⟨by omega, by omega, by omega, by omega, by decide, by omega⟩, 0, by omega, [(0, 0), (1, 1), (2, 2)], rfl, rfl, rfl, bG rfl rfl rfl (fun i hi => ?_) (aR rfl rfl (.inr ⟨rfl, eU rfl hs1⟩) (aR rfl rfl (aM rfl rfl) trivial))⟩
  refine aM rfl ?_
  unfold jA
  rw [if_pos (by omega)]
 ·refine ⟨_, WH, ?_⟩
  simp only [aa.all, ay, decide_eq_true_eq, decide_eq_false_iff_not]
  refine ⟨fun _ => ⟨by omega, by omega, i + 1, by omega, by dsimp only; omega, [(0, 0), (1, 1), (2, 24579)], rfl, rfl, rfl, bG rfl rfl rfl (fun i hi => AI ?_ hs1 hi) (aR rfl rfl (aM rfl rfl) (aR rfl rfl (aM rfl rfl) trivial))⟩,
   fun _ => ⟨rfl, i, by omega, [(0, 0), (1, 1), (2, 2)], rfl, rfl, rfl, bG rfl rfl rfl (fun i hi => aM rfl rfl) (aR rfl rfl (aM rfl rfl) (aR rfl rfl (aM rfl rfl) trivial))⟩⟩
  funext x
  unfold iW jA
  split
  ·rename_i hx; rw [if_neg (by omega)]
  ·split <;> rfl
 ·subst hi
  refine aq.nq (aB.HN hT zG hm 60 UT (by kernel_rfl) ⟨?_, _, rfl, rfl, kr rfl rfl⟩)
  exact wD (by omega) fun _ _ => rfl
def A3 (n : Nat) (f : Nat → AV) (a : Int) (l : List AV) : Option (AV × Int × List Prop) := match l with
 | [.int .i64 p, .int .i64 m] => some (bI (qJ n f a p.toNat m.toNat) (nM n f a p.toNat m.toNat) 64, nR n f a p.toNat m.toNat, [1 ≤ p, p < 1000, 0 ≤ m, m < 1000])
 | _ => none
theorem Um : ∀ K args pre r, fD A3 K args pre = some r → aA P uz K args pre r := by
 refine nF fun {k n z a l v b q o} K hg ho hd hq => ?_
 unfold A3 at hg
 split at hg
 ·rename_i p m
  simp only [Option.some.injEq, Prod.mk.injEq] at hg
  obtain ⟨rfl, rfl, rfl⟩ := hg
  obtain ⟨h1, h2, h3, h4⟩ := hq
  have h4 : m < 1000 := h4
  have := Rh (k := k) (p := p.toNat) (m := m.toNat) ho hd (by omega) (by omega) (by omega) K
  rw [Int.toNat_of_nonneg (by omega), Int.toNat_of_nonneg h3] at this
  exact this
 ·simp at hg
end Go.Am.B

/- brepkernelmade: Number. -/
namespace Go.Am.B
open Go Go.Am.N AV
theorem Sm : aO P x6 vT (ax vT) := aP NX (by kernel_rfl) (by kernel_rfl) (by kernel_rfl)
theorem Qo {n : Nat} {z : Nat → Int} {a : Int} : o4 T GP [] 60 vT (ax vT) ⟨aL 0 [.ptr 0 0 2 0 []], [(0, gl n (fun i => .int .i64 (z i)) a)], 1⟩ =
  some (aa.ag [ct n (fun (i : Nat) ↦ int IntKind.i64 (z i)) a, (0 : Nat) < 1] (aa.ag [(0 : Nat) < 1] (aa.leaf aj.ret ([rat (ek n (fun (i : Nat) ↦ int IntKind.i64 (z i)) a) 64], some ⟨false, true, 2, 1, fun (x : Nat) ↦ agg [ak 1 n fun (i : Nat) ↦ int IntKind.i64 (z i), int IntKind.i64 (cX n (fun (i : Nat) ↦ int IntKind.i64 (z i)) a)]⟩)))) := by kernel_rfl
theorem Ph : ∀ K args pre r, fD qN K args pre = some r → aA P x6 K args pre r := by
 refine nF fun {k n z a l v b q o} K hg ho hd hq => ?_
 unfold qN at hg
 split at hg
 ·simp only [Option.some.injEq, Prod.mk.injEq] at hg
  obtain ⟨rfl, rfl, rfl⟩ := hg
  refine xD hT EA hm Sm rfl rfl (of_decide_eq_true (by kernel_rfl)) ho 60 Qo (fun _ => ?_) K
  simp only [aa.all, ay]
  exact ⟨⟨hd, by omega⟩, by omega, .refl _, _, rfl, rfl, kr rfl rfl⟩
 ·simp at hg
end Go.Am.B

/- law09: made, at. -/
namespace Go.Am.B
open Go Go.Am.N AV aa aj IntKind
end Go.Am.B

/- ref02.Text of a few numbers; law09.awake. -/
namespace Go.Am.B
open Go Go.Am.N AV aa aj IntKind
def pI : aQ := [sG, (rB, BQ)]
theorem ab9 : bg P pI := mT (aH DU bn)
theorem Kn.congr {n p : Nat} {k k' : Nat → Rat} (h : Kn n p k) (e : ∀ i, i < n → k i = k' i) : Kn n p k' := by
 have hp := h.p1
 have hl := h.len
 refine ⟨h.p1, h.len, fun i hi => ?_, fun i hi => ?_, fun i h1 h2 => ?_, fun i h1 h2 => ?_⟩
 ·rw [← e i (by omega), ← e (i + 1) hi]; exact h.sorted i hi
 ·rw [← e i (by omega), ← e 0 (by omega)]; exact h.first i hi
 ·rw [← e i h2, ← e (n - 1) (by omega)]; exact h.last i h1 h2
 ·rw [← e i (by omega), ← e (i + p) (by omega)]; exact h.mult i h1 h2
theorem Sa {f : Nat → Rat} (h : ∀ i, i < 6 → f i = jA 2 0 (fun _ => ((0 : Int) : Rat)) ((0 : Int) : Rat) i) : Kn 6 2 f :=
 ((KG.start (p := 2) (by omega) (z := 0) (by omega) (by omega)).done : Kn (2 * 2 + 2 + 0) 2 _).congr fun i hi => (h i hi).symm
end Go.Am.B

/- shapes, vector, ref14: by the evaluator; law14.awake. -/
namespace Go.Am.B
open Go Go.Am.N AV aa aj IntKind
end Go.Am.B

/- law10.awake. -/
namespace Go.Am.B
open Go Go.Am.N AV aa aj IntKind
theorem KW : aO P uF wo (ax wo) := aP P0 (by kernel_rfl) (by kernel_rfl) (by kernel_rfl)
def Ju : Spec := bu fun l => match l with
 | [.mag 2] => some (aG (.str [50]) [])
 | [.mag 3] => some (aG (.str [51]) [])
 | [.mag 4] => some (aG (.str [52]) [])
 | [.mag 5] => some (aG (.str [53]) [])
 | _ => none
def wW : aQ := [sG, (vW, Ju)]
def HU : Spec := bu fun l => match l with
 | [.rat q _] => match decide (q = 3 / 5), decide (q = 4 / 5), decide (q = 3 / 2) with
  | true, _, _ => some (aG (.str [51, 47, 53]) [])
  | false, true, _ => some (aG (.str [52, 47, 53]) [])
  | false, false, true => some (aG (.str [51, 47, 50]) [])
  | _, _, _ => none
 | _ => none
noncomputable def Jf : aQ := sG :: (wN, BJ) :: (y8, IQ) :: (zM, JO) :: (EM, mq T (sG :: ql) [] 200 Ff) :: (mw, xb) :: (sA, HU) :: ql
theorem abS : bB T pI [] 60 iM (ax iM) ⟨aL 0 [.mag 2], [], 0⟩ =
  let c1 : Int := (↑(1 : Nat) : Int); some (ag [nl 2 < 2 ^ 40, (0 : Int) < (1000000000 : Int), (1000000000 : Int) < (2 : Int) ^ 32] (ag [(10 : Int) ≠ (0 : Int), (0 : Nat) < 1 ∧ 1 * ((1 : Nat) + 1) * 2 ≤ 2 ^ 47] (ag [(10 : Int) ≠ (0 : Int)] (ag [(0 : Int) ≤ c1 ∧ c1 ≤ c1 ∧ c1 ≤ (2 : Int) ^ 47 ∧ c1 * c1 ≤ (2 : Int) ^ 47] (leaf ret [str [UInt8.ofNat (u8.wrap (u32.wrap ((48 : Int) + (↑((2 : Nat) % Int.toNat (1000000000 : Int)) : Int).tmod (10 : Int)))).toNat]]))))) := by kernel_rfl
theorem ZI : bB T pI [] 60 iM (ax iM) ⟨aL 0 [.mag 3], [], 0⟩ =
  let c1 : Int := (↑(1 : Nat) : Int); some (ag [nl 3 < 2 ^ 40, (0 : Int) < (1000000000 : Int), (1000000000 : Int) < (2 : Int) ^ 32] (ag [(10 : Int) ≠ (0 : Int), (0 : Nat) < 1 ∧ 1 * ((1 : Nat) + 1) * 2 ≤ 2 ^ 47] (ag [(10 : Int) ≠ (0 : Int)] (ag [(0 : Int) ≤ c1 ∧ c1 ≤ c1 ∧ c1 ≤ (2 : Int) ^ 47 ∧ c1 * c1 ≤ (2 : Int) ^ 47] (leaf ret [str [UInt8.ofNat (u8.wrap (u32.wrap ((48 : Int) + (↑((3 : Nat) % Int.toNat (1000000000 : Int)) : Int).tmod (10 : Int)))).toNat]]))))) := by kernel_rfl
theorem SP : bB T pI [] 60 iM (ax iM) ⟨aL 0 [.mag 4], [], 0⟩ =
  let c1 : Int := (↑(1 : Nat) : Int); some (ag [nl 4 < 2 ^ 40, (0 : Int) < (1000000000 : Int), (1000000000 : Int) < (2 : Int) ^ 32] (ag [(10 : Int) ≠ (0 : Int), (0 : Nat) < 1 ∧ 1 * ((1 : Nat) + 1) * 2 ≤ 2 ^ 47] (ag [(10 : Int) ≠ (0 : Int)] (ag [(0 : Int) ≤ c1 ∧ c1 ≤ c1 ∧ c1 ≤ (2 : Int) ^ 47 ∧ c1 * c1 ≤ (2 : Int) ^ 47] (leaf ret [str [UInt8.ofNat (u8.wrap (u32.wrap ((48 : Int) + (↑((4 : Nat) % Int.toNat (1000000000 : Int)) : Int).tmod (10 : Int)))).toNat]]))))) := by kernel_rfl
theorem RG : bB T pI [] 60 iM (ax iM) ⟨aL 0 [.mag 5], [], 0⟩ =
  let c1 : Int := (↑(1 : Nat) : Int); some (ag [nl 5 < 2 ^ 40, (0 : Int) < (1000000000 : Int), (1000000000 : Int) < (2 : Int) ^ 32] (ag [(10 : Int) ≠ (0 : Int), (0 : Nat) < 1 ∧ 1 * ((1 : Nat) + 1) * 2 ≤ 2 ^ 47] (ag [(10 : Int) ≠ (0 : Int)] (ag [(0 : Int) ≤ c1 ∧ c1 ≤ c1 ∧ c1 ≤ (2 : Int) ^ 47 ∧ c1 * c1 ≤ (2 : Int) ^ 47] (leaf ret [str [UInt8.ofNat (u8.wrap (u32.wrap ((48 : Int) + (↑((5 : Nat) % Int.toNat (1000000000 : Int)) : Int).tmod (10 : Int)))).toNat]]))))) := by kernel_rfl
theorem VU : bB T wW [] 60 jO (ax jO) ⟨aL 0 [.agg [.bool false, .mag 3, .mag 5]], [], 0⟩ =
  some (leaf ret [str [(51 : UInt8), (47 : UInt8), (53 : UInt8)]]) := by kernel_rfl
theorem abF : bB T wW [] 60 jO (ax jO) ⟨aL 0 [.agg [.bool false, .mag 4, .mag 5]], [], 0⟩ =
  some (leaf ret [str [(52 : UInt8), (47 : UInt8), (53 : UInt8)]]) := by kernel_rfl
theorem aaw : bB T wW [] 60 jO (ax jO) ⟨aL 0 [.agg [.bool false, .mag 3, .mag 2]], [], 0⟩ =
  some (leaf ret [str [(51 : UInt8), (47 : UInt8), (50 : UInt8)]]) := by kernel_rfl
theorem Tc : bB T Jf [100024, 100028, 100032, 100038, 100044, 100050] 200 wo (ax wo) ⟨aL 0 [], [], 0⟩ =
  let c10 : Rat := (↑(1 : Int) : Rat) / (↑(2 : Int) : Rat); let c9 : Int := (2 : Int) ^ 63; let c8 : List UInt8 := [(47 : UInt8), (53 : UInt8)]; let c6 : AV := agg [AV.bool (decide ((0 : Rat) < 0)), mag (↑(nat_lit 0) : Int).natAbs, mag (if 1 = 1 then 0 else 1)]; let c5 : AV := rat 0 1; let c4 : AV := rat (↑(1 : Int) : Rat) (Max.max 1 (aZ (Int.natAbs (1 : Int)))); let c7 : AV := agg [agg [c5, c5, c5], c5]; let c3 : List AV := [agg [agg [c4, c5, c5], c4], agg [agg [c4, c4, c5], c4], agg [agg [c6, c4, c5], rat (↑(2 : Int) : Rat) (Max.max 1 (aZ (Int.natAbs (2 : Int))))]]; let c2 : List AV := [c6, c6, c6, c4, c4, c4]; let c1 : Cu := Cu.mk (2 : Int) 6 (fun i ↦ bp (nth c2 c5 (i + 0))) 3 fun i ↦ jH (nth c3 c7 (i + 0)); some (ag [(0 : Nat) < 1] (ag [-c9 ≤ (1 : Int), (1 : Int) < c9, -c9 ≤ (2 : Int), (2 : Int) < c9] (ag [cz (fun i ↦ nth c2 c5 (i + 0)) 6 sJ, jv (fun i ↦ nth c3 c7 (i + 0)) 3 sJ, (64 : Nat) ≤ sK, fy c1] (ag [cz (fun i ↦ nth c2 c5 (i + 0)) 6 2000, jv (fun i ↦ nth c3 c7 (i + 0)) 3 2000, (64 : Nat) ≤ 2000, fy c1] (ag [cz (fun i ↦ nth c2 c5 (i + 0)) 6 2048, jv (fun i ↦ nth c3 c7 (i + 0)) 3 2048, fy c1, ∀ (i : Nat), i < 3 → 0 < (jH (nth c3 c7 (i + 0))).d, ((0 : Int) == (0 : Int)) = true, (bif true then dB 6 (fun i ↦ bp (nth c2 c5 (i + 0))) c10 == (0 : Int) else false) = true, (bif true then jT c1 c10 == (0 : Int) else false) = true, (bif true then (51 : UInt8) :: c8 == (51 : UInt8) :: c8 else false) = true, (bif true then (52 : UInt8) :: c8 == (52 : UInt8) :: c8 else false) = true, (bif true then (↑((6 : Nat) + 1 - Int.toNat (2 : Int) - 1) : Int) == (4 : Int) else false) = true] (leaf ret [AV.bool true])))))) := by kernel_rfl
theorem Y8 : ∀ K args pre r, Ju K args pre = some r → aA P vW K args pre r := by
 refine bN fun K args r hk hs _ => ?_
 have fin : ∀ {N : Nat} {t : aa (List AV)} {l : List UInt8}, bB T pI [] 60 iM (ax iM) ⟨aL 0 [.mag N], [], 0⟩ = some t → (t.all fun _ us => dg us (.str l)) → aA P vW K [.mag N] [] (aG (.str l) []) := fun h1 h2 =>
  bH (r := aG _ []) hT ab9 hm Nr rfl (of_decide_eq_true (by kernel_rfl)) rfl 60 h1 (fun _ => h2) K []
 split at hs <;> simp only [Option.some.injEq, reduceCtorEq] at hs
 all_goals subst hs
 ·exact fin abS (by simp only [aa.all, ay]; exact ⟨by decide, by decide, by decide, by decide, .refl _⟩)
 ·exact fin ZI (by simp only [aa.all, ay]; exact ⟨by decide, by decide, by decide, by decide, .refl _⟩)
 ·exact fin SP (by simp only [aa.all, ay]; exact ⟨by decide, by decide, by decide, by decide, .refl _⟩)
 ·exact fin RG (by simp only [aa.all, ay]; exact ⟨by decide, by decide, by decide, by decide, .refl _⟩)
theorem V2 : bg P wW := mT (aH Y8 bn)
theorem YL : ∀ K args pre r, HU K args pre = some r → aA P sA K args pre r := by
 refine bN fun K args r hk hs _ => ?_
 have fin : ∀ {q : Rat} {n a b : Nat} {t : aa (List AV)} {l : List UInt8}, kids (.rat q n) = [.bool false, .mag a, .mag b] → bB T wW [] 60 jO (ax jO) ⟨aL 0 [.agg [.bool false, .mag a, .mag b]], [], 0⟩ = some t → (t.all fun _ us => dg us (.str l)) → aA P sA K [.rat q n] [] (aG (.str l) []) := fun h0 h1 h2 =>
  fc (bH (r := aG _ []) hT V2 hm XP rfl (of_decide_eq_true (by kernel_rfl)) rfl 60 h1 (fun _ => h2) K []) rfl (show dP [_] [_] from ⟨by rw [← h0]; exact H7, trivial⟩) []
 split at hs
 ·rename_i q n
  split at hs
  all_goals simp only [Option.some.injEq, reduceCtorEq] at hs
  all_goals subst hs
  ·obtain rfl : q = 3 / 5 := of_decide_eq_true ‹_›
   exact fin (by kernel_rfl) VU (.refl _)
  ·obtain rfl : q = 4 / 5 := of_decide_eq_true ‹decide (q = 4 / 5) = true›
   exact fin (by kernel_rfl) abF (.refl _)
  ·obtain rfl : q = 3 / 2 := of_decide_eq_true ‹decide (q = 3 / 2) = true›
   exact fin (by kernel_rfl) aaw (.refl _)
 ·simp at hs
theorem Qj : bg P Jf := mT (aH Fl (aH ZG (aH UN (aH (oN hT (mT wC) hm (aP NL (by kernel_rfl) (by kernel_rfl) (by kernel_rfl)) _ _) (aH yP (aH YL wC))))))
theorem QM (K : Nat) : aA P uF K [] [] (aG (.bool true) []) := by
 refine bH (r := aG (.bool true) []) hT Qj hm KW rfl (of_decide_eq_true (by kernel_rfl)) rfl 200 Tc (fun _ => ?_) K []
 have hR : ∀ s, 4 ≤ s → cz (fun i => nth [.agg [AV.bool (decide ((0 : Rat) < 0)), mag (↑(nat_lit 0) : Int).natAbs, mag (if 1 = 1 then 0 else 1)], .agg [AV.bool (decide ((0 : Rat) < 0)), mag (↑(nat_lit 0) : Int).natAbs, mag (if 1 = 1 then 0 else 1)], .agg [AV.bool (decide ((0 : Rat) < 0)), mag (↑(nat_lit 0) : Int).natAbs, mag (if 1 = 1 then 0 else 1)], .rat (↑(1 : Int) : Rat) (Max.max 1 (aZ (Int.natAbs (1 : Int)))), .rat (↑(1 : Int) : Rat) (Max.max 1 (aZ (Int.natAbs (1 : Int)))), .rat (↑(1 : Int) : Rat) (Max.max 1 (aZ (Int.natAbs (1 : Int))))] (.rat 0 1) (i + 0)) 6 s := fun s hs i hi => by
  obtain ⟨s, rfl⟩ : ∃ s', s = s' + 1 := ⟨s - 1, by omega⟩
  match i, hi with
  | 0, _ | 1, _ | 2, _ => exact kz
  | 3, _ | 4, _ | 5, _ => exact ew (Nat.le_trans (by decide) hs)
 simp only [aa.all, ay]
 (repeat' with_reducible first | refine And.intro ?_ ?_)
 all_goals first | omega | decide | exact hR _ (by decide) | skip
 all_goals first | decide +kernel | exact .refl _ | skip
 all_goals first | refine ⟨Sa fun i hi => ?_, by decide, by decide, by decide, by decide⟩ | intro i hi
 all_goals first
  | match i, hi with
   | 0, _ | 1, _ | 2, _ | 3, _ | 4, _ | 5, _ => decide +kernel
  | match i, hi with
   | 0, _ | 1, _ | 2, _ => decide +kernel
  | skip
 all_goals match i, hi with
  | 0, _ | 1, _ => exact ee ⟨ee ⟨ew (by decide), ew (by decide), ew (by decide), trivial⟩, ew (by decide), trivial⟩
  | 2, _ => exact ee ⟨ee ⟨kz, ew (by decide), ew (by decide), trivial⟩, ew (by decide), trivial⟩
def KK : Spec := bu fun l => match l with
 | [] => some (aG (.bool true) [])
 | _ => none
theorem TD : ∀ K args pre r, KK K args pre = some r → aA P uF K args pre r := by
 refine bN fun K args r hk hs _ => ?_
 split at hs
 ·simp only [Option.some.injEq] at hs
  subst hs
  exact fun need => QM K need
 ·simp at hs
end Go.Am.B
