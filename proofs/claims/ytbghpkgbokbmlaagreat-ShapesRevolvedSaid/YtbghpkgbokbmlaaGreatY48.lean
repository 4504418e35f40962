/- fL.Times, ref08.Times; fL.copied. -/
import Derived.Test.YtbghpkgbokbmlaaGreatY45
import Derived.Test.YtbghpkgbokbmlaaGreatC8
import Derived.Test.YtbghpkgbokbmlaaGreatZ2
import Derived.Test.YtbghpkgbokbmlaaGreatC2
set_option linter.unusedVariables false
namespace Go.Am.B
open Go Go.Am.N AV aa ah IntKind
theorem U0 : aS P rQ tg (au tg) := aN Xq (by kernel_rfl) (by kernel_rfl) (by kernel_rfl)
abbrev sJ : Nat := 4000
abbrev rP : List Nat := [0, 3, 5, 6]
abbrev rZ (n : Nat) (k : Nat → Rat) (c i : Nat) : List AV := [ls k n, .ptr 0 0 3 0 [], .int .i64 c, .int .i64 i]
noncomputable abbrev qU : Code := au tg
theorem ZO {n : Nat} {k : Nat → Rat} {t : Rat} : aI T gz [] 60 rP (before qU [1,1,0,1]) ⟨aO 0 [ls k n, .rat t sK], [], 0⟩ =
  some (leaf normal ([aj 3 n fun i ↦ rat (k i) 4096, ptr 0 0 (bu (rat t sK)).size 0 [], int i64 (0 : Int), int i64 (0 : Int)], [((0 : Nat), ay.mk false true (bu (rat t sK)).size 1 fun x ↦ rat t 4096)])) := by kernel_rfl
theorem VF {n c i : Nat} {k : Nat → Rat} {t : Rat} : aI T gz [10, 18] 60 rP [part qU [1,1,0,1,0,0]] ⟨aA rP (rZ n k c i), [(0, tP t sK)], 1⟩ =
  let c7 : Int := (↑c : Int) + (1 : Int); let c6 : Int := (↑i : Int); let c5 : AV := ptr 0 0 3 0 []; let c4 : AV := aj 3 n fun i ↦ rat (k i) 4096; let c3 : Int := (2 : Int) ^ 63; let c1 : Nat × ay := ((0 : Nat), ay.mk false true 3 1 fun x ↦ rat t 4096); let c2 : Int := c6 + (1 : Int); some (fork (decide (c6 < (↑n : Int))) (af [(0 : Int) ≤ c6 ∧ c6.toNat < n, (0 : Nat) < 1] (fork (decide (k c6.toNat = t)) (af [-c3 ≤ c7 ∧ c7 < c3] (af [-c3 ≤ c2 ∧ c2 < c3] (leaf normal ([c4, c5, int i64 c7, int i64 c2], [c1])))) (af [-c3 ≤ c2 ∧ c2 < c3] (leaf normal ([c4, c5, int i64 (↑c : Int), int i64 c2], [c1]))))) (leaf (exit 0) ([c4, c5, int i64 (↑c : Int), int i64 c6], [c1]))) := by kernel_rfl
theorem Y9 {n c i : Nat} {k : Nat → Rat} {t : Rat} : b9 T gz [] 60 tg [part qU [1,1,1]] ⟨aA rP (rZ n k c i), [(0, tP t sK)], 1⟩ =
  some (leaf ret [int i64 (↑c : Int)]) := by kernel_rfl
theorem RQ {k : Nat → Rat} {t : Rat} {i : Nat} (h : k i = t) : dc k t (i + 1) = dc k t i + 1 := by rw [dc, if_pos h]
theorem UO {k : Nat → Rat} {t : Rat} {i : Nat} (h : ¬ k i = t) : dc k t (i + 1) = dc k t i := by rw [dc, if_neg h]; rfl
theorem QL {n : Nat} {k : Nat → Rat} {t : Rat} (hn : n < 2 ^ 40) (K : Nat) : aB P rQ K [ls k n, .rat t sK] [] (aH (.int .i64 (dc k t n)) []) := by
 refine kY (r := aH (.int .i64 (dc k t n)) []) hT yc hm U0 rfl (of_decide_eq_true (by kernel_rfl)) rfl [1,1,0,1] (i := 0) (y := part qU [1,1,0,1,0,0]) (z := part qU [1,1,1]) (by kernel_rfl) (by kernel_rfl) (by kernel_rfl) (f1 := []) (f2 := [10, 18]) (f3 := []) 60 rP 1
  (fun i : Nat => rZ n k (dc k t i) i) (fun _ => [(0, tP t sK)]) (fun i => i ≤ n) (fun i => i = n) (fun i => n - i) (fun _ => ⟨⟨_, ZO, ?_⟩, fun i hi => ⟨_, VF, ?_⟩, fun i hi => ⟨_, Y9, ?_⟩⟩) K []
 ·simp only [aa.all, ax]
  exact ⟨0, Nat.zero_le _, [(0, 0)], rfl, rfl, rfl, aU rfl rfl (aQ rfl rfl) trivial⟩
 ·have h1 := FC (k := k) (t := t) (n := i)
  simp only [aa.all, ax, decide_eq_true_eq, decide_eq_false_iff_not, Int.toNat_natCast, Nat.add_zero]
  refine ⟨fun h2 => ⟨by omega, fun h3 => ⟨by omega, by omega, i + 1, by omega, by dsimp only; omega, [(0, 0)], rfl, ?_, rfl, aU rfl rfl (aQ rfl rfl) trivial⟩, fun h3 => ⟨by omega, i + 1, by omega, by dsimp only; omega, [(0, 0)], rfl, ?_, rfl, aU rfl rfl (aQ rfl rfl) trivial⟩⟩, fun h2 => ⟨rfl, i, by omega, [(0, 0)], rfl, rfl, rfl, aU rfl rfl (aQ rfl rfl) trivial⟩⟩
  ·show _ = (rZ n k (dc k t (i + 1)) (i + 1)).map _
   rw [RQ h3]; rfl
  ·show _ = (rZ n k (dc k t (i + 1)) (i + 1)).map _
   rw [UO h3]; rfl
 ·subst hi
  simp only [aa.all, ax]
  exact .refl _
abbrev Yy : nv ((Nat × (Nat → Rat)) × Rat × Unit) := kC (kL sK) (kC (iu sK) kN)
noncomputable def Dt : Spec := ey Yy (fun a => .int .i64 (dc a.1.2 a.2.1 a.1.1)) fun a => [a.1.1 < 2 ^ 40]
theorem Q9 : ∀ K args pre r, Dt K args pre = some r → aB P rQ K args pre r := eE fun ⟨⟨n, k⟩, t, _⟩ K hn => QL hn K
end Go.Am.B

/- slices.CompactFunc of numbers; fL.Distinct. -/
namespace Go.Am.B
open Go Go.Am.N AV aa ah IntKind
end Go.Am.B

/- fL.Distinct, ref08.Distinct, slices.IsSortedFunc of numbers. -/
namespace Go.Am.B
open Go Go.Am.N AV aa ah IntKind
theorem UD : aS P wN ql (au ql) := aN Sj (by kernel_rfl) (by kernel_rfl) (by kernel_rfl)
noncomputable abbrev n5 : Code := au ql
abbrev lP : List Nat := [0, 3, 4]
abbrev jY (n : Nat) (k : Nat → Rat) (v : AV) (i : Int) : List AV := [bV k n sJ, v, .int .i64 i]
abbrev AB (m : Nat) (k : Nat → Rat) : ay := ⟨true, true, 3, m, fun i => .rat (k i) sJ⟩
theorem Ol {n : Nat} {k : Nat → Rat} : aI T gz [] 60 lP (before n5 [1,1,0,1]) ⟨aO 0 [bV k n sJ], [], 0⟩ =
  some (leaf normal ([aj 3 n fun i ↦ rat (k i) 4000, nil, int i64 (0 : Int)], [])) := by kernel_rfl
theorem XY {n : Nat} {k : Nat → Rat} : aI T gz [8, 13, 25] 60 lP [part n5 [1,1,0,1,0,0]] ⟨aA lP (jY n k .nil 0), [], 1⟩ =
  let c6 : Int := (2 : Int) ^ 63; let c5 : Nat := Int.toNat (0 : Int); let c4 : Int := (0 : Int) - (1 : Int); let c3 : AV := aj 3 n fun i ↦ rat (k i) 4000; let c8 : Prop := (0 : Int) ≤ (0 : Int) ∧ c5 < n; let c2 : Prop := -c6 ≤ (0 : Int) + (1 : Int) ∧ (0 : Int) + (1 : Int) < c6; let c7 : aa (List AV × aD) := af [c2] (leaf normal ([c3, nil, int i64 (1 : Int)], [])); let c1 : aa (List AV × aD) := af [c8, (1 : Nat) * 3 ≤ 2 ^ 24, (0 : Nat) < 1 ∧ 1 * ((56 : Nat) + 1) * 2 ≤ 2 ^ 47] (af [c2] (leaf normal ([c3, own 102401 3 0 1, int i64 (1 : Int)], [((102401 : Nat), ay.mk true true 3 1 fun i ↦ nth [rat (k c5) sJ] (rat 0 1) (i + 0))]))); some (fork (decide ((0 : Int) < (↑n : Int))) (fork true (af [((0 : Int) == (0 : Int)) = true] (fork true c1 c7)) (af [((0 : Int) == (0 : Int)) = false, c8, -c6 ≤ c4 ∧ c4 < c6, (0 : Int) ≤ c4 ∧ c4.toNat < n] (fork (bif false then true else !decide (k c5 = k c4.toNat)) c1 c7))) (leaf (exit 0) ([c3, nil, int i64 (0 : Int)], []))) := by kernel_rfl
theorem Nr {n l i : Nat} {k x : Nat → Rat} : aI T gz [8, 13, 25] 60 lP [part n5 [1,1,0,1,0,0]] ⟨aA lP (jY n k (.own 0 3 0 (l + 1)) ((i + 1 : Nat) : Int)), [(0, AB (l + 1) x)], 1⟩ =
  let c6 : AV := aj 3 n fun i ↦ rat (k i) 4000; let c5 : Nat := l + 1; let c4 : Int := (2 : Int) ^ 63; let c2 : Int := (↑(i + 1) : Int); let c12 : Nat := c5 + 1; let c11 : Prop := (0 : Int) ≤ c2 ∧ c2.toNat < n; let c10 : AV := own 0 3 0 c5; let c9 : Int := c2 + (1 : Int); let c8 : Int := c2 - (1 : Int); let c7 : Nat × ay := ((0 : Nat), ay.mk true true 3 c5 fun i ↦ rat (x i) 4000); let c3 : aa (List AV × aD) := af [-c4 ≤ c9 ∧ c9 < c4] (leaf normal ([c6, c10, int i64 c9], [c7])); let c1 : aa (List AV × aD) := af [c11, (1 : Nat) * 3 ≤ 2 ^ 24, c12 * ((56 : Nat) + 1) * 2 ≤ 2 ^ 47] (af [-c4 ≤ c9 ∧ c9 < c4] (leaf normal ([c6, own 102401 3 0 c12, int i64 c9], [((102401 : Nat), ay.mk true true 3 c12 fun i ↦ if i < c5 then rat (x i) sJ else nth [rat (k c2.toNat) sJ] (rat 0 1) (i - c5 + 0))]))); some (fork (decide (c2 < (↑n : Int))) (fork false (af [(c2 == (0 : Int)) = true] (fork true c1 c3)) (af [(c2 == (0 : Int)) = false, c11, -c4 ≤ c8 ∧ c8 < c4, (0 : Int) ≤ c8 ∧ c8.toNat < n] (fork (bif false then true else !decide (k c2.toNat = k c8.toNat)) c1 c3))) (leaf (exit 0) ([c6, c10, int i64 c2], [c7]))) := by kernel_rfl
theorem PD {n : Nat} {k : Nat → Rat} : b9 T gz [] 60 ql [part n5 [1,1,1]] ⟨aA lP (jY n k .nil 0), [], 1⟩ =
  some (leaf ret [nil]) := by kernel_rfl
theorem Ox {n l i : Nat} {k x : Nat → Rat} : b9 T gz [] 60 ql [part n5 [1,1,1]] ⟨aA lP (jY n k (.own 0 3 0 (l + 1)) ((i + 1 : Nat) : Int)), [(0, AB (l + 1) x)], 1⟩ =
  some (leaf ret [aj 3 (l + 1) fun i ↦ rat (x (i + 0)) 4000]) := by kernel_rfl
noncomputable def EH : Spec := ey (kC (kL sJ) kN) (fun a => ls (cE a.1.2 a.1.1) (bA a.1.2 a.1.1)) fun a => [a.1.1 < 2 ^ 40]
theorem aaA : ∀ K args pre r, EH K args pre = some r → aB P wN K args pre r := eE fun ⟨⟨n, k⟩, _⟩ K hn => by
 have hn : n < 2 ^ 40 := hn
 refine kY (r := aH (ls (cE k n) (bA k n)) []) hT yc hm UD rfl (of_decide_eq_true (by kernel_rfl)) rfl [1,1,0,1] (i := 0) (y := part n5 [1,1,0,1,0,0]) (z := part n5 [1,1,1]) (by kernel_rfl) (by kernel_rfl) (by kernel_rfl) (f1 := []) (f2 := [8, 13, 25]) (f3 := []) 60 lP 1
  (fun i : Nat => jY n k (match i with
   | 0 => .nil
   | _ + 1 => .own 0 3 0 (bA k i)) i) (fun i => match i with
   | 0 => []
   | _ + 1 => [(0, AB (bA k i) (cE k i))]) (fun i => i ≤ n) (fun i => i = n) (fun i => n - i) (fun _ => ⟨⟨_, Ol, ?_⟩, fun i hi => ?_, fun i hi => ?_⟩) K []
 ·simp only [aa.all, ax]
  exact ⟨0, Nat.zero_le _, dx.vals rfl⟩
 ·cases i with
  | zero =>
   refine ⟨_, XY, ?_⟩
   simp only [aa.all, ax, decide_eq_true_eq, decide_eq_false_iff_not]
   have e1 : bA k 1 = 1 := by simp [bA, gf]
   have e2 : cE k 1 0 = k 0 := by simp [cE, bA, gf, gL]
   (repeat' with_reducible first | refine And.intro ?_ ?_ | intro _)
   all_goals first | omega | decide | exact absurd ‹true = false› (by decide) | skip
   ·refine ⟨1, by omega, by dsimp only; omega, [(0, 102401)], rfl, ?_, rfl, bR rfl rfl e1.symm (fun j hj => ?_) trivial⟩
    ·show _ = (jY n k (.own 0 3 0 (bA k 1)) 1).map _
     rw [e1]; rfl
    ·have hj : j = 0 := by rw [e1] at hj; omega
     subst hj
     exact aQ rfl (by rw [e2]; rfl)
   ·exact ⟨rfl, 0, by omega, dx.vals rfl⟩
  | succ i =>
   obtain ⟨l, hl⟩ : ∃ l, bA k (i + 1) = l + 1 := ⟨bA k (i + 1) - 1, by have := (pC (k := k) (n := i)).1; omega⟩
   dsimp only
   rw [hl]
   refine ⟨_, Nr, ?_⟩
   simp only [aa.all, ax, decide_eq_true_eq, decide_eq_false_iff_not]
   have e3 : ((i + 1 : Nat) : Int).toNat = i + 1 := by omega
   have e4 : (((i + 1 : Nat) : Int) - 1).toNat = i := by omega
   have hle := Cf (k := k) (n := i + 1)
   (repeat' with_reducible first | refine And.intro ?_ ?_ | intro _)
   all_goals first | omega | exact absurd ‹false = true› (by decide) | exact absurd ‹true = false› (by decide) | skip
   ·simp
    omega
   ·rename_i hne
    rw [e3, e4, cond_false, Bool.not_eq_true', decide_eq_false_iff_not] at hne
    have hnew : gf k (i + 1) := HB.2 hne
    have e5 : bA k (i + 1 + 1) = l + 1 + 1 := by rw [Sa hnew, hl]
    refine ⟨i + 2, by omega, by dsimp only; omega, [(0, 102401)], rfl, ?_, rfl, bR rfl rfl e5.symm (fun j hj => ?_) trivial⟩
    ·show _ = (jY n k (.own 0 3 0 (bA k (i + 1 + 1))) ((i + 1 + 1 : Nat) : Int)).map _
     rw [e5]; rfl
    ·rw [e5] at hj
     refine zE (y := cE k (i + 1 + 1)) (fun x hx => ?_) ?_ (Nat.le_refl _) (Nat.le_refl _) hj
     ·rw [show cE k (i + 1 + 1) = gL (cE k (i + 1)) (bA k (i + 1)) (k (i + 1)) from if_pos hnew, hl, gk (by omega)]
     ·rw [show cE k (i + 1 + 1) = gL (cE k (i + 1)) (bA k (i + 1)) (k (i + 1)) from if_pos hnew, hl, kD, e3]
   ·rename_i heq
    rw [e3, e4, cond_false, Bool.not_eq_false', decide_eq_true_eq] at heq
    have hold : ¬ gf k (i + 1) := fun h => HB.1 h heq
    have e5 : bA k (i + 1 + 1) = l + 1 := by rw [X8 hold, hl]
    refine ⟨i + 2, by omega, by dsimp only; omega, [(0, 0)], rfl, ?_, rfl, bR rfl rfl e5.symm (fun j hj => aQ rfl ?_) trivial⟩
    ·show _ = (jY n k (.own 0 3 0 (bA k (i + 1 + 1))) ((i + 1 + 1 : Nat) : Int)).map _
     rw [e5]; rfl
    ·show _ = AV.rat (cE k (i + 1 + 1) j) sJ
     rw [show cE k (i + 1 + 1) = cE k (i + 1) from if_neg hold]
   ·refine ⟨rfl, i + 1, by omega, [(0, 0)], rfl, ?_, rfl, bR rfl rfl hl.symm (fun j hj => aQ rfl rfl) trivial⟩
    show _ = (jY n k (.own 0 3 0 (bA k (i + 1))) ((i + 1 : Nat) : Int)).map _
    rw [hl]; rfl
 ·cases i with
  | zero =>
   refine ⟨_, PD, ?_⟩
   simp only [aa.all, ax]
   subst hi
   exact jD (by omega)
  | succ i =>
   obtain ⟨l, hl⟩ : ∃ l, bA k (i + 1) = l + 1 := ⟨bA k (i + 1) - 1, by have := (pC (k := k) (n := i)).1; omega⟩
   dsimp only
   rw [hl]
   refine ⟨_, Ox, ?_⟩
   simp only [aa.all, ax]
   subst hi
   exact (pH (g := fun j => .rat (cE k (i + 1) j) sJ) hl.symm fun j hj => rfl).trans (iP fun j hj => dF (by decide))
end Go.Am.B

/- fL.Check, ref08.Check. -/
namespace Go.Am.B
open Go Go.Am.N AV aa ah IntKind
theorem Ef : aS P qM jZ (au jZ) := aN PY (by kernel_rfl) (by kernel_rfl) (by kernel_rfl)
noncomputable def qv : aT := (wh, BA) :: (wN, EH) :: (rQ, Dt) :: gm
noncomputable abbrev tE : Code := au jZ
abbrev oc : List Nat := [4, 0, 1, 5]
abbrev BH (n : Nat) (k : Nat → Rat) (p : Int) (i : Nat) : List AV := [.int .i64 0, bV k n sJ, .int .i64 p, .int .i64 i]
abbrev nP : List Nat := [4, 0, 1, 6, 7]
abbrev Bw (n : Nat) (k : Nat → Rat) (p : Int) (d : Nat) (f : Nat → Rat) (i : Nat) : List AV := [.int .i64 0, bV k n sJ, .int .i64 p, bV f d sK, .int .i64 i]
noncomputable abbrev l8 : Code := part tE [1,1,1,1,1]
theorem Zi {n : Nat} {k : Nat → Rat} {p : Int} : aI T qv [11, 14, 20, 24] 60 oc (before tE [1,1,1,1,0,1]) ⟨aO 0 [bV k n sJ, .int .i64 p], [], 0⟩ =
  let c7 : Int := (↑n : Int) - p - (1 : Int); let c6 : AV := int i64 (1 : Int); let c5 : Bool := decide (p < (1 : Int)); let c4 : Int := i64.wrap (i64.wrap ((2 : Int) * p) + (2 : Int)); let c3 : AV := aj 3 n fun i ↦ rat (k i) 4000; let c2 : List AV := [c3, int i64 p, tuple []]; let c1 : aa (List AV × aD) := fork (decide ((↑n : Int) < c4)) (leaf ret (int i64 (5 : Int) :: c2, [])) (af [cq (fun i ↦ rat (k i) sJ) n sK, n < 2 ^ 40, -(2 : Int) ^ 40 < p, p < (2 : Int) ^ 40] (fork (decide (c7 > (40 : Int))) (leaf ret (int i64 (2 : Int) :: c2, [])) (leaf normal ([int i64 (0 : Int), c3, int i64 p, c6], [])))); some (fork c5 (af [c5 = true] (fork true (leaf ret (c6 :: c2, [])) c1)) (af [c5 = false] (fork (bif false then true else decide (p > (6 : Int))) (leaf ret (c6 :: c2, [])) c1))) := by kernel_rfl
theorem Py {n i : Nat} {k : Nat → Rat} {p : Int} : aI T qv [28, 41] 60 oc [part tE [1,1,1,1,0,1,0,0]] ⟨aA oc (BH n k p i), [], 1⟩ =
  let c3 : Int := (↑i : Int); let c2 : AV := aj 3 n fun i ↦ rat (k i) 4000; let c1 : Int := i64.wrap (c3 - (1 : Int)); let c4 : Int := fS (k c3.toNat) (k c1.toNat); some (fork (decide (c3 < (↑n : Int))) (af [(0 : Int) ≤ c3 ∧ c3.toNat < n, (0 : Int) ≤ c1 ∧ c1.toNat < n] (fork (decide (c4 < (0 : Int))) (leaf ret ([int i64 (5 : Int), c2, int i64 p, int i64 c3], [])) (leaf normal ([int i64 (0 : Int), c2, int i64 p, int i64 (i64.wrap (c3 + (1 : Int)))], [])))) (leaf (exit 0) ([int i64 (0 : Int), c2, int i64 p, int i64 c3], []))) := by kernel_rfl
theorem Uj {n i : Nat} {k : Nat → Rat} {p : Int} : aI T qv [] 60 nP (before l8 [1,0,1]) ⟨aA oc (BH n k p i), [], 1⟩ =
  some (af [cq (fun i ↦ rat (k i) sJ) n sJ, n < 2 ^ 40] (leaf normal ([int i64 (0 : Int), aj 3 n fun i ↦ rat (k i) 4000, int i64 p, aj 3 (bA (fun i ↦ aM (rat (k i) sJ)) n) fun i ↦ rat (cE (fun i ↦ aM (rat (k i) sJ)) n i) 4096, int i64 (0 : Int)], []))) := by kernel_rfl
theorem R6 {n d i : Nat} {k f : Nat → Rat} {p : Int} : aI T qv [47, 58, 65, 71, 77, 80, 87, 92] 60 nP [part l8 [1,0,1,0,0]] ⟨aA nP (Bw n k p d f i), [], 1⟩ =
  let c33 : AV := aj 3 n fun i ↦ rat (k i) 4000; let c32 : AV := aj 3 d fun i ↦ rat (f i) 4096; let c26 : Prop := false = true; let c24 : Prop := true = true; let c17 : Prop := false = false; let c16 : Prop := true = false; let c7 : Int := (↑i : Int); let c6 : Int := i64.wrap (p + (1 : Int)); let c5 : Int := i64.wrap ((↑d : Int) - (1 : Int)); let c15 : List AV := [c33, int i64 p, c32, int i64 c7]; let c14 : aa (List AV × aD) := leaf normal ([int i64 (0 : Int), c33, int i64 p, c32, int i64 (i64.wrap (c7 + (1 : Int)))], []); let c13 : Bool := c7 == (0 : Int); let c12 : Bool := bif false then true else c7 == c5; let c10 : Bool := decide (c7 > (0 : Int)); let c8 : Bool := bif true then decide (c7 < c5) else false; let c3 : Int := (↑(dc (fun i ↦ aM (rat (k i) sJ)) (f c7.toNat) n) : Int); let c31 : aa (List AV × aD) := leaf ret (int i64 (5 : Int) :: c15, []); let c29 : Prop := c12 = true; let c28 : Prop := c12 = false; let c25 : List Prop := [c10 = false, c17]; let c22 : Prop := c13 = true; let c21 : List Prop := [c10 = true, c8 = true]; let c20 : List Prop := [c10 = true, c8 = false]; let c19 : Prop := c13 = false; let c18 : List Prop := [c10 = false, c26]; let c11 : Bool := bif true then c3 != c6 else false; let c9 : Bool := bif false then true else decide (c3 > c6); let c30 : Prop := c11 = true; let c27 : Prop := c11 = false; let c23 : Prop := c9 = false; let c4 : aa (List AV × aD) := fork true c31 c14; let c2 : aa (List AV × aD) := fork false c31 c14; let c1 : aa (List AV × aD) := fork (bif false then true else bif true then decide (c3 > p) else false) c31 c14; some (fork (decide (c7 < (↑d : Int))) (af [(0 : Int) ≤ c7 ∧ c7.toNat < d, cq (fun i ↦ rat (k i) sJ) n sK, sK ≤ sK, n < 2 ^ 40] (fork c13 (fork true (fork c11 (fork true (af [c22, c24, c30, c24] c4) (fork c10 (fork c8 (af (c22 :: c24 :: c30 :: c16 :: c21) c1) (af (c22 :: c24 :: c30 :: c16 :: c20) c2)) (fork false (af (c22 :: c24 :: c30 :: c16 :: c18) c1) (af (c22 :: c24 :: c30 :: c16 :: c25) c2)))) (fork c9 (af [c22, c24, c27, c9 = true] c4) (fork c10 (fork c8 (af (c22 :: c24 :: c27 :: c23 :: c21) c1) (af (c22 :: c24 :: c27 :: c23 :: c20) c2)) (fork false (af (c22 :: c24 :: c27 :: c23 :: c18) c1) (af (c22 :: c24 :: c27 :: c23 :: c25) c2))))) (fork false (fork true (af [c22, c16, c26, c24] c4) (fork c10 (fork c8 (af (c22 :: c16 :: c26 :: c16 :: c21) c1) (af (c22 :: c16 :: c26 :: c16 :: c20) c2)) (fork false (af (c22 :: c16 :: c26 :: c16 :: c18) c1) (af (c22 :: c16 :: c26 :: c16 :: c25) c2)))) (fork c9 (af [c22, c16, c17, c9 = true] c4) (fork c10 (fork c8 (af (c22 :: c16 :: c17 :: c23 :: c21) c1) (af (c22 :: c16 :: c17 :: c23 :: c20) c2)) (fork false (af (c22 :: c16 :: c17 :: c23 :: c18) c1) (af (c22 :: c16 :: c17 :: c23 :: c25) c2)))))) (fork c12 (fork c11 (fork true (af [c19, c29, c30, c24] c4) (fork c10 (fork c8 (af (c19 :: c29 :: c30 :: c16 :: c21) c1) (af (c19 :: c29 :: c30 :: c16 :: c20) c2)) (fork false (af (c19 :: c29 :: c30 :: c16 :: c18) c1) (af (c19 :: c29 :: c30 :: c16 :: c25) c2)))) (fork c9 (af [c19, c29, c27, c9 = true] c4) (fork c10 (fork c8 (af (c19 :: c29 :: c27 :: c23 :: c21) c1) (af (c19 :: c29 :: c27 :: c23 :: c20) c2)) (fork false (af (c19 :: c29 :: c27 :: c23 :: c18) c1) (af (c19 :: c29 :: c27 :: c23 :: c25) c2))))) (fork false (fork true (af [c19, c28, c26, c24] c4) (fork c10 (fork c8 (af (c19 :: c28 :: c26 :: c16 :: c21) c1) (af (c19 :: c28 :: c26 :: c16 :: c20) c2)) (fork false (af (c19 :: c28 :: c26 :: c16 :: c18) c1) (af (c19 :: c28 :: c26 :: c16 :: c25) c2)))) (fork c9 (af [c19, c28, c17, c9 = true] c4) (fork c10 (fork c8 (af (c19 :: c28 :: c17 :: c23 :: c21) c1) (af (c19 :: c28 :: c17 :: c23 :: c20) c2)) (fork false (af (c19 :: c28 :: c17 :: c23 :: c18) c1) (af (c19 :: c28 :: c17 :: c23 :: c25) c2)))))))) (leaf (exit 2) (int i64 (0 : Int) :: c15, []))) := by kernel_rfl
theorem Uk {n d i : Nat} {k f : Nat → Rat} {p : Int} : b9 T qv [95] 60 jZ [part l8 [1,1]] ⟨aA nP (Bw n k p d f i), [], 1⟩ =
  some (fork (decide ((↑d : Int) < (2 : Int))) (leaf ret [int i64 (5 : Int)]) (leaf ret [int i64 (0 : Int)])) := by kernel_rfl
theorem Bk : bh P qv := aE Hy (aE aaA (aE Q9 gF))
def rL (n : Nat) (p : Int) : Prop := 1 ≤ p ∧ p ≤ 6 ∧ 2 * p + 2 ≤ (n : Int) ∧ (n : Int) - p - 1 ≤ 40
theorem Y1 {n : Nat} {k : Nat → Rat} {p : Int} (hn : n < 2 ^ 40) (K : Nat) : aB P qM K [bV k n sJ, .int .i64 p] [] (aH (.int .i64 (e8 n k p)) []) := by
 refine fq (r := aH (.int .i64 (e8 n k p)) []) hT Ef rfl (of_decide_eq_true (by kernel_rfl)) rfl (fun _ cx h0 => ?_) K []
 have hk := kE h0
 refine ak.xP hT Bk hm [1,1,1,1,0,1] (i := 0) (y := part tE [1,1,1,1,0,1,0,0]) (by kernel_rfl) (by kernel_rfl) Ef.dst hk (f1 := [11, 14, 20, 24]) (f2 := [28, 41]) 60 oc 1 (fun i : Nat => BH n k p i) (fun _ => []) (fun i => 1 ≤ i ∧ i ≤ n ∧ rL n p ∧ ∀ j, j + 1 < i → k j ≤ k (j + 1)) (fun _ => rL n p ∧ zm n k) (fun i => n - i) (jS jZ oc (.int .i64 (e8 n k p))) ⟨_, Zi, ?_⟩ (fun i ⟨h1, h2, h3, h4⟩ => ⟨_, Py, ?_⟩) (fun i s' ⟨h1, h2⟩ hle => ?_) (fun v s' hv hs' => hv.fin hs')
 ·have r : ∀ {e : Int}, e8 n k p = e → jS jZ oc (.int .i64 (e8 n k p)) ([.int .i64 e, bV k n sJ, .int .i64 p, .tuple []], []) := fun h => ⟨[.int .i64 _], by kernel_rfl, br h.symm⟩
  by_cases hp : 1 ≤ p ∧ p ≤ 6
  ·have e1 : i64.wrap (i64.wrap (2 * p) + 2) = 2 * p + 2 := by rw [wrap_i64 (show -2 ^ 63 ≤ 2 * p by omega) (by omega)]; exact wrap_i64 (by omega) (by omega)
   simp only [aa.all, ax, decide_eq_true_eq, decide_eq_false_iff_not, Bool.not_eq_true', Bool.not_eq_false', cond_true, cond_false, Int.toNat_natCast, Int.toNat_zero, lN, e1]
   (repeat' with_reducible first | refine And.intro ?_ ?_ | intro _)
   all_goals first | exact absurd ‹true = false› (by decide) | exact absurd ‹false = true› (by decide) | omega | (exfalso; omega) | exact dr (by decide) | assumption | exact r (Lp (by omega) (by omega)) | exact r (WB (by omega) (by omega) (by omega)) | exact ⟨1, ⟨Nat.le_refl _, by omega, ⟨by omega, by omega, by omega, by omega⟩, fun j hj => by omega⟩, dx.vals rfl⟩ | skip
   skip
  ·simp only [aa.all, ax, decide_eq_true_eq, decide_eq_false_iff_not, Bool.not_eq_true', Bool.not_eq_false', cond_true, cond_false, Int.toNat_natCast]
   (repeat' with_reducible first | refine And.intro ?_ ?_ | intro _)
   all_goals first | exact absurd ‹true = false› (by decide) | exact absurd ‹false = true› (by decide) | omega | (exfalso; omega) | exact r (UB (by omega)) | skip
   skip
 ·have hq := h3
  unfold rL at hq
  have e1 : i64.wrap ((i : Int) + 1) = ((i + 1 : Nat) : Int) := by rw [wrap_i64 (by omega) (by omega)]; rfl
  have e2 : i64.wrap ((i : Int) - 1) = (i : Int) - 1 := wrap_i64 (by omega) (by omega)
  have e3 : ((i : Int) - 1).toNat = i - 1 := by omega
  simp only [aa.all, ax, decide_eq_true_eq, decide_eq_false_iff_not, Int.toNat_natCast, wu, e1, e2, e3]
  refine ⟨fun hi => ⟨by omega, fun hlt => ⟨[.int .i64 5], by kernel_rfl, br (Bp (by omega) (by omega) (by omega) fun h => ?_).symm⟩, fun hge => ⟨i + 1, ⟨by omega, by omega, h3, fun j hj => ?_⟩, by dsimp only; omega, dx.vals rfl⟩⟩, fun hi => ⟨rfl, i, ⟨h3, fun j hj => h4 j (by omega)⟩, dx.vals rfl⟩⟩
  ·have := h.1 (i - 1) (by omega)
   rw [show i - 1 + 1 = i by omega] at this
   grind
  ·by_cases he : j + 1 = i
   ·subst he
    rw [Nat.add_sub_cancel] at hge
    grind
   ·exact h4 j (by omega)
 rw [show behind tE [1,1,1,1,0,1] = [l8] from by kernel_rfl]
 refine az.weak rfl hle (az.one ?_)
 refine ak.xP hT Bk hm (x := l8) [1,0,1] (i := 2) (y := part l8 [1,0,1,0,0]) (by kernel_rfl) (by kernel_rfl) (by kernel_rfl) hk (f1 := []) (f2 := [47, 58, 65, 71, 77, 80, 87, 92]) 60 nP 1 (fun i : Nat => Bw n k p (bA k n) (cE k n) i) (fun _ => []) (fun i => i ≤ bA k n ∧ ∀ j, j < i → ¬ lz n k p.toNat j) (fun _ => ∀ j, j < bA k n → ¬ lz n k p.toNat j) (fun i => bA k n - i) (jS jZ nP (.int .i64 (e8 n k p))) ⟨_, Uj, ?_⟩ (fun i ⟨h3, h4⟩ => ⟨_, R6, ?_⟩) (fun i s' h3 hle => ?_) (fun v s' hv hs' => hv.fin hs')
 ·simp only [aa.all, ax]
  exact ⟨⟨dr (Nat.le_refl _), hn⟩, 0, ⟨Nat.zero_le _, fun j hj => absurd hj (Nat.not_lt_zero j)⟩, dx.vals rfl⟩
 ·obtain ⟨q, rfl⟩ : ∃ q : Nat, p = (q : Int) := ⟨p.toNat, by have := h1.1; omega⟩
  have hq := h1
  unfold rL at hq
  have hd := Cf (k := k) (n := n)
  have e1 : i64.wrap ((q : Int) + 1) = ((q + 1 : Nat) : Int) := by rw [wrap_i64 (by omega) (by omega)]; rfl
  have e2 : i64.wrap ((i : Int) + 1) = ((i + 1 : Nat) : Int) := by rw [wrap_i64 (by omega) (by omega)]; rfl
  have e3 : i64.wrap ((bA k n : Int) - 1) = (bA k n : Int) - 1 := wrap_i64 (by omega) (by omega)
  have h4 : ∀ j, j < i → ¬ lz n k q j := fun j hj => by have := h4 j hj; rwa [Int.toNat_natCast] at this
  obtain ⟨c, hc⟩ : ∃ c, dc k (cE k n i) n = c := ⟨_, rfl⟩
  have hc' : dc (fun i => aM (rat (k i) sJ)) (cE k n i) n = c := hc
  have r : ∀ {v w x : AV}, (i = 0 ∨ i + 1 = bA k n) ∧ c ≠ q + 1 ∨ q + 1 < c ∨ 0 < i ∧ i + 1 < bA k n ∧ q < c → i < bA k n → jS jZ nP (.int .i64 (e8 n k q)) ([.int .i64 5, v, w, x, .int .i64 i], []) := fun h hi => ⟨[.int .i64 5], by kernel_rfl, br (Bp (by omega) (by omega) (by omega) fun hk => hk.2.2 i hi ((J5 (by omega) h2 hi).1 (by rw [Int.toNat_natCast]; unfold lz; rw [hc]; exact h))).symm⟩
  have nx : ¬ ((i = 0 ∨ i + 1 = bA k n) ∧ c ≠ q + 1 ∨ q + 1 < c ∨ 0 < i ∧ i + 1 < bA k n ∧ q < c) → ∀ j, j < i + 1 → ¬ lz n k ((q : Int)).toNat j := fun h j hj => by
   rw [Int.toNat_natCast]
   by_cases he : j = i
   ·subst he; unfold lz; rw [hc]; exact h
   ·exact h4 j (by omega)
  simp only [aa.all, ax, decide_eq_true_eq, decide_eq_false_iff_not, Bool.not_eq_true', Bool.not_eq_false', cond_true, cond_false, Int.toNat_natCast, hc', e1, e2, e3, bne_iff_ne, bne_eq_false_iff_eq, ne_eq, beq_iff_eq, beq_eq_false_iff_ne]
  clear hc hc'
  (repeat' with_reducible first | refine And.intro ?_ ?_ | intro _)
  all_goals first
   | exact absurd ‹true = false› (by decide)
   | exact absurd ‹false = true› (by decide)
   | omega
   | (exfalso; omega)
   | exact dr (by decide)
   | assumption
   | exact ⟨rfl, i, fun j hj => h4 j (by omega), dx.vals rfl⟩
   | exact r (by omega) (by omega)
   | exact ⟨i + 1, ⟨by omega, nx (by omega)⟩, by dsimp only; omega, dx.vals rfl⟩
   | skip
  skip
 ·rw [show behind l8 [1,0,1] = [part l8 [1,1]] from by kernel_rfl]
  refine az.weak rfl hle ((az.fin hT Bk hm 60 Uk (by kernel_rfl) ?_).mono fun _ _ h => .inl h)
  have hq := h1
  unfold rL at hq
  have e : ∀ j, j < bA k n → ¬ pA n k p.toNat (cE k n j) := fun j hj h => h3 j hj ((J5 (by omega) h2 hj).2 h)
  have e2 := Uw (k := k) (n := n) (by omega) h2
  simp only [aa.all, ax, decide_eq_true_eq, decide_eq_false_iff_not]
  refine ⟨fun h => br (Bp (by omega) (by omega) (by omega) fun hk => hk.2.1 (e2.1 (by omega))).symm, fun h => br (Kv (by omega) (by omega) (by omega) ⟨h2, fun h4 => h (by have := e2.2 h4; omega), e⟩).symm⟩
noncomputable def Fm : Spec := ey (kC (kL sJ) (kC kI kN)) (fun a => .int .i64 (e8 a.1.1 a.1.2 a.2.1)) fun a => [a.1.1 < 2 ^ 40]
theorem ZQ : ∀ K args pre r, Fm K args pre = some r → aB P qM K args pre r := eE fun ⟨⟨n, k⟩, p, _⟩ K hn => Y1 hn K
end Go.Am.B

/- Poles, lists of oL, curves, surfaces as arguments. -/
namespace Go.Am.B
open Go Go.Am.N AV
def qd : AV → Pl
 | .agg [.agg [x, y, z], w] => ⟨⟨aM x, aM y, aM z⟩, aM w⟩
 | _ => ⟨⟨0, 0, 0⟩, 0⟩
def jz (f : Nat → AV) (n s : Nat) : Prop := ∀ i, i < n → bD (f i) (dO (qd (f i)) s)
abbrev ee (f : Nat → Pl) (n s : Nat) : AV := .aj 12 n (fun i => dO (f i) s)
theorem wv {u v : Pl} {n k : Nat} (h : u = v) (hk : n ≤ k) : bD (dO u n) (dO v k) :=
 h ▸ eG ⟨Wm rfl hk, cV rfl hk, trivial⟩
theorem oH {f : Nat → Pl} {n s s' : Nat} (h : s ≤ s') : jz (fun i => dO (f i) s) n s' := fun _ _ => wv rfl h
def A6 : AV → Option (Nat × (Nat → AV))
 | .aj 12 n f => some (n, f)
 | .nil => some (0, fun _ => .nil)
 | _ => none
theorem QW {v : AV} {n s : Nat} {f : Nat → AV} (h : A6 v = some (n, f)) (ha : jz f n s) : bD v (ee (fun i => qd (f i)) n s) := by
 unfold A6 at h
 split at h
 ·simp only [Option.some.injEq, Prod.mk.injEq] at h
  obtain ⟨rfl, rfl⟩ := h
  exact iP ha
 ·simp only [Option.some.injEq, Prod.mk.injEq] at h
  obtain ⟨rfl, rfl⟩ := h
  exact jD (by omega)
 ·simp at h
def Cp (s : Nat) : Kind (Nat × (Nat → Pl)) := ⟨fun v => match A6 v with
 | some (n, f) => some ((n, fun i => qd (f i)), [jz f n s])
 | none => none, fun a => ee a.2 a.1 s, fun {v a q} h hq => by
  split at h
  ·rename_i h1
   simp only [Option.some.injEq, Prod.mk.injEq] at h
   obtain ⟨rfl, rfl⟩ := h
   exact QW h1 hq
  ·simp at h⟩
abbrev jy (h : Pl) (s : Nat) : AV := .agg [.rat h.n.x s, .rat h.n.y s, .rat h.n.z s, .rat h.d s]
def Hx (s : Nat) : Kind Pl := ⟨fun v => match v with
 | .agg [x, y, z, w] => match iK x, iK y, iK z, iK w with
  | some (x, a), some (y, b), some (z, c), some (w, d) => some (⟨⟨x, y, z⟩, w⟩, [a ≤ s, b ≤ s, c ≤ s, d ≤ s])
  | _, _, _, _ => none
 | _ => none, fun a => jy a s, fun {v a q} h hq => by
  split at h
  ·split at h
   ·rename_i h1 h2 h3 h4
    simp only [Option.some.injEq, Prod.mk.injEq] at h
    obtain ⟨rfl, rfl⟩ := h
    exact eG ⟨(jM h1).trans (cV rfl hq.1), (jM h2).trans (cV rfl hq.2.1), (jM h3).trans (cV rfl hq.2.2.1), (jM h4).trans (cV rfl hq.2.2.2), trivial⟩
   ·simp at h
  ·simp at h⟩
structure Cu where
 p : Int
 n : Nat
 k : Nat → Rat
 m : Nat
 f : Nat → Pl
abbrev fc (c : Cu) (s r : Nat) : AV := .agg [.int .i64 c.p, bV c.k c.n s, ee c.f c.m r]
def sN (s r : Nat) : Kind Cu := ⟨fun v => match v with
 | .agg [p, k, f] => match kI.read p, (kL s).read k, (Cp r).read f with
  | some (p, q1), some ((n, k), q2), some ((m, f), q3) => some (⟨p, n, k, m, f⟩, q1 ++ (q2 ++ q3))
  | _, _, _ => none
 | _ => none, fun a => fc a s r, fun {v a q} h hq => by
  split at h
  ·split at h
   ·rename_i h1 h2 h3
    simp only [Option.some.injEq, Prod.mk.injEq] at h
    obtain ⟨rfl, rfl⟩ := h
    obtain ⟨q1, hq⟩ := dX.1 hq
    obtain ⟨q2, q3⟩ := dX.1 hq
    exact eG ⟨kI.ok h1 q1, (kL s).ok h2 q2, (Cp r).ok h3 q3, trivial⟩
   ·simp at h
  ·simp at h⟩
def qn : AV → Nat
 | .aj _ n _ => n
 | _ => 0
def So : AV → Nat → AV
 | .aj _ _ f => f
 | _ => fun _ => .nil
def oE (g : Nat → AV) (i j : Nat) : Pl := qd (So (g i) j)
abbrev Df (f : Nat → Nat → Pl) (n m s : Nat) : AV := .aj 1 n (fun i => ee (f i) m s)
def lE (g : Nat → AV) (n s : Nat) : Prop := ∀ i, i < n → bD (g i) (ee (oE g i) (qn (g 0)) s)
theorem yB {f : Nat → Nat → Pl} {n m s s' : Nat} (h : s ≤ s') : lE (fun i => ee (f i) m s) n s' := fun _ _ => iP fun _ _ => wv rfl h
def GK (s : Nat) : Kind (Nat × Nat × (Nat → Nat → Pl)) := ⟨fun v => match v with
 | .aj 1 n g => some ((n, qn (g 0), oE g), [lE g n s])
 | _ => none, fun a => Df a.2.2 a.1 a.2.1 s, fun {v a q} h hq => by
  split at h
  ·simp only [Option.some.injEq, Prod.mk.injEq] at h
   obtain ⟨rfl, rfl⟩ := h
   exact iP hq
  ·simp at h⟩
structure Sf where
 u : Int
 v : Int
 a : Nat
 ku : Nat → Rat
 b : Nat
 kv : Nat → Rat
 n : Nat
 m : Nat
 f : Nat → Nat → Pl
abbrev fF (x : Sf) (s r : Nat) : AV := .agg [.int .i64 x.u, .int .i64 x.v, bV x.ku x.a s, bV x.kv x.b s, Df x.f x.n x.m r]
def uO (s r : Nat) : Kind Sf := ⟨fun v => match v with
 | .agg [u, w, a, b, f] => match kI.read u, kI.read w, (kL s).read a, (kL s).read b, (GK r).read f with
  | some (u, q1), some (w, q2), some ((a, ku), q3), some ((b, kv), q4), some ((n, m, f), q5) => some (⟨u, w, a, ku, b, kv, n, m, f⟩, q1 ++ (q2 ++ (q3 ++ (q4 ++ q5))))
  | _, _, _, _, _ => none
 | _ => none, fun a => fF a s r, fun {v a q} h hq => by
  split at h
  ·split at h
   ·rename_i h1 h2 h3 h4 h5
    simp only [Option.some.injEq, Prod.mk.injEq] at h
    obtain ⟨rfl, rfl⟩ := h
    obtain ⟨q1, hq⟩ := dX.1 hq
    obtain ⟨q2, hq⟩ := dX.1 hq
    obtain ⟨q3, hq⟩ := dX.1 hq
    obtain ⟨q4, q5⟩ := dX.1 hq
    exact eG ⟨kI.ok h1 q1, kI.ok h2 q2, (kL s).ok h3 q3, (kL s).ok h4 q4, (GK r).ok h5 q5, trivial⟩
   ·simp at h
  ·simp at h⟩
theorem DA {rl : List (Nat × Nat)} {l i s s' s2 : Nat} {x y : Nat → Pl} {t : AV} {z : AV} (hx : ∀ i, i < l → x i = y i) (ht : bD t (dO (y l) s')) (hk : keys t = []) (h1 : s ≤ s2) (h2 : s' ≤ s2) (hi : i < l + 1) :
  fY rl (if i < l then dO (x i) s else nth [t] z (i - l + 0)) (dO (y i) s2) := by
 by_cases h : i < l
 ·rw [if_pos h, hx i h]; exact .inr ⟨rfl, wv rfl h1⟩
 ·have : i = l := by omega
  subst this
  rw [if_neg h, Nat.sub_self]
  exact .inr ⟨hk, ht.trans (wv rfl h2)⟩
end Go.Am.B

/- ref02: Valid, Valids, Bits; ref04.Valid; ref10: Short, shortPoles. -/
namespace Go.Am.B
open Go Go.Am.N AV aa ah IntKind
theorem YG : aS P wX sR (au sR) := aN aaC (by kernel_rfl) (by kernel_rfl) (by kernel_rfl)
theorem abi : aS P nc uD (au uD) := aN Md (by kernel_rfl) (by kernel_rfl) (by kernel_rfl)
theorem Um : aS P x8 vU (au vU) := aN Rb (by kernel_rfl) (by kernel_rfl) (by kernel_rfl)
theorem TS : aS P s8 rT (au rT) := aN WO (by kernel_rfl) (by kernel_rfl) (by kernel_rfl)
theorem Ym : aS P BY xS (au xS) := aN MY (by kernel_rfl) (by kernel_rfl) (by kernel_rfl)
theorem Nt : aS P pe qP (au qP) := aN Ys (by kernel_rfl) (by kernel_rfl) (by kernel_rfl)
theorem SS : aS P vH ud (au ud) := aN OK (by kernel_rfl) (by kernel_rfl) (by kernel_rfl)
def Dw : Spec := bt fun l => match l with
 | [.mag N] => some (aH (.bool true) [nl N < 2 ^ 40])
 | _ => none
def Zt : aT := [(wX, Dw), (mW, yP), (oX, A3)]
def wL : Spec := bt fun l => match l with
 | [.rat q n] => match Nat.ble n 8192 with
  | true => some (aH (.bool true) [])
  | false => none
 | _ => none
def yX (q : Rat) : Nat := max (aV q.num.natAbs) (aV q.den)
def I6 : Spec := bt fun l => match l with
 | [.rat q n] => match Nat.ble n 8192 with
  | true => some (aH (.int .i64 ((min (yX q) n : Nat) : Int)) [])
  | false => none
 | _ => none
noncomputable def xO : aT := [nG, (nc, wL)]
noncomputable def y6 : aT := [nG, (x8, I6)]
abbrev gB : List Nat := [2, 0, 3]
abbrev AX (n : Nat) (k : Nat → Rat) (i : Nat) : List AV := [.bool false, ls k n, .int .i64 i]
abbrev Cc (n : Nat) (k : Nat → Rat) (i : Nat) : List AV := [.bool false, bV k n 2048, .int .i64 i]
noncomputable abbrev tF : Code := au rT
noncomputable abbrev uF : Code := au qP
def Bg : Spec := ey (kC (kL 2048) kN) (fun _ => .bool true) fun a => [a.1.1 < 2 ^ 40]
noncomputable def zj : aT := [nG, (pe, Bg)]
abbrev zL (n : Nat) (f : Nat → Pl) (i : Nat) : List AV := [.bool false, ee f n 2048, .int .i64 i]
noncomputable abbrev vP : Code := au ud
noncomputable def IS : aT := [(BY, cZ T [sG, (nc, wL)] [] 60 xS)]
def Qp : aT := [(pU, zD), (mW, yP)]
theorem Xy {N : Nat} : bB T [] [6] 60 sR (au sR) ⟨aO 0 [.mag N], [], 0⟩ =
  let c2 : Bool := (↑(nl N) : Int) == (0 : Int); let c1 : Int := i64.wrap ((↑(nl N) : Int) - (1 : Int)); some (fork c2 (af [c2 = true] (leaf ret [AV.bool true])) (af [c2 = false, (0 : Int) ≤ c1 ∧ c1.toNat < nl N] (leaf ret [AV.bool (bif false then true else (↑(aq N c1.toNat) : Int) != (0 : Int))]))) := by kernel_rfl
theorem Wv {q : Rat} {n : Nat} : bB T Zt [19, 27, 32, 35, 42, 51] 60 uD (au uD) ⟨aO 0 [.rat q n], [], 0⟩ =
  let c19 : Bool := bif !true then true else !true; let c17 : Nat := Int.toNat (0 : Int); let c13 : Bool := decide (q < 0); let c11 : Nat := q.num.natAbs; let c8 : aa (List AV) := leaf ret [AV.bool false]; let c5 : Nat := 2 ^ 40; let c3 : Prop := 0 < 1; let c2 : Nat := if q.den = 1 then 0 else q.den; let c20 : Int := (↑(nl c2) : Int); let c16 : Prop := nl c2 < c5; let c15 : Prop := nl c11 < c5; let c14 : Bool := (↑(nl (c11.gcd q.den)) : Int) == (1 : Int); let c10 : Prop := (0 : Int) ≤ (0 : Int) ∧ c17 < nl c2; let c9 : Bool := bif c19 then true else false; let c6 : Bool := (↑(nl c11) : Int) == (0 : Int); let c4 : Bool := bif c19 then true else bif true then (↑(aq c2 c17) : Int) == (1 : Int) else false; let c22 : List Prop := [c3, c6 = true, c3, c13 = true]; let c18 : List Prop := [c3, c6 = true, c3, c13 = false, c3]; let c7 : Bool := c20 == (1 : Int); let c1 : aa (List AV) := af [c3, c3, nl c11 < 2 ^ 38, nl q.den < 2 ^ 38] (fork c14 (af [c14 = true, (0 : Int) ≤ (0 : Int) ∧ c17 < nl (c11.gcd q.den)] (leaf ret [AV.bool (bif true then (↑(aq (c11.gcd q.den) c17) : Int) == (1 : Int) else false)])) (af [c14 = false] c8)); let c21 : aa (List AV) := fork true c8 c1; let c12 : aa (List AV) := fork (bif false then true else bif true then bif false then true else decide (c20 > (0 : Int)) else false) c8 c1; some (fork c7 (fork c4 (af [c3, c15, c3, c16, c3, c7 = true, c3, c10, c4 = true] c21) (fork c6 (fork c13 (af (c3 :: c15 :: c3 :: c16 :: c3 :: (c7 = true) :: c3 :: c10 :: (c4 = false) :: c22) c21) (af (c3 :: c15 :: c3 :: c16 :: c3 :: (c7 = true) :: c3 :: c10 :: (c4 = false) :: c18) c12)) (af [c3, c15, c3, c16, c3, c7 = true, c3, c10, c4 = false, c3, c6 = false] (fork false c8 c1)))) (fork false (af [c3, c15, c3, c16, c3, c7 = false, c9 = true] c21) (fork c6 (fork c13 (af (c3 :: c15 :: c3 :: c16 :: c3 :: (c7 = false) :: (c9 = false) :: c22) c21) (af (c3 :: c15 :: c3 :: c16 :: c3 :: (c7 = false) :: (c9 = false) :: c18) c12)) (af [c3, c15, c3, c16, c3, c7 = false, c9 = false, c3, c6 = false] (fork false c8 c1))))) := by kernel_rfl
theorem aaV {n : Nat} {k : Nat → Rat} : aI T xO [] 60 gB (before tF [1,0,1]) ⟨aO 0 [ls k n], [], 0⟩ =
  some (leaf normal ([AV.bool false, aj 3 n fun i ↦ rat (k i) 4096, int i64 (0 : Int)], [])) := by kernel_rfl
theorem ZJ {n i : Nat} {k : Nat → Rat} : aI T xO [7] 60 gB [part tF [1,0,1,0,0]] ⟨aA gB (AX n k i), [], 1⟩ =
  let c2 : AV := aj 3 n fun i ↦ rat (k i) 4096; let c1 : Int := (↑i : Int); let c3 : Int := c1 + (1 : Int); some (fork (decide (c1 < (↑n : Int))) (af [(0 : Int) ≤ c1 ∧ c1.toNat < n] (af [-(2 : Int) ^ 63 ≤ c3 ∧ c3 < (2 : Int) ^ 63] (leaf normal ([AV.bool false, c2, int i64 c3], [])))) (leaf (exit 0) ([AV.bool false, c2, int i64 c1], []))) := by kernel_rfl
theorem Mo {n i : Nat} {k : Nat → Rat} : b9 T xO [] 60 rT [part tF [1,1]] ⟨aA gB (AX n k i), [], 1⟩ =
  some (leaf ret [AV.bool true]) := by kernel_rfl
theorem R5 {n : Nat} {k : Nat → Rat} : aI T y6 [] 60 gB (before uF [1,0,1]) ⟨aO 0 [bV k n 2048], [], 0⟩ =
  some (leaf normal ([AV.bool false, aj 3 n fun i ↦ rat (k i) 2048, int i64 (0 : Int)], [])) := by kernel_rfl
theorem Uc {n i : Nat} {k : Nat → Rat} : aI T y6 [7, 200015] 60 gB [part uF [1,0,1,0,0]] ⟨aA gB (Cc n k i), [], 1⟩ =
  let c3 : AV := aj 3 n fun i ↦ rat (k i) 2048; let c1 : Int := (↑i : Int); let c4 : Int := c1 + (1 : Int); let c2 : Int := (↑(Min.min (yX (k c1.toNat)) 2048) : Int); some (fork (decide (c1 < (↑n : Int))) (af [(0 : Int) ≤ c1 ∧ c1.toNat < n] (af [decide (c2 > (2048 : Int)) = false] (af [-(2 : Int) ^ 63 ≤ c4 ∧ c4 < (2 : Int) ^ 63] (leaf normal ([AV.bool false, c3, int i64 c4], []))))) (leaf (exit 0) ([AV.bool false, c3, int i64 c1], []))) := by kernel_rfl
theorem K7 {n i : Nat} {k : Nat → Rat} : b9 T y6 [] 60 qP [part uF [1,1]] ⟨aA gB (Cc n k i), [], 1⟩ =
  some (leaf ret [AV.bool true]) := by kernel_rfl
theorem X2 {n : Nat} {f : Nat → Pl} : aI T zj [] 60 gB (before vP [1,0,1]) ⟨aO 0 [ee f n 2048], [], 0⟩ =
  some (leaf normal ([AV.bool false, aj 12 n fun i ↦ agg [agg [rat (f i).n.x 2048, rat (f i).n.y 2048, rat (f i).n.z 2048], rat (f i).d 2048], int i64 (0 : Int)], [])) := by kernel_rfl
theorem U4 {n i : Nat} {f : Nat → Pl} : aI T zj [7] 60 gB [part vP [1,0,1,0,0]] ⟨aA gB (zL n f i), [], 1⟩ =
  let c4 : Int := (↑(3 : Nat) : Int); let c3 : Int := (↑i : Int); let c1 : AV := aj 12 n fun i ↦ agg [agg [rat (f i).n.x 2048, rat (f i).n.y 2048, rat (f i).n.z 2048], rat (f i).d 2048]; let c6 : Int := c3 + (1 : Int); let c5 : V3 := (f c3.toNat).n; let c2 : Prop := (0 : Int) ≤ c3 ∧ c3.toNat < n; some (fork (decide (c3 < (↑n : Int))) (af [c2, (0 : Int) ≤ (0 : Int) ∧ (0 : Int) < c4, c2, (0 : Int) ≤ (1 : Int) ∧ (1 : Int) < c4, c2, (0 : Int) ≤ (2 : Int) ∧ (2 : Int) < c4, c2, (4 : Nat) * 3 ≤ 2 ^ 24, cq (fun i ↦ nth [rat c5.x 2048, rat c5.y 2048, rat c5.z 2048, rat (f c3.toNat).d 2048] (rat 0 1) (i + 0)) 4 2048, (4 : Nat) < 2 ^ 40] (af [-(2 : Int) ^ 63 ≤ c6 ∧ c6 < (2 : Int) ^ 63] (leaf normal ([AV.bool false, c1, int i64 c6], [])))) (leaf (exit 0) ([AV.bool false, c1, int i64 c3], []))) := by kernel_rfl
theorem YQ {n i : Nat} {f : Nat → Pl} : b9 T zj [] 60 ud [part vP [1,1]] ⟨aA gB (zL n f i), [], 1⟩ =
  some (leaf ret [AV.bool true]) := by kernel_rfl
theorem RN {q : Rat} {n : Nat} : bB T Qp [] 60 vU (au vU) ⟨aO 0 [.rat q n], [], 0⟩ =
  let c3 : Nat := q.num.natAbs; let c2 : Int := (↑(aV q.den) : Int); let c1 : Int := (↑(aV c3) : Int); some (af [(0 : Nat) < 1, nl c3 < 2 ^ 40, nl c3 = nl c3, (0 : Nat) < 1, nl q.den < 2 ^ 40, nl q.den = nl q.den] (leaf ret [int i64 (if c1 < c2 then c2 else c1)])) := by kernel_rfl
theorem QC : ∀ K args pre r, Dw K args pre = some r → aB P wX K args pre r := by
 refine bJ fun K args r hk hs _ => ?_
 split at hs
 ·rename_i N
  simp only [Option.some.injEq] at hs
  subst hs
  refine bF (r := aH (.bool true) [nl N < 2 ^ 40]) hT aY hm YG rfl (of_decide_eq_true (by kernel_rfl)) rfl 60 Xy (fun need => ?_) K []
  have need : nl N < 2 ^ 40 := need
  have e : nl N ≠ 0 → i64.wrap ((nl N : Int) - 1) = (nl N : Int) - 1 := fun h => wrap_i64 (by omega) (by omega)
  simp only [aa.all, ax, beq_iff_eq, beq_eq_false_iff_ne, ne_eq]
  refine ⟨fun h => ⟨h, .refl _⟩, fun h => ?_⟩
  have h0 : nl N ≠ 0 := by omega
  have hN : N ≠ 0 := fun h2 => h0 (by rw [h2]; rfl)
  rw [e h0, show ((nl N : Int) - 1).toNat = nl N - 1 by omega]
  refine ⟨⟨h, ⟨by omega, by omega⟩⟩, gu ?_⟩
  rw [cond_false, bne_iff_ne]
  have := wU hN
  omega
 ·simp at hs
theorem Z6 {q : Rat} {n : Nat} (hn : n ≤ 8192) (K : Nat) : aB P nc K [.rat q n] [] (aH (.bool true) []) := by
 refine gl fun ⟨hq, _⟩ => ?_
 have hq : Sz q n := hq
 refine bF (r := aH (.bool true) []) hT (aE QC (aE Bt (aE Ex aY))) hm abi rfl (of_decide_eq_true (by kernel_rfl)) rfl 60 Wv (fun _ => ?_) K []
 have hg : Nat.gcd q.num.natAbs q.den = 1 := q.reduced
 obtain ⟨d, hd⟩ : ∃ d, d = if q.den = 1 then 0 else q.den := ⟨_, rfl⟩
 have k1 := dG (n := n) hq.1 (by omega)
 have k2 := dG (n := n) hq.2 (by omega)
 have k3 : nl d ≤ nl q.den := by rw [hd]; exact ff FW
 have k4 : nl d = 1 → ¬ (aq d 0 : Int) = 1 := fun h1 h2 => by
  have h3 : d < 2 ^ 32 := by have := cu.1 (show nl d ≤ 1 by omega); simpa using this
  have h4 : aq d 0 = d := by unfold aq; simp; omega
  rw [h4] at h2
  have h5 : d = 1 := by omega
  rw [hd] at h5
  split at h5 <;> omega
 have k5 : nl q.num.natAbs = 0 → ¬ q < 0 ∧ nl d = 0 := fun h1 => by
  have h2 : q.num.natAbs = 0 := by
   by_cases h : q.num.natAbs = 0
   ·exact h
   ·unfold nl at h1; rw [if_neg h] at h1; omega
  have h3 : q = 0 := Rat.num_eq_zero.1 (by omega)
  subst h3
  rw [hd]
  exact ⟨by decide, by decide⟩
 simp only [aa.all, ax, hg, ← hd, show nl 1 = 1 from by decide, show aq 1 0 = 1 from by decide, Int.toNat_zero]
 by_cases h7 : nl d = 1
 ·have h4 := k4 h7
  have h6 : nl q.num.natAbs ≠ 0 := fun h => by have := (k5 h).2; omega
  simp [h7, h4, h6]
  exact ⟨by omega, ⟨by omega, by omega⟩, .refl _⟩
 ·by_cases h6 : nl q.num.natAbs = 0
  ·obtain ⟨h8, h9⟩ := k5 h6
   simp [h9, h6, h8]
   exact ⟨by omega, .refl _⟩
  ·simp [h7, h6]
   exact ⟨fun h => absurd h (by omega), fun h => ⟨⟨by omega, by omega, h⟩, ⟨by omega, by omega⟩, .refl _⟩⟩
theorem Cz : ∀ K args pre r, wL K args pre = some r → aB P nc K args pre r := by
 refine bJ fun K args r hk hs _ => ?_
 split at hs
 ·split at hs
  ·rename_i hb
   simp only [Option.some.injEq] at hs
   subst hs
   exact Z6 (Nat.le_of_ble_eq_true hb) K
  ·simp at hs
 ·simp at hs
theorem KV : ∀ K args pre r, I6 K args pre = some r → aB P x8 K args pre r := by
 refine bJ fun K args r hk hs _ => ?_
 split at hs
 ·rename_i q n
  split at hs
  ·rename_i hb
   have hn := Nat.le_of_ble_eq_true hb
   simp only [Option.some.injEq] at hs
   subst hs
   refine gl fun ⟨hq, _⟩ => ?_
   have hq : Sz q n := hq
   refine bF (r := aH (.int .i64 ((min (yX q) n : Nat) : Int)) []) hT (aE FX (aE Bt aY)) hm Um rfl (of_decide_eq_true (by kernel_rfl)) rfl 60 RN (fun _ => ?_) K []
   have n1 := dG (n := n) hq.1 (by omega)
   have n2 := dG (n := n) hq.2 (by omega)
   have b1 := gj.2 hq.1
   have b2 := gj.2 hq.2
   simp only [aa.all, ax]
   refine ⟨⟨by omega, by omega, trivial, by omega, by omega, trivial⟩, br ?_⟩
   unfold yX
   split <;> omega
  ·simp at hs
 ·simp at hs
theorem abv : bh P xO := eP (aE Cz aY)
theorem KZ : bh P y6 := eP (aE KV aY)
theorem Ou {n : Nat} {k : Nat → Rat} (hn : n < 2 ^ 40) (K : Nat) : aB P s8 K [ls k n] [] (aH (.bool true) []) := by
 refine kY (r := aH (.bool true) []) hT abv hm TS rfl (of_decide_eq_true (by kernel_rfl)) rfl [1,0,1] (i := 0) (y := part tF [1,0,1,0,0]) (z := part tF [1,1]) (by kernel_rfl) (by kernel_rfl) (by kernel_rfl) (f1 := []) (f2 := [7]) (f3 := []) 60 gB 1
  (fun i : Nat => AX n k i) (fun _ => []) (fun i => i ≤ n) (fun _ => True) (fun i => n - i) (fun _ => ⟨⟨_, aaV, ?_⟩, fun i hi => ⟨_, ZJ, ?_⟩, fun i hi => ⟨_, Mo, ?_⟩⟩) K []
 ·simp only [aa.all, ax]
  exact ⟨0, Nat.zero_le _, dx.vals rfl⟩
 ·simp only [aa.all, ax, decide_eq_true_eq, decide_eq_false_iff_not]
  exact ⟨fun h => ⟨by omega, by omega, i + 1, by omega, by dsimp only; omega, dx.vals rfl⟩, fun h => ⟨rfl, i, trivial, dx.vals rfl⟩⟩
 ·simp only [aa.all, ax]
  exact .refl _
def Dp : Spec := ey (kC (kL sK) kN) (fun _ => .bool true) fun a => [a.1.1 < 2 ^ 40]
theorem OZ : ∀ K args pre r, Dp K args pre = some r → aB P s8 K args pre r := eE fun ⟨⟨n, k⟩, _⟩ K hn => Ou hn K
theorem NH {n : Nat} {k : Nat → Rat} (hn : n < 2 ^ 40) (K : Nat) : aB P pe K [bV k n 2048] [] (aH (.bool true) []) := by
 refine kY (r := aH (.bool true) []) hT KZ hm Nt rfl (of_decide_eq_true (by kernel_rfl)) rfl [1,0,1] (i := 0) (y := part uF [1,0,1,0,0]) (z := part uF [1,1]) (by kernel_rfl) (by kernel_rfl) (by kernel_rfl) (f1 := []) (f2 := [7, 200015]) (f3 := []) 60 gB 1
  (fun i : Nat => Cc n k i) (fun _ => []) (fun i => i ≤ n) (fun _ => True) (fun i => n - i) (fun _ => ⟨⟨_, R5, ?_⟩, fun i hi => ⟨_, Uc, ?_⟩, fun i hi => ⟨_, K7, ?_⟩⟩) K []
 ·simp only [aa.all, ax]
  exact ⟨0, Nat.zero_le _, dx.vals rfl⟩
 ·simp only [aa.all, ax, decide_eq_true_eq, decide_eq_false_iff_not]
  exact ⟨fun h => ⟨by omega, by omega, by omega, i + 1, by omega, by dsimp only; omega, dx.vals rfl⟩, fun h => ⟨rfl, i, trivial, dx.vals rfl⟩⟩
 ·simp only [aa.all, ax]
  exact .refl _
theorem CI : ∀ K args pre r, Bg K args pre = some r → aB P pe K args pre r := eE fun ⟨⟨n, k⟩, _⟩ K hn => NH hn K
theorem Ze : bh P zj := eP (aE CI aY)
theorem VI {n : Nat} {f : Nat → Pl} (hn : n < 2 ^ 40) (K : Nat) : aB P vH K [ee f n 2048] [] (aH (.bool true) []) := by
 refine kY (r := aH (.bool true) []) hT Ze hm SS rfl (of_decide_eq_true (by kernel_rfl)) rfl [1,0,1] (i := 0) (y := part vP [1,0,1,0,0]) (z := part vP [1,1]) (by kernel_rfl) (by kernel_rfl) (by kernel_rfl) (f1 := []) (f2 := [7]) (f3 := []) 60 gB 1
  (fun i : Nat => zL n f i) (fun _ => []) (fun i => i ≤ n) (fun _ => True) (fun i => n - i) (fun _ => ⟨⟨_, X2, ?_⟩, fun i hi => ⟨_, U4, ?_⟩, fun i hi => ⟨_, YQ, ?_⟩⟩) K []
 ·simp only [aa.all, ax]
  exact ⟨0, Nat.zero_le _, dx.vals rfl⟩
 ·simp only [aa.all, ax, decide_eq_true_eq, decide_eq_false_iff_not]
  exact ⟨fun h => ⟨⟨by omega, by omega, by omega, by omega, by omega, by omega, by omega, by omega, fun j hj => by
   match j, hj with
   | 0, _ | 1, _ | 2, _ | 3, _ => exact .refl _, by omega⟩, by omega, i + 1, by omega, by dsimp only; omega, dx.vals rfl⟩, fun h => ⟨rfl, i, trivial, dx.vals rfl⟩⟩
 ·simp only [aa.all, ax]
  exact .refl _
def FI : Spec := ey (kC (Cp 2048) kN) (fun _ => .bool true) fun a => [a.1.1 < 2 ^ 40]
theorem ZT : ∀ K args pre r, FI K args pre = some r → aB P vH K args pre r := eE fun ⟨⟨n, f⟩, _⟩ K hn => VI hn K
theorem UE : bh P IS := aE (dh hT (de (aE Cz aY)) hm Ym _ _) aY
end Go.Am.B

/- ref09: part, function, Values. -/
namespace Go.Am.B
open Go Go.Am.N AV aa ah IntKind
theorem RK : aS P wW vS (au vS) := aN Pt (by kernel_rfl) (by kernel_rfl) (by kernel_rfl)
theorem Dd : aS P rE mQ (au mQ) := aN MD (by kernel_rfl) (by kernel_rfl) (by kernel_rfl)
theorem Zy : aS P rX vv (au vv) := aN YE (by kernel_rfl) (by kernel_rfl) (by kernel_rfl)
def Fk : aT := (qR, hU kR kR BK lS) :: iT
abbrev m9 : Nat := 8193
def G9 : Spec := ey (kC (iu m9) (kC (iu m9) kN)) (fun a => .rat (a.1 / a.2.1) sF) fun _ => []
theorem aaO {a b : Rat} {n : Nat} : bB T Fk [] 60 vS (au vS) ⟨aO 0 [.rat a n, .rat b n], [], 0⟩ =
  let c2 : Prop := n < 2 ^ 41; let c1 : Prop := 0 < 1; some (af [c1, c1, c2, c2, c1] (af [c1, c1] (af [c1] (leaf ret [rat (a / b) (n + n)])))) := by kernel_rfl
theorem Uv : bh P Fk := aE (iC fun _ _ K hn => CU hn.1 hn.2 K) jA
theorem WZ : ∀ K args pre r, G9 K args pre = some r → aB P wW K args pre r := eE fun ⟨a, b, _⟩ K _ => by
 refine bF (r := aH (.rat (a / b) sF) []) hT Uv hm RK rfl (of_decide_eq_true (by kernel_rfl)) rfl 60 aaO (fun _ => ?_) K []
 simp only [aa.all, ax]
 have h1 : m9 = 8193 := rfl
 (repeat' with_reducible refine And.intro ?_ ?_)
 all_goals first | omega | exact (cV rfl (show m9 + m9 ≤ sF by decide))
def DM (d : Nat) : Spec := ey (kC (kL sK) (kC kI (kC kI (kC kI (kC (iu sK) kN))))) (fun a => .rat (nC a.1.2 a.2.2.2.1.toNat a.2.2.2.2.1 d a.2.1.toNat) (SB d)) fun a => [a.2.2.1 = d, 0 ≤ a.2.1, 0 ≤ a.2.2.2.1, a.2.1 + d + 1 < a.1.1, a.1.1 < 2 ^ 40, a.2.2.2.1 < 2 ^ 40, d ≤ 6]
def De (d : Nat) : aT := nG :: (rE, DM d) :: (wW, G9) :: (iy, pI) :: iT
abbrev rD (n : Nat) (k : Nat → Rat) (i d a : Nat) (t : Rat) : List AV := [ls k n, .int .i64 i, .int .i64 d, .int .i64 a, .rat t sK]
theorem Yi {n i a : Nat} {k : Nat → Rat} {t : Rat} : bB T (nG :: (iy, pI) :: iT) [17] 60 mQ (au mQ) ⟨aO 0 (rD n k i 0 a t), [], 0⟩ =
  let c1 : List Prop := [(0 : Nat) < 1]; some (fork ((↑i : Int) == (↑a : Int)) (af c1 (af c1 (leaf ret [rat (↑(1 : Int) : Rat) 1]))) (af c1 (af c1 (leaf ret [agg [AV.bool false, mag 0, mag 0]])))) := by kernel_rfl
theorem Sw {n i d a : Nat} {k : Nat → Rat} {t : Rat} : bB T (De d) [200014, 23, 29] 60 mQ (au mQ) ⟨aO 0 (rD n k i (d + 1) a t), [], 0⟩ =
  let c22 : Prop := sK + sK + 1 ≤ m9; let c21 : Int := (↑d : Int); let c20 : Prop := n < 2 ^ 40; let c15 : Prop := cq (fun i ↦ rat (k i) sK) n sK; let c14 : Int := (↑(d + 1) : Int); let c10 : Int := (↑a : Int); let c6 : Int := (↑i : Int); let c5 : Prop := 0 < 1; let c4 : Nat := 2 ^ 41; let c3 : Int := (2 : Int) ^ 63; let c19 : Prop := c10 < (2 : Int) ^ 40; let c17 : Prop := (0 : Int) ≤ c6 ∧ c6.toNat < n; let c16 : Bool := decide (c10 < c6); let c12 : List Prop := [sK < c4, sK < c4, c22, c22, c5]; let c11 : aa (List AV) := af [c5] (af [c5] (leaf ret [agg [AV.bool false, mag 0, mag 0]])); let c9 : Int := c6 + (1 : Int); let c7 : Int := c14 - (1 : Int); let c2 : Int := c6 + c14; let c13 : Prop := -c3 ≤ c2 ∧ c2 < c3; let c8 : Int := c2 + (1 : Int); let c18 : Prop := (0 : Int) ≤ c8 ∧ c8.toNat < n; let c1 : aa (List AV) := af (c5 :: c17 :: (sK < c4) :: (sK < c4) :: c13 :: ((0 : Int) ≤ c2 ∧ c2.toNat < n) :: c17 :: c12) (af (c13 :: (-c3 ≤ c8 ∧ c8 < c3) :: c18 :: c5 :: (sK < c4) :: (sK < c4) :: c13 :: (-c3 ≤ c8 ∧ c8 < c3) :: c18 :: (-c3 ≤ c9 ∧ c9 < c3) :: ((0 : Int) ≤ c9 ∧ c9.toNat < n) :: c12) (af [c5, -c3 ≤ c7 ∧ c7 < c3, c5, c15, sK ≤ sK, c7 = c21, (0 : Int) ≤ c6, (0 : Int) ≤ c10, c6 + c21 + (1 : Int) < (↑n : Int), c20, c19, d ≤ 6, sF < c4, SB d < c4, c5, -c3 ≤ c9 ∧ c9 < c3, -c3 ≤ c7 ∧ c7 < c3, c5, c15, sK ≤ sK, c7 = c21, (0 : Int) ≤ c9, (0 : Int) ≤ c10, c9 + c21 + (1 : Int) < (↑n : Int), c20, c19, d ≤ 6, sF < c4, SB d < c4, sF + SB d < c4, sF + SB d < c4, c5] (af [c5] (leaf ret [rat ((t - k c6.toNat) / (k c2.toNat - k c6.toNat) * nC (fun i ↦ aM (rat (k i) sK)) c10.toNat t d c6.toNat + (k c8.toNat - t) / (k c8.toNat - k c9.toNat) * nC (fun i ↦ aM (rat (k i) sK)) c10.toNat t d c9.toNat) (sF + SB d + (sF + SB d) + 1)])))); some (af [(c14 == (0 : Int)) = false] (fork c16 (af [c16 = true] (fork true c11 c1)) (af [c16 = false, c13] (fork (bif false then true else decide (c10 > c2)) c11 c1)))) := by kernel_rfl
def qQ (p : Nat) : aT := nG :: (lQ, vp) :: (rE, DM p) :: iT
abbrev nE : List Nat := [0, 1, 5, 9, 11, 12, 6, 7, 8]
abbrev wS (n : Nat) (k : Nat → Rat) (p a : Nat) (v : AV) (i : Int) : List AV := [ls k n, .int .i64 p, .ptr 0 0 3 0 [], .int .i64 a, v, .int .i64 i, .int .i64 0, .nil, .int .i64 0]
noncomputable abbrev y4 : Code := au vv
noncomputable abbrev AQ : Code := part y4 [1,1,1,1,0,1,0,0]
theorem SZ {n p : Nat} {k : Nat → Rat} {t : Rat} : aI T (qQ p) [21] 60 nE (before y4 [1,1,1,1,0,1]) ⟨aO 0 [ls k n, .int .i64 p, .rat t sK], [], 0⟩ =
  let c7 : AV := int i64 (0 : Int); let c6 : Int := dH n (fun i ↦ aM (rat (k i) sK)) t; let c5 : Int := (↑p : Int); let c4 : AV := aj 3 n fun i ↦ rat (k i) 4096; let c3 : AV := ptr 0 0 (bu (rat t sK)).size 0 []; let c2 : Nat × ay := ((0 : Nat), ay.mk false true (bu (rat t sK)).size 1 fun x ↦ rat t 4096); let c1 : Int := (↑(p0 n (fun i ↦ aM (rat (k i) sK)) t) : Int); some (af [(0 : Nat) < 1, cq (fun i ↦ rat (k i) sK) n sK, sK ≤ sK, Kn n c5.toNat fun i ↦ aM (rat (k i) sK), (0 : Int) ≤ c5, n < 2 ^ 40] (fork (c6 != (0 : Int)) (leaf ret ([c4, int i64 c5, c3, int i64 c1, tuple [], tuple [], c7, nil, int i64 c6], [c2])) (af [-(2 : Int) ^ 63 ≤ c1 - c5 ∧ c1 - c5 < (2 : Int) ^ 63] (leaf normal ([c4, int i64 c5, c3, int i64 c1, nil, int i64 (c1 - c5), c7, nil, c7], [c2]))))) := by kernel_rfl
theorem Z0 {n p a : Nat} {k : Nat → Rat} {t : Rat} {i : Int} : aI T (qQ p) [28] 60 nE [AQ] ⟨aA nE (wS n k p a .nil i), [(0, tP t sK)], 2⟩ =
  let c6 : Int := (↑p : Int); let c5 : Int := (↑a : Int); let c4 : AV := int i64 (0 : Int); let c3 : AV := ptr 0 0 3 0 []; let c2 : AV := aj 3 n fun i ↦ rat (k i) 4096; let c1 : Nat × ay := ((0 : Nat), ay.mk false true 3 1 fun x ↦ rat t 4096); some (fork (decide (i ≤ c5)) (af [(0 : Nat) < 1, cq (fun i ↦ rat (k i) sK) n sK, sK ≤ sK, c6 = c6, (0 : Int) ≤ i, (0 : Int) ≤ c5, i + c6 + (1 : Int) < (↑n : Int), n < 2 ^ 40, c5 < (2 : Int) ^ 40, p ≤ 6, (1 : Nat) * 3 ≤ 2 ^ 24, (0 : Nat) < 1 ∧ 1 * ((56 : Nat) + 1) * 2 ≤ 2 ^ 47] (af [-(2 : Int) ^ 63 ≤ i + (1 : Int) ∧ i + (1 : Int) < (2 : Int) ^ 63] (leaf normal ([c2, int i64 c6, c3, int i64 c5, own 45058 3 0 1, int i64 (i + (1 : Int)), c4, nil, c4], [((45058 : Nat), ay.mk true true 3 1 fun i_1 ↦ nth [rat (nC (fun i ↦ aM (rat (k i) sK)) c5.toNat t p i.toNat) (SB p)] (rat 0 1) (i_1 + 0)), c1])))) (leaf (exit 0) ([c2, int i64 c6, c3, int i64 c5, nil, int i64 i, c4, nil, c4], [c1]))) := by kernel_rfl
theorem Qy {n p a j : Nat} {k x : Nat → Rat} {t : Rat} {i : Int} : aI T (qQ p) [28] 60 nE [AQ] ⟨aA nE (wS n k p a (.own 1 3 0 (j + 1)) i), [(1, Ap (j + 1) x fun _ => SB p), (0, tP t sK)], 2⟩ =
  let c7 : Int := (↑p : Int); let c6 : Int := (↑a : Int); let c5 : AV := int i64 (0 : Int); let c4 : AV := ptr 0 0 3 0 []; let c3 : AV := aj 3 n fun i ↦ rat (k i) 4096; let c2 : Nat := j + 1; let c1 : Nat × ay := ((0 : Nat), ay.mk false true 3 1 fun x ↦ rat t 4096); let c8 : Nat := c2 + 1; some (fork (decide (i ≤ c6)) (af [(0 : Nat) < 1, cq (fun i ↦ rat (k i) sK) n sK, sK ≤ sK, c7 = c7, (0 : Int) ≤ i, (0 : Int) ≤ c6, i + c7 + (1 : Int) < (↑n : Int), n < 2 ^ 40, c6 < (2 : Int) ^ 40, p ≤ 6, (1 : Nat) * 3 ≤ 2 ^ 24, c8 * ((56 : Nat) + 1) * 2 ≤ 2 ^ 47] (af [-(2 : Int) ^ 63 ≤ i + (1 : Int) ∧ i + (1 : Int) < (2 : Int) ^ 63] (leaf normal ([c3, int i64 c7, c4, int i64 c6, own 45058 3 0 c8, int i64 (i + (1 : Int)), c5, nil, c5], [((45058 : Nat), ay.mk true true 3 c8 fun i_1 ↦ if i_1 < c2 then rat (x i_1) (SB p) else nth [rat (nC (fun i ↦ aM (rat (k i) sK)) c6.toNat t p i.toNat) (SB p)] (rat 0 1) (i_1 - c2 + 0)), c1])))) (leaf (exit 0) ([c3, int i64 c7, c4, int i64 c6, own 1 3 0 c2, int i64 i, c5, nil, c5], [((1 : Nat), ay.mk true true 3 c2 fun i ↦ rat (x i) (SB p)), c1]))) := by kernel_rfl
theorem T8 {n p a j : Nat} {k x : Nat → Rat} {t : Rat} {i : Int} : b9 T (qQ p) [] 60 vv [part y4 [1,1,1,1,1]] ⟨aA nE (wS n k p a (.own 1 3 0 (j + 1)) i), [(1, Ap (j + 1) x fun _ => SB p), (0, tP t sK)], 2⟩ =
  let c1 : Int := (↑a : Int) - (↑p : Int); some (af [-(2 : Int) ^ 63 ≤ c1 ∧ c1 < (2 : Int) ^ 63] (leaf ret [int i64 c1, aj 3 (j + 1) fun i ↦ rat (x (i + 0)) (SB p), int i64 (0 : Int)])) := by kernel_rfl
theorem SX : bh P (nG :: (iy, pI) :: iT) := eP (aE (ym wI) jA)
theorem Db {n : Nat} {k : Nat → Rat} {t : Rat} (hn : n < 2 ^ 40) : ∀ d i a, i + d + 1 < n → a < 2 ^ 40 → d ≤ 6 → ∀ K, aB P rE K (rD n k i d a t) [] (aH (.rat (nC k a t d i) (SB d)) [])
 | 0, i, a, hi, ha, hd, K => by
  refine bF (r := aH (.rat (nC k a t 0 i) (SB 0)) []) hT SX hm Dd rfl (of_decide_eq_true (by kernel_rfl)) rfl 60 Yi (fun _ => ?_) K []
  simp only [aa.all, ax, beq_iff_eq, beq_eq_false_iff_ne, ne_eq]
  refine ⟨fun h => ⟨by omega, by omega, ?_⟩, fun h => ⟨by omega, by omega, ?_⟩⟩
  ·unfold nC; rw [if_pos (by omega)]; exact cV rfl (by decide)
  ·unfold nC; rw [if_neg (by omega)]; exact jh (k := 65535)
 | d + 1, i, a, hi, ha, hd, K => by
  have hΓ : bh P (De d) := eP (aE (eE fun ⟨⟨n', k'⟩, i', d', a', t', _⟩ K hn' => by
   obtain ⟨h1, h2, h3, h4, h5, h6, h7⟩ := hn'
   simp only at h1 h2 h3 h4 h5 h6
   have := Db (n := n') (k := k') (t := t') h5 d i'.toNat a'.toNat (by omega) (by omega) h7 K
   unfold rD at this
   rw [Int.toNat_of_nonneg h2, Int.toNat_of_nonneg h3] at this
   rw [h1]
   exact this) (aE WZ (aE (ym wI) jA)))
  refine bF (r := aH (.rat (nC k a t (d + 1) i) (SB (d + 1))) []) hT hΓ hm Dd rfl (of_decide_eq_true (by kernel_rfl)) rfl 60 Sw (fun _ => ?_) K []
  have h1 := Jn (d := d)
  have h2 := G0 (d := d)
  have h3 := Dq (d := d) (by omega)
  have h4 : sV = 268435456 := rfl
  have h5 := Vs
  have h6 : sK = 4096 := rfl
  have h7 : m9 = 8193 := rfl
  simp only [aa.all, ax, lN, beq_eq_false_iff_ne, ne_eq, decide_eq_true_eq, decide_eq_false_iff_not, cond_false, Int.toNat_natCast, show ((i : Int) + ((d + 1 : Nat) : Int)).toNat = i + (d + 1) by omega, show ((i : Int) + ((d + 1 : Nat) : Int) + 1).toNat = i + (d + 2) by omega, show ((i : Int) + 1).toNat = i + 1 by omega]
  rw [nC]
  (repeat' with_reducible first | refine And.intro ?_ ?_ | intro _)
  all_goals first | omega | exact dr (Nat.le_refl _) | exact absurd ‹true = false› (by decide) | (rw [if_pos (by omega)]; exact jh (k := SB (d + 1) - 1)) | skip
  all_goals first | (rw [if_pos (by omega), show SB (d + 1) = SB (d + 1) - 1 + 1 by omega]; exact jh) | skip
  rw [if_neg (by omega)]
  exact cV rfl (by omega)
theorem YP {p : Nat} : bh P (qQ p) := eP (aE xx (aE (eE fun ⟨⟨n', k'⟩, i', d', a', t', _⟩ K hn' => by
 obtain ⟨h1, h2, h3, h4, h5, h6, h7⟩ := hn'
 simp only at h1 h2 h3 h4 h5 h6
 have := Db (n := n') (k := k') (t := t') h5 p i'.toNat a'.toNat (by omega) (by omega) h7 K
 unfold rD at this
 rw [Int.toNat_of_nonneg h2, Int.toNat_of_nonneg h3] at this
 rw [h1]
 exact this) jA))
theorem X0 {n p : Nat} {k : Nat → Rat} {t : Rat} (h : Kn n p k) (hp6 : p ≤ 6) (hn : n < 2 ^ 40) (K : Nat) : aB P rX K [ls k n, .int .i64 p, .rat t sK] [] (aH (Ah n k p t) []) := by
 refine kY (r := aH (Ah n k p t) []) hT YP hm Zy rfl (of_decide_eq_true (by kernel_rfl)) rfl [1,1,1,1,0,1] (i := 0) (y := AQ) (z := part y4 [1,1,1,1,1]) (by kernel_rfl) (by kernel_rfl) (by kernel_rfl) (f1 := [21]) (f2 := [28]) (f3 := []) 60 nE 2
  (fun j : Nat => wS n k p (cF n k t) (match j with
   | 0 => .nil
   | _ + 1 => .own 1 3 0 j) ((cF n k t : Int) - p + j)) (fun j => match j with
   | 0 => [(0, tP t sK)]
   | _ + 1 => [(1, Ap j (fun j => nC k (cF n k t) t p (cF n k t - p + j)) fun _ => SB p), (0, tP t sK)])
  (fun j => j ≤ p + 1 ∧ ¬ bT n k t) (fun j => j = p + 1 ∧ ¬ bT n k t) (fun j => p + 1 - j) (fun _ => ⟨⟨_, SZ, ?_⟩, fun j ⟨hj, hin⟩ => ?_, fun j ⟨hj, hin⟩ => ?_⟩) K []
 ·simp only [aa.all, ax, lN, bne_iff_ne, ne_eq, bne_eq_false_iff_eq, Int.toNat_natCast]
  refine ⟨⟨by omega, dr (Nat.le_refl _), Nat.le_refl _, h, by omega, hn⟩, fun hout => ?_, fun hin => ?_⟩
  ·have h1 := Y6 hout
   exact ⟨[.int .i64 0, .nil, .int .i64 (dH n k t)], by kernel_rfl, by rw [show dH n k t = 7 by unfold dH; rw [if_pos h1]]; exact abI h1⟩
  ·have hin := Ca hin
   have hv := h.u7 hin
   have hii : p0 n k t = cF n k t := by unfold p0; rw [if_neg hin]
   simp only [hii]
   exact ⟨by omega, 0, ⟨by omega, hin⟩, [(0, 0)], rfl, by simp only [Int.natCast_zero, Int.add_zero]; rfl, rfl, aU rfl rfl (aQ rfl rfl) trivial⟩
 ·have hv := h.u7 hin
  cases j with
  | zero =>
   refine ⟨_, Z0, ?_⟩
   simp only [aa.all, ax, lN, decide_eq_true_eq, decide_eq_false_iff_not, Int.toNat_natCast, Int.natCast_zero, Int.add_zero]
   refine ⟨fun h1 => ⟨⟨by omega, dr (Nat.le_refl _), Nat.le_refl _, trivial, by omega, by omega, by omega, hn, by omega, by omega, by omega, by omega⟩, by omega, 1, ⟨by omega, hin⟩, by dsimp only; omega, [(0, 0), (1, 45058)], rfl, rfl, rfl, bR rfl rfl rfl (fun i hi => aau (y := fun j => nC k (cF n k t) t p (cF n k t - p + j)) (by rw [show ((cF n k t : Int) - p).toNat = cF n k t - p by omega]; rfl) (Nat.le_refl _) hi) (aU rfl rfl (aQ rfl rfl) trivial)⟩, fun h1 => by omega⟩
  | succ j =>
   refine ⟨_, Qy, ?_⟩
   simp only [aa.all, ax, lN, decide_eq_true_eq, decide_eq_false_iff_not, Int.toNat_natCast]
   refine ⟨fun h1 => ⟨⟨by omega, dr (Nat.le_refl _), Nat.le_refl _, trivial, by omega, by omega, by omega, hn, by omega, by omega, by omega, by omega⟩, by omega, j + 2, ⟨by omega, hin⟩, by dsimp only; omega, [(0, 0), (1, 45058)], rfl, by rw [show (cF n k t : Int) - p + ((j + 1 : Nat) : Int) + 1 = (cF n k t : Int) - p + ((j + 2 : Nat) : Int) by omega]; rfl, rfl,
    bR rfl rfl rfl (fun i hi => zE (y := fun j => nC k (cF n k t) t p (cF n k t - p + j)) (fun _ _ => rfl) (by rw [show ((cF n k t : Int) - p + ((j + 1 : Nat) : Int)).toNat = cF n k t - p + (j + 1) by omega]) (Nat.le_refl _) (Nat.le_refl _) hi) (aU rfl rfl (aQ rfl rfl) trivial)⟩,
    fun h1 => ⟨rfl, j + 1, ⟨by omega, hin⟩, [(0, 0), (1, 1)], rfl, rfl, rfl, bR rfl rfl rfl (fun i hi => aQ rfl rfl) (aU rfl rfl (aQ rfl rfl) trivial)⟩⟩
 ·subst hj
  have hv := h.u7 hin
  refine ⟨_, T8, ?_⟩
  simp only [aa.all, ax]
  refine ⟨by omega, XK hin fun j hj => cV ?_ (Dq hp6)⟩
  have h1 : ¬ t < k 0 := fun h => hin (.inl h)
  have h2 : ¬ k (n - 1) < t := fun h => hin (.inr h)
  have hat : At n k (cF n k t) := (h.Aa (by grind) (by grind)).1.at_
  exact (Hs hat hv.1 (by omega) j (by omega)).symm
theorem S0 : ∀ K args pre r, IG K args pre = some r → aB P rX K args pre r := eE fun ⟨⟨n, k⟩, p, t, _⟩ K hn => by
 obtain ⟨h1, h2, h3, h4⟩ := hn
 have h3 : p ≤ 6 := h3
 have := X0 h1 (by simp only; omega) h4 K (t := t)
 rw [Int.toNat_of_nonneg h2] at this
 exact this
end Go.Am.B

/- ref10: Lift, Homogeneous, Drop, Eval. -/
namespace Go.Am.B
open Go Go.Am.N AV aa ah IntKind
theorem HH : aS P yM qY (au qY) := aN QJ (by kernel_rfl) (by kernel_rfl) (by kernel_rfl)
theorem Q1 : aS P zB wO (au wO) := aN Lc (by kernel_rfl) (by kernel_rfl) (by kernel_rfl)
theorem abc : aS P lp vg (au vg) := aN UQ (by kernel_rfl) (by kernel_rfl) (by kernel_rfl)
theorem Ia : aS P lI q6 (au q6) := aN Lx (by kernel_rfl) (by kernel_rfl) (by kernel_rfl)
theorem Iu : aS P mS nW (au nW) := aN Xu (by kernel_rfl) (by kernel_rfl) (by kernel_rfl)
noncomputable def HQ : aT := (yg, hU kR kR ZF lS) :: (yM, cZ T iT [] 60 qY) :: iT
abbrev sH : Nat := 2147483648
abbrev sE : Nat := 4294967298
def iF (h : Pl) : V3 := ⟨((1 : Int) : Rat) / h.d * h.n.x, ((1 : Int) : Rat) / h.d * h.n.y, ((1 : Int) : Rat) / h.d * h.n.z⟩
def zx : Spec := ey (kC (Hx sH) kN) (fun a => .agg [vA (iF a.1) sE, .rat a.1.d sH]) fun _ => []
noncomputable def GLi : aT := (yM, cZ T iT [] 60 qY) :: iT
noncomputable def xq : aT := nG :: (rX, IG) :: (zB, cZ T GLi [] 60 wO) :: iT
abbrev rS : List Nat := [2, 4, 5, 6, 8, 9]
abbrev yA (p i : Nat) (x : Nat → Rat) (j : Nat) : List AV := [.ptr 0 0 3 0 [], .ptr 1 0 12 0 [], .int .i64 ((i : Int) - p), .aj 3 (p + 1) (fun j => .rat (x j) sV), .ptr 2 0 12 0 [], .int .i64 j]
abbrev oT (h : Pl) (s : Nat) : ay := ⟨false, true, 12, 1, fun _ => jy h s⟩
abbrev CC (c : Cu) (r : Nat) : ay := ⟨false, true, 3, 1, fun _ => fc c sK r⟩
abbrev jc : Nat := 68719476736
abbrev jj : Nat := 137438953474
noncomputable abbrev oS : Code := au q6
theorem XE {h : Pl} {s : Nat} : bB T HQ [] 60 vg (au vg) ⟨aO 0 [jy h s], [], 0⟩ =
  let c9 : Prop := (0 : Int) ≤ (0 : Int); let c8 : Rat := (↑(1 : Int) : Rat) / h.d; let c7 : Int := (↑(4 : Nat) : Int); let c6 : Int := (↑(3 : Nat) : Int); let c4 : Nat := 2 ^ 41; let c3 : Int := i64.wrap ((0 : Int) + (1 : Int)); let c2 : Nat := Max.max 1 (aV (Int.natAbs (1 : Int))); let c1 : Prop := 0 < 1; let c11 : Int := i64.wrap (c3 + (1 : Int)); let c10 : Prop := (0 : Int) ≤ (3 : Int) ∧ (3 : Int) < c7; let c5 : Prop := (0 : Int) ≤ c11 ∧ c11 < c6; some (af [-(2 : Int) ^ 63 ≤ (1 : Int), (1 : Int) < (2 : Int) ^ 63, c10, c1, c2 < c4, s < c4, c9 ∧ (0 : Int) < c7, c1, (0 : Int) ≤ (1 : Int) ∧ (1 : Int) < c7, c1, (0 : Int) ≤ (2 : Int) ∧ (2 : Int) < c7, c1, c1, c9 ∧ (0 : Int) < c6, c1, c2 + s < c4, s < c4, c9 ∧ (0 : Int) < c6, c1, c1, (0 : Int) ≤ c3 ∧ c3 < c6, c1, c2 + s < c4, s < c4, (0 : Int) ≤ c3 ∧ c3 < c6, c1, c1, c5, c1, c2 + s < c4, s < c4, c5, c1, c1, c1, c1, c10, c1, c1] (af [c1] (leaf ret [agg [agg [rat (c8 * h.n.x) (c2 + s + s), rat (c8 * h.n.y) (c2 + s + s), rat (c8 * h.n.z) (c2 + s + s)], rat h.d s]]))) := by kernel_rfl
theorem ZI {c : Cu} {t : Rat} {r : Nat} : aI T xq [] 60 rS (before oS [1,1,1,0,1]) ⟨aO 0 [fc c sK r, .rat t sK], [], 0⟩ =
  let c5 : Prop := 0 < 1; let c4 : Nat := cF c.n (fun i ↦ aM (rat (c.k i) sK)) t; let c3 : Prop := bT c.n (fun i ↦ aM (rat (c.k i) sK)) t; let c2 : AV := rat 0 1; let c1 : ay := ay.mk false true 12 1 fun x ↦ agg [c2, c2, c2, c2]; some (af [c5, c5, c5, cq (fun i ↦ rat (c.k i) sK) c.n sK, sK ≤ sK, Kn c.n c.p.toNat fun i ↦ aM (rat (c.k i) sK), (0 : Int) ≤ c.p, c.p ≤ (6 : Int), c.n < 2 ^ 40] (leaf normal ([ptr 0 0 (bu (fc c sK r)).size 0 [], ptr 8192 0 12 0 [], int i64 (if c3 then (0 : Int) else (↑c4 : Int) - (↑c.p.toNat : Int)), aj 3 (if c3 then 0 else c.p.toNat + 1) fun j ↦ rat (vB (fun i ↦ aM (rat (c.k i) sK)) c4 t c.p.toNat j) 268435456, ptr 65536 0 12 0 [], int i64 (0 : Int)], [((65536 : Nat), c1), ((8192 : Nat), c1), ((0 : Nat), ay.mk false true (bu (fc c sK r)).size 1 fun x ↦ agg [int i64 c.p, aj 3 c.n fun i ↦ rat (c.k i) 4096, aj 12 c.m fun i ↦ agg [agg [rat (c.f i).n.x r, rat (c.f i).n.y r, rat (c.f i).n.z r], rat (c.f i).d r]])]))) := by kernel_rfl
theorem LM {c : Cu} {h : Pl} {p i j s r : Nat} {x : Nat → Rat} : aI T xq [25] 60 rS [part oS [1,1,1,0,1,0,0]] ⟨aA rS (yA p i x j), [(2, oT h s), (1, oT ⟨⟨0, 0, 0⟩, 0⟩ 1), (0, CC c r)], 3⟩ =
  let c35 : Nat := p + 1; let c30 : Int := (↑i : Int) - (↑p : Int); let c27 : AV := ptr 0 0 3 0 []; let c26 : Nat := sV + (r + r); let c25 : AV := ptr 2 0 12 0 []; let c24 : AV := ptr 1 0 12 0 []; let c21 : AV := rat 0 1; let c19 : Int := (↑j : Int); let c18 : Prop := (0 : Int) ≤ (0 : Int); let c15 : Int := (↑(3 : Nat) : Int); let c14 : Bool := 0 == 0; let c11 : Int := (↑(4 : Nat) : Int); let c9 : Int := (2 : Int) ^ 63; let c7 : Nat := 2 ^ 41; let c4 : Prop := 0 < 1; let c3 : Int := (0 : Int) + (1 : Int); let c37 : Rat := x c19.toNat; let c36 : Int := c19 + (1 : Int); let c33 : Prop := c18 ∧ (0 : Int) < c11; let c32 : Prop := c18 ∧ (0 : Int) < c15; let c31 : Prop := (0 : Int) ≤ i64.wrap c3 ∧ i64.wrap c3 < c15; let c29 : Prop := (0 : Int) ≤ c3 ∧ c3 < c11; let c20 : AV := aj 3 c35 fun j ↦ rat (x j) 268435456; let c17 : Int := i64.wrap (i64.wrap c3 + (1 : Int)); let c16 : Int := c3 + (1 : Int); let c12 : Prop := (0 : Int) ≤ c19 ∧ c19.toNat < c35; let c6 : List (Nat × ay) := [((1 : Nat), ay.mk false true 12 1 fun x ↦ agg [c21, c21, c21, c21]), ((0 : Nat), ay.mk false true 3 1 fun x ↦ agg [int i64 c.p, aj 3 c.n fun i ↦ rat (c.k i) 4096, aj 12 c.m fun i ↦ agg [agg [rat (c.f i).n.x r, rat (c.f i).n.y r, rat (c.f i).n.z r], rat (c.f i).d r]])]; let c5 : Int := c30 + c19; let c38 : Prop := (0 : Int) ≤ c17 ∧ c17 < c15; let c23 : Prop := (0 : Int) ≤ c16 ∧ c16 < c11; let c22 : Pl := c.f c5.toNat; let c8 : Int := c16 + (1 : Int); let c28 : Prop := (0 : Int) ≤ c8 ∧ c8 < c11; let c2 : AV := agg ((jy h s).kids.set (Int.toNat (0 : Int)) (bu (jq (h.n.x, s) (c37 * (c22.d * c22.n.x), c26)))); let c34 : AV := if c14 = true then c2 else jy h s; let c10 : AV := agg (c34.kids.set c3.toNat (bu (jq (h.n.y, s) (c37 * (c22.d * c22.n.y), c26)))); let c1 : AV := if c14 = true then c10 else c34; let c13 : AV := agg (c1.kids.set c16.toNat (bu (jq (h.n.z, s) (c37 * (c22.d * c22.n.z), c26)))); some (fork (decide (c19 < (↑c35 : Int))) (af [c4, -c9 ≤ c5 ∧ c5 < c9, (0 : Int) ≤ c5 ∧ c5.toNat < c.m, c4, c4, c4, c32, c4, r < c7, r < c7, c32, c4, c4, c31, c4, r < c7, r < c7, c31, c4, c4, c38, c4, r < c7, r < c7, c38, c4, c4, c4, c4, c4, c32, c4, (0 : Int) ≤ (1 : Int) ∧ (1 : Int) < c15, c4, (0 : Int) ≤ (2 : Int) ∧ (2 : Int) < c15, c4, c4, c4, c4, c4] (af [c33, c4, c12, c33, c4, sV < c7, r + r < c7, s < c7, c26 < c7, c33, c4] (af [-c9 ≤ c3 ∧ c3 < c9] (af [c29, c4, c12, c29, c4, sV < c7, r + r < c7, s < c7, c26 < c7, c29, c4] (af [-c9 ≤ c16 ∧ c16 < c9] (af [c23, c4, c12, c23, c4, sV < c7, r + r < c7, s < c7, c26 < c7, c23, c4] (af [-c9 ≤ c8 ∧ c8 < c9] (af [c28, c4, c12, c28, c4, sV < c7, r < c7, s < c7, sV + r < c7, c28, c4] (af [-c9 ≤ c8 + (1 : Int) ∧ c8 + (1 : Int) < c9] (af [-c9 ≤ c36 ∧ c36 < c9] (leaf normal ([c27, c24, int i64 c30, c20, c25, int i64 c36], ((2 : Nat), ay.mk false true 12 1 fun j ↦ if (j == 0) = true then agg ((if c14 = true then c13 else c1).kids.set c8.toNat (bu (jq (h.d, s) (c37 * c22.d, sV + r)))) else if (j == 0) = true then c13 else if (j == 0) = true then c10 else if (j == 0) = true then c2 else jy h s) :: c6)))))))))))) (leaf (exit 0) ([c27, c24, int i64 c30, c20, c25, int i64 c19], ((2 : Nat), ay.mk false true 12 1 fun x ↦ agg [rat h.n.x s, rat h.n.y s, rat h.n.z s, rat h.d s]) :: c6))) := by kernel_rfl
theorem Ti {c : Cu} {h : Pl} {p i j s r : Nat} {x : Nat → Rat} : b9 T xq [] 60 q6 [part oS [1,1,1,1]] ⟨aA rS (yA p i x j), [(2, oT h s), (1, oT ⟨⟨0, 0, 0⟩, 0⟩ 1), (0, CC c r)], 3⟩ =
  let c1 : Prop := 0 < 1; some (af [c1, c1] (af [c1] (leaf ret [agg [rat h.n.x s, rat h.n.y s, rat h.n.z s, rat h.d s]]))) := by kernel_rfl
def gQ (c : Cu) (x : Nat → Rat) (b j : Nat) : Pl :=
 ⟨⟨ct j fun j => x j * ((c.f (b + j)).d * (c.f (b + j)).n.x), ct j fun j => x j * ((c.f (b + j)).d * (c.f (b + j)).n.y), ct j fun j => x j * ((c.f (b + j)).d * (c.f (b + j)).n.z)⟩, ct j fun j => x j * (c.f (b + j)).d⟩
def zH (r j : Nat) : Nat := 1 + j * (sV + (r + r) + 1)
def ec (c : Cu) (t : Rat) : Pl := gQ c (vB c.k (cF c.n c.k t) t c.p.toNat) (cF c.n c.k t - c.p.toNat) (c.p.toNat + 1)
theorem abk : bh P HQ := aE (iC fun _ _ K hn => Rr hn.1 hn.2 K) (aE (dh hT jA hm HH _ _) jA)
theorem FO {h : Pl} {s s' : Nat} (hs : s < 2 ^ 40) (hs' : 1 + s + s ≤ s') (K : Nat) : aB P lp K [jy h s] [] (aH (.agg [vA (iF h) s', .rat h.d s]) []) := by
 refine bF (r := aH (.agg [vA (iF h) s', .rat h.d s]) []) hT abk hm abc rfl (of_decide_eq_true (by kernel_rfl)) rfl 60 (XE (s := s)) (fun _ => ?_) K []
 have e1 : i64.wrap ((0 : Int) + 1) = 1 := rfl
 have e2 : i64.wrap ((1 : Int) + 1) = 2 := rfl
 simp only [aa.all, ax, S8, e1, e2]
 refine ⟨?_, by omega, eG ⟨eG ⟨cV rfl (by omega), cV rfl (by omega), cV rfl (by omega), trivial⟩, .refl _, trivial⟩⟩
 (repeat' with_reducible refine And.intro ?_ ?_)
 all_goals omega
theorem CN : ∀ K args pre r, zx K args pre = some r → aB P lp K args pre r := eE fun ⟨h, _⟩ K _ => FO (by decide) (by decide) K
def Ds : Spec := ey (kC (Hx jc) kN) (fun a => .agg [vA (iF a.1) jj, .rat a.1.d jc]) fun _ => []
theorem Va : ∀ K args pre r, Ds K args pre = some r → aB P lp K args pre r := eE fun ⟨h, _⟩ K _ => FO (by decide) (by decide) K
theorem Em : bh P xq := eP (aE S0 (aE (dh hT (aE (dh hT jA hm HH _ _) jA) hm Q1 _ _) jA))
theorem DN {c : Cu} {t : Rat} {r s : Nat} (hr : 1 + 7 * (sV + (r + r) + 1) ≤ s) (hs : s < 2 ^ 40) (hk : Kn c.n c.p.toNat c.k) (h0 : 0 ≤ c.p) (h6 : c.p ≤ 6) (hn : c.n < 2 ^ 40) (hm2 : (c.m : Int) = (c.n : Int) - c.p - 1) (hin : ¬ bT c.n c.k t) (K : Nat) : aB P lI K [fc c sK r, .rat t sK] [] (aH (jy (ec c t) s) []) := by
 refine fq (r := aH (jy (ec c t) s) []) hT Ia rfl (of_decide_eq_true (by kernel_rfl)) rfl (fun _ cx h00 => ?_) K []
 have hkp := kE h00
 obtain ⟨q, hq⟩ : ∃ q, q = c.p.toNat := ⟨_, rfl⟩
 have hq2 : c.p = (q : Int) := by omega
 obtain ⟨i, hi⟩ : ∃ i, i = cF c.n c.k t := ⟨_, rfl⟩
 obtain ⟨x, hx⟩ : ∃ x, x = vB c.k i t q := ⟨_, rfl⟩
 have hiv := hk.u7 hin
 rw [← hi, ← hq] at hiv
 have hV : ec c t = gQ c x (i - q) (q + 1) := by unfold ec; rw [← hi, ← hq, ← hx]
 rw [hV]
 have h1 : sK = 4096 := rfl
 have h2 : sV = 268435456 := rfl
 have z0 : zH r 0 = 1 := by unfold zH; rw [Nat.zero_mul]
 have zS : ∀ j, zH r (j + 1) = zH r j + (sV + (r + r) + 1) := fun j => by unfold zH; rw [Nat.add_mul, Nat.one_mul]; omega
 have zle : ∀ j, j ≤ 7 → zH r j ≤ s := fun j hj => by
  have := Nat.mul_le_mul_right (sV + (r + r) + 1) hj
  unfold zH; omega
 refine ak.iM hT Em hm (x := oS) [1,1,1,0,1] (i := 0) (y := part oS [1,1,1,0,1,0,0]) (z := part oS [1,1,1,1]) (by kernel_rfl) (by kernel_rfl) (by kernel_rfl) Ia.dst hkp (f1 := []) (f2 := [25]) 60 rS 3 (fun j : Nat => yA q i x j) (fun j => [(2, oT (gQ c x (i - q) j) (zH r j)), (1, oT ⟨⟨0, 0, 0⟩, 0⟩ 1), (0, CC c r)]) (fun j => j ≤ q + 1) (fun j => j = q + 1) (fun j => q + 1 - j) (fun _ => False) ⟨_, ZI, ?_⟩ (fun j hj => ⟨_, LM, ?_⟩) (fun j hj => ?_) (fun _ _ h => h.elim)
 ·simp only [aa.all, ax]
  simp only [lN, show bT c.n (fun i => c.k i) t = bT c.n c.k t from rfl, if_neg hin]
  refine ⟨⟨by omega, by omega, by omega, dr (Nat.le_refl _), Nat.le_refl _, hk, h0, h6, hn⟩, 0, Nat.zero_le _, [(0, 0), (1, 8192), (2, 65536)], rfl, ?_, rfl, aU rfl rfl (aQ rfl (by rw [z0]; rfl)) (aU rfl rfl (aQ rfl rfl) (aU rfl rfl (aQ rfl rfl) trivial))⟩
  show _ = (yA q i x 0).map _
  rw [hx, hq, hi]; rfl
 ·simp only [aa.all, ax, decide_eq_true_eq, decide_eq_false_iff_not, show ((i : Int) - q + j).toNat = i - q + j by omega, Int.toNat_natCast, show i64.wrap ((0 : Int) + 1) = 1 from rfl, show i64.wrap ((1 : Int) + 1) = 2 from rfl]
  have hz1 := zS j
  refine ⟨fun h => ?_, fun h => ⟨rfl, j, by omega, [(0, 0), (1, 1), (2, 2)], rfl, rfl, rfl, aU rfl rfl (aQ rfl rfl) (aU rfl rfl (aQ rfl rfl) (aU rfl rfl (aQ rfl rfl) trivial))⟩⟩
  have hz := zle j (by omega)
  have hz2 := zle (j + 1) (by omega)
  (repeat' with_reducible refine And.intro ?_ ?_)
  all_goals first | omega | skip
  exact ⟨j + 1, by omega, by dsimp only; omega, [(0, 0), (1, 1), (2, 2)], rfl, rfl, rfl, aU rfl rfl (.inr ⟨rfl, eG ⟨cV rfl (by omega), cV rfl (by omega), cV rfl (by omega), cV rfl (by omega), trivial⟩⟩) (aU rfl rfl (aQ rfl rfl) (aU rfl rfl (aQ rfl rfl) trivial))⟩
 ·subst hj
  refine ak.jg ((az.fin hT Em hm 60 Ti (by kernel_rfl) ?_).mono fun _ _ h => .inl h)
  simp only [aa.all, ax]
  have hz := zle (q + 1) (by omega)
  exact ⟨by omega, by omega, eG ⟨dF (by omega), dF (by omega), dF (by omega), dF (by omega), trivial⟩⟩
def Cm : Spec := ey (kC (sN sK sK) (kC (iu sK) kN)) (fun a => jy (ec a.1 a.2.1) sH) fun a => [Kn a.1.n a.1.p.toNat a.1.k, 0 ≤ a.1.p, a.1.p ≤ 6, a.1.n < 2 ^ 40, (a.1.m : Int) = (a.1.n : Int) - a.1.p - 1, ¬ bT a.1.n a.1.k a.2.1]
def Iy : Spec := ey (kC (sN sK sE) (kC (iu sK) kN)) (fun a => jy (ec a.1 a.2.1) jc) fun a => [Kn a.1.n a.1.p.toNat a.1.k, 0 ≤ a.1.p, a.1.p ≤ 6, a.1.n < 2 ^ 40, (a.1.m : Int) = (a.1.n : Int) - a.1.p - 1, ¬ bT a.1.n a.1.k a.2.1]
noncomputable def J6 : aT := sG :: (lQ, vp) :: (lI, Iy) :: (lp, Ds) :: []
noncomputable def Gt : aT := sG :: (lQ, vp) :: (lI, Cm) :: (lp, zx) :: []
theorem DC : ∀ K args pre r, Cm K args pre = some r → aB P lI K args pre r := eE fun ⟨c, t, _⟩ K hn => DN (by decide) (by decide) hn.1 hn.2.1 hn.2.2.1 hn.2.2.2.1 hn.2.2.2.2.1 hn.2.2.2.2.2 K
theorem Rq : ∀ K args pre r, Iy K args pre = some r → aB P lI K args pre r := eE fun ⟨c, t, _⟩ K hn => DN (by decide) (by decide) hn.1 hn.2.1 hn.2.2.1 hn.2.2.2.1 hn.2.2.2.2.1 hn.2.2.2.2.2 K
theorem Lg : bh P J6 := de (aE xx (aE Rq (aE Va aY)))
theorem Sh : bh P Gt := de (aE xx (aE DC (aE CN aY)))
theorem Mn {c : Cu} {t : Rat} : bB T Gt [18] 60 nW (au nW) ⟨aO 0 [fc c sK sK, .rat t sK], [], 0⟩ =
  let c9 : Prop := c.n < 2 ^ 40; let c7 : Prop := cq (fun i ↦ rat (c.k i) sK) c.n sK; let c5 : Int := dH c.n (fun i ↦ aM (rat (c.k i) sK)) t; let c4 : AV := rat 0 1; let c3 : Nat := c.p.toNat; let c1 : Nat := cF c.n (fun i ↦ aM (rat (c.k i) sK)) t; let c10 : Nat := c1 - c3; let c8 : Nat := c3 + 1; let c6 : Prop := Kn c.n c3 fun i ↦ aM (rat (c.k i) sK); let c2 : Rat := (↑(1 : Int) : Rat) / ct c8 fun j ↦ vB (fun i ↦ aM (rat (c.k i) sK)) c1 t c3 j * aM (rat (c.f (c10 + j)).d sK); some (af [c7, sK ≤ sK, c6, (0 : Int) ≤ c.p, c9] (fork (c5 != (0 : Int)) (af [(0 : Nat) < 1] (leaf ret [agg [c4, c4, c4], int i64 c5])) (af [c7, jz (fun i ↦ dO (c.f i) sK) c.m sK, sK ≤ sK, c6, (0 : Int) ≤ c.p, c.p ≤ (6 : Int), c9, (↑c.m : Int) = (↑c.n : Int) - c.p - (1 : Int), ¬bT c.n (fun i ↦ aM (rat (c.k i) sK)) t, sH ≤ sH, sH ≤ sH, sH ≤ sH, sH ≤ sH] (af [(0 : Nat) < 1] (leaf ret [agg [rat (c2 * ct c8 fun j ↦ vB (fun i ↦ aM (rat (c.k i) sK)) c1 t c3 j * (aM (rat (c.f (c10 + j)).d sK) * aM (rat (c.f (c10 + j)).n.x sK))) 4294967298, rat (c2 * ct c8 fun j ↦ vB (fun i ↦ aM (rat (c.k i) sK)) c1 t c3 j * (aM (rat (c.f (c10 + j)).d sK) * aM (rat (c.f (c10 + j)).n.y sK))) 4294967298, rat (c2 * ct c8 fun j ↦ vB (fun i ↦ aM (rat (c.k i) sK)) c1 t c3 j * (aM (rat (c.f (c10 + j)).d sK) * aM (rat (c.f (c10 + j)).n.z sK))) 4294967298], int i64 (0 : Int)]))))) := by kernel_rfl
theorem MB {c : Cu} {t : Rat} : bB T J6 [18] 60 nW (au nW) ⟨aO 0 [fc c sK sE, .rat t sK], [], 0⟩ =
  let c10 : Prop := c.n < 2 ^ 40; let c7 : Prop := cq (fun i ↦ rat (c.k i) sK) c.n sK; let c5 : Int := dH c.n (fun i ↦ aM (rat (c.k i) sK)) t; let c4 : AV := rat 0 1; let c3 : Nat := c.p.toNat; let c1 : Nat := cF c.n (fun i ↦ aM (rat (c.k i) sK)) t; let c9 : Nat := c1 - c3; let c8 : Nat := c3 + 1; let c6 : Prop := Kn c.n c3 fun i ↦ aM (rat (c.k i) sK); let c2 : Rat := (↑(1 : Int) : Rat) / ct c8 fun j ↦ vB (fun i ↦ aM (rat (c.k i) sK)) c1 t c3 j * aM (rat (c.f (c9 + j)).d sE); some (af [c7, sK ≤ sK, c6, (0 : Int) ≤ c.p, c10] (fork (c5 != (0 : Int)) (af [(0 : Nat) < 1] (leaf ret [agg [c4, c4, c4], int i64 c5])) (af [c7, jz (fun i ↦ dO (c.f i) sE) c.m sE, sK ≤ sK, c6, (0 : Int) ≤ c.p, c.p ≤ (6 : Int), c10, (↑c.m : Int) = (↑c.n : Int) - c.p - (1 : Int), ¬bT c.n (fun i ↦ aM (rat (c.k i) sK)) t, jc ≤ jc, jc ≤ jc, jc ≤ jc, jc ≤ jc] (af [(0 : Nat) < 1] (leaf ret [agg [rat (c2 * ct c8 fun j ↦ vB (fun i ↦ aM (rat (c.k i) sK)) c1 t c3 j * (aM (rat (c.f (c9 + j)).d sE) * aM (rat (c.f (c9 + j)).n.x sE))) 137438953474, rat (c2 * ct c8 fun j ↦ vB (fun i ↦ aM (rat (c.k i) sK)) c1 t c3 j * (aM (rat (c.f (c9 + j)).d sE) * aM (rat (c.f (c9 + j)).n.y sE))) 137438953474, rat (c2 * ct c8 fun j ↦ vB (fun i ↦ aM (rat (c.k i) sK)) c1 t c3 j * (aM (rat (c.f (c9 + j)).d sE) * aM (rat (c.f (c9 + j)).n.z sE))) 137438953474], int i64 (0 : Int)]))))) := by kernel_rfl
def ep (c : Cu) (t : Rat) : V3 := if bT c.n c.k t then ⟨0, 0, 0⟩ else iF (ec c t)
def AE : Spec := ey (kC (sN sK sK) (kC (iu sK) kN)) (fun a => .tuple [vA (ep a.1 a.2.1) sE, .int .i64 (dH a.1.n a.1.k a.2.1)]) fun a => [Kn a.1.n a.1.p.toNat a.1.k, 0 ≤ a.1.p, a.1.p ≤ 6, a.1.n < 2 ^ 40, (a.1.m : Int) = (a.1.n : Int) - a.1.p - 1]
theorem DK : ∀ K args pre r, AE K args pre = some r → aB P mS K args pre r := eE fun ⟨c, t, _⟩ K hn => by
 obtain ⟨hk, h0, h6, hn, hm2⟩ := hn
 have hk : Kn c.n c.p.toNat c.k := hk
 have h6 : c.p ≤ 6 := h6
 have hm2 : (c.m : Int) = (c.n : Int) - c.p - 1 := hm2
 refine bF (r := aH (.tuple [vA (ep c t) sE, .int .i64 (dH c.n c.k t)]) []) hT Sh hm Iu rfl (of_decide_eq_true (by kernel_rfl)) rfl 60 Mn (fun _ => ?_) K []
 simp only [aa.all, ax, lN, bne_iff_ne, bne_eq_false_iff_eq, ne_eq, show bT c.n (fun i => c.k i) t = bT c.n c.k t from rfl, show dH c.n (fun i => c.k i) t = dH c.n c.k t from rfl]
 refine ⟨⟨dr (Nat.le_refl _), Nat.le_refl _, hk, h0, hn⟩, fun hout => ?_, fun hin => ?_⟩
 ·have ho : bT c.n c.k t := by
   unfold dH at hout
   by_cases ho : bT c.n c.k t
   ·exact ho
   ·rw [if_neg ho] at hout; exact absurd rfl hout
  refine ⟨by omega, ?_, .refl _, trivial⟩
  unfold ep
  rw [if_pos ho]
  exact eG ⟨dF (by decide), dF (by decide), dF (by decide), trivial⟩
 ·have hi := Ca hin
  refine ⟨⟨dr (Nat.le_refl _), oH (Nat.le_refl _), Nat.le_refl _, hk, h0, h6, hn, hm2, hi, by omega, by omega⟩, by omega, ?_, br hin.symm, trivial⟩
  unfold ep
  rw [if_neg hi]
  exact .refl _
def Jy : Spec := ey (kC (sN sK sE) (kC (iu sK) kN)) (fun a => .tuple [vA (ep a.1 a.2.1) jj, .int .i64 (dH a.1.n a.1.k a.2.1)]) fun a => [Kn a.1.n a.1.p.toNat a.1.k, 0 ≤ a.1.p, a.1.p ≤ 6, a.1.n < 2 ^ 40, (a.1.m : Int) = (a.1.n : Int) - a.1.p - 1]
theorem Oo : ∀ K args pre r, Jy K args pre = some r → aB P mS K args pre r := eE fun ⟨c, t, _⟩ K hn => by
 obtain ⟨hk, h0, h6, hn, hm2⟩ := hn
 have hk : Kn c.n c.p.toNat c.k := hk
 have h6 : c.p ≤ 6 := h6
 have hm2 : (c.m : Int) = (c.n : Int) - c.p - 1 := hm2
 refine bF (r := aH (.tuple [vA (ep c t) jj, .int .i64 (dH c.n c.k t)]) []) hT Lg hm Iu rfl (of_decide_eq_true (by kernel_rfl)) rfl 60 MB (fun _ => ?_) K []
 simp only [aa.all, ax, lN, bne_iff_ne, bne_eq_false_iff_eq, ne_eq, show bT c.n (fun i => c.k i) t = bT c.n c.k t from rfl, show dH c.n (fun i => c.k i) t = dH c.n c.k t from rfl]
 refine ⟨⟨dr (Nat.le_refl _), Nat.le_refl _, hk, h0, hn⟩, fun hout => ?_, fun hin => ?_⟩
 ·have ho : bT c.n c.k t := by
   unfold dH at hout
   by_cases ho : bT c.n c.k t
   ·exact ho
   ·rw [if_neg ho] at hout; exact absurd rfl hout
  refine ⟨by omega, ?_, .refl _, trivial⟩
  unfold ep
  rw [if_pos ho]
  exact eG ⟨dF (by decide), dF (by decide), dF (by decide), trivial⟩
 ·have hi := Ca hin
  refine ⟨⟨dr (Nat.le_refl _), oH (Nat.le_refl _), Nat.le_refl _, hk, h0, h6, hn, hm2, hi, by omega, by omega⟩, by omega, ?_, br hin.symm, trivial⟩
  unfold ep
  rw [if_neg hi]
  exact .refl _
end Go.Am.B

/- shapes.ints, ref14.ints. -/
namespace Go.Am.B
open Go Go.Am.N AV aa ah IntKind
theorem AG : aS P pF n8 (au n8) := aN aaX (by kernel_rfl) (by kernel_rfl) (by kernel_rfl)
theorem Ea : aS P yt pL (au pL) := aN LF (by kernel_rfl) (by kernel_rfl) (by kernel_rfl)
abbrev nB (n : Nat) (z : Nat → Int) : AV := .aj 1 n (fun i => .int .i64 (z i))
abbrev l6 (n : Nat) (z : Nat → Int) : ay := ⟨true, true, 3, n, fun i => .rat ((z i : Int) : Rat) 64⟩
noncomputable abbrev jG : Code := au n8
abbrev kA : List Nat := [3, 6, 7, 8]
abbrev u5 (n : Nat) (z : Nat → Int) (v : AV) (i : Int) : List AV := [v, nB n z, .int .i64 n, .int .i64 i]
noncomputable abbrev j8 : Code := au pL
abbrev lO : List Nat := [0, 3, 4]
abbrev wQ (n : Nat) (z : Nat → Int) (v : AV) (i : Int) : List AV := [nB n z, v, .int .i64 i]
def pM : aT := nG :: [(mZ, Cg)]
def uV : aT := nG :: [(iy, oI)]
theorem T4 {n : Nat} {z : Nat → Int} : aI T pM [] 60 kA (before jG [1,1,0,1]) ⟨aO 0 [nB n z], [], 0⟩ =
  some (leaf normal ([nil, aj 1 n fun i ↦ int i64 (z i), int i64 (↑n : Int), int i64 (0 : Int)], [])) := by kernel_rfl
theorem Xm {n : Nat} {z : Nat → Int} : aI T pM [9] 60 kA [part jG [1,1,0,1,0,0]] ⟨aA kA (u5 n z .nil 0), [], 1⟩ =
  let c4 : Int := (↑n : Int); let c3 : AV := aj 1 n fun i ↦ int i64 (z i); let c2 : Int := (2 : Int) ^ 63; let c1 : Nat := Int.toNat (0 : Int); some (fork (decide ((0 : Int) < c4)) (af [(0 : Int) ≤ (0 : Int) ∧ c1 < n] (af [-c2 ≤ z c1, z c1 < c2, (1 : Nat) * 3 ≤ 2 ^ 24, (0 : Nat) < 1 ∧ 1 * ((56 : Nat) + 1) * 2 ≤ 2 ^ 47] (af [-c2 ≤ (0 : Int) + (1 : Int) ∧ (0 : Int) + (1 : Int) < c2] (leaf normal ([own 32769 3 0 1, c3, int i64 c4, int i64 (1 : Int)], [((32769 : Nat), ay.mk true true 3 1 fun i ↦ nth [rat (↑(z c1) : Rat) (Max.max 1 (aV (z c1).natAbs))] (rat 0 1) (i + 0))]))))) (leaf (exit 0) ([nil, c3, int i64 c4, int i64 (0 : Int)], []))) := by kernel_rfl
theorem Tq {n i : Nat} {z : Nat → Int} : aI T pM [9] 60 kA [part jG [1,1,0,1,0,0]] ⟨aA kA (u5 n z (.own 0 3 0 (i + 1)) ((i + 1 : Nat) : Int)), [(0, l6 (i + 1) z)], 1⟩ =
  let c8 : Int := (↑n : Int); let c4 : AV := aj 1 n fun i ↦ int i64 (z i); let c3 : Int := (2 : Int) ^ 63; let c2 : Nat := i + 1; let c5 : Nat := c2 + 1; let c1 : Int := (↑c2 : Int); let c7 : Int := z c1.toNat; let c6 : Int := c1 + (1 : Int); some (fork (decide (c1 < c8)) (af [(0 : Int) ≤ c1 ∧ c1.toNat < n] (af [-c3 ≤ c7, c7 < c3, (1 : Nat) * 3 ≤ 2 ^ 24, c5 * ((56 : Nat) + 1) * 2 ≤ 2 ^ 47] (af [-c3 ≤ c6 ∧ c6 < c3] (leaf normal ([own 32769 3 0 c5, c4, int i64 c8, int i64 c6], [((32769 : Nat), ay.mk true true 3 c5 fun i ↦ if i < c2 then rat (↑(z i) : Rat) 64 else nth [rat (↑c7 : Rat) (Max.max 1 (aV c7.natAbs))] (rat 0 1) (i - c2 + 0))]))))) (leaf (exit 0) ([own 0 3 0 c2, c4, int i64 c8, int i64 c1], [((0 : Nat), ay.mk true true 3 c2 fun i ↦ rat (↑(z i) : Rat) 64)]))) := by kernel_rfl
theorem ZC {n i : Nat} {z : Nat → Int} : aI T pM [] 60 [2] [part jG [1,1,1]] ⟨aA kA (u5 n z (.own 0 3 0 (i + 1)) ((i + 1 : Nat) : Int)), [(0, l6 (i + 1) z)], 1⟩ =
  some (leaf ret ([own 0 3 0 (i + 1)], [((0 : Nat), ay.mk true true 3 (i + 1) fun i ↦ rat (↑(z i) : Rat) 64)])) := by kernel_rfl
theorem Oe {n i : Nat} {z : Nat → Int} : b9 T pM [] 60 n8 [part jG [1,1,1]] ⟨aA kA (u5 n z (.own 0 3 0 (i + 1)) ((i + 1 : Nat) : Int)), [(0, l6 (i + 1) z)], 1⟩ =
  some (leaf ret [aj 3 (i + 1) fun i ↦ rat (↑(z (i + 0)) : Rat) 64]) := by kernel_rfl
theorem aap {n : Nat} {z : Nat → Int} : aI T uV [] 60 lO (before j8 [1,1,0,1]) ⟨aO 0 [nB n z], [], 0⟩ =
  some (leaf normal ([aj 1 n fun i ↦ int i64 (z i), nil, int i64 (0 : Int)], [])) := by kernel_rfl
theorem Tj {n : Nat} {z : Nat → Int} : aI T uV [8] 60 lO [part j8 [1,1,0,1,0,0]] ⟨aA lO (wQ n z .nil 0), [], 1⟩ =
  let c3 : AV := aj 1 n fun i ↦ int i64 (z i); let c2 : Int := (2 : Int) ^ 63; let c1 : Nat := Int.toNat (0 : Int); some (fork (decide ((0 : Int) < (↑n : Int))) (af [(0 : Int) ≤ (0 : Int) ∧ c1 < n, -c2 ≤ z c1, z c1 < c2, (1 : Nat) * 3 ≤ 2 ^ 24, (0 : Nat) < 1 ∧ 1 * ((56 : Nat) + 1) * 2 ≤ 2 ^ 47] (af [-c2 ≤ (0 : Int) + (1 : Int) ∧ (0 : Int) + (1 : Int) < c2] (leaf normal ([c3, own 45057 3 0 1, int i64 (1 : Int)], [((45057 : Nat), ay.mk true true 3 1 fun i ↦ nth [rat (↑(z c1) : Rat) (Max.max 1 (aV (z c1).natAbs))] (rat 0 1) (i + 0))])))) (leaf (exit 0) ([c3, nil, int i64 (0 : Int)], []))) := by kernel_rfl
theorem RV {n i : Nat} {z : Nat → Int} : aI T uV [8] 60 lO [part j8 [1,1,0,1,0,0]] ⟨aA lO (wQ n z (.own 0 3 0 (i + 1)) ((i + 1 : Nat) : Int)), [(0, l6 (i + 1) z)], 1⟩ =
  let c4 : AV := aj 1 n fun i ↦ int i64 (z i); let c3 : Int := (2 : Int) ^ 63; let c2 : Nat := i + 1; let c5 : Nat := c2 + 1; let c1 : Int := (↑c2 : Int); let c7 : Int := z c1.toNat; let c6 : Int := c1 + (1 : Int); some (fork (decide (c1 < (↑n : Int))) (af [(0 : Int) ≤ c1 ∧ c1.toNat < n, -c3 ≤ c7, c7 < c3, (1 : Nat) * 3 ≤ 2 ^ 24, c5 * ((56 : Nat) + 1) * 2 ≤ 2 ^ 47] (af [-c3 ≤ c6 ∧ c6 < c3] (leaf normal ([c4, own 45057 3 0 c5, int i64 c6], [((45057 : Nat), ay.mk true true 3 c5 fun i ↦ if i < c2 then rat (↑(z i) : Rat) 64 else nth [rat (↑c7 : Rat) (Max.max 1 (aV c7.natAbs))] (rat 0 1) (i - c2 + 0))])))) (leaf (exit 0) ([c4, own 0 3 0 c2, int i64 c1], [((0 : Nat), ay.mk true true 3 c2 fun i ↦ rat (↑(z i) : Rat) 64)]))) := by kernel_rfl
theorem Lz {n i : Nat} {z : Nat → Int} : aI T uV [] 60 [2] [part j8 [1,1,1]] ⟨aA lO (wQ n z (.own 0 3 0 (i + 1)) ((i + 1 : Nat) : Int)), [(0, l6 (i + 1) z)], 1⟩ =
  some (leaf ret ([own 0 3 0 (i + 1)], [((0 : Nat), ay.mk true true 3 (i + 1) fun i ↦ rat (↑(z i) : Rat) 64)])) := by kernel_rfl
theorem JF {rl : List (Nat × Nat)} {l i s s' s2 : Nat} {x y : Nat → Rat} {t : Rat} (hx : ∀ i, i < l → x i = y i) (ht : t = y l) (h1 : s ≤ s2) (h2 : Sz (y l) s2) (hi : i < l + 1) : fY rl (if i < l then .rat (x i) s else nth [.rat t s'] (.rat 0 1) (i - l + 0)) (.rat (y i) s2) := by
 by_cases h : i < l
 ·rw [if_pos h, hx i h]; exact .inr ⟨rfl, cV rfl h1⟩
 ·have : i = l := by omega
  subst this
  rw [if_neg h, Nat.sub_self]
  exact .inr ⟨rfl, eA ht h2⟩
theorem zI : bh P pM := eP (aE Gb aY)
theorem Ir : bh P uV := eP (aE tY aY)
abbrev El (n : Nat) (z : Nat → Int) (i : Nat) : List AV := u5 n z (match i with
 | 0 => .nil
 | _ + 1 => .own 0 3 0 i) i
abbrev x4 (z : Nat → Int) (i : Nat) : aD := match i with
 | 0 => []
 | _ + 1 => [(0, l6 i z)]
theorem Jx {P' : ah → aF → Prop} {n : Nat} {z : Nat → Int} (hn : 0 < n) (hn2 : n < 2 ^ 20) (hz : ∀ i, i < n → -2 ^ 63 ≤ z i ∧ z i < 2 ^ 63) (c : Ctx) (hk : Kept [] c) (hD : ak Go.Am.N.P c n8.ntmps (part jG [1,1,1]) ⟨aA kA (El n z n), x4 z n, 1⟩ P') : ak Go.Am.N.P c n8.ntmps jG ⟨aO 0 [nB n z], [], 0⟩ P' := by
 have hs : ∀ i, i < n → Sz ((z i : Int) : Rat) 64 := fun i hi => wB (y := 0) (hz i hi).1 (hz i hi).2
 refine ak.iM hT zI hm (x := jG) [1,1,0,1] (i := 0) (y := part jG [1,1,0,1,0,0]) (z := part jG [1,1,1]) (by kernel_rfl) (by kernel_rfl) (by kernel_rfl) AG.dst hk (f1 := []) (f2 := [9]) 60 kA 1 (fun i : Nat => El n z i) (fun i => x4 z i) (fun i => i ≤ n) (fun i => i = n) (fun i => n - i) (fun _ => False) ⟨_, T4, ?_⟩ (fun i hi => ?_) (fun i hi => ?_) (fun _ _ h => h.elim)
 ·simp only [aa.all, ax]
  exact ⟨0, Nat.zero_le _, dx.vals rfl⟩
 ·cases i with
  | zero =>
   refine ⟨_, Xm, ?_⟩
   simp only [aa.all, ax, decide_eq_true_eq, decide_eq_false_iff_not]
   refine ⟨fun h => ⟨⟨by omega, by omega⟩, ⟨(hz 0 hn).1, (hz 0 hn).2, by omega, by omega, by omega⟩, by omega, 1, by omega, by dsimp only; omega, [(0, 32769)], rfl, rfl, rfl, bR rfl rfl rfl (fun j hj => ?_) trivial⟩, fun h => by omega⟩
   have hj : j = 0 := by omega
   subst hj
   exact .inr ⟨rfl, eA rfl (hs 0 hn)⟩
  | succ i =>
   refine ⟨_, Tq, ?_⟩
   simp only [aa.all, ax, decide_eq_true_eq, decide_eq_false_iff_not]
   have e : ((i + 1 : Nat) : Int).toNat = i + 1 := by omega
   simp only [e]
   refine ⟨fun h => ⟨⟨by omega, by omega⟩, ⟨(hz (i + 1) (by omega)).1, (hz (i + 1) (by omega)).2, by omega, by omega⟩, by omega, i + 2, by omega, by dsimp only; omega, [(0, 32769)], rfl, rfl, rfl, bR rfl rfl rfl (fun j hj => JF (x := fun i => ((z i : Int) : Rat)) (y := fun i => ((z i : Int) : Rat)) (fun _ _ => rfl) rfl (Nat.le_refl _) (hs (i + 1) (by omega)) hj) trivial⟩, fun h => ⟨rfl, i + 1, by omega, [(0, 0)], rfl, rfl, rfl, bR rfl rfl rfl (fun j hj => aQ rfl rfl) trivial⟩⟩
 ·subst hi; exact hD
abbrev IA (n : Nat) (z : Nat → Int) (i : Nat) : List AV := wQ n z (match i with
 | 0 => .nil
 | _ + 1 => .own 0 3 0 i) i
theorem XU {P' : ah → aF → Prop} {n : Nat} {z : Nat → Int} (hn : 0 < n) (hn2 : n < 2 ^ 20) (hz : ∀ i, i < n → -2 ^ 63 ≤ z i ∧ z i < 2 ^ 63) (c : Ctx) (hk : Kept [] c) (hD : ak Go.Am.N.P c pL.ntmps (part j8 [1,1,1]) ⟨aA lO (IA n z n), x4 z n, 1⟩ P') : ak Go.Am.N.P c pL.ntmps j8 ⟨aO 0 [nB n z], [], 0⟩ P' := by
 have hs : ∀ i, i < n → Sz ((z i : Int) : Rat) 64 := fun i hi => wB (y := 0) (hz i hi).1 (hz i hi).2
 refine ak.iM hT Ir hm (x := j8) [1,1,0,1] (i := 0) (y := part j8 [1,1,0,1,0,0]) (z := part j8 [1,1,1]) (by kernel_rfl) (by kernel_rfl) (by kernel_rfl) Ea.dst hk (f1 := []) (f2 := [8]) 60 lO 1 (fun i : Nat => IA n z i) (fun i => x4 z i) (fun i => i ≤ n) (fun i => i = n) (fun i => n - i) (fun _ => False) ⟨_, aap, ?_⟩ (fun i hi => ?_) (fun i hi => ?_) (fun _ _ h => h.elim)
 ·simp only [aa.all, ax]
  exact ⟨0, Nat.zero_le _, dx.vals rfl⟩
 ·cases i with
  | zero =>
   refine ⟨_, Tj, ?_⟩
   simp only [aa.all, ax, decide_eq_true_eq, decide_eq_false_iff_not]
   refine ⟨fun h => ⟨⟨⟨by omega, by omega⟩, (hz 0 hn).1, (hz 0 hn).2, by omega, by omega, by omega⟩, by omega, 1, by omega, by dsimp only; omega, [(0, 45057)], rfl, rfl, rfl, bR rfl rfl rfl (fun j hj => ?_) trivial⟩, fun h => by omega⟩
   have hj : j = 0 := by omega
   subst hj
   exact .inr ⟨rfl, eA rfl (hs 0 hn)⟩
  | succ i =>
   refine ⟨_, RV, ?_⟩
   simp only [aa.all, ax, decide_eq_true_eq, decide_eq_false_iff_not]
   have e : ((i + 1 : Nat) : Int).toNat = i + 1 := by omega
   simp only [e]
   refine ⟨fun h => ⟨⟨⟨by omega, by omega⟩, (hz (i + 1) (by omega)).1, (hz (i + 1) (by omega)).2, by omega, by omega⟩, by omega, i + 2, by omega, by dsimp only; omega, [(0, 45057)], rfl, rfl, rfl, bR rfl rfl rfl (fun j hj => JF (x := fun i => ((z i : Int) : Rat)) (y := fun i => ((z i : Int) : Rat)) (fun _ _ => rfl) rfl (Nat.le_refl _) (hs (i + 1) (by omega)) hj) trivial⟩, fun h => ⟨rfl, i + 1, by omega, [(0, 0)], rfl, rfl, rfl, bR rfl rfl rfl (fun j hj => aQ rfl rfl) trivial⟩⟩
 ·subst hi; exact hD
def yu : Nat → (Nat → AV) → Bool
 | 0, _ => true
 | n + 1, f => yu n f && match f n with
  | .int .i64 z => decide (-2 ^ 63 ≤ z) && decide (z < 2 ^ 63)
  | _ => false
def Oi (n : Nat) (f : Nat → AV) : Bool := Nat.beq n 3 && !(decide (intOf (f 0) = 0) && decide (intOf (f 1) = 0))
def yS (n : Nat) (f : Nat → AV) : Bool := Nat.blt 0 n && Nat.blt n 100 && yu n f
def yD : Spec := qc fun K l => match l with
 | [.aj 1 n f] => match yS n f, Oi n f with
  | true, true => some ⟨.aj 3 n (fun i => .rat ((intOf (f i) : Int) : Rat) 64), [], []⟩
  | true, false => some ⟨ot [.own K 3 0 n], [(K, l6 n fun i => intOf (f i))], []⟩
  | _, _ => none
 | _ => none
def DY : Spec := qc fun K l => match l with
 | [.aj 1 n f] => match yS n f with
  | true => some ⟨ot [.own K 3 0 n], [(K, l6 n fun i => intOf (f i))], []⟩
  | false => none
 | _ => none
theorem AD : ∀ {n : Nat} {f : Nat → AV}, yu n f = true → ∀ i, i < n → f i = .int .i64 (intOf (f i)) ∧ -2 ^ 63 ≤ intOf (f i) ∧ intOf (f i) < 2 ^ 63
 | 0, _, _, i, hi => by omega
 | n + 1, f, h, i, hi => by
  simp only [yu, Bool.and_eq_true] at h
  by_cases he : i = n
  ·subst he
   have h2 := h.2
   split at h2
   ·rename_i z hz
    simp only [Bool.and_eq_true, decide_eq_true_eq] at h2
    rw [hz]
    exact ⟨rfl, h2⟩
   ·simp at h2
  ·exact AD h.1 i (by omega)
theorem AZ {n : Nat} {f : Nat → AV} (h : yS n f = true) : 0 < n ∧ n < 100 ∧ (∀ i, i < n → -2 ^ 63 ≤ intOf (f i) ∧ intOf (f i) < 2 ^ 63) ∧ eu [.aj 1 n f] [nB n fun i => intOf (f i)] := by
 simp only [yS, Bool.and_eq_true, Nat.blt_eq] at h
 exact ⟨h.1.1, h.1.2, fun i hi => (AD h.2 i hi).2, pH rfl fun i hi => (AD h.2 i hi).1, trivial⟩
theorem B1 : ∀ K args pre r, yD K args pre = some r → aB P pF K args pre r := by
 refine y8 fun K args r hk hs => ?_
 split at hs
 ·rename_i n f
  split at hs
  ·rename_i h1 h2
   obtain ⟨a1, a2, a3, a4⟩ := AZ h1
   simp only [Option.some.injEq] at hs
   subst hs
   refine fu (fq (r := aH (.aj 3 n (fun i => .rat ((intOf (f i) : Int) : Rat) 64)) []) hT AG rfl (of_decide_eq_true (by kernel_rfl)) rfl (fun _ c h0 => Jx a1 (by omega) a3 c (kE h0) ?_) K []) hk a4 []
   obtain ⟨m, rfl⟩ : ∃ m, n = m + 1 := ⟨n - 1, by omega⟩
   refine ak.jg ((az.fin hT zI hm 60 Oe (by kernel_rfl) ?_).mono fun _ _ h => .inl h)
   simp only [aa.all, ax]
   exact .refl _
  ·rename_i h1 h2
   obtain ⟨a1, a2, a3, a4⟩ := AZ h1
   simp only [Option.some.injEq] at hs
   subst hs
   refine Eu hT AG (fun _ => Bb hk rfl a4) (of_decide_eq_true (by kernel_rfl)) fun _ c hkp => Jx a1 (by omega) a3 c hkp ?_
   obtain ⟨m, rfl⟩ : ∃ m, n = m + 1 := ⟨n - 1, by omega⟩
   refine ak.bk hT zI hm 60 [2] ZC (by kernel_rfl) fun s' hs' => ⟨.inr rfl, [2], _, [.own 0 3 0 (m + 1)], _, 0, _, hs', by kernel_rfl, ⟨⟨rfl, b7 (by simp [aZ, look]) rfl rfl⟩, trivial⟩, rfl, gP rfl fun i hi => aG rfl⟩
  ·simp at hs
 ·simp at hs
theorem WS : ∀ K args pre r, DY K args pre = some r → aB P yt K args pre r := by
 refine y8 fun K args r hk hs => ?_
 split at hs
 ·rename_i n f
  split at hs
  ·rename_i h1
   obtain ⟨a1, a2, a3, a4⟩ := AZ h1
   simp only [Option.some.injEq] at hs
   subst hs
   refine Eu hT Ea (fun _ => Bb hk rfl a4) (of_decide_eq_true (by kernel_rfl)) fun _ c hkp => XU a1 (by omega) a3 c hkp ?_
   obtain ⟨m, rfl⟩ : ∃ m, n = m + 1 := ⟨n - 1, by omega⟩
   refine ak.bk hT Ir hm 60 [2] Lz (by kernel_rfl) fun s' hs' => ⟨.inr rfl, [2], _, [.own 0 3 0 (m + 1)], _, 0, _, hs', by kernel_rfl, ⟨⟨rfl, b7 (by simp [aZ, look]) rfl rfl⟩, trivial⟩, rfl, gP rfl fun i hi => aG rfl⟩
  ·simp at hs
 ·simp at hs
end Go.Am.B

/- ref10.Check. -/
namespace Go.Am.B
open Go Go.Am.N AV aa ah IntKind
noncomputable def ic : aT := nG :: (s8, Dp) :: (nc, wL) :: (qM, Fm) :: (wh, BA) :: (pe, Bg) :: (vH, FI) :: (IS ++ gm)
theorem yy : bh P ic := eP (aE OZ (aE Cz (aE ZQ (aE Hy (aE CI (aE ZT (gA UE gF)))))))
theorem UT {q : Rat} (h : 0 < q) : ¬ (dA q ≤ 0) := by unfold dA; grind
end Go.Am.B

/- ref09.Sum; contracts of sums. -/
namespace Go.Am.B
open Go Go.Am.N AV aa ah IntKind
end Go.Am.B

/- basis.Blossom. -/
namespace Go.Am.B
open Go Go.Am.N AV aa ah IntKind
end Go.Am.B

/- ref09.Polar, ref09.Blossom; contracts of polar forms. -/
namespace Go.Am.B
open Go Go.Am.N AV aa ah IntKind
end Go.Am.B

/- ref02: SameList, Mid, Text; ref08.Greville. -/
namespace Go.Am.B
open Go Go.Am.N AV aa ah IntKind
theorem Ul : aS P tR vQ (au vQ) := aN W5 (by kernel_rfl) (by kernel_rfl) (by kernel_rfl)
theorem Uu : aS P yH s7 (au s7) := aN LO (by kernel_rfl) (by kernel_rfl) (by kernel_rfl)
theorem KC : aS P s5 kr (au kr) := aN Lf (by kernel_rfl) (by kernel_rfl) (by kernel_rfl)
abbrev ux : List Nat := [0, 1, 4, 5]
abbrev B8 (n m : Nat) (f g : Nat → Rat) (i : Nat) : List AV := [bV f n sU, bV g m sU, .bool false, .int .i64 i]
noncomputable abbrev vW : Code := au vQ
theorem XO {n m : Nat} {f g : Nat → Rat} : aI T gz [10] 60 ux (before vW [1,1,0,1]) ⟨aO 0 [bV f n sU, bV g m sU], [], 0⟩ =
  let c2 : AV := aj 3 m fun i ↦ rat (g i) 4294967296; let c1 : AV := aj 3 n fun i ↦ rat (f i) 4294967296; some (fork ((↑n : Int) != (↑m : Int)) (leaf ret ([c1, c2, AV.bool false, tuple []], [])) (leaf normal ([c1, c2, AV.bool false, int i64 (0 : Int)], []))) := by kernel_rfl
theorem SM {n m i : Nat} {f g : Nat → Rat} : aI T gz [14, 26] 60 ux [part vW [1,1,0,1,0,0]] ⟨aA ux (B8 n m f g i), [], 0⟩ =
  let c4 : AV := aj 3 m fun i ↦ rat (g i) 4294967296; let c3 : AV := aj 3 n fun i ↦ rat (f i) 4294967296; let c2 : Int := (↑i : Int); let c5 : Int := c2 + (1 : Int); let c1 : List AV × aD := ([c3, c4, AV.bool false, int i64 c2], []); some (fork (decide (c2 < (↑n : Int))) (af [(0 : Int) ≤ c2 ∧ c2.toNat < n, (0 : Int) ≤ c2 ∧ c2.toNat < m] (fork (!decide (f c2.toNat = g c2.toNat)) (leaf ret c1) (af [-(2 : Int) ^ 63 ≤ c5 ∧ c5 < (2 : Int) ^ 63] (leaf normal ([c3, c4, AV.bool false, int i64 c5], []))))) (leaf (exit 0) c1)) := by kernel_rfl
theorem RL {n m i : Nat} {f g : Nat → Rat} : b9 T gz [] 60 vQ [part vW [1,1,1]] ⟨aA ux (B8 n m f g i), [], 0⟩ =
  some (leaf ret [AV.bool true]) := by kernel_rfl
def wT (n : Nat) (f : Nat → Rat) (m : Nat) (g : Nat → Rat) : Bool := decide (n = m ∧ ∀ i, i < n → f i = g i)
theorem Q4 {n m : Nat} {f g : Nat → Rat} (hn : n < 2 ^ 40) (hm2 : m < 2 ^ 40) (K : Nat) : aB P tR K [bV f n sU, bV g m sU] [] (aH (.bool (wT n f m g)) []) := by
 refine kY (r := aH (.bool (wT n f m g)) []) hT yc hm Ul rfl (of_decide_eq_true (by kernel_rfl)) rfl [1,1,0,1] (i := 0) (y := part vW [1,1,0,1,0,0]) (z := part vW [1,1,1]) (by kernel_rfl) (by kernel_rfl) (by kernel_rfl) (f1 := [10]) (f2 := [14, 26]) (f3 := []) 60 ux 0
  (fun i : Nat => B8 n m f g i) (fun _ => []) (fun i => i ≤ n ∧ n = m ∧ ∀ j, j < i → f j = g j) (fun i => i = n ∧ n = m ∧ ∀ j, j < i → f j = g j) (fun i => n - i) (fun _ => ⟨⟨_, XO, ?_⟩, fun i ⟨h1, h2, h3⟩ => ⟨_, SM, ?_⟩, fun i ⟨h1, h2, h3⟩ => ⟨_, RL, ?_⟩⟩) K []
 ·simp only [aa.all, ax, bne_iff_ne, ne_eq, bne_eq_false_iff_eq]
  exact ⟨fun h => ⟨[.bool false], by kernel_rfl, gu (decide_eq_false (fun hh => h (by omega))).symm⟩, fun h => ⟨0, ⟨by omega, by omega, fun j hj => by omega⟩, .vals rfl⟩⟩
 ·simp only [aa.all, ax, decide_eq_true_eq, decide_eq_false_iff_not, Bool.not_eq_true', Bool.not_eq_false', Int.toNat_natCast]
  (repeat' with_reducible first | refine And.intro ?_ ?_ | intro _)
  all_goals first | omega | skip
  ·rename_i a b
   exact ⟨[.bool false], by kernel_rfl, gu (decide_eq_false (fun hh => b (hh.2 i (by omega)))).symm⟩
  ·rename_i a b
   refine ⟨i + 1, ⟨by omega, h2, fun j hj => ?_⟩, by dsimp only; omega, .vals rfl⟩
   by_cases hj2 : j = i
   ·subst hj2; exact b
   ·exact h3 j (by omega)
  ·exact ⟨rfl, i, ⟨by omega, h2, h3⟩, .vals rfl⟩
 ·subst h1
  exact gu (decide_eq_true ⟨h2, h3⟩).symm
def C8 : Spec := ey (kC (kL sU) (kC (kL sU) kN)) (fun a => .bool (wT a.1.1 a.1.2 a.2.1.1 a.2.1.2)) fun a => [a.1.1 < 2 ^ 40, a.2.1.1 < 2 ^ 40]
theorem Sv : ∀ K args pre r, C8 K args pre = some r → aB P tR K args pre r := eE fun _ K hn => Q4 hn.1 hn.2 K
end Go.Am.B
