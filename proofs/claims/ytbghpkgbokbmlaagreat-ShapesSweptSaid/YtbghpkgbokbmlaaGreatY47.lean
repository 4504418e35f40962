/- fV.Times, ref08.Times; fV.copied. -/
import Derived.Test.YtbghpkgbokbmlaaGreatY44
import Derived.Test.YtbghpkgbokbmlaaGreatC8
import Derived.Test.YtbghpkgbokbmlaaGreatZ2
set_option linter.unusedVariables false
namespace Go.Am.B
open Go Go.Am.N AV aa ag IntKind
theorem Rl : aP P v7 rC (au rC) := aL Nm (by kernel_rfl) (by kernel_rfl) (by kernel_rfl)
abbrev sJ : Nat := 4000
abbrev wN : List Nat := [0, 3, 5, 6]
abbrev vp (n : Nat) (k : Nat → Rat) (c i : Nat) : List AV := [ls k n, .ptr 0 0 3 0 [], .int .i64 c, .int .i64 i]
noncomputable abbrev tQ : Code := au rC
theorem Qk {n : Nat} {k : Nat → Rat} {t : Rat} : aH T gT [] 60 wN (before tQ [1,1,0,1]) ⟨aM 0 [ls k n, .rat t sK], [], 0⟩ =
  some (leaf normal ([aj 3 n fun i ↦ rat (k i) 4096, ptr 0 0 (bk (rat t sK)).size 0 [], int i64 (0 : Int), int i64 (0 : Int)], [((0 : Nat), ay.mk false true (bk (rat t sK)).size 1 fun x ↦ rat t 4096)])) := by kernel_rfl
theorem Zt {n c i : Nat} {k : Nat → Rat} {t : Rat} : aH T gT [10, 18] 60 wN [part tQ [1,1,0,1,0,0]] ⟨aB wN (vp n k c i), [(0, tP t sK)], 1⟩ =
  let c7 : Int := (↑c : Int) + (1 : Int); let c6 : Int := (↑i : Int); let c5 : AV := ptr 0 0 3 0 []; let c4 : AV := aj 3 n fun i ↦ rat (k i) 4096; let c3 : Int := (2 : Int) ^ 63; let c1 : Nat × ay := ((0 : Nat), ay.mk false true 3 1 fun x ↦ rat t 4096); let c2 : Int := c6 + (1 : Int); some (fork (decide (c6 < (↑n : Int))) (af [(0 : Int) ≤ c6 ∧ c6.toNat < n, (0 : Nat) < 1] (fork (decide (k c6.toNat = t)) (af [-c3 ≤ c7 ∧ c7 < c3] (af [-c3 ≤ c2 ∧ c2 < c3] (leaf normal ([c4, c5, int i64 c7, int i64 c2], [c1])))) (af [-c3 ≤ c2 ∧ c2 < c3] (leaf normal ([c4, c5, int i64 (↑c : Int), int i64 c2], [c1]))))) (leaf (exit 0) ([c4, c5, int i64 (↑c : Int), int i64 c6], [c1]))) := by kernel_rfl
theorem abG {n c i : Nat} {k : Nat → Rat} {t : Rat} : bW T gT [] 60 rC [part tQ [1,1,1]] ⟨aB wN (vp n k c i), [(0, tP t sK)], 1⟩ =
  some (leaf ret [int i64 (↑c : Int)]) := by kernel_rfl
theorem VW {k : Nat → Rat} {t : Rat} {i : Nat} (h : k i = t) : dn k t (i + 1) = dn k t i + 1 := by rw [dn, if_pos h]
theorem Vu {k : Nat → Rat} {t : Rat} {i : Nat} (h : ¬ k i = t) : dn k t (i + 1) = dn k t i := by rw [dn, if_neg h]; rfl
theorem Pd {n : Nat} {k : Nat → Rat} {t : Rat} (hn : n < 2 ^ 40) (K : Nat) : az P v7 K [ls k n, .rat t sK] [] (aF (.int .i64 (dn k t n)) []) := by
 refine jy (r := aF (.int .i64 (dn k t n)) []) hT zf hm Rl rfl (of_decide_eq_true (by kernel_rfl)) rfl [1,1,0,1] (i := 0) (y := part tQ [1,1,0,1,0,0]) (z := part tQ [1,1,1]) (by kernel_rfl) (by kernel_rfl) (by kernel_rfl) (f1 := []) (f2 := [10, 18]) (f3 := []) 60 wN 1
  (fun i : Nat => vp n k (dn k t i) i) (fun _ => [(0, tP t sK)]) (fun i => i ≤ n) (fun i => i = n) (fun i => n - i) (fun _ => ⟨⟨_, Qk, ?_⟩, fun i hi => ⟨_, Zt, ?_⟩, fun i hi => ⟨_, abG, ?_⟩⟩) K []
 ·simp only [aa.all, ax]
  exact ⟨0, Nat.zero_le _, [(0, 0)], rfl, rfl, rfl, aR rfl rfl (aN rfl rfl) trivial⟩
 ·have h1 := G3 (k := k) (t := t) (n := i)
  simp only [aa.all, ax, decide_eq_true_eq, decide_eq_false_iff_not, Int.toNat_natCast, Nat.add_zero]
  refine ⟨fun h2 => ⟨by omega, fun h3 => ⟨by omega, by omega, i + 1, by omega, by dsimp only; omega, [(0, 0)], rfl, ?_, rfl, aR rfl rfl (aN rfl rfl) trivial⟩, fun h3 => ⟨by omega, i + 1, by omega, by dsimp only; omega, [(0, 0)], rfl, ?_, rfl, aR rfl rfl (aN rfl rfl) trivial⟩⟩, fun h2 => ⟨rfl, i, by omega, [(0, 0)], rfl, rfl, rfl, aR rfl rfl (aN rfl rfl) trivial⟩⟩
  ·show _ = (vp n k (dn k t (i + 1)) (i + 1)).map _
   rw [VW h3]; rfl
  ·show _ = (vp n k (dn k t (i + 1)) (i + 1)).map _
   rw [Vu h3]; rfl
 ·subst hi
  simp only [aa.all, ax]
  exact .refl _
abbrev Zl : nA ((Nat × (Nat → Rat)) × Rat × Unit) := kC (kL sK) (kC (iG sK) kN)
noncomputable def Ly : Spec := dM Zl (fun a => .int .i64 (dn a.1.2 a.2.1 a.1.1)) fun a => [a.1.1 < 2 ^ 40]
theorem V5 : ∀ K args pre r, Ly K args pre = some r → az P v7 K args pre r := dP fun ⟨⟨n, k⟩, t, _⟩ K hn => Pd hn K
end Go.Am.B

/- slices.CompactFunc of numbers; fV.Distinct. -/
namespace Go.Am.B
open Go Go.Am.N AV aa ag IntKind
end Go.Am.B

/- fV.Distinct, ref08.Distinct, slices.IsSortedFunc of numbers. -/
namespace Go.Am.B
open Go Go.Am.N AV aa ag IntKind
theorem O4 : aP P y5 qW (au qW) := aL P5 (by kernel_rfl) (by kernel_rfl) (by kernel_rfl)
noncomputable abbrev oO : Code := au qW
abbrev m0 : List Nat := [0, 3, 4]
abbrev k8 (n : Nat) (k : Nat → Rat) (v : AV) (i : Int) : List AV := [bX k n sJ, v, .int .i64 i]
abbrev DD (m : Nat) (k : Nat → Rat) : ay := ⟨true, true, 3, m, fun i => .rat (k i) sJ⟩
theorem aaY {n : Nat} {k : Nat → Rat} : aH T gT [] 60 m0 (before oO [1,1,0,1]) ⟨aM 0 [bX k n sJ], [], 0⟩ =
  some (leaf normal ([aj 3 n fun i ↦ rat (k i) 4000, nil, int i64 (0 : Int)], [])) := by kernel_rfl
theorem ZH {n : Nat} {k : Nat → Rat} : aH T gT [8, 13, 25] 60 m0 [part oO [1,1,0,1,0,0]] ⟨aB m0 (k8 n k .nil 0), [], 1⟩ =
  let c6 : Int := (2 : Int) ^ 63; let c5 : Nat := Int.toNat (0 : Int); let c4 : Int := (0 : Int) - (1 : Int); let c3 : AV := aj 3 n fun i ↦ rat (k i) 4000; let c8 : Prop := (0 : Int) ≤ (0 : Int) ∧ c5 < n; let c2 : Prop := -c6 ≤ (0 : Int) + (1 : Int) ∧ (0 : Int) + (1 : Int) < c6; let c7 : aa (List AV × aD) := af [c2] (leaf normal ([c3, nil, int i64 (1 : Int)], [])); let c1 : aa (List AV × aD) := af [c8, (1 : Nat) * 3 ≤ 2 ^ 24, (0 : Nat) < 1 ∧ 1 * ((56 : Nat) + 1) * 2 ≤ 2 ^ 47] (af [c2] (leaf normal ([c3, own 102401 3 0 1, int i64 (1 : Int)], [((102401 : Nat), ay.mk true true 3 1 fun i ↦ nth [rat (k c5) sJ] (rat 0 1) (i + 0))]))); some (fork (decide ((0 : Int) < (↑n : Int))) (fork true (af [((0 : Int) == (0 : Int)) = true] (fork true c1 c7)) (af [((0 : Int) == (0 : Int)) = false, c8, -c6 ≤ c4 ∧ c4 < c6, (0 : Int) ≤ c4 ∧ c4.toNat < n] (fork (bif false then true else !decide (k c5 = k c4.toNat)) c1 c7))) (leaf (exit 0) ([c3, nil, int i64 (0 : Int)], []))) := by kernel_rfl
theorem Pm {n l i : Nat} {k x : Nat → Rat} : aH T gT [8, 13, 25] 60 m0 [part oO [1,1,0,1,0,0]] ⟨aB m0 (k8 n k (.own 0 3 0 (l + 1)) ((i + 1 : Nat) : Int)), [(0, DD (l + 1) x)], 1⟩ =
  let c6 : AV := aj 3 n fun i ↦ rat (k i) 4000; let c5 : Nat := l + 1; let c4 : Int := (2 : Int) ^ 63; let c2 : Int := (↑(i + 1) : Int); let c12 : Nat := c5 + 1; let c11 : Prop := (0 : Int) ≤ c2 ∧ c2.toNat < n; let c10 : AV := own 0 3 0 c5; let c9 : Int := c2 + (1 : Int); let c8 : Int := c2 - (1 : Int); let c7 : Nat × ay := ((0 : Nat), ay.mk true true 3 c5 fun i ↦ rat (x i) 4000); let c3 : aa (List AV × aD) := af [-c4 ≤ c9 ∧ c9 < c4] (leaf normal ([c6, c10, int i64 c9], [c7])); let c1 : aa (List AV × aD) := af [c11, (1 : Nat) * 3 ≤ 2 ^ 24, c12 * ((56 : Nat) + 1) * 2 ≤ 2 ^ 47] (af [-c4 ≤ c9 ∧ c9 < c4] (leaf normal ([c6, own 102401 3 0 c12, int i64 c9], [((102401 : Nat), ay.mk true true 3 c12 fun i ↦ if i < c5 then rat (x i) sJ else nth [rat (k c2.toNat) sJ] (rat 0 1) (i - c5 + 0))]))); some (fork (decide (c2 < (↑n : Int))) (fork false (af [(c2 == (0 : Int)) = true] (fork true c1 c3)) (af [(c2 == (0 : Int)) = false, c11, -c4 ≤ c8 ∧ c8 < c4, (0 : Int) ≤ c8 ∧ c8.toNat < n] (fork (bif false then true else !decide (k c2.toNat = k c8.toNat)) c1 c3))) (leaf (exit 0) ([c6, c10, int i64 c2], [c7]))) := by kernel_rfl
theorem OG {n : Nat} {k : Nat → Rat} : bW T gT [] 60 qW [part oO [1,1,1]] ⟨aB m0 (k8 n k .nil 0), [], 1⟩ =
  some (leaf ret [nil]) := by kernel_rfl
theorem Yw {n l i : Nat} {k x : Nat → Rat} : bW T gT [] 60 qW [part oO [1,1,1]] ⟨aB m0 (k8 n k (.own 0 3 0 (l + 1)) ((i + 1 : Nat) : Int)), [(0, DD (l + 1) x)], 1⟩ =
  some (leaf ret [aj 3 (l + 1) fun i ↦ rat (x (i + 0)) 4000]) := by kernel_rfl
def kF (g : FuncId) : Kind Unit := ⟨fun v => match v with
 | .func f [] => match Nat.beq f g with
  | true => some ((), [])
  | false => none
 | _ => none, fun _ => .func g [], fun {v a q} h _ => by
  split at h
  ·split at h
   ·rename_i hb
    rw [Nat.eq_of_beq_eq_true hb]; exact .refl _
   ·simp at h
  ·simp at h⟩
noncomputable def KZ : Spec := dM (kC (kL sJ) kN) (fun a => ls (cD a.1.2 a.1.1) (bz a.1.2 a.1.1)) fun a => [a.1.1 < 2 ^ 40]
theorem WS : ∀ K args pre r, KZ K args pre = some r → az P y5 K args pre r := dP fun ⟨⟨n, k⟩, _⟩ K hn => by
 have hn : n < 2 ^ 40 := hn
 refine jy (r := aF (ls (cD k n) (bz k n)) []) hT zf hm O4 rfl (of_decide_eq_true (by kernel_rfl)) rfl [1,1,0,1] (i := 0) (y := part oO [1,1,0,1,0,0]) (z := part oO [1,1,1]) (by kernel_rfl) (by kernel_rfl) (by kernel_rfl) (f1 := []) (f2 := [8, 13, 25]) (f3 := []) 60 m0 1
  (fun i : Nat => k8 n k (match i with
   | 0 => .nil
   | _ + 1 => .own 0 3 0 (bz k i)) i) (fun i => match i with
   | 0 => []
   | _ + 1 => [(0, DD (bz k i) (cD k i))]) (fun i => i ≤ n) (fun i => i = n) (fun i => n - i) (fun _ => ⟨⟨_, aaY, ?_⟩, fun i hi => ?_, fun i hi => ?_⟩) K []
 ·simp only [aa.all, ax]
  exact ⟨0, Nat.zero_le _, dF.vals rfl⟩
 ·cases i with
  | zero =>
   refine ⟨_, ZH, ?_⟩
   simp only [aa.all, ax, decide_eq_true_eq, decide_eq_false_iff_not]
   have e1 : bz k 1 = 1 := by simp [bz, gl]
   have e2 : cD k 1 0 = k 0 := by simp [cD, bz, gl, ig]
   (repeat' with_reducible first | refine And.intro ?_ ?_ | intro _)
   all_goals first | omega | decide | exact absurd ‹true = false› (by decide) | skip
   ·refine ⟨1, by omega, by dsimp only; omega, [(0, 102401)], rfl, ?_, rfl, bP rfl rfl e1.symm (fun j hj => ?_) trivial⟩
    ·show _ = (k8 n k (.own 0 3 0 (bz k 1)) 1).map _
     rw [e1]; rfl
    ·have hj : j = 0 := by rw [e1] at hj; omega
     subst hj
     exact aN rfl (by rw [e2]; rfl)
   ·exact ⟨rfl, 0, by omega, dF.vals rfl⟩
  | succ i =>
   obtain ⟨l, hl⟩ : ∃ l, bz k (i + 1) = l + 1 := ⟨bz k (i + 1) - 1, by have := (pT (k := k) (n := i)).1; omega⟩
   dsimp only
   rw [hl]
   refine ⟨_, Pm, ?_⟩
   simp only [aa.all, ax, decide_eq_true_eq, decide_eq_false_iff_not]
   have e3 : ((i + 1 : Nat) : Int).toNat = i + 1 := by omega
   have e4 : (((i + 1 : Nat) : Int) - 1).toNat = i := by omega
   have hle := CV (k := k) (n := i + 1)
   (repeat' with_reducible first | refine And.intro ?_ ?_ | intro _)
   all_goals first | omega | exact absurd ‹false = true› (by decide) | exact absurd ‹true = false› (by decide) | skip
   ·simp
    omega
   ·rename_i hne
    rw [e3, e4, cond_false, Bool.not_eq_true', decide_eq_false_iff_not] at hne
    have hnew : gl k (i + 1) := J4.2 hne
    have e5 : bz k (i + 1 + 1) = l + 1 + 1 := by rw [ace hnew, hl]
    refine ⟨i + 2, by omega, by dsimp only; omega, [(0, 102401)], rfl, ?_, rfl, bP rfl rfl e5.symm (fun j hj => ?_) trivial⟩
    ·show _ = (k8 n k (.own 0 3 0 (bz k (i + 1 + 1))) ((i + 1 + 1 : Nat) : Int)).map _
     rw [e5]; rfl
    ·rw [e5] at hj
     refine yM (y := cD k (i + 1 + 1)) (fun x hx => ?_) ?_ (Nat.le_refl _) (Nat.le_refl _) hj
     ·rw [show cD k (i + 1 + 1) = ig (cD k (i + 1)) (bz k (i + 1)) (k (i + 1)) from if_pos hnew, hl, gI (by omega)]
     ·rw [show cD k (i + 1 + 1) = ig (cD k (i + 1)) (bz k (i + 1)) (k (i + 1)) from if_pos hnew, hl, lJ, e3]
   ·rename_i heq
    rw [e3, e4, cond_false, Bool.not_eq_false', decide_eq_true_eq] at heq
    have hold : ¬ gl k (i + 1) := fun h => J4.1 h heq
    have e5 : bz k (i + 1 + 1) = l + 1 := by rw [ac4 hold, hl]
    refine ⟨i + 2, by omega, by dsimp only; omega, [(0, 0)], rfl, ?_, rfl, bP rfl rfl e5.symm (fun j hj => aN rfl ?_) trivial⟩
    ·show _ = (k8 n k (.own 0 3 0 (bz k (i + 1 + 1))) ((i + 1 + 1 : Nat) : Int)).map _
     rw [e5]; rfl
    ·show _ = AV.rat (cD k (i + 1 + 1) j) sJ
     rw [show cD k (i + 1 + 1) = cD k (i + 1) from if_neg hold]
   ·refine ⟨rfl, i + 1, by omega, [(0, 0)], rfl, ?_, rfl, bP rfl rfl hl.symm (fun j hj => aN rfl rfl) trivial⟩
    show _ = (k8 n k (.own 0 3 0 (bz k (i + 1))) ((i + 1 : Nat) : Int)).map _
    rw [hl]; rfl
 ·cases i with
  | zero =>
   refine ⟨_, OG, ?_⟩
   simp only [aa.all, ax]
   subst hi
   exact gL (by omega)
  | succ i =>
   obtain ⟨l, hl⟩ : ∃ l, bz k (i + 1) = l + 1 := ⟨bz k (i + 1) - 1, by have := (pT (k := k) (n := i)).1; omega⟩
   dsimp only
   rw [hl]
   refine ⟨_, Yw, ?_⟩
   simp only [aa.all, ax]
   subst hi
   exact (qV (g := fun j => .rat (cD k (i + 1) j) sJ) hl.symm fun j hj => rfl).trans (gC fun j hj => dN (by decide))
end Go.Am.B

/- fV.Check, ref08.Check. -/
namespace Go.Am.B
open Go Go.Am.N AV aa ag IntKind
theorem FV : aP P sR lE (au lE) := aL Pc (by kernel_rfl) (by kernel_rfl) (by kernel_rfl)
noncomputable def pZ : aQ := (wu, B7) :: (y5, KZ) :: (v7, Ly) :: gn
noncomputable abbrev uz : Code := au lE
abbrev oJ : List Nat := [4, 0, 1, 5]
abbrev AA (n : Nat) (k : Nat → Rat) (p : Int) (i : Nat) : List AV := [.int .i64 0, bX k n sJ, .int .i64 p, .int .i64 i]
abbrev oD : List Nat := [4, 0, 1, 6, 7]
abbrev Bd (n : Nat) (k : Nat → Rat) (p : Int) (d : Nat) (f : Nat → Rat) (i : Nat) : List AV := [.int .i64 0, bX k n sJ, .int .i64 p, bX f d sK, .int .i64 i]
noncomputable abbrev me : Code := part uz [1,1,1,1,1]
theorem UW {n : Nat} {k : Nat → Rat} {p : Int} : aH T pZ [11, 14, 20, 24] 60 oJ (before uz [1,1,1,1,0,1]) ⟨aM 0 [bX k n sJ, .int .i64 p], [], 0⟩ =
  let c7 : Int := (↑n : Int) - p - (1 : Int); let c6 : AV := int i64 (1 : Int); let c5 : Bool := decide (p < (1 : Int)); let c4 : Int := i64.wrap (i64.wrap ((2 : Int) * p) + (2 : Int)); let c3 : AV := aj 3 n fun i ↦ rat (k i) 4000; let c2 : List AV := [c3, int i64 p, tuple []]; let c1 : aa (List AV × aD) := fork (decide ((↑n : Int) < c4)) (leaf ret (int i64 (5 : Int) :: c2, [])) (af [bM (fun i ↦ rat (k i) sJ) n sK, n < 2 ^ 40, -(2 : Int) ^ 40 < p, p < (2 : Int) ^ 40] (fork (decide (c7 > (40 : Int))) (leaf ret (int i64 (2 : Int) :: c2, [])) (leaf normal ([int i64 (0 : Int), c3, int i64 p, c6], [])))); some (fork c5 (af [c5 = true] (fork true (leaf ret (c6 :: c2, [])) c1)) (af [c5 = false] (fork (bif false then true else decide (p > (6 : Int))) (leaf ret (c6 :: c2, [])) c1))) := by kernel_rfl
theorem Xr {n i : Nat} {k : Nat → Rat} {p : Int} : aH T pZ [28, 41] 60 oJ [part uz [1,1,1,1,0,1,0,0]] ⟨aB oJ (AA n k p i), [], 1⟩ =
  let c3 : Int := (↑i : Int); let c2 : AV := aj 3 n fun i ↦ rat (k i) 4000; let c1 : Int := i64.wrap (c3 - (1 : Int)); let c4 : Int := eV (k c3.toNat) (k c1.toNat); some (fork (decide (c3 < (↑n : Int))) (af [(0 : Int) ≤ c3 ∧ c3.toNat < n, (0 : Int) ≤ c1 ∧ c1.toNat < n] (fork (decide (c4 < (0 : Int))) (leaf ret ([int i64 (5 : Int), c2, int i64 p, int i64 c3], [])) (leaf normal ([int i64 (0 : Int), c2, int i64 p, int i64 (i64.wrap (c3 + (1 : Int)))], [])))) (leaf (exit 0) ([int i64 (0 : Int), c2, int i64 p, int i64 c3], []))) := by kernel_rfl
theorem Ut {n i : Nat} {k : Nat → Rat} {p : Int} : aH T pZ [] 60 oD (before me [1,0,1]) ⟨aB oJ (AA n k p i), [], 1⟩ =
  some (af [bM (fun i ↦ rat (k i) sJ) n sJ, n < 2 ^ 40] (leaf normal ([int i64 (0 : Int), aj 3 n fun i ↦ rat (k i) 4000, int i64 p, aj 3 (bz (fun i ↦ aK (rat (k i) sJ)) n) fun i ↦ rat (cD (fun i ↦ aK (rat (k i) sJ)) n i) 4096, int i64 (0 : Int)], []))) := by kernel_rfl
theorem TZ {n d i : Nat} {k f : Nat → Rat} {p : Int} : aH T pZ [47, 58, 65, 71, 77, 80, 87, 92] 60 oD [part me [1,0,1,0,0]] ⟨aB oD (Bd n k p d f i), [], 1⟩ =
  let c33 : AV := aj 3 n fun i ↦ rat (k i) 4000; let c32 : AV := aj 3 d fun i ↦ rat (f i) 4096; let c26 : Prop := false = true; let c24 : Prop := true = true; let c17 : Prop := false = false; let c16 : Prop := true = false; let c7 : Int := (↑i : Int); let c6 : Int := i64.wrap (p + (1 : Int)); let c5 : Int := i64.wrap ((↑d : Int) - (1 : Int)); let c15 : List AV := [c33, int i64 p, c32, int i64 c7]; let c14 : aa (List AV × aD) := leaf normal ([int i64 (0 : Int), c33, int i64 p, c32, int i64 (i64.wrap (c7 + (1 : Int)))], []); let c13 : Bool := c7 == (0 : Int); let c12 : Bool := bif false then true else c7 == c5; let c10 : Bool := decide (c7 > (0 : Int)); let c8 : Bool := bif true then decide (c7 < c5) else false; let c3 : Int := (↑(dn (fun i ↦ aK (rat (k i) sJ)) (f c7.toNat) n) : Int); let c31 : aa (List AV × aD) := leaf ret (int i64 (5 : Int) :: c15, []); let c29 : Prop := c12 = true; let c28 : Prop := c12 = false; let c25 : List Prop := [c10 = false, c17]; let c22 : Prop := c13 = true; let c21 : List Prop := [c10 = true, c8 = true]; let c20 : List Prop := [c10 = true, c8 = false]; let c19 : Prop := c13 = false; let c18 : List Prop := [c10 = false, c26]; let c11 : Bool := bif true then c3 != c6 else false; let c9 : Bool := bif false then true else decide (c3 > c6); let c30 : Prop := c11 = true; let c27 : Prop := c11 = false; let c23 : Prop := c9 = false; let c4 : aa (List AV × aD) := fork true c31 c14; let c2 : aa (List AV × aD) := fork false c31 c14; let c1 : aa (List AV × aD) := fork (bif false then true else bif true then decide (c3 > p) else false) c31 c14; some (fork (decide (c7 < (↑d : Int))) (af [(0 : Int) ≤ c7 ∧ c7.toNat < d, bM (fun i ↦ rat (k i) sJ) n sK, sK ≤ sK, n < 2 ^ 40] (fork c13 (fork true (fork c11 (fork true (af [c22, c24, c30, c24] c4) (fork c10 (fork c8 (af (c22 :: c24 :: c30 :: c16 :: c21) c1) (af (c22 :: c24 :: c30 :: c16 :: c20) c2)) (fork false (af (c22 :: c24 :: c30 :: c16 :: c18) c1) (af (c22 :: c24 :: c30 :: c16 :: c25) c2)))) (fork c9 (af [c22, c24, c27, c9 = true] c4) (fork c10 (fork c8 (af (c22 :: c24 :: c27 :: c23 :: c21) c1) (af (c22 :: c24 :: c27 :: c23 :: c20) c2)) (fork false (af (c22 :: c24 :: c27 :: c23 :: c18) c1) (af (c22 :: c24 :: c27 :: c23 :: c25) c2))))) (fork false (fork true (af [c22, c16, c26, c24] c4) (fork c10 (fork c8 (af (c22 :: c16 :: c26 :: c16 :: c21) c1) (af (c22 :: c16 :: c26 :: c16 :: c20) c2)) (fork false (af (c22 :: c16 :: c26 :: c16 :: c18) c1) (af (c22 :: c16 :: c26 :: c16 :: c25) c2)))) (fork c9 (af [c22, c16, c17, c9 = true] c4) (fork c10 (fork c8 (af (c22 :: c16 :: c17 :: c23 :: c21) c1) (af (c22 :: c16 :: c17 :: c23 :: c20) c2)) (fork false (af (c22 :: c16 :: c17 :: c23 :: c18) c1) (af (c22 :: c16 :: c17 :: c23 :: c25) c2)))))) (fork c12 (fork c11 (fork true (af [c19, c29, c30, c24] c4) (fork c10 (fork c8 (af (c19 :: c29 :: c30 :: c16 :: c21) c1) (af (c19 :: c29 :: c30 :: c16 :: c20) c2)) (fork false (af (c19 :: c29 :: c30 :: c16 :: c18) c1) (af (c19 :: c29 :: c30 :: c16 :: c25) c2)))) (fork c9 (af [c19, c29, c27, c9 = true] c4) (fork c10 (fork c8 (af (c19 :: c29 :: c27 :: c23 :: c21) c1) (af (c19 :: c29 :: c27 :: c23 :: c20) c2)) (fork false (af (c19 :: c29 :: c27 :: c23 :: c18) c1) (af (c19 :: c29 :: c27 :: c23 :: c25) c2))))) (fork false (fork true (af [c19, c28, c26, c24] c4) (fork c10 (fork c8 (af (c19 :: c28 :: c26 :: c16 :: c21) c1) (af (c19 :: c28 :: c26 :: c16 :: c20) c2)) (fork false (af (c19 :: c28 :: c26 :: c16 :: c18) c1) (af (c19 :: c28 :: c26 :: c16 :: c25) c2)))) (fork c9 (af [c19, c28, c17, c9 = true] c4) (fork c10 (fork c8 (af (c19 :: c28 :: c17 :: c23 :: c21) c1) (af (c19 :: c28 :: c17 :: c23 :: c20) c2)) (fork false (af (c19 :: c28 :: c17 :: c23 :: c18) c1) (af (c19 :: c28 :: c17 :: c23 :: c25) c2)))))))) (leaf (exit 2) (int i64 (0 : Int) :: c15, []))) := by kernel_rfl
theorem YO {n d i : Nat} {k f : Nat → Rat} {p : Int} : bW T pZ [95] 60 lE [part me [1,1]] ⟨aB oD (Bd n k p d f i), [], 1⟩ =
  some (fork (decide ((↑d : Int) < (2 : Int))) (leaf ret [int i64 (5 : Int)]) (leaf ret [int i64 (0 : Int)])) := by kernel_rfl
theorem Cn : aW P pZ := aC Ft (aC WS (aC V5 gH))
def uF (n : Nat) (p : Int) : Prop := 1 ≤ p ∧ p ≤ 6 ∧ 2 * p + 2 ≤ (n : Int) ∧ (n : Int) - p - 1 ≤ 40
theorem UO {n : Nat} {k : Nat → Rat} {p : Int} (hn : n < 2 ^ 40) (K : Nat) : az P sR K [bX k n sJ, .int .i64 p] [] (aF (.int .i64 (eP n k p)) []) := by
 refine fe (r := aF (.int .i64 (eP n k p)) []) hT FV rfl (of_decide_eq_true (by kernel_rfl)) rfl (fun _ cx h0 => ?_) K []
 have hk := jO h0
 refine aq.pX hT Cn hm [1,1,1,1,0,1] (i := 0) (y := part uz [1,1,1,1,0,1,0,0]) (by kernel_rfl) (by kernel_rfl) FV.dst hk (f1 := [11, 14, 20, 24]) (f2 := [28, 41]) 60 oJ 1 (fun i : Nat => AA n k p i) (fun _ => []) (fun i => 1 ≤ i ∧ i ≤ n ∧ uF n p ∧ ∀ j, j + 1 < i → k j ≤ k (j + 1)) (fun _ => uF n p ∧ xe n k) (fun i => n - i) (j7 lE oJ (.int .i64 (eP n k p))) ⟨_, UW, ?_⟩ (fun i ⟨h1, h2, h3, h4⟩ => ⟨_, Xr, ?_⟩) (fun i s' ⟨h1, h2⟩ hle => ?_) (fun v s' hv hs' => hv.fin hs')
 ·have r : ∀ {e : Int}, eP n k p = e → j7 lE oJ (.int .i64 (eP n k p)) ([.int .i64 e, bX k n sJ, .int .i64 p, .tuple []], []) := fun h => ⟨[.int .i64 _], by kernel_rfl, bq h.symm⟩
  by_cases hp : 1 ≤ p ∧ p ≤ 6
  ·have e1 : i64.wrap (i64.wrap (2 * p) + 2) = 2 * p + 2 := by rw [wrap_i64 (show -2 ^ 63 ≤ 2 * p by omega) (by omega)]; exact wrap_i64 (by omega) (by omega)
   simp only [aa.all, ax, decide_eq_true_eq, decide_eq_false_iff_not, Bool.not_eq_true', Bool.not_eq_false', cond_true, cond_false, Int.toNat_natCast, Int.toNat_zero, lO, e1]
   (repeat' with_reducible first | refine And.intro ?_ ?_ | intro _)
   all_goals first | exact absurd ‹true = false› (by decide) | exact absurd ‹false = true› (by decide) | omega | (exfalso; omega) | exact cI (by decide) | assumption | exact r (T0 (by omega) (by omega)) | exact r (PF (by omega) (by omega) (by omega)) | exact ⟨1, ⟨Nat.le_refl _, by omega, ⟨by omega, by omega, by omega, by omega⟩, fun j hj => by omega⟩, dF.vals rfl⟩ | skip
   skip
  ·simp only [aa.all, ax, decide_eq_true_eq, decide_eq_false_iff_not, Bool.not_eq_true', Bool.not_eq_false', cond_true, cond_false, Int.toNat_natCast]
   (repeat' with_reducible first | refine And.intro ?_ ?_ | intro _)
   all_goals first | exact absurd ‹true = false› (by decide) | exact absurd ‹false = true› (by decide) | omega | (exfalso; omega) | exact r (abj (by omega)) | skip
   skip
 ·have hq := h3
  unfold uF at hq
  have e1 : i64.wrap ((i : Int) + 1) = ((i + 1 : Nat) : Int) := by rw [wrap_i64 (by omega) (by omega)]; rfl
  have e2 : i64.wrap ((i : Int) - 1) = (i : Int) - 1 := wrap_i64 (by omega) (by omega)
  have e3 : ((i : Int) - 1).toNat = i - 1 := by omega
  simp only [aa.all, ax, decide_eq_true_eq, decide_eq_false_iff_not, Int.toNat_natCast, zQ, e1, e2, e3]
  refine ⟨fun hi => ⟨by omega, fun hlt => ⟨[.int .i64 5], by kernel_rfl, bq (Bv (by omega) (by omega) (by omega) fun h => ?_).symm⟩, fun hge => ⟨i + 1, ⟨by omega, by omega, h3, fun j hj => ?_⟩, by dsimp only; omega, dF.vals rfl⟩⟩, fun hi => ⟨rfl, i, ⟨h3, fun j hj => h4 j (by omega)⟩, dF.vals rfl⟩⟩
  ·have := h.1 (i - 1) (by omega)
   rw [show i - 1 + 1 = i by omega] at this
   grind
  ·by_cases he : j + 1 = i
   ·subst he
    rw [Nat.add_sub_cancel] at hge
    grind
   ·exact h4 j (by omega)
 rw [show behind uz [1,1,1,1,0,1] = [me] from by kernel_rfl]
 refine aA.weak rfl hle (aA.one ?_)
 refine aq.pX hT Cn hm (x := me) [1,0,1] (i := 2) (y := part me [1,0,1,0,0]) (by kernel_rfl) (by kernel_rfl) (by kernel_rfl) hk (f1 := []) (f2 := [47, 58, 65, 71, 77, 80, 87, 92]) 60 oD 1 (fun i : Nat => Bd n k p (bz k n) (cD k n) i) (fun _ => []) (fun i => i ≤ bz k n ∧ ∀ j, j < i → ¬ lM n k p.toNat j) (fun _ => ∀ j, j < bz k n → ¬ lM n k p.toNat j) (fun i => bz k n - i) (j7 lE oD (.int .i64 (eP n k p))) ⟨_, Ut, ?_⟩ (fun i ⟨h3, h4⟩ => ⟨_, TZ, ?_⟩) (fun i s' h3 hle => ?_) (fun v s' hv hs' => hv.fin hs')
 ·simp only [aa.all, ax]
  exact ⟨⟨cI (Nat.le_refl _), hn⟩, 0, ⟨Nat.zero_le _, fun j hj => absurd hj (Nat.not_lt_zero j)⟩, dF.vals rfl⟩
 ·obtain ⟨q, rfl⟩ : ∃ q : Nat, p = (q : Int) := ⟨p.toNat, by have := h1.1; omega⟩
  have hq := h1
  unfold uF at hq
  have hd := CV (k := k) (n := n)
  have e1 : i64.wrap ((q : Int) + 1) = ((q + 1 : Nat) : Int) := by rw [wrap_i64 (by omega) (by omega)]; rfl
  have e2 : i64.wrap ((i : Int) + 1) = ((i + 1 : Nat) : Int) := by rw [wrap_i64 (by omega) (by omega)]; rfl
  have e3 : i64.wrap ((bz k n : Int) - 1) = (bz k n : Int) - 1 := wrap_i64 (by omega) (by omega)
  have h4 : ∀ j, j < i → ¬ lM n k q j := fun j hj => by have := h4 j hj; rwa [Int.toNat_natCast] at this
  obtain ⟨c, hc⟩ : ∃ c, dn k (cD k n i) n = c := ⟨_, rfl⟩
  have hc' : dn (fun i => aK (rat (k i) sJ)) (cD k n i) n = c := hc
  have r : ∀ {v w x : AV}, (i = 0 ∨ i + 1 = bz k n) ∧ c ≠ q + 1 ∨ q + 1 < c ∨ 0 < i ∧ i + 1 < bz k n ∧ q < c → i < bz k n → j7 lE oD (.int .i64 (eP n k q)) ([.int .i64 5, v, w, x, .int .i64 i], []) := fun h hi => ⟨[.int .i64 5], by kernel_rfl, bq (Bv (by omega) (by omega) (by omega) fun hk => hk.2.2 i hi ((G6 (by omega) h2 hi).1 (by rw [Int.toNat_natCast]; unfold lM; rw [hc]; exact h))).symm⟩
  have nx : ¬ ((i = 0 ∨ i + 1 = bz k n) ∧ c ≠ q + 1 ∨ q + 1 < c ∨ 0 < i ∧ i + 1 < bz k n ∧ q < c) → ∀ j, j < i + 1 → ¬ lM n k ((q : Int)).toNat j := fun h j hj => by
   rw [Int.toNat_natCast]
   by_cases he : j = i
   ·subst he; unfold lM; rw [hc]; exact h
   ·exact h4 j (by omega)
  simp only [aa.all, ax, decide_eq_true_eq, decide_eq_false_iff_not, Bool.not_eq_true', Bool.not_eq_false', cond_true, cond_false, Int.toNat_natCast, hc', e1, e2, e3, bne_iff_ne, bne_eq_false_iff_eq, ne_eq, beq_iff_eq, beq_eq_false_iff_ne]
  clear hc hc'
  (repeat' with_reducible first | refine And.intro ?_ ?_ | intro _)
  all_goals first
   | exact absurd ‹true = false› (by decide)
   | exact absurd ‹false = true› (by decide)
   | omega
   | (exfalso; omega)
   | exact cI (by decide)
   | assumption
   | exact ⟨rfl, i, fun j hj => h4 j (by omega), dF.vals rfl⟩
   | exact r (by omega) (by omega)
   | exact ⟨i + 1, ⟨by omega, nx (by omega)⟩, by dsimp only; omega, dF.vals rfl⟩
   | skip
  skip
 ·rw [show behind me [1,0,1] = [part me [1,1]] from by kernel_rfl]
  refine aA.weak rfl hle ((aA.fin hT Cn hm 60 YO (by kernel_rfl) ?_).mono fun _ _ h => .inl h)
  have hq := h1
  unfold uF at hq
  have e : ∀ j, j < bz k n → ¬ pQ n k p.toNat (cD k n j) := fun j hj h => h3 j hj ((G6 (by omega) h2 hj).2 h)
  have e2 := MA (k := k) (n := n) (by omega) h2
  simp only [aa.all, ax, decide_eq_true_eq, decide_eq_false_iff_not]
  refine ⟨fun h => bq (Bv (by omega) (by omega) (by omega) fun hk => hk.2.1 (e2.1 (by omega))).symm, fun h => bq (ab6 (by omega) (by omega) (by omega) ⟨h2, fun h4 => h (by have := e2.2 h4; omega), e⟩).symm⟩
noncomputable def Ks : Spec := dM (kC (kL sJ) (kC kI kN)) (fun a => .int .i64 (eP a.1.1 a.1.2 a.2.1)) fun a => [a.1.1 < 2 ^ 40]
theorem SZ : ∀ K args pre r, Ks K args pre = some r → az P sR K args pre r := dP fun ⟨⟨n, k⟩, p, _⟩ K hn => UO hn K
end Go.Am.B

/- ref02: Valid, Valids, Bits; ref04.Valid; ref10: Short, shortPoles. -/
namespace Go.Am.B
open Go Go.Am.N AV aa ag IntKind
theorem abe : aP P xJ ue (au ue) := aL WC (by kernel_rfl) (by kernel_rfl) (by kernel_rfl)
theorem Yq : aP P nP wJ (au wJ) := aL Rr (by kernel_rfl) (by kernel_rfl) (by kernel_rfl)
theorem Zm : aP P xO vE (au vE) := aL WK (by kernel_rfl) (by kernel_rfl) (by kernel_rfl)
theorem RG : aP P uN vk (au vk) := aL VF (by kernel_rfl) (by kernel_rfl) (by kernel_rfl)
theorem abo : aP P Cs yY (au yY) := aL Q2 (by kernel_rfl) (by kernel_rfl) (by kernel_rfl)
theorem aas : aP P pC wU (au wU) := aL ada (by kernel_rfl) (by kernel_rfl) (by kernel_rfl)
theorem Zc : aP P vg rY (au rY) := aL abY (by kernel_rfl) (by kernel_rfl) (by kernel_rfl)
def LN : Spec := bt fun l => match l with
 | [.mag N] => some (aF (.bool true) [nl N < 2 ^ 40])
 | _ => none
def Yg : aQ := [(xJ, LN), (ow, xI), (pI, AS)]
def zk : Spec := bt fun l => match l with
 | [.rat q n] => match Nat.ble n 8192 with
  | true => some (aF (.bool true) [])
  | false => none
 | _ => none
def yI (q : Rat) : Nat := max (aS q.num.natAbs) (aS q.den)
def Lq : Spec := bt fun l => match l with
 | [.rat q n] => match Nat.ble n 8192 with
  | true => some (aF (.int .i64 ((min (yI q) n : Nat) : Int)) [])
  | false => none
 | _ => none
noncomputable def zJ : aQ := [nG, (nP, zk)]
noncomputable def zL : aQ := [nG, (xO, Lq)]
abbrev gW : List Nat := [2, 0, 3]
abbrev CW (n : Nat) (k : Nat → Rat) (i : Nat) : List AV := [.bool false, ls k n, .int .i64 i]
abbrev AT (n : Nat) (k : Nat → Rat) (i : Nat) : List AV := [.bool false, bX k n 2048, .int .i64 i]
noncomputable abbrev uk : Code := au vk
noncomputable abbrev wm : Code := au wU
def Az : Spec := dM (kC (kL 2048) kN) (fun _ => .bool true) fun a => [a.1.1 < 2 ^ 40]
noncomputable def zY : aQ := [nG, (pC, Az)]
abbrev CR (n : Nat) (f : Nat → Pl) (i : Nat) : List AV := [.bool false, ee f n 2048, .int .i64 i]
noncomputable abbrev sW : Code := au rY
noncomputable def Fi : aQ := [(Cs, cG T [sG, (nP, zk)] [] 60 yY)]
def Zo : aQ := [(qb, B2), (ow, xI)]
theorem QU {N : Nat} : bA T [] [6] 60 ue (au ue) ⟨aM 0 [.mag N], [], 0⟩ =
  let c2 : Bool := (↑(nl N) : Int) == (0 : Int); let c1 : Int := i64.wrap ((↑(nl N) : Int) - (1 : Int)); some (fork c2 (af [c2 = true] (leaf ret [AV.bool true])) (af [c2 = false, (0 : Int) ≤ c1 ∧ c1.toNat < nl N] (leaf ret [AV.bool (bif false then true else (↑(ak N c1.toNat) : Int) != (0 : Int))]))) := by kernel_rfl
theorem UL {q : Rat} {n : Nat} : bA T Yg [19, 27, 32, 35, 42, 51] 60 wJ (au wJ) ⟨aM 0 [.rat q n], [], 0⟩ =
  let c19 : Bool := bif !true then true else !true; let c17 : Nat := Int.toNat (0 : Int); let c13 : Bool := decide (q < 0); let c11 : Nat := q.num.natAbs; let c8 : aa (List AV) := leaf ret [AV.bool false]; let c5 : Nat := 2 ^ 40; let c3 : Prop := 0 < 1; let c2 : Nat := if q.den = 1 then 0 else q.den; let c20 : Int := (↑(nl c2) : Int); let c16 : Prop := nl c2 < c5; let c15 : Prop := nl c11 < c5; let c14 : Bool := (↑(nl (c11.gcd q.den)) : Int) == (1 : Int); let c10 : Prop := (0 : Int) ≤ (0 : Int) ∧ c17 < nl c2; let c9 : Bool := bif c19 then true else false; let c6 : Bool := (↑(nl c11) : Int) == (0 : Int); let c4 : Bool := bif c19 then true else bif true then (↑(ak c2 c17) : Int) == (1 : Int) else false; let c22 : List Prop := [c3, c6 = true, c3, c13 = true]; let c18 : List Prop := [c3, c6 = true, c3, c13 = false, c3]; let c7 : Bool := c20 == (1 : Int); let c1 : aa (List AV) := af [c3, c3, nl c11 < 2 ^ 38, nl q.den < 2 ^ 38] (fork c14 (af [c14 = true, (0 : Int) ≤ (0 : Int) ∧ c17 < nl (c11.gcd q.den)] (leaf ret [AV.bool (bif true then (↑(ak (c11.gcd q.den) c17) : Int) == (1 : Int) else false)])) (af [c14 = false] c8)); let c21 : aa (List AV) := fork true c8 c1; let c12 : aa (List AV) := fork (bif false then true else bif true then bif false then true else decide (c20 > (0 : Int)) else false) c8 c1; some (fork c7 (fork c4 (af [c3, c15, c3, c16, c3, c7 = true, c3, c10, c4 = true] c21) (fork c6 (fork c13 (af (c3 :: c15 :: c3 :: c16 :: c3 :: (c7 = true) :: c3 :: c10 :: (c4 = false) :: c22) c21) (af (c3 :: c15 :: c3 :: c16 :: c3 :: (c7 = true) :: c3 :: c10 :: (c4 = false) :: c18) c12)) (af [c3, c15, c3, c16, c3, c7 = true, c3, c10, c4 = false, c3, c6 = false] (fork false c8 c1)))) (fork false (af [c3, c15, c3, c16, c3, c7 = false, c9 = true] c21) (fork c6 (fork c13 (af (c3 :: c15 :: c3 :: c16 :: c3 :: (c7 = false) :: (c9 = false) :: c22) c21) (af (c3 :: c15 :: c3 :: c16 :: c3 :: (c7 = false) :: (c9 = false) :: c18) c12)) (af [c3, c15, c3, c16, c3, c7 = false, c9 = false, c3, c6 = false] (fork false c8 c1))))) := by kernel_rfl
theorem Vi {n : Nat} {k : Nat → Rat} : aH T zJ [] 60 gW (before uk [1,0,1]) ⟨aM 0 [ls k n], [], 0⟩ =
  some (leaf normal ([AV.bool false, aj 3 n fun i ↦ rat (k i) 4096, int i64 (0 : Int)], [])) := by kernel_rfl
theorem Tv {n i : Nat} {k : Nat → Rat} : aH T zJ [7] 60 gW [part uk [1,0,1,0,0]] ⟨aB gW (CW n k i), [], 1⟩ =
  let c2 : AV := aj 3 n fun i ↦ rat (k i) 4096; let c1 : Int := (↑i : Int); let c3 : Int := c1 + (1 : Int); some (fork (decide (c1 < (↑n : Int))) (af [(0 : Int) ≤ c1 ∧ c1.toNat < n] (af [-(2 : Int) ^ 63 ≤ c3 ∧ c3 < (2 : Int) ^ 63] (leaf normal ([AV.bool false, c2, int i64 c3], [])))) (leaf (exit 0) ([AV.bool false, c2, int i64 c1], []))) := by kernel_rfl
theorem T5 {n i : Nat} {k : Nat → Rat} : bW T zJ [] 60 vk [part uk [1,1]] ⟨aB gW (CW n k i), [], 1⟩ =
  some (leaf ret [AV.bool true]) := by kernel_rfl
theorem Oe {n : Nat} {k : Nat → Rat} : aH T zL [] 60 gW (before wm [1,0,1]) ⟨aM 0 [bX k n 2048], [], 0⟩ =
  some (leaf normal ([AV.bool false, aj 3 n fun i ↦ rat (k i) 2048, int i64 (0 : Int)], [])) := by kernel_rfl
theorem UZ {n i : Nat} {k : Nat → Rat} : aH T zL [7, 200015] 60 gW [part wm [1,0,1,0,0]] ⟨aB gW (AT n k i), [], 1⟩ =
  let c3 : AV := aj 3 n fun i ↦ rat (k i) 2048; let c1 : Int := (↑i : Int); let c4 : Int := c1 + (1 : Int); let c2 : Int := (↑(Min.min (yI (k c1.toNat)) 2048) : Int); some (fork (decide (c1 < (↑n : Int))) (af [(0 : Int) ≤ c1 ∧ c1.toNat < n] (af [decide (c2 > (2048 : Int)) = false] (af [-(2 : Int) ^ 63 ≤ c4 ∧ c4 < (2 : Int) ^ 63] (leaf normal ([AV.bool false, c3, int i64 c4], []))))) (leaf (exit 0) ([AV.bool false, c3, int i64 c1], []))) := by kernel_rfl
theorem Qm {n i : Nat} {k : Nat → Rat} : bW T zL [] 60 wU [part wm [1,1]] ⟨aB gW (AT n k i), [], 1⟩ =
  some (leaf ret [AV.bool true]) := by kernel_rfl
theorem adq {n : Nat} {f : Nat → Pl} : aH T zY [] 60 gW (before sW [1,0,1]) ⟨aM 0 [ee f n 2048], [], 0⟩ =
  some (leaf normal ([AV.bool false, aj 12 n fun i ↦ agg [agg [rat (f i).n.x 2048, rat (f i).n.y 2048, rat (f i).n.z 2048], rat (f i).d 2048], int i64 (0 : Int)], [])) := by kernel_rfl
theorem Qn {n i : Nat} {f : Nat → Pl} : aH T zY [7] 60 gW [part sW [1,0,1,0,0]] ⟨aB gW (CR n f i), [], 1⟩ =
  let c4 : Int := (↑(3 : Nat) : Int); let c3 : Int := (↑i : Int); let c1 : AV := aj 12 n fun i ↦ agg [agg [rat (f i).n.x 2048, rat (f i).n.y 2048, rat (f i).n.z 2048], rat (f i).d 2048]; let c6 : Int := c3 + (1 : Int); let c5 : V3 := (f c3.toNat).n; let c2 : Prop := (0 : Int) ≤ c3 ∧ c3.toNat < n; some (fork (decide (c3 < (↑n : Int))) (af [c2, (0 : Int) ≤ (0 : Int) ∧ (0 : Int) < c4, c2, (0 : Int) ≤ (1 : Int) ∧ (1 : Int) < c4, c2, (0 : Int) ≤ (2 : Int) ∧ (2 : Int) < c4, c2, (4 : Nat) * 3 ≤ 2 ^ 24, bM (fun i ↦ nth [rat c5.x 2048, rat c5.y 2048, rat c5.z 2048, rat (f c3.toNat).d 2048] (rat 0 1) (i + 0)) 4 2048, (4 : Nat) < 2 ^ 40] (af [-(2 : Int) ^ 63 ≤ c6 ∧ c6 < (2 : Int) ^ 63] (leaf normal ([AV.bool false, c1, int i64 c6], [])))) (leaf (exit 0) ([AV.bool false, c1, int i64 c3], []))) := by kernel_rfl
theorem QX {n i : Nat} {f : Nat → Pl} : bW T zY [] 60 rY [part sW [1,1]] ⟨aB gW (CR n f i), [], 1⟩ =
  some (leaf ret [AV.bool true]) := by kernel_rfl
theorem Pg {q : Rat} {n : Nat} : bA T Zo [] 60 vE (au vE) ⟨aM 0 [.rat q n], [], 0⟩ =
  let c3 : Nat := q.num.natAbs; let c2 : Int := (↑(aS q.den) : Int); let c1 : Int := (↑(aS c3) : Int); some (af [(0 : Nat) < 1, nl c3 < 2 ^ 40, nl c3 = nl c3, (0 : Nat) < 1, nl q.den < 2 ^ 40, nl q.den = nl q.den] (leaf ret [int i64 (if c1 < c2 then c2 else c1)])) := by kernel_rfl
theorem SK : ∀ K args pre r, LN K args pre = some r → az P xJ K args pre r := by
 refine bH fun K args r hk hs _ => ?_
 split at hs
 ·rename_i N
  simp only [Option.some.injEq] at hs
  subst hs
  refine bD (r := aF (.bool true) [nl N < 2 ^ 40]) hT aT hm abe rfl (of_decide_eq_true (by kernel_rfl)) rfl 60 QU (fun need => ?_) K []
  have need : nl N < 2 ^ 40 := need
  have e : nl N ≠ 0 → i64.wrap ((nl N : Int) - 1) = (nl N : Int) - 1 := fun h => wrap_i64 (by omega) (by omega)
  simp only [aa.all, ax, beq_iff_eq, beq_eq_false_iff_ne, ne_eq]
  refine ⟨fun h => ⟨h, .refl _⟩, fun h => ?_⟩
  have h0 : nl N ≠ 0 := by omega
  have hN : N ≠ 0 := fun h2 => h0 (by rw [h2]; rfl)
  rw [e h0, show ((nl N : Int) - 1).toNat = nl N - 1 by omega]
  refine ⟨⟨h, ⟨by omega, by omega⟩⟩, fO ?_⟩
  rw [cond_false, bne_iff_ne]
  have := yK hN
  omega
 ·simp at hs
theorem Q1 {q : Rat} {n : Nat} (hn : n ≤ 8192) (K : Nat) : az P nP K [.rat q n] [] (aF (.bool true) []) := by
 refine gA fun ⟨hq, _⟩ => ?_
 have hq : Sz q n := hq
 refine bD (r := aF (.bool true) []) hT (aC SK (aC Df (aC Gj aT))) hm Yq rfl (of_decide_eq_true (by kernel_rfl)) rfl 60 UL (fun _ => ?_) K []
 have hg : Nat.gcd q.num.natAbs q.den = 1 := q.reduced
 obtain ⟨d, hd⟩ : ∃ d, d = if q.den = 1 then 0 else q.den := ⟨_, rfl⟩
 have k1 := dO (n := n) hq.1 (by omega)
 have k2 := dO (n := n) hq.2 (by omega)
 have k3 : nl d ≤ nl q.den := by rw [hd]; exact fu ES
 have k4 : nl d = 1 → ¬ (ak d 0 : Int) = 1 := fun h1 h2 => by
  have h3 : d < 2 ^ 32 := by have := cw.1 (show nl d ≤ 1 by omega); simpa using this
  have h4 : ak d 0 = d := by unfold ak; simp; omega
  rw [h4] at h2
  have h5 : d = 1 := by omega
  rw [hd] at h5
  split at h5 <;> omega
 have k5 : nl q.num.natAbs = 0 → ¬ q < 0 ∧ nl d = 0 := fun h1 => by
  have h2 : q.num.natAbs = 0 := by
   by_cases h : q.num.natAbs = 0
   ·exact h
   ·unfold nl at h1; rw [if_neg h] at h1; omega
  have h3 : q = 0 := Rat.num_eq_zero.1 (by omega)
  subst h3
  rw [hd]
  exact ⟨by decide, by decide⟩
 simp only [aa.all, ax, hg, ← hd, show nl 1 = 1 from by decide, show ak 1 0 = 1 from by decide, Int.toNat_zero]
 by_cases h7 : nl d = 1
 ·have h4 := k4 h7
  have h6 : nl q.num.natAbs ≠ 0 := fun h => by have := (k5 h).2; omega
  simp [h7, h4, h6]
  exact ⟨by omega, ⟨by omega, by omega⟩, .refl _⟩
 ·by_cases h6 : nl q.num.natAbs = 0
  ·obtain ⟨h8, h9⟩ := k5 h6
   simp [h9, h6, h8]
   exact ⟨by omega, .refl _⟩
  ·simp [h7, h6]
   exact ⟨fun h => absurd h (by omega), fun h => ⟨⟨by omega, by omega, h⟩, ⟨by omega, by omega⟩, .refl _⟩⟩
theorem Dq : ∀ K args pre r, zk K args pre = some r → az P nP K args pre r := by
 refine bH fun K args r hk hs _ => ?_
 split at hs
 ·split at hs
  ·rename_i hb
   simp only [Option.some.injEq] at hs
   subst hs
   exact Q1 (Nat.le_of_ble_eq_true hb) K
  ·simp at hs
 ·simp at hs
theorem St : ∀ K args pre r, Lq K args pre = some r → az P xO K args pre r := by
 refine bH fun K args r hk hs _ => ?_
 split at hs
 ·rename_i q n
  split at hs
  ·rename_i hb
   have hn := Nat.le_of_ble_eq_true hb
   simp only [Option.some.injEq] at hs
   subst hs
   refine gA fun ⟨hq, _⟩ => ?_
   have hq : Sz q n := hq
   refine bD (r := aF (.int .i64 ((min (yI q) n : Nat) : Int)) []) hT (aC H7 (aC Df aT)) hm Zm rfl (of_decide_eq_true (by kernel_rfl)) rfl 60 Pg (fun _ => ?_) K []
   have n1 := dO (n := n) hq.1 (by omega)
   have n2 := dO (n := n) hq.2 (by omega)
   have b1 := fR.2 hq.1
   have b2 := fR.2 hq.2
   simp only [aa.all, ax]
   refine ⟨⟨by omega, by omega, trivial, by omega, by omega, trivial⟩, bq ?_⟩
   unfold yI
   split <;> omega
  ·simp at hs
 ·simp at hs
theorem UK : aW P zJ := eu (aC Dq aT)
theorem Mj : aW P zL := eu (aC St aT)
theorem Zi {n : Nat} {k : Nat → Rat} (hn : n < 2 ^ 40) (K : Nat) : az P uN K [ls k n] [] (aF (.bool true) []) := by
 refine jy (r := aF (.bool true) []) hT UK hm RG rfl (of_decide_eq_true (by kernel_rfl)) rfl [1,0,1] (i := 0) (y := part uk [1,0,1,0,0]) (z := part uk [1,1]) (by kernel_rfl) (by kernel_rfl) (by kernel_rfl) (f1 := []) (f2 := [7]) (f3 := []) 60 gW 1
  (fun i : Nat => CW n k i) (fun _ => []) (fun i => i ≤ n) (fun _ => True) (fun i => n - i) (fun _ => ⟨⟨_, Vi, ?_⟩, fun i hi => ⟨_, Tv, ?_⟩, fun i hi => ⟨_, T5, ?_⟩⟩) K []
 ·simp only [aa.all, ax]
  exact ⟨0, Nat.zero_le _, dF.vals rfl⟩
 ·simp only [aa.all, ax, decide_eq_true_eq, decide_eq_false_iff_not]
  exact ⟨fun h => ⟨by omega, by omega, i + 1, by omega, by dsimp only; omega, dF.vals rfl⟩, fun h => ⟨rfl, i, trivial, dF.vals rfl⟩⟩
 ·simp only [aa.all, ax]
  exact .refl _
def Iq : Spec := dM (kC (kL sK) kN) (fun _ => .bool true) fun a => [a.1.1 < 2 ^ 40]
theorem RM : ∀ K args pre r, Iq K args pre = some r → az P uN K args pre r := dP fun ⟨⟨n, k⟩, _⟩ K hn => Zi hn K
theorem PM {n : Nat} {k : Nat → Rat} (hn : n < 2 ^ 40) (K : Nat) : az P pC K [bX k n 2048] [] (aF (.bool true) []) := by
 refine jy (r := aF (.bool true) []) hT Mj hm aas rfl (of_decide_eq_true (by kernel_rfl)) rfl [1,0,1] (i := 0) (y := part wm [1,0,1,0,0]) (z := part wm [1,1]) (by kernel_rfl) (by kernel_rfl) (by kernel_rfl) (f1 := []) (f2 := [7, 200015]) (f3 := []) 60 gW 1
  (fun i : Nat => AT n k i) (fun _ => []) (fun i => i ≤ n) (fun _ => True) (fun i => n - i) (fun _ => ⟨⟨_, Oe, ?_⟩, fun i hi => ⟨_, UZ, ?_⟩, fun i hi => ⟨_, Qm, ?_⟩⟩) K []
 ·simp only [aa.all, ax]
  exact ⟨0, Nat.zero_le _, dF.vals rfl⟩
 ·simp only [aa.all, ax, decide_eq_true_eq, decide_eq_false_iff_not]
  exact ⟨fun h => ⟨by omega, by omega, by omega, i + 1, by omega, by dsimp only; omega, dF.vals rfl⟩, fun h => ⟨rfl, i, trivial, dF.vals rfl⟩⟩
 ·simp only [aa.all, ax]
  exact .refl _
theorem I8 : ∀ K args pre r, Az K args pre = some r → az P pC K args pre r := dP fun ⟨⟨n, k⟩, _⟩ K hn => PM hn K
theorem UN : aW P zY := eu (aC I8 aT)
theorem aaT {n : Nat} {f : Nat → Pl} (hn : n < 2 ^ 40) (K : Nat) : az P vg K [ee f n 2048] [] (aF (.bool true) []) := by
 refine jy (r := aF (.bool true) []) hT UN hm Zc rfl (of_decide_eq_true (by kernel_rfl)) rfl [1,0,1] (i := 0) (y := part sW [1,0,1,0,0]) (z := part sW [1,1]) (by kernel_rfl) (by kernel_rfl) (by kernel_rfl) (f1 := []) (f2 := [7]) (f3 := []) 60 gW 1
  (fun i : Nat => CR n f i) (fun _ => []) (fun i => i ≤ n) (fun _ => True) (fun i => n - i) (fun _ => ⟨⟨_, adq, ?_⟩, fun i hi => ⟨_, Qn, ?_⟩, fun i hi => ⟨_, QX, ?_⟩⟩) K []
 ·simp only [aa.all, ax]
  exact ⟨0, Nat.zero_le _, dF.vals rfl⟩
 ·simp only [aa.all, ax, decide_eq_true_eq, decide_eq_false_iff_not]
  exact ⟨fun h => ⟨⟨by omega, by omega, by omega, by omega, by omega, by omega, by omega, by omega, fun j hj => by
   match j, hj with
   | 0, _ | 1, _ | 2, _ | 3, _ => exact .refl _, by omega⟩, by omega, i + 1, by omega, by dsimp only; omega, dF.vals rfl⟩, fun h => ⟨rfl, i, trivial, dF.vals rfl⟩⟩
 ·simp only [aa.all, ax]
  exact .refl _
def LA : Spec := dM (kC (BE 2048) kN) (fun _ => .bool true) fun a => [a.1.1 < 2 ^ 40]
theorem ab2 : ∀ K args pre r, LA K args pre = some r → az P vg K args pre r := dP fun ⟨⟨n, f⟩, _⟩ K hn => aaT hn K
theorem VB : aW P Fi := aC (cH hT (dc (aC Dq aT)) hm abo _ _) aT
end Go.Am.B

/- ref10.Check. -/
namespace Go.Am.B
open Go Go.Am.N AV aa ag IntKind
theorem IS : aP P rH wE (au wE) := aL WN (by kernel_rfl) (by kernel_rfl) (by kernel_rfl)
noncomputable def fJ : aQ := nG :: (uN, Iq) :: (nP, zk) :: (sR, Ks) :: (wu, B7) :: (pC, Az) :: (vg, LA) :: (Fi ++ gn)
noncomputable abbrev qZ : Code := au wE
noncomputable abbrev mw : Code := part qZ [1,1,1]
abbrev vR : List Nat := [1, 2, 3]
abbrev pE (i : Nat) : List AV := [.ptr 0 0 3 0 [], .int .i64 0, .int .i64 i]
abbrev sY : List Nat := [1, 2, 5]
abbrev o3 (c : Cu) : aD := [(0, ⟨false, true, 3, 1, fun _ => cQ c 2048 2048⟩)]
theorem ab7 {c : Cu} : aH T fJ [] 60 vR (before qZ [1,1,0,1]) ⟨aM 0 [cQ c 2048 2048], [], 0⟩ =
  let c1 : Nat := (bk (cQ c 2048 2048)).size; some (af [(0 : Nat) < 1, bM (fun i ↦ rat (c.k i) 2048) c.n sK, c.n < 2 ^ 40] (leaf normal ([ptr 0 0 c1 0 [], int i64 (0 : Int), int i64 (0 : Int)], [((0 : Nat), ay.mk false true c1 1 fun x ↦ agg [int i64 c.p, aj 3 c.n fun i ↦ rat (c.k i) 2048, aj 12 c.m fun i ↦ agg [agg [rat (c.f i).n.x 2048, rat (c.f i).n.y 2048, rat (c.f i).n.z 2048], rat (c.f i).d 2048]])]))) := by kernel_rfl
theorem Qs {c : Cu} {i : Nat} : aH T fJ [14] 60 vR [part qZ [1,1,0,1,0,0]] ⟨aB vR (pE i), o3 c, 1⟩ =
  let c4 : Prop := 0 < 1; let c3 : AV := ptr 0 0 3 0 []; let c2 : Int := (↑i : Int); let c1 : List (Nat × ay) := [((0 : Nat), ay.mk false true 3 1 fun x ↦ agg [int i64 c.p, aj 3 c.n fun i ↦ rat (c.k i) 2048, aj 12 c.m fun i ↦ agg [agg [rat (c.f i).n.x 2048, rat (c.f i).n.y 2048, rat (c.f i).n.z 2048], rat (c.f i).d 2048]])]; let c6 : Int := c2 + (1 : Int); let c5 : Prop := (0 : Int) ≤ c2 ∧ c2.toNat < c.m; some (af [c4] (fork (decide (c2 < (↑c.m : Int))) (af [c4, c5, c4, c5] (af [-(2 : Int) ^ 63 ≤ c6 ∧ c6 < (2 : Int) ^ 63] (leaf normal ([c3, int i64 (0 : Int), int i64 c6], c1)))) (leaf (exit 0) ([c3, int i64 (0 : Int), int i64 c2], c1)))) := by kernel_rfl
theorem RO {c : Cu} {i : Nat} : aH T fJ [200041, 200051] 60 sY (before mw [1,1,0,1]) ⟨aB vR (pE i), o3 c, 1⟩ =
  let c2 : Prop := c.n < 2 ^ 40; let c1 : Prop := 0 < 1; some (af [c1, c1, bM (fun i ↦ rat (c.k i) 2048) c.n sJ, c2] (af [(eP c.n (fun i ↦ aK (rat (c.k i) 2048)) c.p != (0 : Int)) = false] (af [c1, c1, c1, bM (fun i ↦ rat (c.k i) 2048) c.n sK, c2, -(2 : Int) ^ 40 < c.p, c.p < (2 : Int) ^ 40] (af [((↑c.m : Int) != (↑c.n : Int) - c.p - (1 : Int)) = false] (leaf normal ([ptr 0 0 3 0 [], int i64 (0 : Int), int i64 (0 : Int)], [((0 : Nat), ay.mk false true 3 1 fun x ↦ agg [int i64 c.p, aj 3 c.n fun i ↦ rat (c.k i) 2048, aj 12 c.m fun i ↦ agg [agg [rat (c.f i).n.x 2048, rat (c.f i).n.y 2048, rat (c.f i).n.z 2048], rat (c.f i).d 2048]])])))))) := by kernel_rfl
theorem Q9 {c : Cu} {i : Nat} : aH T fJ [56, 200066] 60 sY [part mw [1,1,0,1,0,0]] ⟨aB sY (pE i), o3 c, 1⟩ =
  let c3 : AV := ptr 0 0 3 0 []; let c2 : Int := (↑i : Int); let c1 : List (Nat × ay) := [((0 : Nat), ay.mk false true 3 1 fun x ↦ agg [int i64 c.p, aj 3 c.n fun i ↦ rat (c.k i) 2048, aj 12 c.m fun i ↦ agg [agg [rat (c.f i).n.x 2048, rat (c.f i).n.y 2048, rat (c.f i).n.z 2048], rat (c.f i).d 2048]])]; let c4 : Int := c2 + (1 : Int); some (af [(0 : Nat) < 1] (fork (decide (c2 < (↑c.m : Int))) (af [(0 : Nat) < 1, (0 : Int) ≤ c2 ∧ c2.toNat < c.m] (af [decide (dD (c.f c2.toNat).d ≤ (0 : Int)) = false] (af [-(2 : Int) ^ 63 ≤ c4 ∧ c4 < (2 : Int) ^ 63] (leaf normal ([c3, int i64 (0 : Int), int i64 c4], c1))))) (leaf (exit 2) ([c3, int i64 (0 : Int), int i64 c2], c1)))) := by kernel_rfl
theorem Pj {c : Cu} {i : Nat} : bW T fJ [] 60 wE [part mw [1,1,1]] ⟨aB sY (pE i), o3 c, 1⟩ =
  some (af [(0 : Nat) < 1, bM (fun i ↦ rat (c.k i) 2048) c.n 2048, c.n < 2 ^ 40, (0 : Nat) < 1, gd (fun i ↦ bw (c.f i) 2048) c.m 2048, c.m < 2 ^ 40] (leaf ret [int i64 (0 : Int)])) := by kernel_rfl
theorem nE : aW P fJ := eu (aC RM (aC Dq (aC SZ (aC Ft (aC I8 (aC ab2 (gh VB gH)))))))
theorem FC {q : Rat} (h : 0 < q) : ¬ (dD q ≤ 0) := by unfold dD; grind
theorem Ox {c : Cu} (hk : Kn c.n c.p.toNat c.k) (h0 : 0 ≤ c.p) (h6 : c.p ≤ 6) (hn : c.n ≤ c.p.toNat + 41) (hm2 : (c.m : Int) = (c.n : Int) - c.p - 1) (hw : ∀ i, i < c.m → 0 < (c.f i).d) (K : Nat) : az P rH K [cQ c 2048 2048] [] (aF (.int .i64 0) []) := by
 refine fe (r := aF (.int .i64 0) []) hT IS rfl (of_decide_eq_true (by kernel_rfl)) rfl (fun _ cx h00 => ?_) K []
 have hkp := jO h00
 have hc : eP c.n c.k c.p = 0 := by
  have := hk.AW (by omega) hn
  rwa [Int.toNat_of_nonneg h0] at this
 refine aq.pX hT nE hm (x := qZ) [1,1,0,1] (i := 0) (y := part qZ [1,1,0,1,0,0]) (by kernel_rfl) (by kernel_rfl) IS.dst hkp (f1 := []) (f2 := [14]) 60 vR 1 (fun i : Nat => pE i) (fun _ => o3 c) (fun i => i ≤ c.m) (fun _ => True) (fun i => c.m - i) (fun _ => False) ⟨_, ab7, ?_⟩ (fun i hi => ⟨_, Qs, ?_⟩) (fun i s' hi hle => ?_) (fun _ _ h => h.elim)
 ·simp only [aa.all, ax]
  exact ⟨⟨by omega, cI (by decide), by omega⟩, 0, Nat.zero_le _, [(0, 0)], rfl, rfl, rfl, aR rfl rfl (aN rfl rfl) trivial⟩
 ·simp only [aa.all, ax, decide_eq_true_eq, decide_eq_false_iff_not]
  exact ⟨by omega, fun h => ⟨⟨by omega, by omega, by omega, by omega⟩, by omega, i + 1, by omega, by dsimp only; omega, [(0, 0)], rfl, rfl, rfl, aR rfl rfl (aN rfl rfl) trivial⟩, fun h => ⟨rfl, i, trivial, [(0, 0)], rfl, rfl, rfl, aR rfl rfl (aN rfl rfl) trivial⟩⟩
 rw [show behind qZ [1,1,0,1] = [mw] from by kernel_rfl]
 refine aA.weak rfl hle (aA.one ?_)
 refine aq.pX hT nE hm (x := mw) [1,1,0,1] (i := 2) (y := part mw [1,1,0,1,0,0]) (by kernel_rfl) (by kernel_rfl) (by kernel_rfl) hkp (f1 := [200041, 200051]) (f2 := [56, 200066]) 60 sY 1 (fun i : Nat => pE i) (fun _ => o3 c) (fun i => i ≤ c.m) (fun _ => True) (fun i => c.m - i) (fun _ => False) ⟨_, RO, ?_⟩ (fun i hi => ⟨_, Q9, ?_⟩) (fun i s' hi hle => ?_) (fun _ _ h => h.elim)
 ·simp only [aa.all, ax]
  exact ⟨⟨by omega, by omega, cI (by decide), by omega⟩, bne_eq_false_iff_eq.2 hc, ⟨by omega, by omega, by omega, cI (by decide), by omega, by omega, by omega⟩, bne_eq_false_iff_eq.2 hm2, 0, Nat.zero_le _, [(0, 0)], rfl, rfl, rfl, aR rfl rfl (aN rfl rfl) trivial⟩
 ·simp only [aa.all, ax, decide_eq_true_eq, decide_eq_false_iff_not]
  exact ⟨by omega, fun h => ⟨⟨by omega, by omega, by omega⟩, FC (hw _ (by omega)), by omega, i + 1, by omega, by dsimp only; omega, [(0, 0)], rfl, rfl, rfl, aR rfl rfl (aN rfl rfl) trivial⟩, fun h => ⟨rfl, i, trivial, [(0, 0)], rfl, rfl, rfl, aR rfl rfl (aN rfl rfl) trivial⟩⟩
 ·rw [show behind mw [1,1,0,1] = [part mw [1,1,1]] from by kernel_rfl]
  refine aA.weak rfl hle ((aA.fin hT nE hm 60 Pj (by kernel_rfl) ?_).mono fun _ _ h => .inl h)
  simp only [aa.all, ax]
  exact ⟨⟨by omega, cI (Nat.le_refl _), by omega, by omega, lD (Nat.le_refl _), by omega⟩, .refl _⟩
def EP : Spec := dM (kC (lf 2048 2048) kN) (fun _ => .int .i64 0) fun a => [Kn a.1.n a.1.p.toNat a.1.k, 0 ≤ a.1.p, a.1.p ≤ 6, a.1.n ≤ a.1.p.toNat + 41, (a.1.m : Int) = (a.1.n : Int) - a.1.p - 1, ∀ i, i < a.1.m → 0 < (a.1.f i).d]
theorem UF : ∀ K args pre r, EP K args pre = some r → az P rH K args pre r := dP fun ⟨c, _⟩ K hn => Ox hn.1 hn.2.1 hn.2.2.1 hn.2.2.2.1 hn.2.2.2.2.1 hn.2.2.2.2.2 K
end Go.Am.B

/- ref12.Check. -/
namespace Go.Am.B
open Go Go.Am.N AV aa ag IntKind
theorem LI : aP P uH r9 (au r9) := aL acy (by kernel_rfl) (by kernel_rfl) (by kernel_rfl)
noncomputable abbrev xF : Code := au r9
noncomputable abbrev mb : Code := part xF [1,1,0,1,0,0]
noncomputable abbrev p8 : Code := part xF [1,1,1]
noncomputable abbrev qA : Code := part p8 [1,1,1,1]
noncomputable abbrev mS : Code := part qA [1,0,1,0,0]
abbrev fm (s : Sf) : aD := [(0, ⟨false, true, 5, 1, fun _ => dU s 2048 2048⟩)]
abbrev lU (i : Nat) : List AV := [.ptr 0 0 5 0 [], .int .i64 0, .int .i64 i]
abbrev C7 (i j : Nat) : List AV := lU i ++ [.int .i64 j]
abbrev uG (i : Nat) : List AV := [.ptr 0 0 5 0 [], .int .i64 0, .bool true, .int .i64 i]
abbrev BJ (i j : Nat) : List AV := uG i ++ [.int .i64 j]
theorem Ny {s : Sf} : aH T fJ [] 60 [1, 2, 3] (before xF [1,1,0,1]) ⟨aM 0 [dU s 2048 2048], [], 0⟩ =
  let c1 : Nat := (bk (dU s 2048 2048)).size; some (af [(0 : Nat) < 1, bM (fun i ↦ rat (s.ku i) 2048) s.a sK, s.a < 2 ^ 40, (0 : Nat) < 1, bM (fun i ↦ rat (s.kv i) 2048) s.b sK, s.b < 2 ^ 40] (leaf normal ([ptr 0 0 c1 0 [], int i64 (0 : Int), int i64 (0 : Int)], [((0 : Nat), ay.mk false true c1 1 fun x ↦ agg [int i64 s.u, int i64 s.v, aj 3 s.a fun i ↦ rat (s.ku i) 2048, aj 3 s.b fun i ↦ rat (s.kv i) 2048, aj 1 s.n fun i ↦ aj 12 s.m fun i_1 ↦ agg [agg [rat (s.f i i_1).n.x 2048, rat (s.f i i_1).n.y 2048, rat (s.f i i_1).n.z 2048], rat (s.f i i_1).d 2048]])]))) := by kernel_rfl
theorem aaV {s : Sf} {i : Nat} : aH T fJ [26] 60 [1, 2, 3] (before mb [1,0]) ⟨aB [1, 2, 3] (lU i), fm s, 1⟩ =
  let c1 : List AV × aD := ([ptr 0 0 5 0 [], int i64 (0 : Int), int i64 (↑i : Int)], [((0 : Nat), ay.mk false true 5 1 fun x ↦ agg [int i64 s.u, int i64 s.v, aj 3 s.a fun i ↦ rat (s.ku i) 2048, aj 3 s.b fun i ↦ rat (s.kv i) 2048, aj 1 s.n fun i ↦ aj 12 s.m fun i_1 ↦ agg [agg [rat (s.f i i_1).n.x 2048, rat (s.f i i_1).n.y 2048, rat (s.f i i_1).n.z 2048], rat (s.f i i_1).d 2048]])]); some (af [(0 : Nat) < 1] (fork (decide ((↑i : Int) < (↑s.n : Int))) (leaf normal c1) (leaf (exit 0) c1))) := by kernel_rfl
theorem QL {s : Sf} {i : Nat} : aH T fJ [] 60 [1, 2, 3, 4] (before (part mb [1,0,0]) [1]) ⟨aB [1, 2, 3] (lU i), fm s, 1⟩ =
  some (leaf normal ([ptr 0 0 5 0 [], int i64 (0 : Int), int i64 (↑i : Int), int i64 (0 : Int)], [((0 : Nat), ay.mk false true 5 1 fun x ↦ agg [int i64 s.u, int i64 s.v, aj 3 s.a fun i ↦ rat (s.ku i) 2048, aj 3 s.b fun i ↦ rat (s.kv i) 2048, aj 1 s.n fun i ↦ aj 12 s.m fun i_1 ↦ agg [agg [rat (s.f i i_1).n.x 2048, rat (s.f i i_1).n.y 2048, rat (s.f i i_1).n.z 2048], rat (s.f i i_1).d 2048]])])) := by kernel_rfl
theorem aaO {s : Sf} {i j : Nat} : aH T fJ [36] 60 [1, 2, 3, 4] [part mb [1,0,0,1,0,0]] ⟨aB [1, 2, 3, 4] (C7 i j), fm s, 1⟩ =
  let c8 : Int := (↑i : Int); let c5 : Prop := 0 < 1; let c4 : AV := ptr 0 0 5 0 []; let c3 : Int := (↑j : Int); let c1 : List (Nat × ay) := [((0 : Nat), ay.mk false true 5 1 fun x ↦ agg [int i64 s.u, int i64 s.v, aj 3 s.a fun i ↦ rat (s.ku i) 2048, aj 3 s.b fun i ↦ rat (s.kv i) 2048, aj 1 s.n fun i ↦ aj 12 s.m fun i_1 ↦ agg [agg [rat (s.f i i_1).n.x 2048, rat (s.f i i_1).n.y 2048, rat (s.f i i_1).n.z 2048], rat (s.f i i_1).d 2048]])]; let c7 : Int := c3 + (1 : Int); let c6 : Prop := (0 : Int) ≤ c3 ∧ c3.toNat < s.m; let c2 : Prop := (0 : Int) ≤ c8 ∧ c8.toNat < s.n; some (af [c5, c2] (fork (decide (c3 < (↑s.m : Int))) (af [c5, c2, c6, c5, c2, c6] (af [-(2 : Int) ^ 63 ≤ c7 ∧ c7 < (2 : Int) ^ 63] (leaf normal ([c4, int i64 (0 : Int), int i64 c8, int i64 c7], c1)))) (leaf (exit 2) ([c4, int i64 (0 : Int), int i64 c8, int i64 c3], c1)))) := by kernel_rfl
theorem acn {s : Sf} {i j : Nat} : aH T fJ [] 60 [1, 2, 3] [part mb [1,1]] ⟨aB [1, 2, 3, 4] (C7 i j), fm s, 1⟩ =
  let c1 : Int := (↑i : Int) + (1 : Int); some (af [-(2 : Int) ^ 63 ≤ c1 ∧ c1 < (2 : Int) ^ 63] (leaf normal ([ptr 0 0 5 0 [], int i64 (0 : Int), int i64 c1], [((0 : Nat), ay.mk false true 5 1 fun x ↦ agg [int i64 s.u, int i64 s.v, aj 3 s.a fun i ↦ rat (s.ku i) 2048, aj 3 s.b fun i ↦ rat (s.kv i) 2048, aj 1 s.n fun i ↦ aj 12 s.m fun i_1 ↦ agg [agg [rat (s.f i i_1).n.x 2048, rat (s.f i i_1).n.y 2048, rat (s.f i i_1).n.z 2048], rat (s.f i i_1).d 2048]])]))) := by kernel_rfl
theorem NW {s : Sf} {i : Nat} : aH T fJ [200069, 200077, 200087] 60 [1, 2, 7] (before p8 [1,1,1,0,1]) ⟨aB [1, 2, 3] (lU i), fm s, 1⟩ =
  let c2 : Nat := 2 ^ 40; let c1 : Prop := 0 < 1; some (af [c1, c1, bM (fun i ↦ rat (s.ku i) 2048) s.a sJ, s.a < c2] (af [(eP s.a (fun i ↦ aK (rat (s.ku i) 2048)) s.u != (0 : Int)) = false] (af [c1, c1, bM (fun i ↦ rat (s.kv i) 2048) s.b sJ, s.b < c2] (af [(eP s.b (fun i ↦ aK (rat (s.kv i) 2048)) s.v != (0 : Int)) = false] (af [c1, c1, c1, bM (fun i ↦ rat (s.ku i) 2048) s.a sK, s.a < c2, -(2 : Int) ^ 40 < s.u, s.u < (2 : Int) ^ 40] (af [((↑s.n : Int) != (↑s.a : Int) - s.u - (1 : Int)) = false] (leaf normal ([ptr 0 0 5 0 [], int i64 (0 : Int), int i64 (0 : Int)], [((0 : Nat), ay.mk false true 5 1 fun x ↦ agg [int i64 s.u, int i64 s.v, aj 3 s.a fun i ↦ rat (s.ku i) 2048, aj 3 s.b fun i ↦ rat (s.kv i) 2048, aj 1 s.n fun i ↦ aj 12 s.m fun i_1 ↦ agg [agg [rat (s.f i i_1).n.x 2048, rat (s.f i i_1).n.y 2048, rat (s.f i i_1).n.z 2048], rat (s.f i i_1).d 2048]])])))))))) := by kernel_rfl
theorem PC {s : Sf} {i : Nat} : aH T fJ [92, 200106] 60 [1, 2, 7] [part p8 [1,1,1,0,1,0,0]] ⟨aB [1, 2, 7] (lU i), fm s, 1⟩ =
  let c4 : AV := ptr 0 0 5 0 []; let c3 : Int := (↑i : Int); let c2 : Prop := 0 < 1; let c1 : List (Nat × ay) := [((0 : Nat), ay.mk false true 5 1 fun x ↦ agg [int i64 s.u, int i64 s.v, aj 3 s.a fun i ↦ rat (s.ku i) 2048, aj 3 s.b fun i ↦ rat (s.kv i) 2048, aj 1 s.n fun i ↦ aj 12 s.m fun i_1 ↦ agg [agg [rat (s.f i i_1).n.x 2048, rat (s.f i i_1).n.y 2048, rat (s.f i i_1).n.z 2048], rat (s.f i i_1).d 2048]])]; let c5 : Int := c3 + (1 : Int); some (af [c2] (fork (decide (c3 < (↑s.n : Int))) (af [c2, (0 : Int) ≤ c3 ∧ c3.toNat < s.n, c2, c2, bM (fun i ↦ rat (s.kv i) 2048) s.b sK, s.b < 2 ^ 40, -(2 : Int) ^ 40 < s.v, s.v < (2 : Int) ^ 40] (af [((↑s.m : Int) != (↑s.b : Int) - s.v - (1 : Int)) = false] (af [-(2 : Int) ^ 63 ≤ c5 ∧ c5 < (2 : Int) ^ 63] (leaf normal ([c4, int i64 (0 : Int), int i64 c5], c1))))) (leaf (exit 4) ([c4, int i64 (0 : Int), int i64 c3], c1)))) := by kernel_rfl
theorem Vd {s : Sf} {i : Nat} : aH T fJ [] 60 [1, 2, 8, 9] (before qA [1,0,1]) ⟨aB [1, 2, 7] (lU i), fm s, 1⟩ =
  some (af [(0 : Nat) < 1, bM (fun i ↦ rat (s.ku i) 2048) s.a 2048, s.a < 2 ^ 40, (0 : Nat) < 1, bM (fun i ↦ rat (s.kv i) 2048) s.b 2048, s.b < 2 ^ 40] (leaf normal ([ptr 0 0 5 0 [], int i64 (0 : Int), AV.bool true, int i64 (0 : Int)], [((0 : Nat), ay.mk false true 5 1 fun x ↦ agg [int i64 s.u, int i64 s.v, aj 3 s.a fun i ↦ rat (s.ku i) 2048, aj 3 s.b fun i ↦ rat (s.kv i) 2048, aj 1 s.n fun i ↦ aj 12 s.m fun i_1 ↦ agg [agg [rat (s.f i i_1).n.x 2048, rat (s.f i i_1).n.y 2048, rat (s.f i i_1).n.z 2048], rat (s.f i i_1).d 2048]])]))) := by kernel_rfl
theorem abE {s : Sf} {i : Nat} : aH T fJ [119] 60 [1, 2, 8, 9] (before mS [1,0]) ⟨aB [1, 2, 8, 9] (uG i), fm s, 1⟩ =
  let c1 : List AV × aD := ([ptr 0 0 5 0 [], int i64 (0 : Int), AV.bool true, int i64 (↑i : Int)], [((0 : Nat), ay.mk false true 5 1 fun x ↦ agg [int i64 s.u, int i64 s.v, aj 3 s.a fun i ↦ rat (s.ku i) 2048, aj 3 s.b fun i ↦ rat (s.kv i) 2048, aj 1 s.n fun i ↦ aj 12 s.m fun i_1 ↦ agg [agg [rat (s.f i i_1).n.x 2048, rat (s.f i i_1).n.y 2048, rat (s.f i i_1).n.z 2048], rat (s.f i i_1).d 2048]])]); some (af [(0 : Nat) < 1] (fork (decide ((↑i : Int) < (↑s.n : Int))) (leaf normal c1) (leaf (exit 6) c1))) := by kernel_rfl
theorem Zn {s : Sf} {i : Nat} : aH T fJ [] 60 [1, 2, 8, 9, 10] (before (part mS [1,0,0]) [1]) ⟨aB [1, 2, 8, 9] (uG i), fm s, 1⟩ =
  some (leaf normal ([ptr 0 0 5 0 [], int i64 (0 : Int), AV.bool true, int i64 (↑i : Int), int i64 (0 : Int)], [((0 : Nat), ay.mk false true 5 1 fun x ↦ agg [int i64 s.u, int i64 s.v, aj 3 s.a fun i ↦ rat (s.ku i) 2048, aj 3 s.b fun i ↦ rat (s.kv i) 2048, aj 1 s.n fun i ↦ aj 12 s.m fun i_1 ↦ agg [agg [rat (s.f i i_1).n.x 2048, rat (s.f i i_1).n.y 2048, rat (s.f i i_1).n.z 2048], rat (s.f i i_1).d 2048]])])) := by kernel_rfl
theorem TQ {s : Sf} {i j : Nat} : aH T fJ [129, 200143] 60 [1, 2, 8, 9, 10] [part mS [1,0,0,1,0,0]] ⟨aB [1, 2, 8, 9, 10] (BJ i j), fm s, 1⟩ =
  let c8 : Int := (↑i : Int); let c7 : Int := (↑(3 : Nat) : Int); let c5 : AV := ptr 0 0 5 0 []; let c4 : Int := (↑j : Int); let c3 : Prop := 0 < 1; let c1 : List (Nat × ay) := [((0 : Nat), ay.mk false true 5 1 fun x ↦ agg [int i64 s.u, int i64 s.v, aj 3 s.a fun i ↦ rat (s.ku i) 2048, aj 3 s.b fun i ↦ rat (s.kv i) 2048, aj 1 s.n fun i ↦ aj 12 s.m fun i_1 ↦ agg [agg [rat (s.f i i_1).n.x 2048, rat (s.f i i_1).n.y 2048, rat (s.f i i_1).n.z 2048], rat (s.f i i_1).d 2048]])]; let c9 : Int := c4 + (1 : Int); let c6 : Prop := (0 : Int) ≤ c8 ∧ c8.toNat < s.n; let c2 : Pl := s.f c8.toNat c4.toNat; some (af [c3, c6] (fork (decide (c4 < (↑s.m : Int))) (af [c3, c6, (0 : Int) ≤ c4 ∧ c4.toNat < s.m, c3] (af [c3] (af [decide (dD c2.d ≤ (0 : Int)) = false] (af [(0 : Int) ≤ (0 : Int) ∧ (0 : Int) < c7, c3, (0 : Int) ≤ (1 : Int) ∧ (1 : Int) < c7, c3, (0 : Int) ≤ (2 : Int) ∧ (2 : Int) < c7, c3, c3, (4 : Nat) * 3 ≤ 2 ^ 24, bM (fun i ↦ nth [rat c2.n.x 2048, rat c2.n.y 2048, rat c2.n.z 2048, rat c2.d 2048] (rat 0 1) (i + 0)) 4 2048, (4 : Nat) < 2 ^ 40] (af [-(2 : Int) ^ 63 ≤ c9 ∧ c9 < (2 : Int) ^ 63] (leaf normal ([c5, int i64 (0 : Int), AV.bool true, int i64 c8, int i64 c9], c1))))))) (leaf (exit 8) ([c5, int i64 (0 : Int), AV.bool true, int i64 c8, int i64 c4], c1)))) := by kernel_rfl
theorem QA {s : Sf} {i j : Nat} : aH T fJ [] 60 [1, 2, 8, 9] [part mS [1,1]] ⟨aB [1, 2, 8, 9, 10] (BJ i j), fm s, 1⟩ =
  let c1 : Int := (↑i : Int) + (1 : Int); some (af [-(2 : Int) ^ 63 ≤ c1 ∧ c1 < (2 : Int) ^ 63] (leaf normal ([ptr 0 0 5 0 [], int i64 (0 : Int), AV.bool true, int i64 c1], [((0 : Nat), ay.mk false true 5 1 fun x ↦ agg [int i64 s.u, int i64 s.v, aj 3 s.a fun i ↦ rat (s.ku i) 2048, aj 3 s.b fun i ↦ rat (s.kv i) 2048, aj 1 s.n fun i ↦ aj 12 s.m fun i_1 ↦ agg [agg [rat (s.f i i_1).n.x 2048, rat (s.f i i_1).n.y 2048, rat (s.f i i_1).n.z 2048], rat (s.f i i_1).d 2048]])]))) := by kernel_rfl
theorem adM {s : Sf} {i : Nat} : bW T fJ [] 60 r9 [part qA [1,1]] ⟨aB [1, 2, 8, 9] (uG i), fm s, 1⟩ =
  some (leaf ret [int i64 (0 : Int)]) := by kernel_rfl
structure nX (s : Sf) : Prop where
 ku : Kn s.a s.u.toNat s.ku
 kv : Kn s.b s.v.toNat s.kv
 u0 : 0 ≤ s.u
 u6 : s.u ≤ 6
 v0 : 0 ≤ s.v
 v6 : s.v ≤ 6
 a : s.a ≤ s.u.toNat + 41
 b : s.b ≤ s.v.toNat + 41
 n : (s.n : Int) = (s.a : Int) - s.u - 1
 m : (s.m : Int) = (s.b : Int) - s.v - 1
 w : ∀ i j, i < s.n → j < s.m → 0 < (s.f i j).d
theorem adI {s : Sf} (hs : nX s) (K : Nat) : az P uH K [dU s 2048 2048] [] (aF (.int .i64 0) []) := by
 obtain ⟨ku, kv, u0, u6, v0, v6, ha, hb, hn, hm2, hw⟩ := hs
 refine fe (r := aF (.int .i64 0) []) hT LI rfl (of_decide_eq_true (by kernel_rfl)) rfl (fun _ cx h00 => ?_) K []
 have hk := jO h00
 have hcu : eP s.a s.ku s.u = 0 := by
  have := ku.AW (by omega) ha
  rwa [Int.toNat_of_nonneg u0] at this
 have hcv : eP s.b s.kv s.v = 0 := by
  have := kv.AW (by omega) hb
  rwa [Int.toNat_of_nonneg v0] at this
 have re : iM 1 [(0, 0)] (fm s) (fm s) := aR rfl rfl (aN rfl rfl) trivial
 have re : iM 1 [(0, 0)] (fm s) (fm s) := aR rfl rfl (aN rfl rfl) trivial
 refine aq.B5 hT nE hm (x := xF) [1,1,0,1] (i := 0) (y := mb) (z := p8) (by kernel_rfl) (by kernel_rfl) (by kernel_rfl) LI.dst [1,0] (j := 1) (x1 := part mb [1,0,0]) (zb := part mb [1,1]) (by kernel_rfl) (by kernel_rfl) (by kernel_rfl) [1] (i2 := 2) (y2 := part mb [1,0,0,1,0,0]) (by kernel_rfl) (by kernel_rfl) rfl
  hk (f1 := []) (f2 := [26]) (f3 := []) (f4 := [36]) (f5 := []) 60 [1, 2, 3] [1, 2, 3, 4] 1 1 (fun i : Nat => lU i) (fun _ => fm s) (fun i => i ≤ s.n) (fun _ => True) (fun i => s.n - i) (fun i => i < s.n) (fun _ => False) (fun _ => False)
  (fun i (j : Nat) => C7 i j) (fun _ _ => fm s) (fun _ j => j ≤ s.m) (fun _ _ => True) (fun _ j => s.m - j) ⟨_, Ny, ?_⟩ (fun i hi => ⟨_, aaV, ?_⟩) (fun i hi hg => ⟨_, QL, ?_⟩) (fun i hi hg j hj => ⟨_, aaO, ?_⟩) (fun i hi hg j hj => ⟨_, acn, ?_⟩) (fun i hi => ?_) (fun _ _ h => h.elim) (fun _ _ h => h.elim)
 all_goals try simp only [aa.all, ax, decide_eq_true_eq, decide_eq_false_iff_not]
 ·exact ⟨⟨by omega, cI (by decide), by omega, by omega, cI (by decide), by omega⟩, 0, Nat.zero_le _, [(0, 0)], rfl, rfl, rfl, re⟩
 ·exact ⟨by omega, fun h => ⟨by omega, [(0, 0)], rfl, rfl, rfl, re⟩, fun h => ⟨rfl, i, trivial, [(0, 0)], rfl, rfl, rfl, re⟩⟩
 ·exact ⟨0, Nat.zero_le _, [(0, 0)], rfl, rfl, rfl, re⟩
 ·exact ⟨by omega, fun h => ⟨by omega, by omega, j + 1, by omega, by dsimp only; omega, [(0, 0)], rfl, rfl, rfl, re⟩, fun h => ⟨rfl, j, trivial, [(0, 0)], rfl, rfl, rfl, re⟩⟩
 ·exact ⟨by omega, i + 1, by omega, by dsimp only; omega, [(0, 0)], rfl, rfl, rfl, re⟩
 refine aq.jx hT nE hm (x := p8) [1,1,1,0,1] (i := 4) (y := part p8 [1,1,1,0,1,0,0]) (z := qA) (by kernel_rfl) (by kernel_rfl) (by kernel_rfl) (by kernel_rfl) hk (f1 := [200069, 200077, 200087]) (f2 := [92, 200106]) 60 [1, 2, 7] 1 (fun i : Nat => lU i) (fun _ => fm s) (fun i => i ≤ s.n) (fun _ => True) (fun i => s.n - i) (fun _ => False) ⟨_, NW, ?_⟩ (fun i hi => ⟨_, PC, ?_⟩) (fun i _ => ?_) (fun _ _ h => h.elim)
 ·simp only [aa.all, ax]
  exact ⟨⟨by omega, by omega, cI (by decide), by omega⟩, bne_eq_false_iff_eq.2 hcu, ⟨by omega, by omega, cI (by decide), by omega⟩, bne_eq_false_iff_eq.2 hcv, ⟨by omega, by omega, by omega, cI (by decide), by omega, by omega, by omega⟩, bne_eq_false_iff_eq.2 hn, 0, Nat.zero_le _, [(0, 0)], rfl, rfl, rfl, re⟩
 ·simp only [aa.all, ax, decide_eq_true_eq, decide_eq_false_iff_not]
  exact ⟨by omega, fun h => ⟨⟨by omega, by omega, by omega, by omega, cI (by decide), by omega, by omega, by omega⟩, bne_eq_false_iff_eq.2 hm2, by omega, i + 1, by omega, by dsimp only; omega, [(0, 0)], rfl, rfl, rfl, re⟩, fun h => ⟨rfl, i, trivial, [(0, 0)], rfl, rfl, rfl, re⟩⟩
 refine aq.B5 hT nE hm (x := qA) [1,0,1] (i := 6) (y := mS) (z := part qA [1,1]) (by kernel_rfl) (by kernel_rfl) (by kernel_rfl) (by kernel_rfl) [1,0] (j := 7) (x1 := part mS [1,0,0]) (zb := part mS [1,1]) (by kernel_rfl) (by kernel_rfl) (by kernel_rfl) [1] (i2 := 8) (y2 := part mS [1,0,0,1,0,0]) (by kernel_rfl) (by kernel_rfl) rfl
  hk (f1 := []) (f2 := [119]) (f3 := []) (f4 := [129, 200143]) (f5 := []) 60 [1, 2, 8, 9] [1, 2, 8, 9, 10] 1 1 (fun i : Nat => uG i) (fun _ => fm s) (fun i => i ≤ s.n) (fun _ => True) (fun i => s.n - i) (fun i => i < s.n) (fun _ => False) (fun _ => False)
  (fun i (j : Nat) => BJ i j) (fun _ _ => fm s) (fun _ j => j ≤ s.m) (fun _ _ => True) (fun _ j => s.m - j) ⟨_, Vd, ?_⟩ (fun i hi => ⟨_, abE, ?_⟩) (fun i hi hg => ⟨_, Zn, ?_⟩) (fun i hi hg j hj => ⟨_, TQ, ?_⟩) (fun i hi hg j hj => ⟨_, QA, ?_⟩) (fun i hi => ?_) (fun _ _ h => h.elim) (fun _ _ h => h.elim)
 all_goals try simp only [aa.all, ax, decide_eq_true_eq, decide_eq_false_iff_not, Int.toNat_natCast]
 ·exact ⟨⟨by omega, cI (Nat.le_refl _), by omega, by omega, cI (Nat.le_refl _), by omega⟩, 0, Nat.zero_le _, [(0, 0)], rfl, rfl, rfl, re⟩
 ·exact ⟨by omega, fun h => ⟨by omega, [(0, 0)], rfl, rfl, rfl, re⟩, fun h => ⟨rfl, i, trivial, [(0, 0)], rfl, rfl, rfl, re⟩⟩
 ·exact ⟨0, Nat.zero_le _, [(0, 0)], rfl, rfl, rfl, re⟩
 ·refine ⟨by omega, fun h => ⟨by omega, by omega, FC (hw _ _ (by omega) (by omega)), ⟨by omega, by omega, by omega, by omega, by omega, by omega, by omega, by omega, fun k hk => ?_, by omega⟩, by omega, j + 1, by omega, by dsimp only; omega, [(0, 0)], rfl, rfl, rfl, re⟩, fun h => ⟨rfl, j, trivial, [(0, 0)], rfl, rfl, rfl, re⟩⟩
  match k, hk with
  | 0, _ | 1, _ | 2, _ | 3, _ => exact .refl _
 ·exact ⟨by omega, i + 1, by omega, by dsimp only; omega, [(0, 0)], rfl, rfl, rfl, re⟩
 ·refine aq.jq ((aA.fin hT nE hm 60 adM (by kernel_rfl) ?_).mono fun _ _ h => .inl h)
  exact .refl _
def EO : Spec := dM (kC (wv 2048 2048) kN) (fun _ => .int .i64 0) fun a => [nX a.1]
theorem ZD : ∀ K args pre r, EO K args pre = some r → az P uH K args pre r := dP fun ⟨s, _⟩ K hn => adI hn K
end Go.Am.B

/- ref09: part, function, Values. -/
namespace Go.Am.B
open Go Go.Am.N AV aa ag IntKind
theorem Po : aP P xU tC (au tC) := aL XA (by kernel_rfl) (by kernel_rfl) (by kernel_rfl)
theorem FU : aP P sr nD (au nD) := aL WA (by kernel_rfl) (by kernel_rfl) (by kernel_rfl)
theorem Vr : aP P rE vf (au vf) := aL NJ (by kernel_rfl) (by kernel_rfl) (by kernel_rfl)
def FK : aQ := (wO, iq kR kR BF mD) :: iy
abbrev n5 : Nat := 8193
def HA : Spec := dM (kC (iG n5) (kC (iG n5) kN)) (fun a => .rat (a.1 / a.2.1) sF) fun _ => []
theorem NG {a b : Rat} {n : Nat} : bA T FK [] 60 tC (au tC) ⟨aM 0 [.rat a n, .rat b n], [], 0⟩ =
  let c2 : Prop := n < 2 ^ 41; let c1 : Prop := 0 < 1; some (af [c1, c1, c2, c2, c1] (af [c1, c1] (af [c1] (leaf ret [rat (a / b) (n + n)])))) := by kernel_rfl
theorem Vb : aW P FK := aC (iN fun _ _ K hn => Jy hn.1 hn.2 K) ja
theorem TL : ∀ K args pre r, HA K args pre = some r → az P xU K args pre r := dP fun ⟨a, b, _⟩ K _ => by
 refine bD (r := aF (.rat (a / b) sF) []) hT Vb hm Po rfl (of_decide_eq_true (by kernel_rfl)) rfl 60 NG (fun _ => ?_) K []
 simp only [aa.all, ax]
 have h1 : n5 = 8193 := rfl
 (repeat' with_reducible refine And.intro ?_ ?_)
 all_goals first | omega | exact (cr rfl (show n5 + n5 ≤ sF by decide))
def Io (d : Nat) : Spec := dM (kC (kL sK) (kC kI (kC kI (kC kI (kC (iG sK) kN))))) (fun a => .rat (nC a.1.2 a.2.2.2.1.toNat a.2.2.2.2.1 d a.2.1.toNat) (SB d)) fun a => [a.2.2.1 = d, 0 ≤ a.2.1, 0 ≤ a.2.2.2.1, a.2.1 + d + 1 < a.1.1, a.1.1 < 2 ^ 40, a.2.2.2.1 < 2 ^ 40, d ≤ 6]
def FZ (d : Nat) : aQ := nG :: (sr, Io d) :: (xU, HA) :: (iI, pg) :: iy
abbrev w8 (n : Nat) (k : Nat → Rat) (i d a : Nat) (t : Rat) : List AV := [ls k n, .int .i64 i, .int .i64 d, .int .i64 a, .rat t sK]
theorem VC {n i a : Nat} {k : Nat → Rat} {t : Rat} : bA T (nG :: (iI, pg) :: iy) [17] 60 nD (au nD) ⟨aM 0 (w8 n k i 0 a t), [], 0⟩ =
  let c1 : List Prop := [(0 : Nat) < 1]; some (fork ((↑i : Int) == (↑a : Int)) (af c1 (af c1 (leaf ret [rat (↑(1 : Int) : Rat) 1]))) (af c1 (af c1 (leaf ret [agg [AV.bool false, mag 0, mag 0]])))) := by kernel_rfl
theorem Q6 {n i d a : Nat} {k : Nat → Rat} {t : Rat} : bA T (FZ d) [200014, 23, 29] 60 nD (au nD) ⟨aM 0 (w8 n k i (d + 1) a t), [], 0⟩ =
  let c22 : Prop := sK + sK + 1 ≤ n5; let c21 : Int := (↑d : Int); let c20 : Prop := n < 2 ^ 40; let c15 : Prop := bM (fun i ↦ rat (k i) sK) n sK; let c14 : Int := (↑(d + 1) : Int); let c10 : Int := (↑a : Int); let c6 : Int := (↑i : Int); let c5 : Prop := 0 < 1; let c4 : Nat := 2 ^ 41; let c3 : Int := (2 : Int) ^ 63; let c19 : Prop := c10 < (2 : Int) ^ 40; let c17 : Prop := (0 : Int) ≤ c6 ∧ c6.toNat < n; let c16 : Bool := decide (c10 < c6); let c12 : List Prop := [sK < c4, sK < c4, c22, c22, c5]; let c11 : aa (List AV) := af [c5] (af [c5] (leaf ret [agg [AV.bool false, mag 0, mag 0]])); let c9 : Int := c6 + (1 : Int); let c7 : Int := c14 - (1 : Int); let c2 : Int := c6 + c14; let c13 : Prop := -c3 ≤ c2 ∧ c2 < c3; let c8 : Int := c2 + (1 : Int); let c18 : Prop := (0 : Int) ≤ c8 ∧ c8.toNat < n; let c1 : aa (List AV) := af (c5 :: c17 :: (sK < c4) :: (sK < c4) :: c13 :: ((0 : Int) ≤ c2 ∧ c2.toNat < n) :: c17 :: c12) (af (c13 :: (-c3 ≤ c8 ∧ c8 < c3) :: c18 :: c5 :: (sK < c4) :: (sK < c4) :: c13 :: (-c3 ≤ c8 ∧ c8 < c3) :: c18 :: (-c3 ≤ c9 ∧ c9 < c3) :: ((0 : Int) ≤ c9 ∧ c9.toNat < n) :: c12) (af [c5, -c3 ≤ c7 ∧ c7 < c3, c5, c15, sK ≤ sK, c7 = c21, (0 : Int) ≤ c6, (0 : Int) ≤ c10, c6 + c21 + (1 : Int) < (↑n : Int), c20, c19, d ≤ 6, sF < c4, SB d < c4, c5, -c3 ≤ c9 ∧ c9 < c3, -c3 ≤ c7 ∧ c7 < c3, c5, c15, sK ≤ sK, c7 = c21, (0 : Int) ≤ c9, (0 : Int) ≤ c10, c9 + c21 + (1 : Int) < (↑n : Int), c20, c19, d ≤ 6, sF < c4, SB d < c4, sF + SB d < c4, sF + SB d < c4, c5] (af [c5] (leaf ret [rat ((t - k c6.toNat) / (k c2.toNat - k c6.toNat) * nC (fun i ↦ aK (rat (k i) sK)) c10.toNat t d c6.toNat + (k c8.toNat - t) / (k c8.toNat - k c9.toNat) * nC (fun i ↦ aK (rat (k i) sK)) c10.toNat t d c9.toNat) (sF + SB d + (sF + SB d) + 1)])))); some (af [(c14 == (0 : Int)) = false] (fork c16 (af [c16 = true] (fork true c11 c1)) (af [c16 = false, c13] (fork (bif false then true else decide (c10 > c2)) c11 c1)))) := by kernel_rfl
def wC (p : Nat) : aQ := nG :: (mA, r4) :: (sr, Io p) :: iy
abbrev nN : List Nat := [0, 1, 5, 9, 11, 12, 6, 7, 8]
abbrev xl (n : Nat) (k : Nat → Rat) (p a : Nat) (v : AV) (i : Int) : List AV := [ls k n, .int .i64 p, .ptr 0 0 3 0 [], .int .i64 a, v, .int .i64 i, .int .i64 0, .nil, .int .i64 0]
noncomputable abbrev zE : Code := au vf
noncomputable abbrev BM : Code := part zE [1,1,1,1,0,1,0,0]
theorem OQ {n p : Nat} {k : Nat → Rat} {t : Rat} : aH T (wC p) [21] 60 nN (before zE [1,1,1,1,0,1]) ⟨aM 0 [ls k n, .int .i64 p, .rat t sK], [], 0⟩ =
  let c7 : AV := int i64 (0 : Int); let c6 : Int := dr n (fun i ↦ aK (rat (k i) sK)) t; let c5 : Int := (↑p : Int); let c4 : AV := aj 3 n fun i ↦ rat (k i) 4096; let c3 : AV := ptr 0 0 (bk (rat t sK)).size 0 []; let c2 : Nat × ay := ((0 : Nat), ay.mk false true (bk (rat t sK)).size 1 fun x ↦ rat t 4096); let c1 : Int := (↑(qL n (fun i ↦ aK (rat (k i) sK)) t) : Int); some (af [(0 : Nat) < 1, bM (fun i ↦ rat (k i) sK) n sK, sK ≤ sK, Kn n c5.toNat fun i ↦ aK (rat (k i) sK), (0 : Int) ≤ c5, n < 2 ^ 40] (fork (c6 != (0 : Int)) (leaf ret ([c4, int i64 c5, c3, int i64 c1, tuple [], tuple [], c7, nil, int i64 c6], [c2])) (af [-(2 : Int) ^ 63 ≤ c1 - c5 ∧ c1 - c5 < (2 : Int) ^ 63] (leaf normal ([c4, int i64 c5, c3, int i64 c1, nil, int i64 (c1 - c5), c7, nil, c7], [c2]))))) := by kernel_rfl
theorem MP {n p a : Nat} {k : Nat → Rat} {t : Rat} {i : Int} : aH T (wC p) [28] 60 nN [BM] ⟨aB nN (xl n k p a .nil i), [(0, tP t sK)], 2⟩ =
  let c6 : Int := (↑p : Int); let c5 : Int := (↑a : Int); let c4 : AV := int i64 (0 : Int); let c3 : AV := ptr 0 0 3 0 []; let c2 : AV := aj 3 n fun i ↦ rat (k i) 4096; let c1 : Nat × ay := ((0 : Nat), ay.mk false true 3 1 fun x ↦ rat t 4096); some (fork (decide (i ≤ c5)) (af [(0 : Nat) < 1, bM (fun i ↦ rat (k i) sK) n sK, sK ≤ sK, c6 = c6, (0 : Int) ≤ i, (0 : Int) ≤ c5, i + c6 + (1 : Int) < (↑n : Int), n < 2 ^ 40, c5 < (2 : Int) ^ 40, p ≤ 6, (1 : Nat) * 3 ≤ 2 ^ 24, (0 : Nat) < 1 ∧ 1 * ((56 : Nat) + 1) * 2 ≤ 2 ^ 47] (af [-(2 : Int) ^ 63 ≤ i + (1 : Int) ∧ i + (1 : Int) < (2 : Int) ^ 63] (leaf normal ([c2, int i64 c6, c3, int i64 c5, own 45058 3 0 1, int i64 (i + (1 : Int)), c4, nil, c4], [((45058 : Nat), ay.mk true true 3 1 fun i_1 ↦ nth [rat (nC (fun i ↦ aK (rat (k i) sK)) c5.toNat t p i.toNat) (SB p)] (rat 0 1) (i_1 + 0)), c1])))) (leaf (exit 0) ([c2, int i64 c6, c3, int i64 c5, nil, int i64 i, c4, nil, c4], [c1]))) := by kernel_rfl
theorem acF {n p a j : Nat} {k x : Nat → Rat} {t : Rat} {i : Int} : aH T (wC p) [28] 60 nN [BM] ⟨aB nN (xl n k p a (.own 1 3 0 (j + 1)) i), [(1, B4 (j + 1) x fun _ => SB p), (0, tP t sK)], 2⟩ =
  let c7 : Int := (↑p : Int); let c6 : Int := (↑a : Int); let c5 : AV := int i64 (0 : Int); let c4 : AV := ptr 0 0 3 0 []; let c3 : AV := aj 3 n fun i ↦ rat (k i) 4096; let c2 : Nat := j + 1; let c1 : Nat × ay := ((0 : Nat), ay.mk false true 3 1 fun x ↦ rat t 4096); let c8 : Nat := c2 + 1; some (fork (decide (i ≤ c6)) (af [(0 : Nat) < 1, bM (fun i ↦ rat (k i) sK) n sK, sK ≤ sK, c7 = c7, (0 : Int) ≤ i, (0 : Int) ≤ c6, i + c7 + (1 : Int) < (↑n : Int), n < 2 ^ 40, c6 < (2 : Int) ^ 40, p ≤ 6, (1 : Nat) * 3 ≤ 2 ^ 24, c8 * ((56 : Nat) + 1) * 2 ≤ 2 ^ 47] (af [-(2 : Int) ^ 63 ≤ i + (1 : Int) ∧ i + (1 : Int) < (2 : Int) ^ 63] (leaf normal ([c3, int i64 c7, c4, int i64 c6, own 45058 3 0 c8, int i64 (i + (1 : Int)), c5, nil, c5], [((45058 : Nat), ay.mk true true 3 c8 fun i_1 ↦ if i_1 < c2 then rat (x i_1) (SB p) else nth [rat (nC (fun i ↦ aK (rat (k i) sK)) c6.toNat t p i.toNat) (SB p)] (rat 0 1) (i_1 - c2 + 0)), c1])))) (leaf (exit 0) ([c3, int i64 c7, c4, int i64 c6, own 1 3 0 c2, int i64 i, c5, nil, c5], [((1 : Nat), ay.mk true true 3 c2 fun i ↦ rat (x i) (SB p)), c1]))) := by kernel_rfl
theorem aaj {n p a j : Nat} {k x : Nat → Rat} {t : Rat} {i : Int} : bW T (wC p) [] 60 vf [part zE [1,1,1,1,1]] ⟨aB nN (xl n k p a (.own 1 3 0 (j + 1)) i), [(1, B4 (j + 1) x fun _ => SB p), (0, tP t sK)], 2⟩ =
  let c1 : Int := (↑a : Int) - (↑p : Int); some (af [-(2 : Int) ^ 63 ≤ c1 ∧ c1 < (2 : Int) ^ 63] (leaf ret [int i64 c1, aj 3 (j + 1) fun i ↦ rat (x (i + 0)) (SB p), int i64 (0 : Int)])) := by kernel_rfl
theorem To : aW P (nG :: (iI, pg) :: iy) := eu (aC (zP x5) ja)
theorem GU {n : Nat} {k : Nat → Rat} {t : Rat} (hn : n < 2 ^ 40) : ∀ d i a, i + d + 1 < n → a < 2 ^ 40 → d ≤ 6 → ∀ K, az P sr K (w8 n k i d a t) [] (aF (.rat (nC k a t d i) (SB d)) [])
 | 0, i, a, hi, ha, hd, K => by
  refine bD (r := aF (.rat (nC k a t 0 i) (SB 0)) []) hT To hm FU rfl (of_decide_eq_true (by kernel_rfl)) rfl 60 VC (fun _ => ?_) K []
  simp only [aa.all, ax, beq_iff_eq, beq_eq_false_iff_ne, ne_eq]
  refine ⟨fun h => ⟨by omega, by omega, ?_⟩, fun h => ⟨by omega, by omega, ?_⟩⟩
  ·unfold nC; rw [if_pos (by omega)]; exact cr rfl (by decide)
  ·unfold nC; rw [if_neg (by omega)]; exact jI (k := 65535)
 | d + 1, i, a, hi, ha, hd, K => by
  have hΓ : aW P (FZ d) := eu (aC (dP fun ⟨⟨n', k'⟩, i', d', a', t', _⟩ K hn' => by
   obtain ⟨h1, h2, h3, h4, h5, h6, h7⟩ := hn'
   simp only at h1 h2 h3 h4 h5 h6
   have := GU (n := n') (k := k') (t := t') h5 d i'.toNat a'.toNat (by omega) (by omega) h7 K
   unfold w8 at this
   rw [Int.toNat_of_nonneg h2, Int.toNat_of_nonneg h3] at this
   rw [h1]
   exact this) (aC TL (aC (zP x5) ja)))
  refine bD (r := aF (.rat (nC k a t (d + 1) i) (SB (d + 1))) []) hT hΓ hm FU rfl (of_decide_eq_true (by kernel_rfl)) rfl 60 Q6 (fun _ => ?_) K []
  have h1 := HC (d := d)
  have h2 := KW (d := d)
  have h3 := KX (d := d) (by omega)
  have h4 : sV = 268435456 := rfl
  have h5 := Vo
  have h6 : sK = 4096 := rfl
  have h7 : n5 = 8193 := rfl
  simp only [aa.all, ax, lO, beq_eq_false_iff_ne, ne_eq, decide_eq_true_eq, decide_eq_false_iff_not, cond_false, Int.toNat_natCast, show ((i : Int) + ((d + 1 : Nat) : Int)).toNat = i + (d + 1) by omega, show ((i : Int) + ((d + 1 : Nat) : Int) + 1).toNat = i + (d + 2) by omega, show ((i : Int) + 1).toNat = i + 1 by omega]
  rw [nC]
  (repeat' with_reducible first | refine And.intro ?_ ?_ | intro _)
  all_goals first | omega | exact cI (Nat.le_refl _) | exact absurd ‹true = false› (by decide) | (rw [if_pos (by omega)]; exact jI (k := SB (d + 1) - 1)) | skip
  all_goals first | (rw [if_pos (by omega), show SB (d + 1) = SB (d + 1) - 1 + 1 by omega]; exact jI) | skip
  rw [if_neg (by omega)]
  exact cr rfl (by omega)
theorem Tt {p : Nat} : aW P (wC p) := eu (aC yh (aC (dP fun ⟨⟨n', k'⟩, i', d', a', t', _⟩ K hn' => by
 obtain ⟨h1, h2, h3, h4, h5, h6, h7⟩ := hn'
 simp only at h1 h2 h3 h4 h5 h6
 have := GU (n := n') (k := k') (t := t') h5 p i'.toNat a'.toNat (by omega) (by omega) h7 K
 unfold w8 at this
 rw [Int.toNat_of_nonneg h2, Int.toNat_of_nonneg h3] at this
 rw [h1]
 exact this) ja))
theorem Pe {n p : Nat} {k : Nat → Rat} {t : Rat} (h : Kn n p k) (hp6 : p ≤ 6) (hn : n < 2 ^ 40) (K : Nat) : az P rE K [ls k n, .int .i64 p, .rat t sK] [] (aF (Be n k p t) []) := by
 refine jy (r := aF (Be n k p t) []) hT Tt hm Vr rfl (of_decide_eq_true (by kernel_rfl)) rfl [1,1,1,1,0,1] (i := 0) (y := BM) (z := part zE [1,1,1,1,1]) (by kernel_rfl) (by kernel_rfl) (by kernel_rfl) (f1 := [21]) (f2 := [28]) (f3 := []) 60 nN 2
  (fun j : Nat => xl n k p (bT n k t) (match j with
   | 0 => .nil
   | _ + 1 => .own 1 3 0 j) ((bT n k t : Int) - p + j)) (fun j => match j with
   | 0 => [(0, tP t sK)]
   | _ + 1 => [(1, B4 j (fun j => nC k (bT n k t) t p (bT n k t - p + j)) fun _ => SB p), (0, tP t sK)])
  (fun j => j ≤ p + 1 ∧ ¬ bL n k t) (fun j => j = p + 1 ∧ ¬ bL n k t) (fun j => p + 1 - j) (fun _ => ⟨⟨_, OQ, ?_⟩, fun j ⟨hj, hin⟩ => ?_, fun j ⟨hj, hin⟩ => ?_⟩) K []
 ·simp only [aa.all, ax, lO, bne_iff_ne, ne_eq, bne_eq_false_iff_eq, Int.toNat_natCast]
  refine ⟨⟨by omega, cI (Nat.le_refl _), Nat.le_refl _, h, by omega, hn⟩, fun hout => ?_, fun hin => ?_⟩
  ·have h1 := T9 hout
   exact ⟨[.int .i64 0, .nil, .int .i64 (dr n k t)], by kernel_rfl, by rw [show dr n k t = 7 by unfold dr; rw [if_pos h1]]; exact T7 h1⟩
  ·have hin := C4 hin
   have hv := h.ve hin
   have hii : qL n k t = bT n k t := by unfold qL; rw [if_neg hin]
   simp only [hii]
   exact ⟨by omega, 0, ⟨by omega, hin⟩, [(0, 0)], rfl, by simp only [Int.natCast_zero, Int.add_zero]; rfl, rfl, aR rfl rfl (aN rfl rfl) trivial⟩
 ·have hv := h.ve hin
  cases j with
  | zero =>
   refine ⟨_, MP, ?_⟩
   simp only [aa.all, ax, lO, decide_eq_true_eq, decide_eq_false_iff_not, Int.toNat_natCast, Int.natCast_zero, Int.add_zero]
   refine ⟨fun h1 => ⟨⟨by omega, cI (Nat.le_refl _), Nat.le_refl _, trivial, by omega, by omega, by omega, hn, by omega, by omega, by omega, by omega⟩, by omega, 1, ⟨by omega, hin⟩, by dsimp only; omega, [(0, 0), (1, 45058)], rfl, rfl, rfl, bP rfl rfl rfl (fun i hi => Uo (y := fun j => nC k (bT n k t) t p (bT n k t - p + j)) (by rw [show ((bT n k t : Int) - p).toNat = bT n k t - p by omega]; rfl) (Nat.le_refl _) hi) (aR rfl rfl (aN rfl rfl) trivial)⟩, fun h1 => by omega⟩
  | succ j =>
   refine ⟨_, acF, ?_⟩
   simp only [aa.all, ax, lO, decide_eq_true_eq, decide_eq_false_iff_not, Int.toNat_natCast]
   refine ⟨fun h1 => ⟨⟨by omega, cI (Nat.le_refl _), Nat.le_refl _, trivial, by omega, by omega, by omega, hn, by omega, by omega, by omega, by omega⟩, by omega, j + 2, ⟨by omega, hin⟩, by dsimp only; omega, [(0, 0), (1, 45058)], rfl, by rw [show (bT n k t : Int) - p + ((j + 1 : Nat) : Int) + 1 = (bT n k t : Int) - p + ((j + 2 : Nat) : Int) by omega]; rfl, rfl,
    bP rfl rfl rfl (fun i hi => yM (y := fun j => nC k (bT n k t) t p (bT n k t - p + j)) (fun _ _ => rfl) (by rw [show ((bT n k t : Int) - p + ((j + 1 : Nat) : Int)).toNat = bT n k t - p + (j + 1) by omega]) (Nat.le_refl _) (Nat.le_refl _) hi) (aR rfl rfl (aN rfl rfl) trivial)⟩,
    fun h1 => ⟨rfl, j + 1, ⟨by omega, hin⟩, [(0, 0), (1, 1)], rfl, rfl, rfl, bP rfl rfl rfl (fun i hi => aN rfl rfl) (aR rfl rfl (aN rfl rfl) trivial)⟩⟩
 ·subst hj
  have hv := h.ve hin
  refine ⟨_, aaj, ?_⟩
  simp only [aa.all, ax]
  refine ⟨by omega, aau hin fun j hj => cr ?_ (KX hp6)⟩
  have h1 : ¬ t < k 0 := fun h => hin (.inl h)
  have h2 : ¬ k (n - 1) < t := fun h => hin (.inr h)
  have hat : At n k (bT n k t) := (h.xG (by grind) (by grind)).1.at_
  exact (Js hat hv.1 (by omega) j (by omega)).symm
theorem adC : ∀ K args pre r, Fj K args pre = some r → az P rE K args pre r := dP fun ⟨⟨n, k⟩, p, t, _⟩ K hn => by
 obtain ⟨h1, h2, h3, h4⟩ := hn
 have h3 : p ≤ 6 := h3
 have := Pe h1 (by simp only; omega) h4 K (t := t)
 rw [Int.toNat_of_nonneg h2] at this
 exact this
end Go.Am.B

/- ref10: Lift, Homogeneous, Drop, Eval. -/
namespace Go.Am.B
open Go Go.Am.N AV aa ag IntKind
theorem Ba : aP P wV qj (au qj) := aL Ti (by kernel_rfl) (by kernel_rfl) (by kernel_rfl)
theorem Ow : aP P BZ xP (au xP) := aL OS (by kernel_rfl) (by kernel_rfl) (by kernel_rfl)
theorem W5 : aP P l7 uJ (au uJ) := aL Wq (by kernel_rfl) (by kernel_rfl) (by kernel_rfl)
theorem IM : aP P mQ uL (au uL) := aL TC (by kernel_rfl) (by kernel_rfl) (by kernel_rfl)
theorem IN : aP P nY nK (au nK) := aL WO (by kernel_rfl) (by kernel_rfl) (by kernel_rfl)
noncomputable def EN : aQ := (zV, iq kR kR V8 mD) :: (wV, cG T iy [] 60 qj) :: iy
abbrev sH : Nat := 2147483648
abbrev sE : Nat := 4294967298
def gv (h : Pl) : V3 := ⟨((1 : Int) : Rat) / h.d * h.n.x, ((1 : Int) : Rat) / h.d * h.n.y, ((1 : Int) : Rat) / h.d * h.n.z⟩
def BC : Spec := dM (kC (E2 sH) kN) (fun a => .agg [vA (gv a.1) sE, .rat a.1.d sH]) fun _ => []
noncomputable def V4 : aQ := (wV, cG T iy [] 60 qj) :: iy
noncomputable def zN : aQ := nG :: (rE, Fj) :: (BZ, cG T V4 [] 60 xP) :: iy
abbrev w9 : List Nat := [2, 4, 5, 6, 8, 9]
abbrev xL (p i : Nat) (x : Nat → Rat) (j : Nat) : List AV := [.ptr 0 0 3 0 [], .ptr 1 0 12 0 [], .int .i64 ((i : Int) - p), .aj 3 (p + 1) (fun j => .rat (x j) sV), .ptr 2 0 12 0 [], .int .i64 j]
abbrev pz (h : Pl) (s : Nat) : ay := ⟨false, true, 12, 1, fun _ => jB h s⟩
abbrev CZ (c : Cu) (r : Nat) : ay := ⟨false, true, 3, 1, fun _ => cQ c sK r⟩
abbrev jk : Nat := 68719476736
abbrev iJ : Nat := 137438953474
noncomputable abbrev qR : Code := au uL
theorem VI {h : Pl} {s : Nat} : bA T EN [] 60 uJ (au uJ) ⟨aM 0 [jB h s], [], 0⟩ =
  let c9 : Prop := (0 : Int) ≤ (0 : Int); let c8 : Rat := (↑(1 : Int) : Rat) / h.d; let c7 : Int := (↑(4 : Nat) : Int); let c6 : Int := (↑(3 : Nat) : Int); let c4 : Nat := 2 ^ 41; let c3 : Int := i64.wrap ((0 : Int) + (1 : Int)); let c2 : Nat := Max.max 1 (aS (Int.natAbs (1 : Int))); let c1 : Prop := 0 < 1; let c11 : Int := i64.wrap (c3 + (1 : Int)); let c10 : Prop := (0 : Int) ≤ (3 : Int) ∧ (3 : Int) < c7; let c5 : Prop := (0 : Int) ≤ c11 ∧ c11 < c6; some (af [-(2 : Int) ^ 63 ≤ (1 : Int), (1 : Int) < (2 : Int) ^ 63, c10, c1, c2 < c4, s < c4, c9 ∧ (0 : Int) < c7, c1, (0 : Int) ≤ (1 : Int) ∧ (1 : Int) < c7, c1, (0 : Int) ≤ (2 : Int) ∧ (2 : Int) < c7, c1, c1, c9 ∧ (0 : Int) < c6, c1, c2 + s < c4, s < c4, c9 ∧ (0 : Int) < c6, c1, c1, (0 : Int) ≤ c3 ∧ c3 < c6, c1, c2 + s < c4, s < c4, (0 : Int) ≤ c3 ∧ c3 < c6, c1, c1, c5, c1, c2 + s < c4, s < c4, c5, c1, c1, c1, c1, c10, c1, c1] (af [c1] (leaf ret [agg [agg [rat (c8 * h.n.x) (c2 + s + s), rat (c8 * h.n.y) (c2 + s + s), rat (c8 * h.n.z) (c2 + s + s)], rat h.d s]]))) := by kernel_rfl
theorem abb {c : Cu} {t : Rat} {r : Nat} : aH T zN [] 60 w9 (before qR [1,1,1,0,1]) ⟨aM 0 [cQ c sK r, .rat t sK], [], 0⟩ =
  let c5 : Prop := 0 < 1; let c4 : Nat := bT c.n (fun i ↦ aK (rat (c.k i) sK)) t; let c3 : Prop := bL c.n (fun i ↦ aK (rat (c.k i) sK)) t; let c2 : AV := rat 0 1; let c1 : ay := ay.mk false true 12 1 fun x ↦ agg [c2, c2, c2, c2]; some (af [c5, c5, c5, bM (fun i ↦ rat (c.k i) sK) c.n sK, sK ≤ sK, Kn c.n c.p.toNat fun i ↦ aK (rat (c.k i) sK), (0 : Int) ≤ c.p, c.p ≤ (6 : Int), c.n < 2 ^ 40] (leaf normal ([ptr 0 0 (bk (cQ c sK r)).size 0 [], ptr 8192 0 12 0 [], int i64 (if c3 then (0 : Int) else (↑c4 : Int) - (↑c.p.toNat : Int)), aj 3 (if c3 then 0 else c.p.toNat + 1) fun j ↦ rat (vB (fun i ↦ aK (rat (c.k i) sK)) c4 t c.p.toNat j) 268435456, ptr 65536 0 12 0 [], int i64 (0 : Int)], [((65536 : Nat), c1), ((8192 : Nat), c1), ((0 : Nat), ay.mk false true (bk (cQ c sK r)).size 1 fun x ↦ agg [int i64 c.p, aj 3 c.n fun i ↦ rat (c.k i) 4096, aj 12 c.m fun i ↦ agg [agg [rat (c.f i).n.x r, rat (c.f i).n.y r, rat (c.f i).n.z r], rat (c.f i).d r]])]))) := by kernel_rfl
theorem WI {c : Cu} {h : Pl} {p i j s r : Nat} {x : Nat → Rat} : aH T zN [25] 60 w9 [part qR [1,1,1,0,1,0,0]] ⟨aB w9 (xL p i x j), [(2, pz h s), (1, pz ⟨⟨0, 0, 0⟩, 0⟩ 1), (0, CZ c r)], 3⟩ =
  let c35 : Nat := p + 1; let c30 : Int := (↑i : Int) - (↑p : Int); let c27 : AV := ptr 0 0 3 0 []; let c26 : Nat := sV + (r + r); let c25 : AV := ptr 2 0 12 0 []; let c24 : AV := ptr 1 0 12 0 []; let c21 : AV := rat 0 1; let c19 : Int := (↑j : Int); let c18 : Prop := (0 : Int) ≤ (0 : Int); let c15 : Int := (↑(3 : Nat) : Int); let c14 : Bool := 0 == 0; let c11 : Int := (↑(4 : Nat) : Int); let c9 : Int := (2 : Int) ^ 63; let c7 : Nat := 2 ^ 41; let c4 : Prop := 0 < 1; let c3 : Int := (0 : Int) + (1 : Int); let c37 : Rat := x c19.toNat; let c36 : Int := c19 + (1 : Int); let c33 : Prop := c18 ∧ (0 : Int) < c11; let c32 : Prop := c18 ∧ (0 : Int) < c15; let c31 : Prop := (0 : Int) ≤ i64.wrap c3 ∧ i64.wrap c3 < c15; let c29 : Prop := (0 : Int) ≤ c3 ∧ c3 < c11; let c20 : AV := aj 3 c35 fun j ↦ rat (x j) 268435456; let c17 : Int := i64.wrap (i64.wrap c3 + (1 : Int)); let c16 : Int := c3 + (1 : Int); let c12 : Prop := (0 : Int) ≤ c19 ∧ c19.toNat < c35; let c6 : List (Nat × ay) := [((1 : Nat), ay.mk false true 12 1 fun x ↦ agg [c21, c21, c21, c21]), ((0 : Nat), ay.mk false true 3 1 fun x ↦ agg [int i64 c.p, aj 3 c.n fun i ↦ rat (c.k i) 4096, aj 12 c.m fun i ↦ agg [agg [rat (c.f i).n.x r, rat (c.f i).n.y r, rat (c.f i).n.z r], rat (c.f i).d r]])]; let c5 : Int := c30 + c19; let c38 : Prop := (0 : Int) ≤ c17 ∧ c17 < c15; let c23 : Prop := (0 : Int) ≤ c16 ∧ c16 < c11; let c22 : Pl := c.f c5.toNat; let c8 : Int := c16 + (1 : Int); let c28 : Prop := (0 : Int) ≤ c8 ∧ c8 < c11; let c2 : AV := agg ((jB h s).kids.set (Int.toNat (0 : Int)) (bk (jE (h.n.x, s) (c37 * (c22.d * c22.n.x), c26)))); let c34 : AV := if c14 = true then c2 else jB h s; let c10 : AV := agg (c34.kids.set c3.toNat (bk (jE (h.n.y, s) (c37 * (c22.d * c22.n.y), c26)))); let c1 : AV := if c14 = true then c10 else c34; let c13 : AV := agg (c1.kids.set c16.toNat (bk (jE (h.n.z, s) (c37 * (c22.d * c22.n.z), c26)))); some (fork (decide (c19 < (↑c35 : Int))) (af [c4, -c9 ≤ c5 ∧ c5 < c9, (0 : Int) ≤ c5 ∧ c5.toNat < c.m, c4, c4, c4, c32, c4, r < c7, r < c7, c32, c4, c4, c31, c4, r < c7, r < c7, c31, c4, c4, c38, c4, r < c7, r < c7, c38, c4, c4, c4, c4, c4, c32, c4, (0 : Int) ≤ (1 : Int) ∧ (1 : Int) < c15, c4, (0 : Int) ≤ (2 : Int) ∧ (2 : Int) < c15, c4, c4, c4, c4, c4] (af [c33, c4, c12, c33, c4, sV < c7, r + r < c7, s < c7, c26 < c7, c33, c4] (af [-c9 ≤ c3 ∧ c3 < c9] (af [c29, c4, c12, c29, c4, sV < c7, r + r < c7, s < c7, c26 < c7, c29, c4] (af [-c9 ≤ c16 ∧ c16 < c9] (af [c23, c4, c12, c23, c4, sV < c7, r + r < c7, s < c7, c26 < c7, c23, c4] (af [-c9 ≤ c8 ∧ c8 < c9] (af [c28, c4, c12, c28, c4, sV < c7, r < c7, s < c7, sV + r < c7, c28, c4] (af [-c9 ≤ c8 + (1 : Int) ∧ c8 + (1 : Int) < c9] (af [-c9 ≤ c36 ∧ c36 < c9] (leaf normal ([c27, c24, int i64 c30, c20, c25, int i64 c36], ((2 : Nat), ay.mk false true 12 1 fun j ↦ if (j == 0) = true then agg ((if c14 = true then c13 else c1).kids.set c8.toNat (bk (jE (h.d, s) (c37 * c22.d, sV + r)))) else if (j == 0) = true then c13 else if (j == 0) = true then c10 else if (j == 0) = true then c2 else jB h s) :: c6)))))))))))) (leaf (exit 0) ([c27, c24, int i64 c30, c20, c25, int i64 c19], ((2 : Nat), ay.mk false true 12 1 fun x ↦ agg [rat h.n.x s, rat h.n.y s, rat h.n.z s, rat h.d s]) :: c6))) := by kernel_rfl
theorem M9 {c : Cu} {h : Pl} {p i j s r : Nat} {x : Nat → Rat} : bW T zN [] 60 uL [part qR [1,1,1,1]] ⟨aB w9 (xL p i x j), [(2, pz h s), (1, pz ⟨⟨0, 0, 0⟩, 0⟩ 1), (0, CZ c r)], 3⟩ =
  let c1 : Prop := 0 < 1; some (af [c1, c1] (af [c1] (leaf ret [agg [rat h.n.x s, rat h.n.y s, rat h.n.z s, rat h.d s]]))) := by kernel_rfl
def nu (c : Cu) (x : Nat → Rat) (b j : Nat) : Pl :=
 ⟨⟨bB j fun j => x j * ((c.f (b + j)).d * (c.f (b + j)).n.x), bB j fun j => x j * ((c.f (b + j)).d * (c.f (b + j)).n.y), bB j fun j => x j * ((c.f (b + j)).d * (c.f (b + j)).n.z)⟩, bB j fun j => x j * (c.f (b + j)).d⟩
def zH (r j : Nat) : Nat := 1 + j * (sV + (r + r) + 1)
def cq (c : Cu) (t : Rat) : Pl := nu c (vB c.k (bT c.n c.k t) t c.p.toNat) (bT c.n c.k t - c.p.toNat) (c.p.toNat + 1)
theorem Ya : aW P EN := aC (iN fun _ _ K hn => U4 hn.1 hn.2 K) (aC (cH hT ja hm Ba _ _) ja)
theorem GZ {h : Pl} {s s' : Nat} (hs : s < 2 ^ 40) (hs' : 1 + s + s ≤ s') (K : Nat) : az P l7 K [jB h s] [] (aF (.agg [vA (gv h) s', .rat h.d s]) []) := by
 refine bD (r := aF (.agg [vA (gv h) s', .rat h.d s]) []) hT Ya hm W5 rfl (of_decide_eq_true (by kernel_rfl)) rfl 60 (VI (s := s)) (fun _ => ?_) K []
 have e1 : i64.wrap ((0 : Int) + 1) = 1 := rfl
 have e2 : i64.wrap ((1 : Int) + 1) = 2 := rfl
 simp only [aa.all, ax, UH, e1, e2]
 refine ⟨?_, by omega, cN ⟨cN ⟨cr rfl (by omega), cr rfl (by omega), cr rfl (by omega), trivial⟩, .refl _, trivial⟩⟩
 (repeat' with_reducible refine And.intro ?_ ?_)
 all_goals omega
theorem FE : ∀ K args pre r, BC K args pre = some r → az P l7 K args pre r := dP fun ⟨h, _⟩ K _ => GZ (by decide) (by decide) K
def DF : Spec := dM (kC (E2 jk) kN) (fun a => .agg [vA (gv a.1) iJ, .rat a.1.d jk]) fun _ => []
theorem Ty : ∀ K args pre r, DF K args pre = some r → az P l7 K args pre r := dP fun ⟨h, _⟩ K _ => GZ (by decide) (by decide) K
theorem KN : aW P zN := eu (aC adC (aC (cH hT (aC (cH hT ja hm Ba _ _) ja) hm Ow _ _) ja))
theorem Ii {c : Cu} {t : Rat} {r s : Nat} (hr : 1 + 7 * (sV + (r + r) + 1) ≤ s) (hs : s < 2 ^ 40) (hk : Kn c.n c.p.toNat c.k) (h0 : 0 ≤ c.p) (h6 : c.p ≤ 6) (hn : c.n < 2 ^ 40) (hm2 : (c.m : Int) = (c.n : Int) - c.p - 1) (hin : ¬ bL c.n c.k t) (K : Nat) : az P mQ K [cQ c sK r, .rat t sK] [] (aF (jB (cq c t) s) []) := by
 refine fe (r := aF (jB (cq c t) s) []) hT IM rfl (of_decide_eq_true (by kernel_rfl)) rfl (fun _ cx h00 => ?_) K []
 have hkp := jO h00
 obtain ⟨q, hq⟩ : ∃ q, q = c.p.toNat := ⟨_, rfl⟩
 have hq2 : c.p = (q : Int) := by omega
 obtain ⟨i, hi⟩ : ∃ i, i = bT c.n c.k t := ⟨_, rfl⟩
 obtain ⟨x, hx⟩ : ∃ x, x = vB c.k i t q := ⟨_, rfl⟩
 have hiv := hk.ve hin
 rw [← hi, ← hq] at hiv
 have hV : cq c t = nu c x (i - q) (q + 1) := by unfold cq; rw [← hi, ← hq, ← hx]
 rw [hV]
 have h1 : sK = 4096 := rfl
 have h2 : sV = 268435456 := rfl
 have z0 : zH r 0 = 1 := by unfold zH; rw [Nat.zero_mul]
 have zS : ∀ j, zH r (j + 1) = zH r j + (sV + (r + r) + 1) := fun j => by unfold zH; rw [Nat.add_mul, Nat.one_mul]; omega
 have zle : ∀ j, j ≤ 7 → zH r j ≤ s := fun j hj => by
  have := Nat.mul_le_mul_right (sV + (r + r) + 1) hj
  unfold zH; omega
 refine aq.jx hT KN hm (x := qR) [1,1,1,0,1] (i := 0) (y := part qR [1,1,1,0,1,0,0]) (z := part qR [1,1,1,1]) (by kernel_rfl) (by kernel_rfl) (by kernel_rfl) IM.dst hkp (f1 := []) (f2 := [25]) 60 w9 3 (fun j : Nat => xL q i x j) (fun j => [(2, pz (nu c x (i - q) j) (zH r j)), (1, pz ⟨⟨0, 0, 0⟩, 0⟩ 1), (0, CZ c r)]) (fun j => j ≤ q + 1) (fun j => j = q + 1) (fun j => q + 1 - j) (fun _ => False) ⟨_, abb, ?_⟩ (fun j hj => ⟨_, WI, ?_⟩) (fun j hj => ?_) (fun _ _ h => h.elim)
 ·simp only [aa.all, ax]
  simp only [lO, show bL c.n (fun i => c.k i) t = bL c.n c.k t from rfl, if_neg hin]
  refine ⟨⟨by omega, by omega, by omega, cI (Nat.le_refl _), Nat.le_refl _, hk, h0, h6, hn⟩, 0, Nat.zero_le _, [(0, 0), (1, 8192), (2, 65536)], rfl, ?_, rfl, aR rfl rfl (aN rfl (by rw [z0]; rfl)) (aR rfl rfl (aN rfl rfl) (aR rfl rfl (aN rfl rfl) trivial))⟩
  show _ = (xL q i x 0).map _
  rw [hx, hq, hi]; rfl
 ·simp only [aa.all, ax, decide_eq_true_eq, decide_eq_false_iff_not, show ((i : Int) - q + j).toNat = i - q + j by omega, Int.toNat_natCast, show i64.wrap ((0 : Int) + 1) = 1 from rfl, show i64.wrap ((1 : Int) + 1) = 2 from rfl]
  have hz1 := zS j
  refine ⟨fun h => ?_, fun h => ⟨rfl, j, by omega, [(0, 0), (1, 1), (2, 2)], rfl, rfl, rfl, aR rfl rfl (aN rfl rfl) (aR rfl rfl (aN rfl rfl) (aR rfl rfl (aN rfl rfl) trivial))⟩⟩
  have hz := zle j (by omega)
  have hz2 := zle (j + 1) (by omega)
  (repeat' with_reducible refine And.intro ?_ ?_)
  all_goals first | omega | skip
  exact ⟨j + 1, by omega, by dsimp only; omega, [(0, 0), (1, 1), (2, 2)], rfl, rfl, rfl, aR rfl rfl (.inr ⟨rfl, cN ⟨cr rfl (by omega), cr rfl (by omega), cr rfl (by omega), cr rfl (by omega), trivial⟩⟩) (aR rfl rfl (aN rfl rfl) (aR rfl rfl (aN rfl rfl) trivial))⟩
 ·subst hj
  refine aq.jq ((aA.fin hT KN hm 60 M9 (by kernel_rfl) ?_).mono fun _ _ h => .inl h)
  simp only [aa.all, ax]
  have hz := zle (q + 1) (by omega)
  exact ⟨by omega, by omega, cN ⟨dN (by omega), dN (by omega), dN (by omega), dN (by omega), trivial⟩⟩
def Bl : Spec := dM (kC (lf sK sK) (kC (iG sK) kN)) (fun a => jB (cq a.1 a.2.1) sH) fun a => [Kn a.1.n a.1.p.toNat a.1.k, 0 ≤ a.1.p, a.1.p ≤ 6, a.1.n < 2 ^ 40, (a.1.m : Int) = (a.1.n : Int) - a.1.p - 1, ¬ bL a.1.n a.1.k a.2.1]
def KH : Spec := dM (kC (lf sK sE) (kC (iG sK) kN)) (fun a => jB (cq a.1 a.2.1) jk) fun a => [Kn a.1.n a.1.p.toNat a.1.k, 0 ≤ a.1.p, a.1.p ≤ 6, a.1.n < 2 ^ 40, (a.1.m : Int) = (a.1.n : Int) - a.1.p - 1, ¬ bL a.1.n a.1.k a.2.1]
noncomputable def Lr : aQ := sG :: (mA, r4) :: (mQ, KH) :: (l7, DF) :: []
noncomputable def Ge : aQ := sG :: (mA, r4) :: (mQ, Bl) :: (l7, BC) :: []
theorem Jf : ∀ K args pre r, Bl K args pre = some r → az P mQ K args pre r := dP fun ⟨c, t, _⟩ K hn => Ii (by decide) (by decide) hn.1 hn.2.1 hn.2.2.1 hn.2.2.2.1 hn.2.2.2.2.1 hn.2.2.2.2.2 K
theorem Yj : ∀ K args pre r, KH K args pre = some r → az P mQ K args pre r := dP fun ⟨c, t, _⟩ K hn => Ii (by decide) (by decide) hn.1 hn.2.1 hn.2.2.1 hn.2.2.2.1 hn.2.2.2.2.1 hn.2.2.2.2.2 K
theorem aaR : aW P Lr := dc (aC yh (aC Yj (aC Ty aT)))
theorem Mb : aW P Ge := dc (aC yh (aC Jf (aC FE aT)))
theorem ady {c : Cu} {t : Rat} : bA T Ge [18] 60 nK (au nK) ⟨aM 0 [cQ c sK sK, .rat t sK], [], 0⟩ =
  let c9 : Prop := c.n < 2 ^ 40; let c7 : Prop := bM (fun i ↦ rat (c.k i) sK) c.n sK; let c5 : Int := dr c.n (fun i ↦ aK (rat (c.k i) sK)) t; let c4 : AV := rat 0 1; let c3 : Nat := c.p.toNat; let c1 : Nat := bT c.n (fun i ↦ aK (rat (c.k i) sK)) t; let c10 : Nat := c1 - c3; let c8 : Nat := c3 + 1; let c6 : Prop := Kn c.n c3 fun i ↦ aK (rat (c.k i) sK); let c2 : Rat := (↑(1 : Int) : Rat) / bB c8 fun j ↦ vB (fun i ↦ aK (rat (c.k i) sK)) c1 t c3 j * aK (rat (c.f (c10 + j)).d sK); some (af [c7, sK ≤ sK, c6, (0 : Int) ≤ c.p, c9] (fork (c5 != (0 : Int)) (af [(0 : Nat) < 1] (leaf ret [agg [c4, c4, c4], int i64 c5])) (af [c7, gd (fun i ↦ bw (c.f i) sK) c.m sK, sK ≤ sK, c6, (0 : Int) ≤ c.p, c.p ≤ (6 : Int), c9, (↑c.m : Int) = (↑c.n : Int) - c.p - (1 : Int), ¬bL c.n (fun i ↦ aK (rat (c.k i) sK)) t, sH ≤ sH, sH ≤ sH, sH ≤ sH, sH ≤ sH] (af [(0 : Nat) < 1] (leaf ret [agg [rat (c2 * bB c8 fun j ↦ vB (fun i ↦ aK (rat (c.k i) sK)) c1 t c3 j * (aK (rat (c.f (c10 + j)).d sK) * aK (rat (c.f (c10 + j)).n.x sK))) 4294967298, rat (c2 * bB c8 fun j ↦ vB (fun i ↦ aK (rat (c.k i) sK)) c1 t c3 j * (aK (rat (c.f (c10 + j)).d sK) * aK (rat (c.f (c10 + j)).n.y sK))) 4294967298, rat (c2 * bB c8 fun j ↦ vB (fun i ↦ aK (rat (c.k i) sK)) c1 t c3 j * (aK (rat (c.f (c10 + j)).d sK) * aK (rat (c.f (c10 + j)).n.z sK))) 4294967298], int i64 (0 : Int)]))))) := by kernel_rfl
theorem Q4 {c : Cu} {t : Rat} : bA T Lr [18] 60 nK (au nK) ⟨aM 0 [cQ c sK sE, .rat t sK], [], 0⟩ =
  let c10 : Prop := c.n < 2 ^ 40; let c7 : Prop := bM (fun i ↦ rat (c.k i) sK) c.n sK; let c5 : Int := dr c.n (fun i ↦ aK (rat (c.k i) sK)) t; let c4 : AV := rat 0 1; let c3 : Nat := c.p.toNat; let c1 : Nat := bT c.n (fun i ↦ aK (rat (c.k i) sK)) t; let c9 : Nat := c1 - c3; let c8 : Nat := c3 + 1; let c6 : Prop := Kn c.n c3 fun i ↦ aK (rat (c.k i) sK); let c2 : Rat := (↑(1 : Int) : Rat) / bB c8 fun j ↦ vB (fun i ↦ aK (rat (c.k i) sK)) c1 t c3 j * aK (rat (c.f (c9 + j)).d sE); some (af [c7, sK ≤ sK, c6, (0 : Int) ≤ c.p, c10] (fork (c5 != (0 : Int)) (af [(0 : Nat) < 1] (leaf ret [agg [c4, c4, c4], int i64 c5])) (af [c7, gd (fun i ↦ bw (c.f i) sE) c.m sE, sK ≤ sK, c6, (0 : Int) ≤ c.p, c.p ≤ (6 : Int), c10, (↑c.m : Int) = (↑c.n : Int) - c.p - (1 : Int), ¬bL c.n (fun i ↦ aK (rat (c.k i) sK)) t, jk ≤ jk, jk ≤ jk, jk ≤ jk, jk ≤ jk] (af [(0 : Nat) < 1] (leaf ret [agg [rat (c2 * bB c8 fun j ↦ vB (fun i ↦ aK (rat (c.k i) sK)) c1 t c3 j * (aK (rat (c.f (c9 + j)).d sE) * aK (rat (c.f (c9 + j)).n.x sE))) 137438953474, rat (c2 * bB c8 fun j ↦ vB (fun i ↦ aK (rat (c.k i) sK)) c1 t c3 j * (aK (rat (c.f (c9 + j)).d sE) * aK (rat (c.f (c9 + j)).n.y sE))) 137438953474, rat (c2 * bB c8 fun j ↦ vB (fun i ↦ aK (rat (c.k i) sK)) c1 t c3 j * (aK (rat (c.f (c9 + j)).d sE) * aK (rat (c.f (c9 + j)).n.z sE))) 137438953474], int i64 (0 : Int)]))))) := by kernel_rfl
def dZ (c : Cu) (t : Rat) : V3 := if bL c.n c.k t then ⟨0, 0, 0⟩ else gv (cq c t)
def AJ : Spec := dM (kC (lf sK sK) (kC (iG sK) kN)) (fun a => .tuple [vA (dZ a.1 a.2.1) sE, .int .i64 (dr a.1.n a.1.k a.2.1)]) fun a => [Kn a.1.n a.1.p.toNat a.1.k, 0 ≤ a.1.p, a.1.p ≤ 6, a.1.n < 2 ^ 40, (a.1.m : Int) = (a.1.n : Int) - a.1.p - 1]
theorem GW : ∀ K args pre r, AJ K args pre = some r → az P nY K args pre r := dP fun ⟨c, t, _⟩ K hn => by
 obtain ⟨hk, h0, h6, hn, hm2⟩ := hn
 have hk : Kn c.n c.p.toNat c.k := hk
 have h6 : c.p ≤ 6 := h6
 have hm2 : (c.m : Int) = (c.n : Int) - c.p - 1 := hm2
 refine bD (r := aF (.tuple [vA (dZ c t) sE, .int .i64 (dr c.n c.k t)]) []) hT Mb hm IN rfl (of_decide_eq_true (by kernel_rfl)) rfl 60 ady (fun _ => ?_) K []
 simp only [aa.all, ax, lO, bne_iff_ne, bne_eq_false_iff_eq, ne_eq, show bL c.n (fun i => c.k i) t = bL c.n c.k t from rfl, show dr c.n (fun i => c.k i) t = dr c.n c.k t from rfl]
 refine ⟨⟨cI (Nat.le_refl _), Nat.le_refl _, hk, h0, hn⟩, fun hout => ?_, fun hin => ?_⟩
 ·have ho : bL c.n c.k t := by
   unfold dr at hout
   by_cases ho : bL c.n c.k t
   ·exact ho
   ·rw [if_neg ho] at hout; exact absurd rfl hout
  refine ⟨by omega, ?_, .refl _, trivial⟩
  unfold dZ
  rw [if_pos ho]
  exact cN ⟨dN (by decide), dN (by decide), dN (by decide), trivial⟩
 ·have hi := C4 hin
  refine ⟨⟨cI (Nat.le_refl _), lD (Nat.le_refl _), Nat.le_refl _, hk, h0, h6, hn, hm2, hi, by omega, by omega⟩, by omega, ?_, bq hin.symm, trivial⟩
  unfold dZ
  rw [if_neg hi]
  exact .refl _
def GX : Spec := dM (kC (lf sK sE) (kC (iG sK) kN)) (fun a => .tuple [vA (dZ a.1 a.2.1) iJ, .int .i64 (dr a.1.n a.1.k a.2.1)]) fun a => [Kn a.1.n a.1.p.toNat a.1.k, 0 ≤ a.1.p, a.1.p ≤ 6, a.1.n < 2 ^ 40, (a.1.m : Int) = (a.1.n : Int) - a.1.p - 1]
theorem OZ : ∀ K args pre r, GX K args pre = some r → az P nY K args pre r := dP fun ⟨c, t, _⟩ K hn => by
 obtain ⟨hk, h0, h6, hn, hm2⟩ := hn
 have hk : Kn c.n c.p.toNat c.k := hk
 have h6 : c.p ≤ 6 := h6
 have hm2 : (c.m : Int) = (c.n : Int) - c.p - 1 := hm2
 refine bD (r := aF (.tuple [vA (dZ c t) iJ, .int .i64 (dr c.n c.k t)]) []) hT aaR hm IN rfl (of_decide_eq_true (by kernel_rfl)) rfl 60 Q4 (fun _ => ?_) K []
 simp only [aa.all, ax, lO, bne_iff_ne, bne_eq_false_iff_eq, ne_eq, show bL c.n (fun i => c.k i) t = bL c.n c.k t from rfl, show dr c.n (fun i => c.k i) t = dr c.n c.k t from rfl]
 refine ⟨⟨cI (Nat.le_refl _), Nat.le_refl _, hk, h0, hn⟩, fun hout => ?_, fun hin => ?_⟩
 ·have ho : bL c.n c.k t := by
   unfold dr at hout
   by_cases ho : bL c.n c.k t
   ·exact ho
   ·rw [if_neg ho] at hout; exact absurd rfl hout
  refine ⟨by omega, ?_, .refl _, trivial⟩
  unfold dZ
  rw [if_pos ho]
  exact cN ⟨dN (by decide), dN (by decide), dN (by decide), trivial⟩
 ·have hi := C4 hin
  refine ⟨⟨cI (Nat.le_refl _), lD (Nat.le_refl _), Nat.le_refl _, hk, h0, h6, hn, hm2, hi, by omega, by omega⟩, by omega, ?_, bq hin.symm, trivial⟩
  unfold dZ
  rw [if_neg hi]
  exact .refl _
end Go.Am.B
