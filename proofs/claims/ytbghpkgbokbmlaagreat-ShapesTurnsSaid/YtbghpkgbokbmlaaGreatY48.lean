/- fM.Times, ref08.Times; fM.copied. -/
import Derived.Test.YtbghpkgbokbmlaaGreatY45
import Derived.Test.YtbghpkgbokbmlaaGreatC8
import Derived.Test.YtbghpkgbokbmlaaGreatZ2
import Derived.Test.YtbghpkgbokbmlaaGreatC2
set_option linter.unusedVariables false
namespace Go.Am.B
open Go Go.Am.N AV aa aj IntKind
theorem ND : aN P qZ vG (au vG) := aK Q3 (by kernel_rfl) (by kernel_rfl) (by kernel_rfl)
abbrev sJ : Nat := 4000
abbrev qw : List Nat := [0, 3, 5, 6]
abbrev rN (n : Nat) (k : Nat → Rat) (c i : Nat) : List AV := [ls k n, .ptr 0 0 3 0 [], .int .i64 c, .int .i64 i]
noncomputable abbrev vv : Code := au vG
theorem Qc {n : Nat} {k : Nat → Rat} {t : Rat} : aH T gB [] 60 qw (before vv [1,1,0,1]) ⟨aL 0 [ls k n, .rat t sK], [], 0⟩ =
  some (leaf normal ([ag 3 n fun i ↦ rat (k i) 4096, ptr 0 0 (br (rat t sK)).size 0 [], int i64 (0 : Int), int i64 (0 : Int)], [((0 : Nat), aB.mk false true (br (rat t sK)).size 1 fun x ↦ rat t 4096)])) := by kernel_rfl
theorem Uh {n c i : Nat} {k : Nat → Rat} {t : Rat} : aH T gB [10, 18] 60 qw [part vv [1,1,0,1,0,0]] ⟨az qw (rN n k c i), [(0, tP t sK)], 1⟩ =
  let c7 : Int := (↑c : Int) + (1 : Int); let c6 : Int := (↑i : Int); let c5 : AV := ptr 0 0 3 0 []; let c4 : AV := ag 3 n fun i ↦ rat (k i) 4096; let c3 : Int := (2 : Int) ^ 63; let c1 : Nat × aB := ((0 : Nat), aB.mk false true 3 1 fun x ↦ rat t 4096); let c2 : Int := c6 + (1 : Int); some (fork (decide (c6 < (↑n : Int))) (af [(0 : Int) ≤ c6 ∧ c6.toNat < n, (0 : Nat) < 1] (fork (decide (k c6.toNat = t)) (af [-c3 ≤ c7 ∧ c7 < c3] (af [-c3 ≤ c2 ∧ c2 < c3] (leaf normal ([c4, c5, int i64 c7, int i64 c2], [c1])))) (af [-c3 ≤ c2 ∧ c2 < c3] (leaf normal ([c4, c5, int i64 (↑c : Int), int i64 c2], [c1]))))) (leaf (exit 0) ([c4, c5, int i64 (↑c : Int), int i64 c6], [c1]))) := by kernel_rfl
theorem Yz {n c i : Nat} {k : Nat → Rat} {t : Rat} : bR T gB [] 60 vG [part vv [1,1,1]] ⟨az qw (rN n k c i), [(0, tP t sK)], 1⟩ =
  some (leaf ret [int i64 (↑c : Int)]) := by kernel_rfl
theorem Qs {k : Nat → Rat} {t : Rat} {i : Nat} (h : k i = t) : dc k t (i + 1) = dc k t i + 1 := by rw [dc, if_pos h]
theorem Lb {k : Nat → Rat} {t : Rat} {i : Nat} (h : ¬ k i = t) : dc k t (i + 1) = dc k t i := by rw [dc, if_neg h]; rfl
theorem Wv {n : Nat} {k : Nat → Rat} {t : Rat} (hn : n < 2 ^ 40) (K : Nat) : aA P qZ K [ls k n, .rat t sK] [] (aG (.int .i64 (dc k t n)) []) := by
 refine iJ (r := aG (.int .i64 (dc k t n)) []) hT xT hm ND rfl (of_decide_eq_true (by kernel_rfl)) rfl [1,1,0,1] (i := 0) (y := part vv [1,1,0,1,0,0]) (z := part vv [1,1,1]) (by kernel_rfl) (by kernel_rfl) (by kernel_rfl) (f1 := []) (f2 := [10, 18]) (f3 := []) 60 qw 1
  (fun i : Nat => rN n k (dc k t i) i) (fun _ => [(0, tP t sK)]) (fun i => i ≤ n) (fun i => i = n) (fun i => n - i) (fun _ => ⟨⟨_, Qc, ?_⟩, fun i hi => ⟨_, Uh, ?_⟩, fun i hi => ⟨_, Yz, ?_⟩⟩) K []
 ·simp only [aa.all, ax]
  exact ⟨0, Nat.zero_le _, [(0, 0)], rfl, rfl, rfl, aT rfl rfl (aP rfl rfl) trivial⟩
 ·have h1 := J1 (k := k) (t := t) (n := i)
  simp only [aa.all, ax, decide_eq_true_eq, decide_eq_false_iff_not, Int.toNat_natCast, Nat.add_zero]
  refine ⟨fun h2 => ⟨by omega, fun h3 => ⟨by omega, by omega, i + 1, by omega, by dsimp only; omega, [(0, 0)], rfl, ?_, rfl, aT rfl rfl (aP rfl rfl) trivial⟩, fun h3 => ⟨by omega, i + 1, by omega, by dsimp only; omega, [(0, 0)], rfl, ?_, rfl, aT rfl rfl (aP rfl rfl) trivial⟩⟩, fun h2 => ⟨rfl, i, by omega, [(0, 0)], rfl, rfl, rfl, aT rfl rfl (aP rfl rfl) trivial⟩⟩
  ·show _ = (rN n k (dc k t (i + 1)) (i + 1)).map _
   rw [Qs h3]; rfl
  ·show _ = (rN n k (dc k t (i + 1)) (i + 1)).map _
   rw [Lb h3]; rfl
 ·subst hi
  simp only [aa.all, ax]
  exact .refl _
abbrev XK : mS ((Nat × (Nat → Rat)) × Rat × Unit) := kC (kL sK) (kC (mM sK) kN)
noncomputable def FF : Spec := eA XK (fun a => .int .i64 (dc a.1.2 a.2.1 a.1.1)) fun a => [a.1.1 < 2 ^ 40]
theorem aat : ∀ K args pre r, FF K args pre = some r → aA P qZ K args pre r := eC fun ⟨⟨n, k⟩, t, _⟩ K hn => Wv hn K
end Go.Am.B

/- slices.CompactFunc of numbers; fM.Distinct. -/
namespace Go.Am.B
open Go Go.Am.N AV aa aj IntKind
end Go.Am.B

/- fM.Distinct, ref08.Distinct, slices.IsSortedFunc of numbers. -/
namespace Go.Am.B
open Go Go.Am.N AV aa aj IntKind
theorem Xs : aN P wM qf (au qf) := aK Oe (by kernel_rfl) (by kernel_rfl) (by kernel_rfl)
noncomputable abbrev nc : Code := au qf
abbrev kV : List Nat := [0, 3, 4]
abbrev kn (n : Nat) (k : Nat → Rat) (v : AV) (i : Int) : List AV := [bP k n sJ, v, .int .i64 i]
abbrev zh (m : Nat) (k : Nat → Rat) : aB := ⟨true, true, 3, m, fun i => .rat (k i) sJ⟩
theorem aai {n : Nat} {k : Nat → Rat} : aH T gB [] 60 kV (before nc [1,1,0,1]) ⟨aL 0 [bP k n sJ], [], 0⟩ =
  some (leaf normal ([ag 3 n fun i ↦ rat (k i) 4000, nil, int i64 (0 : Int)], [])) := by kernel_rfl
theorem Xf {n : Nat} {k : Nat → Rat} : aH T gB [8, 13, 25] 60 kV [part nc [1,1,0,1,0,0]] ⟨az kV (kn n k .nil 0), [], 1⟩ =
  let c6 : Int := (2 : Int) ^ 63; let c5 : Nat := Int.toNat (0 : Int); let c4 : Int := (0 : Int) - (1 : Int); let c3 : AV := ag 3 n fun i ↦ rat (k i) 4000; let c8 : Prop := (0 : Int) ≤ (0 : Int) ∧ c5 < n; let c2 : Prop := -c6 ≤ (0 : Int) + (1 : Int) ∧ (0 : Int) + (1 : Int) < c6; let c7 : aa (List AV × aC) := af [c2] (leaf normal ([c3, nil, int i64 (1 : Int)], [])); let c1 : aa (List AV × aC) := af [c8, (1 : Nat) * 3 ≤ 2 ^ 24, (0 : Nat) < 1 ∧ 1 * ((56 : Nat) + 1) * 2 ≤ 2 ^ 47] (af [c2] (leaf normal ([c3, own 102401 3 0 1, int i64 (1 : Int)], [((102401 : Nat), aB.mk true true 3 1 fun i ↦ nth [rat (k c5) sJ] (rat 0 1) (i + 0))]))); some (fork (decide ((0 : Int) < (↑n : Int))) (fork true (af [((0 : Int) == (0 : Int)) = true] (fork true c1 c7)) (af [((0 : Int) == (0 : Int)) = false, c8, -c6 ≤ c4 ∧ c4 < c6, (0 : Int) ≤ c4 ∧ c4.toNat < n] (fork (bif false then true else !decide (k c5 = k c4.toNat)) c1 c7))) (leaf (exit 0) ([c3, nil, int i64 (0 : Int)], []))) := by kernel_rfl
theorem Sh {n l i : Nat} {k x : Nat → Rat} : aH T gB [8, 13, 25] 60 kV [part nc [1,1,0,1,0,0]] ⟨az kV (kn n k (.own 0 3 0 (l + 1)) ((i + 1 : Nat) : Int)), [(0, zh (l + 1) x)], 1⟩ =
  let c6 : AV := ag 3 n fun i ↦ rat (k i) 4000; let c5 : Nat := l + 1; let c4 : Int := (2 : Int) ^ 63; let c2 : Int := (↑(i + 1) : Int); let c12 : Nat := c5 + 1; let c11 : Prop := (0 : Int) ≤ c2 ∧ c2.toNat < n; let c10 : AV := own 0 3 0 c5; let c9 : Int := c2 + (1 : Int); let c8 : Int := c2 - (1 : Int); let c7 : Nat × aB := ((0 : Nat), aB.mk true true 3 c5 fun i ↦ rat (x i) 4000); let c3 : aa (List AV × aC) := af [-c4 ≤ c9 ∧ c9 < c4] (leaf normal ([c6, c10, int i64 c9], [c7])); let c1 : aa (List AV × aC) := af [c11, (1 : Nat) * 3 ≤ 2 ^ 24, c12 * ((56 : Nat) + 1) * 2 ≤ 2 ^ 47] (af [-c4 ≤ c9 ∧ c9 < c4] (leaf normal ([c6, own 102401 3 0 c12, int i64 c9], [((102401 : Nat), aB.mk true true 3 c12 fun i ↦ if i < c5 then rat (x i) sJ else nth [rat (k c2.toNat) sJ] (rat 0 1) (i - c5 + 0))]))); some (fork (decide (c2 < (↑n : Int))) (fork false (af [(c2 == (0 : Int)) = true] (fork true c1 c3)) (af [(c2 == (0 : Int)) = false, c11, -c4 ≤ c8 ∧ c8 < c4, (0 : Int) ≤ c8 ∧ c8.toNat < n] (fork (bif false then true else !decide (k c2.toNat = k c8.toNat)) c1 c3))) (leaf (exit 0) ([c6, c10, int i64 c2], [c7]))) := by kernel_rfl
theorem RO {n : Nat} {k : Nat → Rat} : bR T gB [] 60 qf [part nc [1,1,1]] ⟨az kV (kn n k .nil 0), [], 1⟩ =
  some (leaf ret [nil]) := by kernel_rfl
theorem Zq {n l i : Nat} {k x : Nat → Rat} : bR T gB [] 60 qf [part nc [1,1,1]] ⟨az kV (kn n k (.own 0 3 0 (l + 1)) ((i + 1 : Nat) : Int)), [(0, zh (l + 1) x)], 1⟩ =
  some (leaf ret [ag 3 (l + 1) fun i ↦ rat (x (i + 0)) 4000]) := by kernel_rfl
noncomputable def Jk : Spec := eA (kC (kL sJ) kN) (fun a => ls (cz a.1.2 a.1.1) (bw a.1.2 a.1.1)) fun a => [a.1.1 < 2 ^ 40]
theorem Z7 : ∀ K args pre r, Jk K args pre = some r → aA P wM K args pre r := eC fun ⟨⟨n, k⟩, _⟩ K hn => by
 have hn : n < 2 ^ 40 := hn
 refine iJ (r := aG (ls (cz k n) (bw k n)) []) hT xT hm Xs rfl (of_decide_eq_true (by kernel_rfl)) rfl [1,1,0,1] (i := 0) (y := part nc [1,1,0,1,0,0]) (z := part nc [1,1,1]) (by kernel_rfl) (by kernel_rfl) (by kernel_rfl) (f1 := []) (f2 := [8, 13, 25]) (f3 := []) 60 kV 1
  (fun i : Nat => kn n k (match i with
   | 0 => .nil
   | _ + 1 => .own 0 3 0 (bw k i)) i) (fun i => match i with
   | 0 => []
   | _ + 1 => [(0, zh (bw k i) (cz k i))]) (fun i => i ≤ n) (fun i => i = n) (fun i => n - i) (fun _ => ⟨⟨_, aai, ?_⟩, fun i hi => ?_, fun i hi => ?_⟩) K []
 ·simp only [aa.all, ax]
  exact ⟨0, Nat.zero_le _, dn.vals rfl⟩
 ·cases i with
  | zero =>
   refine ⟨_, Xf, ?_⟩
   simp only [aa.all, ax, decide_eq_true_eq, decide_eq_false_iff_not]
   have e1 : bw k 1 = 1 := by simp [bw, fZ]
   have e2 : cz k 1 0 = k 0 := by simp [cz, bw, fZ, gE]
   (repeat' with_reducible first | refine And.intro ?_ ?_ | intro _)
   all_goals first | omega | decide | exact absurd ‹true = false› (by decide) | skip
   ·refine ⟨1, by omega, by dsimp only; omega, [(0, 102401)], rfl, ?_, rfl, b6 rfl rfl e1.symm (fun j hj => ?_) trivial⟩
    ·show _ = (kn n k (.own 0 3 0 (bw k 1)) 1).map _
     rw [e1]; rfl
    ·have hj : j = 0 := by rw [e1] at hj; omega
     subst hj
     exact aP rfl (by rw [e2]; rfl)
   ·exact ⟨rfl, 0, by omega, dn.vals rfl⟩
  | succ i =>
   obtain ⟨l, hl⟩ : ∃ l, bw k (i + 1) = l + 1 := ⟨bw k (i + 1) - 1, by have := (oa (k := k) (n := i)).1; omega⟩
   dsimp only
   rw [hl]
   refine ⟨_, Sh, ?_⟩
   simp only [aa.all, ax, decide_eq_true_eq, decide_eq_false_iff_not]
   have e3 : ((i + 1 : Nat) : Int).toNat = i + 1 := by omega
   have e4 : (((i + 1 : Nat) : Int) - 1).toNat = i := by omega
   have hle := zl (k := k) (n := i + 1)
   (repeat' with_reducible first | refine And.intro ?_ ?_ | intro _)
   all_goals first | omega | exact absurd ‹false = true› (by decide) | exact absurd ‹true = false› (by decide) | skip
   ·simp
    omega
   ·rename_i hne
    rw [e3, e4, cond_false, Bool.not_eq_true', decide_eq_false_iff_not] at hne
    have hnew : fZ k (i + 1) := E9.2 hne
    have e5 : bw k (i + 1 + 1) = l + 1 + 1 := by rw [abz hnew, hl]
    refine ⟨i + 2, by omega, by dsimp only; omega, [(0, 102401)], rfl, ?_, rfl, b6 rfl rfl e5.symm (fun j hj => ?_) trivial⟩
    ·show _ = (kn n k (.own 0 3 0 (bw k (i + 1 + 1))) ((i + 1 + 1 : Nat) : Int)).map _
     rw [e5]; rfl
    ·rw [e5] at hj
     refine Bb (y := cz k (i + 1 + 1)) (fun x hx => ?_) ?_ (Nat.le_refl _) (Nat.le_refl _) hj
     ·rw [show cz k (i + 1 + 1) = gE (cz k (i + 1)) (bw k (i + 1)) (k (i + 1)) from if_pos hnew, hl, gp (by omega)]
     ·rw [show cz k (i + 1 + 1) = gE (cz k (i + 1)) (bw k (i + 1)) (k (i + 1)) from if_pos hnew, hl, kG, e3]
   ·rename_i heq
    rw [e3, e4, cond_false, Bool.not_eq_false', decide_eq_true_eq] at heq
    have hold : ¬ fZ k (i + 1) := fun h => E9.1 h heq
    have e5 : bw k (i + 1 + 1) = l + 1 := by rw [Q0 hold, hl]
    refine ⟨i + 2, by omega, by dsimp only; omega, [(0, 0)], rfl, ?_, rfl, b6 rfl rfl e5.symm (fun j hj => aP rfl ?_) trivial⟩
    ·show _ = (kn n k (.own 0 3 0 (bw k (i + 1 + 1))) ((i + 1 + 1 : Nat) : Int)).map _
     rw [e5]; rfl
    ·show _ = AV.rat (cz k (i + 1 + 1) j) sJ
     rw [show cz k (i + 1 + 1) = cz k (i + 1) from if_neg hold]
   ·refine ⟨rfl, i + 1, by omega, [(0, 0)], rfl, ?_, rfl, b6 rfl rfl hl.symm (fun j hj => aP rfl rfl) trivial⟩
    show _ = (kn n k (.own 0 3 0 (bw k (i + 1))) ((i + 1 : Nat) : Int)).map _
    rw [hl]; rfl
 ·cases i with
  | zero =>
   refine ⟨_, RO, ?_⟩
   simp only [aa.all, ax]
   subst hi
   exact jB (by omega)
  | succ i =>
   obtain ⟨l, hl⟩ : ∃ l, bw k (i + 1) = l + 1 := ⟨bw k (i + 1) - 1, by have := (oa (k := k) (n := i)).1; omega⟩
   dsimp only
   rw [hl]
   refine ⟨_, Zq, ?_⟩
   simp only [aa.all, ax]
   subst hi
   exact (j0 (g := fun j => .rat (cz k (i + 1) j) sJ) hl.symm fun j hj => rfl).trans (gJ fun j hj => dY (by decide))
end Go.Am.B

/- fM.Check, ref08.Check. -/
namespace Go.Am.B
open Go Go.Am.N AV aa aj IntKind
theorem Gt : aN P vI kj (au kj) := aK So (by kernel_rfl) (by kernel_rfl) (by kernel_rfl)
noncomputable def pT : aO := (sZ, Aa) :: (wM, Jk) :: (qZ, FF) :: gr
noncomputable abbrev vi : Code := au kj
abbrev nM : List Nat := [4, 0, 1, 5]
abbrev AM (n : Nat) (k : Nat → Rat) (p : Int) (i : Nat) : List AV := [.int .i64 0, bP k n sJ, .int .i64 p, .int .i64 i]
abbrev m8 : List Nat := [4, 0, 1, 6, 7]
abbrev BE (n : Nat) (k : Nat → Rat) (p : Int) (d : Nat) (f : Nat → Rat) (i : Nat) : List AV := [.int .i64 0, bP k n sJ, .int .i64 p, bP f d sK, .int .i64 i]
noncomputable abbrev mq : Code := part vi [1,1,1,1,1]
theorem RT {n : Nat} {k : Nat → Rat} {p : Int} : aH T pT [11, 14, 20, 24] 60 nM (before vi [1,1,1,1,0,1]) ⟨aL 0 [bP k n sJ, .int .i64 p], [], 0⟩ =
  let c7 : Int := (↑n : Int) - p - (1 : Int); let c6 : AV := int i64 (1 : Int); let c5 : Bool := decide (p < (1 : Int)); let c4 : Int := i64.wrap (i64.wrap ((2 : Int) * p) + (2 : Int)); let c3 : AV := ag 3 n fun i ↦ rat (k i) 4000; let c2 : List AV := [c3, int i64 p, tuple []]; let c1 : aa (List AV × aC) := fork (decide ((↑n : Int) < c4)) (leaf ret (int i64 (5 : Int) :: c2, [])) (af [b9 (fun i ↦ rat (k i) sJ) n sK, n < 2 ^ 40, -(2 : Int) ^ 40 < p, p < (2 : Int) ^ 40] (fork (decide (c7 > (40 : Int))) (leaf ret (int i64 (2 : Int) :: c2, [])) (leaf normal ([int i64 (0 : Int), c3, int i64 p, c6], [])))); some (fork c5 (af [c5 = true] (fork true (leaf ret (c6 :: c2, [])) c1)) (af [c5 = false] (fork (bif false then true else decide (p > (6 : Int))) (leaf ret (c6 :: c2, [])) c1))) := by kernel_rfl
theorem ZC {n i : Nat} {k : Nat → Rat} {p : Int} : aH T pT [28, 41] 60 nM [part vi [1,1,1,1,0,1,0,0]] ⟨az nM (AM n k p i), [], 1⟩ =
  let c3 : Int := (↑i : Int); let c2 : AV := ag 3 n fun i ↦ rat (k i) 4000; let c1 : Int := i64.wrap (c3 - (1 : Int)); let c4 : Int := fH (k c3.toNat) (k c1.toNat); some (fork (decide (c3 < (↑n : Int))) (af [(0 : Int) ≤ c3 ∧ c3.toNat < n, (0 : Int) ≤ c1 ∧ c1.toNat < n] (fork (decide (c4 < (0 : Int))) (leaf ret ([int i64 (5 : Int), c2, int i64 p, int i64 c3], [])) (leaf normal ([int i64 (0 : Int), c2, int i64 p, int i64 (i64.wrap (c3 + (1 : Int)))], [])))) (leaf (exit 0) ([int i64 (0 : Int), c2, int i64 p, int i64 c3], []))) := by kernel_rfl
theorem Wg {n i : Nat} {k : Nat → Rat} {p : Int} : aH T pT [] 60 m8 (before mq [1,0,1]) ⟨az nM (AM n k p i), [], 1⟩ =
  some (af [b9 (fun i ↦ rat (k i) sJ) n sJ, n < 2 ^ 40] (leaf normal ([int i64 (0 : Int), ag 3 n fun i ↦ rat (k i) 4000, int i64 p, ag 3 (bw (fun i ↦ bg (rat (k i) sJ)) n) fun i ↦ rat (cz (fun i ↦ bg (rat (k i) sJ)) n i) 4096, int i64 (0 : Int)], []))) := by kernel_rfl
theorem XM {n d i : Nat} {k f : Nat → Rat} {p : Int} : aH T pT [47, 58, 65, 71, 77, 80, 87, 92] 60 m8 [part mq [1,0,1,0,0]] ⟨az m8 (BE n k p d f i), [], 1⟩ =
  let c33 : AV := ag 3 n fun i ↦ rat (k i) 4000; let c32 : AV := ag 3 d fun i ↦ rat (f i) 4096; let c26 : Prop := false = true; let c24 : Prop := true = true; let c17 : Prop := false = false; let c16 : Prop := true = false; let c7 : Int := (↑i : Int); let c6 : Int := i64.wrap (p + (1 : Int)); let c5 : Int := i64.wrap ((↑d : Int) - (1 : Int)); let c15 : List AV := [c33, int i64 p, c32, int i64 c7]; let c14 : aa (List AV × aC) := leaf normal ([int i64 (0 : Int), c33, int i64 p, c32, int i64 (i64.wrap (c7 + (1 : Int)))], []); let c13 : Bool := c7 == (0 : Int); let c12 : Bool := bif false then true else c7 == c5; let c10 : Bool := decide (c7 > (0 : Int)); let c8 : Bool := bif true then decide (c7 < c5) else false; let c3 : Int := (↑(dc (fun i ↦ bg (rat (k i) sJ)) (f c7.toNat) n) : Int); let c31 : aa (List AV × aC) := leaf ret (int i64 (5 : Int) :: c15, []); let c29 : Prop := c12 = true; let c28 : Prop := c12 = false; let c25 : List Prop := [c10 = false, c17]; let c22 : Prop := c13 = true; let c21 : List Prop := [c10 = true, c8 = true]; let c20 : List Prop := [c10 = true, c8 = false]; let c19 : Prop := c13 = false; let c18 : List Prop := [c10 = false, c26]; let c11 : Bool := bif true then c3 != c6 else false; let c9 : Bool := bif false then true else decide (c3 > c6); let c30 : Prop := c11 = true; let c27 : Prop := c11 = false; let c23 : Prop := c9 = false; let c4 : aa (List AV × aC) := fork true c31 c14; let c2 : aa (List AV × aC) := fork false c31 c14; let c1 : aa (List AV × aC) := fork (bif false then true else bif true then decide (c3 > p) else false) c31 c14; some (fork (decide (c7 < (↑d : Int))) (af [(0 : Int) ≤ c7 ∧ c7.toNat < d, b9 (fun i ↦ rat (k i) sJ) n sK, sK ≤ sK, n < 2 ^ 40] (fork c13 (fork true (fork c11 (fork true (af [c22, c24, c30, c24] c4) (fork c10 (fork c8 (af (c22 :: c24 :: c30 :: c16 :: c21) c1) (af (c22 :: c24 :: c30 :: c16 :: c20) c2)) (fork false (af (c22 :: c24 :: c30 :: c16 :: c18) c1) (af (c22 :: c24 :: c30 :: c16 :: c25) c2)))) (fork c9 (af [c22, c24, c27, c9 = true] c4) (fork c10 (fork c8 (af (c22 :: c24 :: c27 :: c23 :: c21) c1) (af (c22 :: c24 :: c27 :: c23 :: c20) c2)) (fork false (af (c22 :: c24 :: c27 :: c23 :: c18) c1) (af (c22 :: c24 :: c27 :: c23 :: c25) c2))))) (fork false (fork true (af [c22, c16, c26, c24] c4) (fork c10 (fork c8 (af (c22 :: c16 :: c26 :: c16 :: c21) c1) (af (c22 :: c16 :: c26 :: c16 :: c20) c2)) (fork false (af (c22 :: c16 :: c26 :: c16 :: c18) c1) (af (c22 :: c16 :: c26 :: c16 :: c25) c2)))) (fork c9 (af [c22, c16, c17, c9 = true] c4) (fork c10 (fork c8 (af (c22 :: c16 :: c17 :: c23 :: c21) c1) (af (c22 :: c16 :: c17 :: c23 :: c20) c2)) (fork false (af (c22 :: c16 :: c17 :: c23 :: c18) c1) (af (c22 :: c16 :: c17 :: c23 :: c25) c2)))))) (fork c12 (fork c11 (fork true (af [c19, c29, c30, c24] c4) (fork c10 (fork c8 (af (c19 :: c29 :: c30 :: c16 :: c21) c1) (af (c19 :: c29 :: c30 :: c16 :: c20) c2)) (fork false (af (c19 :: c29 :: c30 :: c16 :: c18) c1) (af (c19 :: c29 :: c30 :: c16 :: c25) c2)))) (fork c9 (af [c19, c29, c27, c9 = true] c4) (fork c10 (fork c8 (af (c19 :: c29 :: c27 :: c23 :: c21) c1) (af (c19 :: c29 :: c27 :: c23 :: c20) c2)) (fork false (af (c19 :: c29 :: c27 :: c23 :: c18) c1) (af (c19 :: c29 :: c27 :: c23 :: c25) c2))))) (fork false (fork true (af [c19, c28, c26, c24] c4) (fork c10 (fork c8 (af (c19 :: c28 :: c26 :: c16 :: c21) c1) (af (c19 :: c28 :: c26 :: c16 :: c20) c2)) (fork false (af (c19 :: c28 :: c26 :: c16 :: c18) c1) (af (c19 :: c28 :: c26 :: c16 :: c25) c2)))) (fork c9 (af [c19, c28, c17, c9 = true] c4) (fork c10 (fork c8 (af (c19 :: c28 :: c17 :: c23 :: c21) c1) (af (c19 :: c28 :: c17 :: c23 :: c20) c2)) (fork false (af (c19 :: c28 :: c17 :: c23 :: c18) c1) (af (c19 :: c28 :: c17 :: c23 :: c25) c2)))))))) (leaf (exit 2) (int i64 (0 : Int) :: c15, []))) := by kernel_rfl
theorem R8 {n d i : Nat} {k f : Nat → Rat} {p : Int} : bR T pT [95] 60 kj [part mq [1,1]] ⟨az m8 (BE n k p d f i), [], 1⟩ =
  some (fork (decide ((↑d : Int) < (2 : Int))) (leaf ret [int i64 (5 : Int)]) (leaf ret [int i64 (0 : Int)])) := by kernel_rfl
theorem Bt : aV P pT := aD J7 (aD Z7 (aD aat gP))
def um (n : Nat) (p : Int) : Prop := 1 ≤ p ∧ p ≤ 6 ∧ 2 * p + 2 ≤ (n : Int) ∧ (n : Int) - p - 1 ≤ 40
theorem Nw {n : Nat} {k : Nat → Rat} {p : Int} (hn : n < 2 ^ 40) (K : Nat) : aA P vI K [bP k n sJ, .int .i64 p] [] (aG (.int .i64 (eP n k p)) []) := by
 refine eZ (r := aG (.int .i64 (eP n k p)) []) hT Gt rfl (of_decide_eq_true (by kernel_rfl)) rfl (fun _ cx h0 => ?_) K []
 have hk := jM h0
 refine ak.wV hT Bt hm [1,1,1,1,0,1] (i := 0) (y := part vi [1,1,1,1,0,1,0,0]) (by kernel_rfl) (by kernel_rfl) Gt.dst hk (f1 := [11, 14, 20, 24]) (f2 := [28, 41]) 60 nM 1 (fun i : Nat => AM n k p i) (fun _ => []) (fun i => 1 ≤ i ∧ i ≤ n ∧ um n p ∧ ∀ j, j + 1 < i → k j ≤ k (j + 1)) (fun _ => um n p ∧ x7 n k) (fun i => n - i) (jz kj nM (.int .i64 (eP n k p))) ⟨_, RT, ?_⟩ (fun i ⟨h1, h2, h3, h4⟩ => ⟨_, ZC, ?_⟩) (fun i s' ⟨h1, h2⟩ hle => ?_) (fun v s' hv hs' => hv.fin hs')
 ·have r : ∀ {e : Int}, eP n k p = e → jz kj nM (.int .i64 (eP n k p)) ([.int .i64 e, bP k n sJ, .int .i64 p, .tuple []], []) := fun h => ⟨[.int .i64 _], by kernel_rfl, bn h.symm⟩
  by_cases hp : 1 ≤ p ∧ p ≤ 6
  ·have e1 : i64.wrap (i64.wrap (2 * p) + 2) = 2 * p + 2 := by rw [wrap_i64 (show -2 ^ 63 ≤ 2 * p by omega) (by omega)]; exact wrap_i64 (by omega) (by omega)
   simp only [aa.all, ax, decide_eq_true_eq, decide_eq_false_iff_not, Bool.not_eq_true', Bool.not_eq_false', cond_true, cond_false, Int.toNat_natCast, Int.toNat_zero, mX, e1]
   (repeat' with_reducible first | refine And.intro ?_ ?_ | intro _)
   all_goals first | exact absurd ‹true = false› (by decide) | exact absurd ‹false = true› (by decide) | omega | (exfalso; omega) | exact en (by decide) | assumption | exact r (ZQ (by omega) (by omega)) | exact r (Kp (by omega) (by omega) (by omega)) | exact ⟨1, ⟨Nat.le_refl _, by omega, ⟨by omega, by omega, by omega, by omega⟩, fun j hj => by omega⟩, dn.vals rfl⟩ | skip
   skip
  ·simp only [aa.all, ax, decide_eq_true_eq, decide_eq_false_iff_not, Bool.not_eq_true', Bool.not_eq_false', cond_true, cond_false, Int.toNat_natCast]
   (repeat' with_reducible first | refine And.intro ?_ ?_ | intro _)
   all_goals first | exact absurd ‹true = false› (by decide) | exact absurd ‹false = true› (by decide) | omega | (exfalso; omega) | exact r (XL (by omega)) | skip
   skip
 ·have hq := h3
  unfold um at hq
  have e1 : i64.wrap ((i : Int) + 1) = ((i + 1 : Nat) : Int) := by rw [wrap_i64 (by omega) (by omega)]; rfl
  have e2 : i64.wrap ((i : Int) - 1) = (i : Int) - 1 := wrap_i64 (by omega) (by omega)
  have e3 : ((i : Int) - 1).toNat = i - 1 := by omega
  simp only [aa.all, ax, decide_eq_true_eq, decide_eq_false_iff_not, Int.toNat_natCast, v7, e1, e2, e3]
  refine ⟨fun hi => ⟨by omega, fun hlt => ⟨[.int .i64 5], by kernel_rfl, bn (Cj (by omega) (by omega) (by omega) fun h => ?_).symm⟩, fun hge => ⟨i + 1, ⟨by omega, by omega, h3, fun j hj => ?_⟩, by dsimp only; omega, dn.vals rfl⟩⟩, fun hi => ⟨rfl, i, ⟨h3, fun j hj => h4 j (by omega)⟩, dn.vals rfl⟩⟩
  ·have := h.1 (i - 1) (by omega)
   rw [show i - 1 + 1 = i by omega] at this
   grind
  ·by_cases he : j + 1 = i
   ·subst he
    rw [Nat.add_sub_cancel] at hge
    grind
   ·exact h4 j (by omega)
 rw [show behind vi [1,1,1,1,0,1] = [mq] from by kernel_rfl]
 refine ay.weak rfl hle (ay.one ?_)
 refine ak.wV hT Bt hm (x := mq) [1,0,1] (i := 2) (y := part mq [1,0,1,0,0]) (by kernel_rfl) (by kernel_rfl) (by kernel_rfl) hk (f1 := []) (f2 := [47, 58, 65, 71, 77, 80, 87, 92]) 60 m8 1 (fun i : Nat => BE n k p (bw k n) (cz k n) i) (fun _ => []) (fun i => i ≤ bw k n ∧ ∀ j, j < i → ¬ lI n k p.toNat j) (fun _ => ∀ j, j < bw k n → ¬ lI n k p.toNat j) (fun i => bw k n - i) (jz kj m8 (.int .i64 (eP n k p))) ⟨_, Wg, ?_⟩ (fun i ⟨h3, h4⟩ => ⟨_, XM, ?_⟩) (fun i s' h3 hle => ?_) (fun v s' hv hs' => hv.fin hs')
 ·simp only [aa.all, ax]
  exact ⟨⟨en (Nat.le_refl _), hn⟩, 0, ⟨Nat.zero_le _, fun j hj => absurd hj (Nat.not_lt_zero j)⟩, dn.vals rfl⟩
 ·obtain ⟨q, rfl⟩ : ∃ q : Nat, p = (q : Int) := ⟨p.toNat, by have := h1.1; omega⟩
  have hq := h1
  unfold um at hq
  have hd := zl (k := k) (n := n)
  have e1 : i64.wrap ((q : Int) + 1) = ((q + 1 : Nat) : Int) := by rw [wrap_i64 (by omega) (by omega)]; rfl
  have e2 : i64.wrap ((i : Int) + 1) = ((i + 1 : Nat) : Int) := by rw [wrap_i64 (by omega) (by omega)]; rfl
  have e3 : i64.wrap ((bw k n : Int) - 1) = (bw k n : Int) - 1 := wrap_i64 (by omega) (by omega)
  have h4 : ∀ j, j < i → ¬ lI n k q j := fun j hj => by have := h4 j hj; rwa [Int.toNat_natCast] at this
  obtain ⟨c, hc⟩ : ∃ c, dc k (cz k n i) n = c := ⟨_, rfl⟩
  have hc' : dc (fun i => bg (rat (k i) sJ)) (cz k n i) n = c := hc
  have r : ∀ {v w x : AV}, (i = 0 ∨ i + 1 = bw k n) ∧ c ≠ q + 1 ∨ q + 1 < c ∨ 0 < i ∧ i + 1 < bw k n ∧ q < c → i < bw k n → jz kj m8 (.int .i64 (eP n k q)) ([.int .i64 5, v, w, x, .int .i64 i], []) := fun h hi => ⟨[.int .i64 5], by kernel_rfl, bn (Cj (by omega) (by omega) (by omega) fun hk => hk.2.2 i hi ((EI (by omega) h2 hi).1 (by rw [Int.toNat_natCast]; unfold lI; rw [hc]; exact h))).symm⟩
  have nx : ¬ ((i = 0 ∨ i + 1 = bw k n) ∧ c ≠ q + 1 ∨ q + 1 < c ∨ 0 < i ∧ i + 1 < bw k n ∧ q < c) → ∀ j, j < i + 1 → ¬ lI n k ((q : Int)).toNat j := fun h j hj => by
   rw [Int.toNat_natCast]
   by_cases he : j = i
   ·subst he; unfold lI; rw [hc]; exact h
   ·exact h4 j (by omega)
  simp only [aa.all, ax, decide_eq_true_eq, decide_eq_false_iff_not, Bool.not_eq_true', Bool.not_eq_false', cond_true, cond_false, Int.toNat_natCast, hc', e1, e2, e3, bne_iff_ne, bne_eq_false_iff_eq, ne_eq, beq_iff_eq, beq_eq_false_iff_ne]
  clear hc hc'
  (repeat' with_reducible first | refine And.intro ?_ ?_ | intro _)
  all_goals first
   | exact absurd ‹true = false› (by decide)
   | exact absurd ‹false = true› (by decide)
   | omega
   | (exfalso; omega)
   | exact en (by decide)
   | assumption
   | exact ⟨rfl, i, fun j hj => h4 j (by omega), dn.vals rfl⟩
   | exact r (by omega) (by omega)
   | exact ⟨i + 1, ⟨by omega, nx (by omega)⟩, by dsimp only; omega, dn.vals rfl⟩
   | skip
  skip
 ·rw [show behind mq [1,0,1] = [part mq [1,1]] from by kernel_rfl]
  refine ay.weak rfl hle ((ay.fin hT Bt hm 60 R8 (by kernel_rfl) ?_).mono fun _ _ h => .inl h)
  have hq := h1
  unfold um at hq
  have e : ∀ j, j < bw k n → ¬ oZ n k p.toNat (cz k n j) := fun j hj h => h3 j hj ((EI (by omega) h2 hj).2 h)
  have e2 := Qj (k := k) (n := n) (by omega) h2
  simp only [aa.all, ax, decide_eq_true_eq, decide_eq_false_iff_not]
  refine ⟨fun h => bn (Cj (by omega) (by omega) (by omega) fun hk => hk.2.1 (e2.1 (by omega))).symm, fun h => bn (RF (by omega) (by omega) (by omega) ⟨h2, fun h4 => h (by have := e2.2 h4; omega), e⟩).symm⟩
noncomputable def DP : Spec := eA (kC (kL sJ) (kC kI kN)) (fun a => .int .i64 (eP a.1.1 a.1.2 a.2.1)) fun a => [a.1.1 < 2 ^ 40]
theorem aa5 : ∀ K args pre r, DP K args pre = some r → aA P vI K args pre r := eC fun ⟨⟨n, k⟩, p, _⟩ K hn => Nw hn K
end Go.Am.B

/- Poles, lists of qm, curves, surfaces as arguments. -/
namespace Go.Am.B
open Go Go.Am.N AV
def iG : AV → Pl
 | .agg [.agg [x, y, z], w] => ⟨⟨bg x, bg y, bg z⟩, bg w⟩
 | _ => ⟨⟨0, 0, 0⟩, 0⟩
def iT (f : Nat → AV) (n s : Nat) : Prop := ∀ i, i < n → bu (f i) (cU (iG (f i)) s)
abbrev cB (f : Nat → Pl) (n s : Nat) : AV := .ag 12 n (fun i => cU (f i) s)
theorem wu {u v : Pl} {n k : Nat} (h : u = v) (hk : n ≤ k) : bu (cU u n) (cU v k) :=
 h ▸ cE ⟨kU rfl hk, bS rfl hk, trivial⟩
theorem oW {f : Nat → Pl} {n s s' : Nat} (h : s ≤ s') : iT (fun i => cU (f i) s) n s' := fun _ _ => wu rfl h
def Ch : AV → Option (Nat × (Nat → AV))
 | .ag 12 n f => some (n, f)
 | .nil => some (0, fun _ => .nil)
 | _ => none
theorem LK {v : AV} {n s : Nat} {f : Nat → AV} (h : Ch v = some (n, f)) (ha : iT f n s) : bu v (cB (fun i => iG (f i)) n s) := by
 unfold Ch at h
 split at h
 ·simp only [Option.some.injEq, Prod.mk.injEq] at h
  obtain ⟨rfl, rfl⟩ := h
  exact gJ ha
 ·simp only [Option.some.injEq, Prod.mk.injEq] at h
  obtain ⟨rfl, rfl⟩ := h
  exact jB (by omega)
 ·simp at h
def oy (s : Nat) : Kind (Nat × (Nat → Pl)) := ⟨fun v => match Ch v with
 | some (n, f) => some ((n, fun i => iG (f i)), [iT f n s])
 | none => none, fun a => cB a.2 a.1 s, fun {v a q} h hq => by
  split at h
  ·rename_i h1
   simp only [Option.some.injEq, Prod.mk.injEq] at h
   obtain ⟨rfl, rfl⟩ := h
   exact LK h1 hq
  ·simp at h⟩
abbrev jx (h : Pl) (s : Nat) : AV := .agg [.rat h.n.x s, .rat h.n.y s, .rat h.n.z s, .rat h.d s]
def XH (s : Nat) : Kind Pl := ⟨fun v => match v with
 | .agg [x, y, z, w] => match gA x, gA y, gA z, gA w with
  | some (x, a), some (y, b), some (z, c), some (w, d) => some (⟨⟨x, y, z⟩, w⟩, [a ≤ s, b ≤ s, c ≤ s, d ≤ s])
  | _, _, _, _ => none
 | _ => none, fun a => jx a s, fun {v a q} h hq => by
  split at h
  ·split at h
   ·rename_i h1 h2 h3 h4
    simp only [Option.some.injEq, Prod.mk.injEq] at h
    obtain ⟨rfl, rfl⟩ := h
    exact cE ⟨(ig h1).trans (bS rfl hq.1), (ig h2).trans (bS rfl hq.2.1), (ig h3).trans (bS rfl hq.2.2.1), (ig h4).trans (bS rfl hq.2.2.2), trivial⟩
   ·simp at h
  ·simp at h⟩
structure Cu where
 p : Int
 n : Nat
 k : Nat → Rat
 m : Nat
 f : Nat → Pl
abbrev er (c : Cu) (s r : Nat) : AV := .agg [.int .i64 c.p, bP c.k c.n s, cB c.f c.m r]
def yB (s r : Nat) : Kind Cu := ⟨fun v => match v with
 | .agg [p, k, f] => match kI.read p, (kL s).read k, (oy r).read f with
  | some (p, q1), some ((n, k), q2), some ((m, f), q3) => some (⟨p, n, k, m, f⟩, q1 ++ (q2 ++ q3))
  | _, _, _ => none
 | _ => none, fun a => er a s r, fun {v a q} h hq => by
  split at h
  ·split at h
   ·rename_i h1 h2 h3
    simp only [Option.some.injEq, Prod.mk.injEq] at h
    obtain ⟨rfl, rfl⟩ := h
    obtain ⟨q1, hq⟩ := dm.1 hq
    obtain ⟨q2, q3⟩ := dm.1 hq
    exact cE ⟨kI.ok h1 q1, (kL s).ok h2 q2, (oy r).ok h3 q3, trivial⟩
   ·simp at h
  ·simp at h⟩
def qB : AV → Nat
 | .ag _ n _ => n
 | _ => 0
def Ng : AV → Nat → AV
 | .ag _ _ f => f
 | _ => fun _ => .nil
def kZ (g : Nat → AV) (i j : Nat) : Pl := iG (Ng (g i) j)
abbrev HQ (f : Nat → Nat → Pl) (n m s : Nat) : AV := .ag 1 n (fun i => cB (f i) m s)
def nq (g : Nat → AV) (n s : Nat) : Prop := ∀ i, i < n → bu (g i) (cB (kZ g i) (qB (g 0)) s)
theorem Iw {f : Nat → Nat → Pl} {n m s s' : Nat} (h : s ≤ s') : nq (fun i => cB (f i) m s) n s' := fun _ _ => gJ fun _ _ => wu rfl h
def Dr (s : Nat) : Kind (Nat × Nat × (Nat → Nat → Pl)) := ⟨fun v => match v with
 | .ag 1 n g => some ((n, qB (g 0), kZ g), [nq g n s])
 | _ => none, fun a => HQ a.2.2 a.1 a.2.1 s, fun {v a q} h hq => by
  split at h
  ·simp only [Option.some.injEq, Prod.mk.injEq] at h
   obtain ⟨rfl, rfl⟩ := h
   exact gJ hq
  ·simp at h⟩
structure Sf where
 u : Int
 v : Int
 a : Nat
 ku : Nat → Rat
 b : Nat
 kv : Nat → Rat
 n : Nat
 m : Nat
 f : Nat → Nat → Pl
abbrev dL (x : Sf) (s r : Nat) : AV := .agg [.int .i64 x.u, .int .i64 x.v, bP x.ku x.a s, bP x.kv x.b s, HQ x.f x.n x.m r]
def uL (s r : Nat) : Kind Sf := ⟨fun v => match v with
 | .agg [u, w, a, b, f] => match kI.read u, kI.read w, (kL s).read a, (kL s).read b, (Dr r).read f with
  | some (u, q1), some (w, q2), some ((a, ku), q3), some ((b, kv), q4), some ((n, m, f), q5) => some (⟨u, w, a, ku, b, kv, n, m, f⟩, q1 ++ (q2 ++ (q3 ++ (q4 ++ q5))))
  | _, _, _, _, _ => none
 | _ => none, fun a => dL a s r, fun {v a q} h hq => by
  split at h
  ·split at h
   ·rename_i h1 h2 h3 h4 h5
    simp only [Option.some.injEq, Prod.mk.injEq] at h
    obtain ⟨rfl, rfl⟩ := h
    obtain ⟨q1, hq⟩ := dm.1 hq
    obtain ⟨q2, hq⟩ := dm.1 hq
    obtain ⟨q3, hq⟩ := dm.1 hq
    obtain ⟨q4, q5⟩ := dm.1 hq
    exact cE ⟨kI.ok h1 q1, kI.ok h2 q2, (kL s).ok h3 q3, (kL s).ok h4 q4, (Dr r).ok h5 q5, trivial⟩
   ·simp at h
  ·simp at h⟩
theorem Wy {rl : List (Nat × Nat)} {l i s s' s2 : Nat} {x y : Nat → Pl} {t : AV} {z : AV} (hx : ∀ i, i < l → x i = y i) (ht : bu t (cU (y l) s')) (hk : keys t = []) (h1 : s ≤ s2) (h2 : s' ≤ s2) (hi : i < l + 1) :
  gb rl (if i < l then cU (x i) s else nth [t] z (i - l + 0)) (cU (y i) s2) := by
 by_cases h : i < l
 ·rw [if_pos h, hx i h]; exact .inr ⟨rfl, wu rfl h1⟩
 ·have : i = l := by omega
  subst this
  rw [if_neg h, Nat.sub_self]
  exact .inr ⟨hk, ht.trans (wu rfl h2)⟩
end Go.Am.B

/- ref02: Valid, Valids, Bits; ref04.Valid; ref10: Short, shortPoles. -/
namespace Go.Am.B
open Go Go.Am.N AV aa aj IntKind
theorem KR : aN P yd r7 (au r7) := aK SM (by kernel_rfl) (by kernel_rfl) (by kernel_rfl)
theorem Nz : aN P mR sn (au sn) := aK XS (by kernel_rfl) (by kernel_rfl) (by kernel_rfl)
theorem Oh : aN P xw qK (au qK) := aK Y6 (by kernel_rfl) (by kernel_rfl) (by kernel_rfl)
theorem Rs : aN P sj qG (au qG) := aK UT (by kernel_rfl) (by kernel_rfl) (by kernel_rfl)
theorem Lj : aN P Bk xB (au xB) := aK Ue (by kernel_rfl) (by kernel_rfl) (by kernel_rfl)
theorem abE : aN P oq rW (au rW) := aK YR (by kernel_rfl) (by kernel_rfl) (by kernel_rfl)
theorem OD : aN P rz tI (au tI) := aK aaA (by kernel_rfl) (by kernel_rfl) (by kernel_rfl)
def IM : Spec := bp fun l => match l with
 | [.mag N] => some (aG (.bool true) [nl N < 2 ^ 40])
 | _ => none
def Xj : aO := [(yd, IM), (mC, wj), (pM, z5)]
def vZ : Spec := bp fun l => match l with
 | [.rat q n] => match Nat.ble n 8192 with
  | true => some (aG (.bool true) [])
  | false => none
 | _ => none
def y6 (q : Rat) : Nat := max (aQ q.num.natAbs) (aQ q.den)
def Ju : Spec := bp fun l => match l with
 | [.rat q n] => match Nat.ble n 8192 with
  | true => some (aG (.int .i64 ((min (y6 q) n : Nat) : Int)) [])
  | false => none
 | _ => none
noncomputable def wE : aO := [nG, (mR, vZ)]
noncomputable def xZ : aO := [nG, (xw, Ju)]
abbrev gv : List Nat := [2, 0, 3]
abbrev za (n : Nat) (k : Nat → Rat) (i : Nat) : List AV := [.bool false, ls k n, .int .i64 i]
abbrev AH (n : Nat) (k : Nat → Rat) (i : Nat) : List AV := [.bool false, bP k n 2048, .int .i64 i]
noncomputable abbrev uW : Code := au qG
noncomputable abbrev vN : Code := au rW
def AZ : Spec := eA (kC (kL 2048) kN) (fun _ => .bool true) fun a => [a.1.1 < 2 ^ 40]
noncomputable def yf : aO := [nG, (oq, AZ)]
abbrev Bf (n : Nat) (f : Nat → Pl) (i : Nat) : List AV := [.bool false, cB f n 2048, .int .i64 i]
noncomputable abbrev uM : Code := au tI
noncomputable def FT : aO := [(Bk, cL T [sG, (mR, vZ)] [] 60 xB)]
def GeB : aO := [(oO, Ci), (mC, wj)]
theorem Mb {N : Nat} : bA T [] [6] 60 r7 (au r7) ⟨aL 0 [.mag N], [], 0⟩ =
  let c2 : Bool := (↑(nl N) : Int) == (0 : Int); let c1 : Int := i64.wrap ((↑(nl N) : Int) - (1 : Int)); some (fork c2 (af [c2 = true] (leaf ret [AV.bool true])) (af [c2 = false, (0 : Int) ≤ c1 ∧ c1.toNat < nl N] (leaf ret [AV.bool (bif false then true else (↑(aq N c1.toNat) : Int) != (0 : Int))]))) := by kernel_rfl
theorem St {q : Rat} {n : Nat} : bA T Xj [19, 27, 32, 35, 42, 51] 60 sn (au sn) ⟨aL 0 [.rat q n], [], 0⟩ =
  let c19 : Bool := bif !true then true else !true; let c17 : Nat := Int.toNat (0 : Int); let c13 : Bool := decide (q < 0); let c11 : Nat := q.num.natAbs; let c8 : aa (List AV) := leaf ret [AV.bool false]; let c5 : Nat := 2 ^ 40; let c3 : Prop := 0 < 1; let c2 : Nat := if q.den = 1 then 0 else q.den; let c20 : Int := (↑(nl c2) : Int); let c16 : Prop := nl c2 < c5; let c15 : Prop := nl c11 < c5; let c14 : Bool := (↑(nl (c11.gcd q.den)) : Int) == (1 : Int); let c10 : Prop := (0 : Int) ≤ (0 : Int) ∧ c17 < nl c2; let c9 : Bool := bif c19 then true else false; let c6 : Bool := (↑(nl c11) : Int) == (0 : Int); let c4 : Bool := bif c19 then true else bif true then (↑(aq c2 c17) : Int) == (1 : Int) else false; let c22 : List Prop := [c3, c6 = true, c3, c13 = true]; let c18 : List Prop := [c3, c6 = true, c3, c13 = false, c3]; let c7 : Bool := c20 == (1 : Int); let c1 : aa (List AV) := af [c3, c3, nl c11 < 2 ^ 38, nl q.den < 2 ^ 38] (fork c14 (af [c14 = true, (0 : Int) ≤ (0 : Int) ∧ c17 < nl (c11.gcd q.den)] (leaf ret [AV.bool (bif true then (↑(aq (c11.gcd q.den) c17) : Int) == (1 : Int) else false)])) (af [c14 = false] c8)); let c21 : aa (List AV) := fork true c8 c1; let c12 : aa (List AV) := fork (bif false then true else bif true then bif false then true else decide (c20 > (0 : Int)) else false) c8 c1; some (fork c7 (fork c4 (af [c3, c15, c3, c16, c3, c7 = true, c3, c10, c4 = true] c21) (fork c6 (fork c13 (af (c3 :: c15 :: c3 :: c16 :: c3 :: (c7 = true) :: c3 :: c10 :: (c4 = false) :: c22) c21) (af (c3 :: c15 :: c3 :: c16 :: c3 :: (c7 = true) :: c3 :: c10 :: (c4 = false) :: c18) c12)) (af [c3, c15, c3, c16, c3, c7 = true, c3, c10, c4 = false, c3, c6 = false] (fork false c8 c1)))) (fork false (af [c3, c15, c3, c16, c3, c7 = false, c9 = true] c21) (fork c6 (fork c13 (af (c3 :: c15 :: c3 :: c16 :: c3 :: (c7 = false) :: (c9 = false) :: c22) c21) (af (c3 :: c15 :: c3 :: c16 :: c3 :: (c7 = false) :: (c9 = false) :: c18) c12)) (af [c3, c15, c3, c16, c3, c7 = false, c9 = false, c3, c6 = false] (fork false c8 c1))))) := by kernel_rfl
theorem RX {n : Nat} {k : Nat → Rat} : aH T wE [] 60 gv (before uW [1,0,1]) ⟨aL 0 [ls k n], [], 0⟩ =
  some (leaf normal ([AV.bool false, ag 3 n fun i ↦ rat (k i) 4096, int i64 (0 : Int)], [])) := by kernel_rfl
theorem Vr {n i : Nat} {k : Nat → Rat} : aH T wE [7] 60 gv [part uW [1,0,1,0,0]] ⟨az gv (za n k i), [], 1⟩ =
  let c2 : AV := ag 3 n fun i ↦ rat (k i) 4096; let c1 : Int := (↑i : Int); let c3 : Int := c1 + (1 : Int); some (fork (decide (c1 < (↑n : Int))) (af [(0 : Int) ≤ c1 ∧ c1.toNat < n] (af [-(2 : Int) ^ 63 ≤ c3 ∧ c3 < (2 : Int) ^ 63] (leaf normal ([AV.bool false, c2, int i64 c3], [])))) (leaf (exit 0) ([AV.bool false, c2, int i64 c1], []))) := by kernel_rfl
theorem Ms {n i : Nat} {k : Nat → Rat} : bR T wE [] 60 qG [part uW [1,1]] ⟨az gv (za n k i), [], 1⟩ =
  some (leaf ret [AV.bool true]) := by kernel_rfl
theorem Ui {n : Nat} {k : Nat → Rat} : aH T xZ [] 60 gv (before vN [1,0,1]) ⟨aL 0 [bP k n 2048], [], 0⟩ =
  some (leaf normal ([AV.bool false, ag 3 n fun i ↦ rat (k i) 2048, int i64 (0 : Int)], [])) := by kernel_rfl
theorem Vb {n i : Nat} {k : Nat → Rat} : aH T xZ [7, 200015] 60 gv [part vN [1,0,1,0,0]] ⟨az gv (AH n k i), [], 1⟩ =
  let c3 : AV := ag 3 n fun i ↦ rat (k i) 2048; let c1 : Int := (↑i : Int); let c4 : Int := c1 + (1 : Int); let c2 : Int := (↑(Min.min (y6 (k c1.toNat)) 2048) : Int); some (fork (decide (c1 < (↑n : Int))) (af [(0 : Int) ≤ c1 ∧ c1.toNat < n] (af [decide (c2 > (2048 : Int)) = false] (af [-(2 : Int) ^ 63 ≤ c4 ∧ c4 < (2 : Int) ^ 63] (leaf normal ([AV.bool false, c3, int i64 c4], []))))) (leaf (exit 0) ([AV.bool false, c3, int i64 c1], []))) := by kernel_rfl
theorem MG {n i : Nat} {k : Nat → Rat} : bR T xZ [] 60 rW [part vN [1,1]] ⟨az gv (AH n k i), [], 1⟩ =
  some (leaf ret [AV.bool true]) := by kernel_rfl
theorem T4 {n : Nat} {f : Nat → Pl} : aH T yf [] 60 gv (before uM [1,0,1]) ⟨aL 0 [cB f n 2048], [], 0⟩ =
  some (leaf normal ([AV.bool false, ag 12 n fun i ↦ agg [agg [rat (f i).n.x 2048, rat (f i).n.y 2048, rat (f i).n.z 2048], rat (f i).d 2048], int i64 (0 : Int)], [])) := by kernel_rfl
theorem Ma {n i : Nat} {f : Nat → Pl} : aH T yf [7] 60 gv [part uM [1,0,1,0,0]] ⟨az gv (Bf n f i), [], 1⟩ =
  let c4 : Int := (↑(3 : Nat) : Int); let c3 : Int := (↑i : Int); let c1 : AV := ag 12 n fun i ↦ agg [agg [rat (f i).n.x 2048, rat (f i).n.y 2048, rat (f i).n.z 2048], rat (f i).d 2048]; let c6 : Int := c3 + (1 : Int); let c5 : V3 := (f c3.toNat).n; let c2 : Prop := (0 : Int) ≤ c3 ∧ c3.toNat < n; some (fork (decide (c3 < (↑n : Int))) (af [c2, (0 : Int) ≤ (0 : Int) ∧ (0 : Int) < c4, c2, (0 : Int) ≤ (1 : Int) ∧ (1 : Int) < c4, c2, (0 : Int) ≤ (2 : Int) ∧ (2 : Int) < c4, c2, (4 : Nat) * 3 ≤ 2 ^ 24, b9 (fun i ↦ nth [rat c5.x 2048, rat c5.y 2048, rat c5.z 2048, rat (f c3.toNat).d 2048] (rat 0 1) (i + 0)) 4 2048, (4 : Nat) < 2 ^ 40] (af [-(2 : Int) ^ 63 ≤ c6 ∧ c6 < (2 : Int) ^ 63] (leaf normal ([AV.bool false, c1, int i64 c6], [])))) (leaf (exit 0) ([AV.bool false, c1, int i64 c3], []))) := by kernel_rfl
theorem X1 {n i : Nat} {f : Nat → Pl} : bR T yf [] 60 tI [part uM [1,1]] ⟨az gv (Bf n f i), [], 1⟩ =
  some (leaf ret [AV.bool true]) := by kernel_rfl
theorem UJ {q : Rat} {n : Nat} : bA T GeB [] 60 qK (au qK) ⟨aL 0 [.rat q n], [], 0⟩ =
  let c3 : Nat := q.num.natAbs; let c2 : Int := (↑(aQ q.den) : Int); let c1 : Int := (↑(aQ c3) : Int); some (af [(0 : Nat) < 1, nl c3 < 2 ^ 40, nl c3 = nl c3, (0 : Nat) < 1, nl q.den < 2 ^ 40, nl q.den = nl q.den] (leaf ret [int i64 (if c1 < c2 then c2 else c1)])) := by kernel_rfl
theorem MV : ∀ K args pre r, IM K args pre = some r → aA P yd K args pre r := by
 refine bF fun K args r hk hs _ => ?_
 split at hs
 ·rename_i N
  simp only [Option.some.injEq] at hs
  subst hs
  refine bD (r := aG (.bool true) [nl N < 2 ^ 40]) hT aU hm KR rfl (of_decide_eq_true (by kernel_rfl)) rfl 60 Mb (fun need => ?_) K []
  have need : nl N < 2 ^ 40 := need
  have e : nl N ≠ 0 → i64.wrap ((nl N : Int) - 1) = (nl N : Int) - 1 := fun h => wrap_i64 (by omega) (by omega)
  simp only [aa.all, ax, beq_iff_eq, beq_eq_false_iff_ne, ne_eq]
  refine ⟨fun h => ⟨h, .refl _⟩, fun h => ?_⟩
  have h0 : nl N ≠ 0 := by omega
  have hN : N ≠ 0 := fun h2 => h0 (by rw [h2]; rfl)
  rw [e h0, show ((nl N : Int) - 1).toNat = nl N - 1 by omega]
  refine ⟨⟨h, ⟨by omega, by omega⟩⟩, gd ?_⟩
  rw [cond_false, bne_iff_ne]
  have := xg hN
  omega
 ·simp at hs
theorem NH {q : Rat} {n : Nat} (hn : n ≤ 8192) (K : Nat) : aA P mR K [.rat q n] [] (aG (.bool true) []) := by
 refine gj fun ⟨hq, _⟩ => ?_
 have hq : Sz q n := hq
 refine bD (r := aG (.bool true) []) hT (aD MV (aD BU (aD Fq aU))) hm Nz rfl (of_decide_eq_true (by kernel_rfl)) rfl 60 St (fun _ => ?_) K []
 have hg : Nat.gcd q.num.natAbs q.den = 1 := q.reduced
 obtain ⟨d, hd⟩ : ∃ d, d = if q.den = 1 then 0 else q.den := ⟨_, rfl⟩
 have k1 := dB (n := n) hq.1 (by omega)
 have k2 := dB (n := n) hq.2 (by omega)
 have k3 : nl d ≤ nl q.den := by rw [hd]; exact fc I6
 have k4 : nl d = 1 → ¬ (aq d 0 : Int) = 1 := fun h1 h2 => by
  have h3 : d < 2 ^ 32 := by have := cj.1 (show nl d ≤ 1 by omega); simpa using this
  have h4 : aq d 0 = d := by unfold aq; simp; omega
  rw [h4] at h2
  have h5 : d = 1 := by omega
  rw [hd] at h5
  split at h5 <;> omega
 have k5 : nl q.num.natAbs = 0 → ¬ q < 0 ∧ nl d = 0 := fun h1 => by
  have h2 : q.num.natAbs = 0 := by
   by_cases h : q.num.natAbs = 0
   ·exact h
   ·unfold nl at h1; rw [if_neg h] at h1; omega
  have h3 : q = 0 := Rat.num_eq_zero.1 (by omega)
  subst h3
  rw [hd]
  exact ⟨by decide, by decide⟩
 simp only [aa.all, ax, hg, ← hd, show nl 1 = 1 from by decide, show aq 1 0 = 1 from by decide, Int.toNat_zero]
 by_cases h7 : nl d = 1
 ·have h4 := k4 h7
  have h6 : nl q.num.natAbs ≠ 0 := fun h => by have := (k5 h).2; omega
  simp [h7, h4, h6]
  exact ⟨by omega, ⟨by omega, by omega⟩, .refl _⟩
 ·by_cases h6 : nl q.num.natAbs = 0
  ·obtain ⟨h8, h9⟩ := k5 h6
   simp [h9, h6, h8]
   exact ⟨by omega, .refl _⟩
  ·simp [h7, h6]
   exact ⟨fun h => absurd h (by omega), fun h => ⟨⟨by omega, by omega, h⟩, ⟨by omega, by omega⟩, .refl _⟩⟩
theorem Ae : ∀ K args pre r, vZ K args pre = some r → aA P mR K args pre r := by
 refine bF fun K args r hk hs _ => ?_
 split at hs
 ·split at hs
  ·rename_i hb
   simp only [Option.some.injEq] at hs
   subst hs
   exact NH (Nat.le_of_ble_eq_true hb) K
  ·simp at hs
 ·simp at hs
theorem X8 : ∀ K args pre r, Ju K args pre = some r → aA P xw K args pre r := by
 refine bF fun K args r hk hs _ => ?_
 split at hs
 ·rename_i q n
  split at hs
  ·rename_i hb
   have hn := Nat.le_of_ble_eq_true hb
   simp only [Option.some.injEq] at hs
   subst hs
   refine gj fun ⟨hq, _⟩ => ?_
   have hq : Sz q n := hq
   refine bD (r := aG (.int .i64 ((min (y6 q) n : Nat) : Int)) []) hT (aD JG (aD BU aU)) hm Oh rfl (of_decide_eq_true (by kernel_rfl)) rfl 60 UJ (fun _ => ?_) K []
   have n1 := dB (n := n) hq.1 (by omega)
   have n2 := dB (n := n) hq.2 (by omega)
   have b1 := gh.2 hq.1
   have b2 := gh.2 hq.2
   simp only [aa.all, ax]
   refine ⟨⟨by omega, by omega, trivial, by omega, by omega, trivial⟩, bn ?_⟩
   unfold y6
   split <;> omega
  ·simp at hs
 ·simp at hs
theorem Va : aV P wE := eF (aD Ae aU)
theorem ZG : aV P xZ := eF (aD X8 aU)
theorem Q1 {n : Nat} {k : Nat → Rat} (hn : n < 2 ^ 40) (K : Nat) : aA P sj K [ls k n] [] (aG (.bool true) []) := by
 refine iJ (r := aG (.bool true) []) hT Va hm Rs rfl (of_decide_eq_true (by kernel_rfl)) rfl [1,0,1] (i := 0) (y := part uW [1,0,1,0,0]) (z := part uW [1,1]) (by kernel_rfl) (by kernel_rfl) (by kernel_rfl) (f1 := []) (f2 := [7]) (f3 := []) 60 gv 1
  (fun i : Nat => za n k i) (fun _ => []) (fun i => i ≤ n) (fun _ => True) (fun i => n - i) (fun _ => ⟨⟨_, RX, ?_⟩, fun i hi => ⟨_, Vr, ?_⟩, fun i hi => ⟨_, Ms, ?_⟩⟩) K []
 ·simp only [aa.all, ax]
  exact ⟨0, Nat.zero_le _, dn.vals rfl⟩
 ·simp only [aa.all, ax, decide_eq_true_eq, decide_eq_false_iff_not]
  exact ⟨fun h => ⟨by omega, by omega, i + 1, by omega, by dsimp only; omega, dn.vals rfl⟩, fun h => ⟨rfl, i, trivial, dn.vals rfl⟩⟩
 ·simp only [aa.all, ax]
  exact .refl _
def Io : Spec := eA (kC (kL sK) kN) (fun _ => .bool true) fun a => [a.1.1 < 2 ^ 40]
theorem Vv : ∀ K args pre r, Io K args pre = some r → aA P sj K args pre r := eC fun ⟨⟨n, k⟩, _⟩ K hn => Q1 hn K
theorem MO {n : Nat} {k : Nat → Rat} (hn : n < 2 ^ 40) (K : Nat) : aA P oq K [bP k n 2048] [] (aG (.bool true) []) := by
 refine iJ (r := aG (.bool true) []) hT ZG hm abE rfl (of_decide_eq_true (by kernel_rfl)) rfl [1,0,1] (i := 0) (y := part vN [1,0,1,0,0]) (z := part vN [1,1]) (by kernel_rfl) (by kernel_rfl) (by kernel_rfl) (f1 := []) (f2 := [7, 200015]) (f3 := []) 60 gv 1
  (fun i : Nat => AH n k i) (fun _ => []) (fun i => i ≤ n) (fun _ => True) (fun i => n - i) (fun _ => ⟨⟨_, Ui, ?_⟩, fun i hi => ⟨_, Vb, ?_⟩, fun i hi => ⟨_, MG, ?_⟩⟩) K []
 ·simp only [aa.all, ax]
  exact ⟨0, Nat.zero_le _, dn.vals rfl⟩
 ·simp only [aa.all, ax, decide_eq_true_eq, decide_eq_false_iff_not]
  exact ⟨fun h => ⟨by omega, by omega, by omega, i + 1, by omega, by dsimp only; omega, dn.vals rfl⟩, fun h => ⟨rfl, i, trivial, dn.vals rfl⟩⟩
 ·simp only [aa.all, ax]
  exact .refl _
theorem GK : ∀ K args pre r, AZ K args pre = some r → aA P oq K args pre r := eC fun ⟨⟨n, k⟩, _⟩ K hn => MO hn K
theorem YS : aV P yf := eF (aD GK aU)
theorem TV {n : Nat} {f : Nat → Pl} (hn : n < 2 ^ 40) (K : Nat) : aA P rz K [cB f n 2048] [] (aG (.bool true) []) := by
 refine iJ (r := aG (.bool true) []) hT YS hm OD rfl (of_decide_eq_true (by kernel_rfl)) rfl [1,0,1] (i := 0) (y := part uM [1,0,1,0,0]) (z := part uM [1,1]) (by kernel_rfl) (by kernel_rfl) (by kernel_rfl) (f1 := []) (f2 := [7]) (f3 := []) 60 gv 1
  (fun i : Nat => Bf n f i) (fun _ => []) (fun i => i ≤ n) (fun _ => True) (fun i => n - i) (fun _ => ⟨⟨_, T4, ?_⟩, fun i hi => ⟨_, Ma, ?_⟩, fun i hi => ⟨_, X1, ?_⟩⟩) K []
 ·simp only [aa.all, ax]
  exact ⟨0, Nat.zero_le _, dn.vals rfl⟩
 ·simp only [aa.all, ax, decide_eq_true_eq, decide_eq_false_iff_not]
  exact ⟨fun h => ⟨⟨by omega, by omega, by omega, by omega, by omega, by omega, by omega, by omega, fun j hj => by
   match j, hj with
   | 0, _ | 1, _ | 2, _ | 3, _ => exact .refl _, by omega⟩, by omega, i + 1, by omega, by dsimp only; omega, dn.vals rfl⟩, fun h => ⟨rfl, i, trivial, dn.vals rfl⟩⟩
 ·simp only [aa.all, ax]
  exact .refl _
def IZ : Spec := eA (kC (oy 2048) kN) (fun _ => .bool true) fun a => [a.1.1 < 2 ^ 40]
theorem Kj : ∀ K args pre r, IZ K args pre = some r → aA P rz K args pre r := eC fun ⟨⟨n, f⟩, _⟩ K hn => TV hn K
theorem We : aV P FT := aD (cV hT (cQ (aD Ae aU)) hm Lj _ _) aU
end Go.Am.B

/- ref09: part, function, Values. -/
namespace Go.Am.B
open Go Go.Am.N AV aa aj IntKind
theorem YQ : aN P wB vH (au vH) := aK LO (by kernel_rfl) (by kernel_rfl) (by kernel_rfl)
theorem JY : aN P vL mF (au mF) := aK Sg (by kernel_rfl) (by kernel_rfl) (by kernel_rfl)
theorem La : aN P uS rm (au rm) := aK Ol (by kernel_rfl) (by kernel_rfl) (by kernel_rfl)
def Dd : aO := (s9, gF kR kR BD mz) :: iN
abbrev nO : Nat := 8193
def Jm : Spec := eA (kC (mM nO) (kC (mM nO) kN)) (fun a => .rat (a.1 / a.2.1) sF) fun _ => []
theorem U2 {a b : Rat} {n : Nat} : bA T Dd [] 60 vH (au vH) ⟨aL 0 [.rat a n, .rat b n], [], 0⟩ =
  let c2 : Prop := n < 2 ^ 41; let c1 : Prop := 0 < 1; some (af [c1, c1, c2, c2, c1] (af [c1, c1] (af [c1] (leaf ret [rat (a / b) (n + n)])))) := by kernel_rfl
theorem Vg : aV P Dd := aD (hH fun _ _ K hn => Jj hn.1 hn.2 K) jK
theorem VL : ∀ K args pre r, Jm K args pre = some r → aA P wB K args pre r := eC fun ⟨a, b, _⟩ K _ => by
 refine bD (r := aG (.rat (a / b) sF) []) hT Vg hm YQ rfl (of_decide_eq_true (by kernel_rfl)) rfl 60 U2 (fun _ => ?_) K []
 simp only [aa.all, ax]
 have h1 : nO = 8193 := rfl
 (repeat' with_reducible refine And.intro ?_ ?_)
 all_goals first | omega | exact (bS rfl (show nO + nO ≤ sF by decide))
def Dn (d : Nat) : Spec := eA (kC (kL sK) (kC kI (kC kI (kC kI (kC (mM sK) kN))))) (fun a => .rat (nC a.1.2 a.2.2.2.1.toNat a.2.2.2.2.1 d a.2.1.toNat) (SB d)) fun a => [a.2.2.1 = d, 0 ≤ a.2.1, 0 ≤ a.2.2.2.1, a.2.1 + d + 1 < a.1.1, a.1.1 < 2 ^ 40, a.2.2.2.1 < 2 ^ 40, d ≤ 6]
def I3 (d : Nat) : aO := nG :: (vL, Dn d) :: (wB, Jm) :: (ir, oF) :: iN
abbrev rC (n : Nat) (k : Nat → Rat) (i d a : Nat) (t : Rat) : List AV := [ls k n, .int .i64 i, .int .i64 d, .int .i64 a, .rat t sK]
theorem OV {n i a : Nat} {k : Nat → Rat} {t : Rat} : bA T (nG :: (ir, oF) :: iN) [17] 60 mF (au mF) ⟨aL 0 (rC n k i 0 a t), [], 0⟩ =
  let c1 : List Prop := [(0 : Nat) < 1]; some (fork ((↑i : Int) == (↑a : Int)) (af c1 (af c1 (leaf ret [rat (↑(1 : Int) : Rat) 1]))) (af c1 (af c1 (leaf ret [agg [AV.bool false, mag 0, mag 0]])))) := by kernel_rfl
theorem Vw {n i d a : Nat} {k : Nat → Rat} {t : Rat} : bA T (I3 d) [200014, 23, 29] 60 mF (au mF) ⟨aL 0 (rC n k i (d + 1) a t), [], 0⟩ =
  let c22 : Prop := sK + sK + 1 ≤ nO; let c21 : Int := (↑d : Int); let c20 : Prop := n < 2 ^ 40; let c15 : Prop := b9 (fun i ↦ rat (k i) sK) n sK; let c14 : Int := (↑(d + 1) : Int); let c10 : Int := (↑a : Int); let c6 : Int := (↑i : Int); let c5 : Prop := 0 < 1; let c4 : Nat := 2 ^ 41; let c3 : Int := (2 : Int) ^ 63; let c19 : Prop := c10 < (2 : Int) ^ 40; let c17 : Prop := (0 : Int) ≤ c6 ∧ c6.toNat < n; let c16 : Bool := decide (c10 < c6); let c12 : List Prop := [sK < c4, sK < c4, c22, c22, c5]; let c11 : aa (List AV) := af [c5] (af [c5] (leaf ret [agg [AV.bool false, mag 0, mag 0]])); let c9 : Int := c6 + (1 : Int); let c7 : Int := c14 - (1 : Int); let c2 : Int := c6 + c14; let c13 : Prop := -c3 ≤ c2 ∧ c2 < c3; let c8 : Int := c2 + (1 : Int); let c18 : Prop := (0 : Int) ≤ c8 ∧ c8.toNat < n; let c1 : aa (List AV) := af (c5 :: c17 :: (sK < c4) :: (sK < c4) :: c13 :: ((0 : Int) ≤ c2 ∧ c2.toNat < n) :: c17 :: c12) (af (c13 :: (-c3 ≤ c8 ∧ c8 < c3) :: c18 :: c5 :: (sK < c4) :: (sK < c4) :: c13 :: (-c3 ≤ c8 ∧ c8 < c3) :: c18 :: (-c3 ≤ c9 ∧ c9 < c3) :: ((0 : Int) ≤ c9 ∧ c9.toNat < n) :: c12) (af [c5, -c3 ≤ c7 ∧ c7 < c3, c5, c15, sK ≤ sK, c7 = c21, (0 : Int) ≤ c6, (0 : Int) ≤ c10, c6 + c21 + (1 : Int) < (↑n : Int), c20, c19, d ≤ 6, sF < c4, SB d < c4, c5, -c3 ≤ c9 ∧ c9 < c3, -c3 ≤ c7 ∧ c7 < c3, c5, c15, sK ≤ sK, c7 = c21, (0 : Int) ≤ c9, (0 : Int) ≤ c10, c9 + c21 + (1 : Int) < (↑n : Int), c20, c19, d ≤ 6, sF < c4, SB d < c4, sF + SB d < c4, sF + SB d < c4, c5] (af [c5] (leaf ret [rat ((t - k c6.toNat) / (k c2.toNat - k c6.toNat) * nC (fun i ↦ bg (rat (k i) sK)) c10.toNat t d c6.toNat + (k c8.toNat - t) / (k c8.toNat - k c9.toNat) * nC (fun i ↦ bg (rat (k i) sK)) c10.toNat t d c9.toNat) (sF + SB d + (sF + SB d) + 1)])))); some (af [(c14 == (0 : Int)) = false] (fork c16 (af [c16 = true] (fork true c11 c1)) (af [c16 = false, c13] (fork (bif false then true else decide (c10 > c2)) c11 c1)))) := by kernel_rfl
def tW (p : Nat) : aO := nG :: (oJ, BH) :: (vL, Dn p) :: iN
abbrev mV : List Nat := [0, 1, 5, 9, 11, 12, 6, 7, 8]
abbrev wh (n : Nat) (k : Nat → Rat) (p a : Nat) (v : AV) (i : Int) : List AV := [ls k n, .int .i64 p, .ptr 0 0 3 0 [], .int .i64 a, v, .int .i64 i, .int .i64 0, .nil, .int .i64 0]
noncomputable abbrev xh : Code := au rm
noncomputable abbrev Ah : Code := part xh [1,1,1,1,0,1,0,0]
theorem LH {n p : Nat} {k : Nat → Rat} {t : Rat} : aH T (tW p) [21] 60 mV (before xh [1,1,1,1,0,1]) ⟨aL 0 [ls k n, .int .i64 p, .rat t sK], [], 0⟩ =
  let c7 : AV := int i64 (0 : Int); let c6 : Int := fh n (fun i ↦ bg (rat (k i) sK)) t; let c5 : Int := (↑p : Int); let c4 : AV := ag 3 n fun i ↦ rat (k i) 4096; let c3 : AV := ptr 0 0 (br (rat t sK)).size 0 []; let c2 : Nat × aB := ((0 : Nat), aB.mk false true (br (rat t sK)).size 1 fun x ↦ rat t 4096); let c1 : Int := (↑(pF n (fun i ↦ bg (rat (k i) sK)) t) : Int); some (af [(0 : Nat) < 1, b9 (fun i ↦ rat (k i) sK) n sK, sK ≤ sK, Kn n c5.toNat fun i ↦ bg (rat (k i) sK), (0 : Int) ≤ c5, n < 2 ^ 40] (fork (c6 != (0 : Int)) (leaf ret ([c4, int i64 c5, c3, int i64 c1, tuple [], tuple [], c7, nil, int i64 c6], [c2])) (af [-(2 : Int) ^ 63 ≤ c1 - c5 ∧ c1 - c5 < (2 : Int) ^ 63] (leaf normal ([c4, int i64 c5, c3, int i64 c1, nil, int i64 (c1 - c5), c7, nil, c7], [c2]))))) := by kernel_rfl
theorem X4 {n p a : Nat} {k : Nat → Rat} {t : Rat} {i : Int} : aH T (tW p) [28] 60 mV [Ah] ⟨az mV (wh n k p a .nil i), [(0, tP t sK)], 2⟩ =
  let c6 : Int := (↑p : Int); let c5 : Int := (↑a : Int); let c4 : AV := int i64 (0 : Int); let c3 : AV := ptr 0 0 3 0 []; let c2 : AV := ag 3 n fun i ↦ rat (k i) 4096; let c1 : Nat × aB := ((0 : Nat), aB.mk false true 3 1 fun x ↦ rat t 4096); some (fork (decide (i ≤ c5)) (af [(0 : Nat) < 1, b9 (fun i ↦ rat (k i) sK) n sK, sK ≤ sK, c6 = c6, (0 : Int) ≤ i, (0 : Int) ≤ c5, i + c6 + (1 : Int) < (↑n : Int), n < 2 ^ 40, c5 < (2 : Int) ^ 40, p ≤ 6, (1 : Nat) * 3 ≤ 2 ^ 24, (0 : Nat) < 1 ∧ 1 * ((56 : Nat) + 1) * 2 ≤ 2 ^ 47] (af [-(2 : Int) ^ 63 ≤ i + (1 : Int) ∧ i + (1 : Int) < (2 : Int) ^ 63] (leaf normal ([c2, int i64 c6, c3, int i64 c5, own 45058 3 0 1, int i64 (i + (1 : Int)), c4, nil, c4], [((45058 : Nat), aB.mk true true 3 1 fun i_1 ↦ nth [rat (nC (fun i ↦ bg (rat (k i) sK)) c5.toNat t p i.toNat) (SB p)] (rat 0 1) (i_1 + 0)), c1])))) (leaf (exit 0) ([c2, int i64 c6, c3, int i64 c5, nil, int i64 i, c4, nil, c4], [c1]))) := by kernel_rfl
theorem Zw {n p a j : Nat} {k x : Nat → Rat} {t : Rat} {i : Int} : aH T (tW p) [28] 60 mV [Ah] ⟨az mV (wh n k p a (.own 1 3 0 (j + 1)) i), [(1, A5 (j + 1) x fun _ => SB p), (0, tP t sK)], 2⟩ =
  let c7 : Int := (↑p : Int); let c6 : Int := (↑a : Int); let c5 : AV := int i64 (0 : Int); let c4 : AV := ptr 0 0 3 0 []; let c3 : AV := ag 3 n fun i ↦ rat (k i) 4096; let c2 : Nat := j + 1; let c1 : Nat × aB := ((0 : Nat), aB.mk false true 3 1 fun x ↦ rat t 4096); let c8 : Nat := c2 + 1; some (fork (decide (i ≤ c6)) (af [(0 : Nat) < 1, b9 (fun i ↦ rat (k i) sK) n sK, sK ≤ sK, c7 = c7, (0 : Int) ≤ i, (0 : Int) ≤ c6, i + c7 + (1 : Int) < (↑n : Int), n < 2 ^ 40, c6 < (2 : Int) ^ 40, p ≤ 6, (1 : Nat) * 3 ≤ 2 ^ 24, c8 * ((56 : Nat) + 1) * 2 ≤ 2 ^ 47] (af [-(2 : Int) ^ 63 ≤ i + (1 : Int) ∧ i + (1 : Int) < (2 : Int) ^ 63] (leaf normal ([c3, int i64 c7, c4, int i64 c6, own 45058 3 0 c8, int i64 (i + (1 : Int)), c5, nil, c5], [((45058 : Nat), aB.mk true true 3 c8 fun i_1 ↦ if i_1 < c2 then rat (x i_1) (SB p) else nth [rat (nC (fun i ↦ bg (rat (k i) sK)) c6.toNat t p i.toNat) (SB p)] (rat 0 1) (i_1 - c2 + 0)), c1])))) (leaf (exit 0) ([c3, int i64 c7, c4, int i64 c6, own 1 3 0 c2, int i64 i, c5, nil, c5], [((1 : Nat), aB.mk true true 3 c2 fun i ↦ rat (x i) (SB p)), c1]))) := by kernel_rfl
theorem Sx {n p a j : Nat} {k x : Nat → Rat} {t : Rat} {i : Int} : bR T (tW p) [] 60 rm [part xh [1,1,1,1,1]] ⟨az mV (wh n k p a (.own 1 3 0 (j + 1)) i), [(1, A5 (j + 1) x fun _ => SB p), (0, tP t sK)], 2⟩ =
  let c1 : Int := (↑a : Int) - (↑p : Int); some (af [-(2 : Int) ^ 63 ≤ c1 ∧ c1 < (2 : Int) ^ 63] (leaf ret [int i64 c1, ag 3 (j + 1) fun i ↦ rat (x (i + 0)) (SB p), int i64 (0 : Int)])) := by kernel_rfl
theorem UR : aV P (nG :: (ir, oF) :: iN) := eF (aD (yV wq) jK)
theorem Ec {n : Nat} {k : Nat → Rat} {t : Rat} (hn : n < 2 ^ 40) : ∀ d i a, i + d + 1 < n → a < 2 ^ 40 → d ≤ 6 → ∀ K, aA P vL K (rC n k i d a t) [] (aG (.rat (nC k a t d i) (SB d)) [])
 | 0, i, a, hi, ha, hd, K => by
  refine bD (r := aG (.rat (nC k a t 0 i) (SB 0)) []) hT UR hm JY rfl (of_decide_eq_true (by kernel_rfl)) rfl 60 OV (fun _ => ?_) K []
  simp only [aa.all, ax, beq_iff_eq, beq_eq_false_iff_ne, ne_eq]
  refine ⟨fun h => ⟨by omega, by omega, ?_⟩, fun h => ⟨by omega, by omega, ?_⟩⟩
  ·unfold nC; rw [if_pos (by omega)]; exact bS rfl (by decide)
  ·unfold nC; rw [if_neg (by omega)]; exact ji (k := 65535)
 | d + 1, i, a, hi, ha, hd, K => by
  have hΓ : aV P (I3 d) := eF (aD (eC fun ⟨⟨n', k'⟩, i', d', a', t', _⟩ K hn' => by
   obtain ⟨h1, h2, h3, h4, h5, h6, h7⟩ := hn'
   simp only at h1 h2 h3 h4 h5 h6
   have := Ec (n := n') (k := k') (t := t') h5 d i'.toNat a'.toNat (by omega) (by omega) h7 K
   unfold rC at this
   rw [Int.toNat_of_nonneg h2, Int.toNat_of_nonneg h3] at this
   rw [h1]
   exact this) (aD VL (aD (yV wq) jK)))
  refine bD (r := aG (.rat (nC k a t (d + 1) i) (SB (d + 1))) []) hT hΓ hm JY rfl (of_decide_eq_true (by kernel_rfl)) rfl 60 Vw (fun _ => ?_) K []
  have h1 := J0 (d := d)
  have h2 := Hs (d := d)
  have h3 := JE (d := d) (by omega)
  have h4 : sV = 268435456 := rfl
  have h5 := Vt
  have h6 : sK = 4096 := rfl
  have h7 : nO = 8193 := rfl
  simp only [aa.all, ax, mX, beq_eq_false_iff_ne, ne_eq, decide_eq_true_eq, decide_eq_false_iff_not, cond_false, Int.toNat_natCast, show ((i : Int) + ((d + 1 : Nat) : Int)).toNat = i + (d + 1) by omega, show ((i : Int) + ((d + 1 : Nat) : Int) + 1).toNat = i + (d + 2) by omega, show ((i : Int) + 1).toNat = i + 1 by omega]
  rw [nC]
  (repeat' with_reducible first | refine And.intro ?_ ?_ | intro _)
  all_goals first | omega | exact en (Nat.le_refl _) | exact absurd ‹true = false› (by decide) | (rw [if_pos (by omega)]; exact ji (k := SB (d + 1) - 1)) | skip
  all_goals first | (rw [if_pos (by omega), show SB (d + 1) = SB (d + 1) - 1 + 1 by omega]; exact ji) | skip
  rw [if_neg (by omega)]
  exact bS rfl (by omega)
theorem Tb {p : Nat} : aV P (tW p) := eF (aD Gg (aD (eC fun ⟨⟨n', k'⟩, i', d', a', t', _⟩ K hn' => by
 obtain ⟨h1, h2, h3, h4, h5, h6, h7⟩ := hn'
 simp only at h1 h2 h3 h4 h5 h6
 have := Ec (n := n') (k := k') (t := t') h5 p i'.toNat a'.toNat (by omega) (by omega) h7 K
 unfold rC at this
 rw [Int.toNat_of_nonneg h2, Int.toNat_of_nonneg h3] at this
 rw [h1]
 exact this) jK))
theorem SE {n p : Nat} {k : Nat → Rat} {t : Rat} (h : Kn n p k) (hp6 : p ≤ 6) (hn : n < 2 ^ 40) (K : Nat) : aA P uS K [ls k n, .int .i64 p, .rat t sK] [] (aG (B5 n k p t) []) := by
 refine iJ (r := aG (B5 n k p t) []) hT Tb hm La rfl (of_decide_eq_true (by kernel_rfl)) rfl [1,1,1,1,0,1] (i := 0) (y := Ah) (z := part xh [1,1,1,1,1]) (by kernel_rfl) (by kernel_rfl) (by kernel_rfl) (f1 := [21]) (f2 := [28]) (f3 := []) 60 mV 2
  (fun j : Nat => wh n k p (cT n k t) (match j with
   | 0 => .nil
   | _ + 1 => .own 1 3 0 j) ((cT n k t : Int) - p + j)) (fun j => match j with
   | 0 => [(0, tP t sK)]
   | _ + 1 => [(1, A5 j (fun j => nC k (cT n k t) t p (cT n k t - p + j)) fun _ => SB p), (0, tP t sK)])
  (fun j => j ≤ p + 1 ∧ ¬ ec n k t) (fun j => j = p + 1 ∧ ¬ ec n k t) (fun j => p + 1 - j) (fun _ => ⟨⟨_, LH, ?_⟩, fun j ⟨hj, hin⟩ => ?_, fun j ⟨hj, hin⟩ => ?_⟩) K []
 ·simp only [aa.all, ax, mX, bne_iff_ne, ne_eq, bne_eq_false_iff_eq, Int.toNat_natCast]
  refine ⟨⟨by omega, en (Nat.le_refl _), Nat.le_refl _, h, by omega, hn⟩, fun hout => ?_, fun hin => ?_⟩
  ·have h1 := Yl hout
   exact ⟨[.int .i64 0, .nil, .int .i64 (fh n k t)], by kernel_rfl, by rw [show fh n k t = 7 by unfold fh; rw [if_pos h1]]; exact ZM h1⟩
  ·have hin := Dt hin
   have hv := h.xm hin
   have hii : pF n k t = cT n k t := by unfold pF; rw [if_neg hin]
   simp only [hii]
   exact ⟨by omega, 0, ⟨by omega, hin⟩, [(0, 0)], rfl, by simp only [Int.natCast_zero, Int.add_zero]; rfl, rfl, aT rfl rfl (aP rfl rfl) trivial⟩
 ·have hv := h.xm hin
  cases j with
  | zero =>
   refine ⟨_, X4, ?_⟩
   simp only [aa.all, ax, mX, decide_eq_true_eq, decide_eq_false_iff_not, Int.toNat_natCast, Int.natCast_zero, Int.add_zero]
   refine ⟨fun h1 => ⟨⟨by omega, en (Nat.le_refl _), Nat.le_refl _, trivial, by omega, by omega, by omega, hn, by omega, by omega, by omega, by omega⟩, by omega, 1, ⟨by omega, hin⟩, by dsimp only; omega, [(0, 0), (1, 45058)], rfl, rfl, rfl, b6 rfl rfl rfl (fun i hi => WT (y := fun j => nC k (cT n k t) t p (cT n k t - p + j)) (by rw [show ((cT n k t : Int) - p).toNat = cT n k t - p by omega]; rfl) (Nat.le_refl _) hi) (aT rfl rfl (aP rfl rfl) trivial)⟩, fun h1 => by omega⟩
  | succ j =>
   refine ⟨_, Zw, ?_⟩
   simp only [aa.all, ax, mX, decide_eq_true_eq, decide_eq_false_iff_not, Int.toNat_natCast]
   refine ⟨fun h1 => ⟨⟨by omega, en (Nat.le_refl _), Nat.le_refl _, trivial, by omega, by omega, by omega, hn, by omega, by omega, by omega, by omega⟩, by omega, j + 2, ⟨by omega, hin⟩, by dsimp only; omega, [(0, 0), (1, 45058)], rfl, by rw [show (cT n k t : Int) - p + ((j + 1 : Nat) : Int) + 1 = (cT n k t : Int) - p + ((j + 2 : Nat) : Int) by omega]; rfl, rfl,
    b6 rfl rfl rfl (fun i hi => Bb (y := fun j => nC k (cT n k t) t p (cT n k t - p + j)) (fun _ _ => rfl) (by rw [show ((cT n k t : Int) - p + ((j + 1 : Nat) : Int)).toNat = cT n k t - p + (j + 1) by omega]) (Nat.le_refl _) (Nat.le_refl _) hi) (aT rfl rfl (aP rfl rfl) trivial)⟩,
    fun h1 => ⟨rfl, j + 1, ⟨by omega, hin⟩, [(0, 0), (1, 1)], rfl, rfl, rfl, b6 rfl rfl rfl (fun i hi => aP rfl rfl) (aT rfl rfl (aP rfl rfl) trivial)⟩⟩
 ·subst hj
  have hv := h.xm hin
  refine ⟨_, Sx, ?_⟩
  simp only [aa.all, ax]
  refine ⟨by omega, K8 hin fun j hj => bS ?_ (JE hp6)⟩
  have h1 : ¬ t < k 0 := fun h => hin (.inl h)
  have h2 : ¬ k (n - 1) < t := fun h => hin (.inr h)
  have hat : At n k (cT n k t) := (h.Iv (by grind) (by grind)).1.at_
  exact (F0 hat hv.1 (by omega) j (by omega)).symm
theorem QS : ∀ K args pre r, D8 K args pre = some r → aA P uS K args pre r := eC fun ⟨⟨n, k⟩, p, t, _⟩ K hn => by
 obtain ⟨h1, h2, h3, h4⟩ := hn
 have h3 : p ≤ 6 := h3
 have := SE h1 (by simp only; omega) h4 K (t := t)
 rw [Int.toNat_of_nonneg h2] at this
 exact this
end Go.Am.B

/- ref10: Lift, Homogeneous, Drop, Eval. -/
namespace Go.Am.B
open Go Go.Am.N AV aa aj IntKind
theorem G3 : aN P x8 rS (au rS) := aK OX (by kernel_rfl) (by kernel_rfl) (by kernel_rfl)
theorem aak : aN P Cy xj (au xj) := aK Ln (by kernel_rfl) (by kernel_rfl) (by kernel_rfl)
theorem V8 : aN P tR vr (au vr) := aK Xc (by kernel_rfl) (by kernel_rfl) (by kernel_rfl)
theorem ER : aN P qW sI (au sI) := aK MR (by kernel_rfl) (by kernel_rfl) (by kernel_rfl)
theorem NI : aN P yq uJ (au uJ) := aK ZV (by kernel_rfl) (by kernel_rfl) (by kernel_rfl)
noncomputable def CP : aO := (yZ, gF kR kR OP mz) :: (x8, cL T iN [] 60 rS) :: iN
abbrev sH : Nat := 2147483648
abbrev sE : Nat := 4294967298
def w8 (h : Pl) : V3 := ⟨((1 : Int) : Rat) / h.d * h.n.x, ((1 : Int) : Rat) / h.d * h.n.y, ((1 : Int) : Rat) / h.d * h.n.z⟩
def EN : Spec := eA (kC (XH sH) kN) (fun a => .agg [vA (w8 a.1) sE, .rat a.1.d sH]) fun _ => []
noncomputable def ON : aO := (x8, cL T iN [] 60 rS) :: iN
noncomputable def wL : aO := nG :: (uS, D8) :: (Cy, cL T ON [] 60 xj) :: iN
abbrev vF : List Nat := [2, 4, 5, 6, 8, 9]
abbrev yb (p i : Nat) (x : Nat → Rat) (j : Nat) : List AV := [.ptr 0 0 3 0 [], .ptr 1 0 12 0 [], .int .i64 ((i : Int) - p), .ag 3 (p + 1) (fun j => .rat (x j) sV), .ptr 2 0 12 0 [], .int .i64 j]
abbrev qe (h : Pl) (s : Nat) : aB := ⟨false, true, 12, 1, fun _ => jx h s⟩
abbrev BM (c : Cu) (r : Nat) : aB := ⟨false, true, 3, 1, fun _ => er c sK r⟩
noncomputable abbrev pL : Code := au sI
theorem TW {h : Pl} {s : Nat} : bA T CP [] 60 vr (au vr) ⟨aL 0 [jx h s], [], 0⟩ =
  let c9 : Prop := (0 : Int) ≤ (0 : Int); let c8 : Rat := (↑(1 : Int) : Rat) / h.d; let c7 : Int := (↑(4 : Nat) : Int); let c6 : Int := (↑(3 : Nat) : Int); let c4 : Nat := 2 ^ 41; let c3 : Int := i64.wrap ((0 : Int) + (1 : Int)); let c2 : Nat := Max.max 1 (aQ (Int.natAbs (1 : Int))); let c1 : Prop := 0 < 1; let c11 : Int := i64.wrap (c3 + (1 : Int)); let c10 : Prop := (0 : Int) ≤ (3 : Int) ∧ (3 : Int) < c7; let c5 : Prop := (0 : Int) ≤ c11 ∧ c11 < c6; some (af [-(2 : Int) ^ 63 ≤ (1 : Int), (1 : Int) < (2 : Int) ^ 63, c10, c1, c2 < c4, s < c4, c9 ∧ (0 : Int) < c7, c1, (0 : Int) ≤ (1 : Int) ∧ (1 : Int) < c7, c1, (0 : Int) ≤ (2 : Int) ∧ (2 : Int) < c7, c1, c1, c9 ∧ (0 : Int) < c6, c1, c2 + s < c4, s < c4, c9 ∧ (0 : Int) < c6, c1, c1, (0 : Int) ≤ c3 ∧ c3 < c6, c1, c2 + s < c4, s < c4, (0 : Int) ≤ c3 ∧ c3 < c6, c1, c1, c5, c1, c2 + s < c4, s < c4, c5, c1, c1, c1, c1, c10, c1, c1] (af [c1] (leaf ret [agg [agg [rat (c8 * h.n.x) (c2 + s + s), rat (c8 * h.n.y) (c2 + s + s), rat (c8 * h.n.z) (c2 + s + s)], rat h.d s]]))) := by kernel_rfl
theorem Wp {c : Cu} {t : Rat} {r : Nat} : aH T wL [] 60 vF (before pL [1,1,1,0,1]) ⟨aL 0 [er c sK r, .rat t sK], [], 0⟩ =
  let c5 : Prop := 0 < 1; let c4 : Nat := cT c.n (fun i ↦ bg (rat (c.k i) sK)) t; let c3 : Prop := ec c.n (fun i ↦ bg (rat (c.k i) sK)) t; let c2 : AV := rat 0 1; let c1 : aB := aB.mk false true 12 1 fun x ↦ agg [c2, c2, c2, c2]; some (af [c5, c5, c5, b9 (fun i ↦ rat (c.k i) sK) c.n sK, sK ≤ sK, Kn c.n c.p.toNat fun i ↦ bg (rat (c.k i) sK), (0 : Int) ≤ c.p, c.p ≤ (6 : Int), c.n < 2 ^ 40] (leaf normal ([ptr 0 0 (br (er c sK r)).size 0 [], ptr 8192 0 12 0 [], int i64 (if c3 then (0 : Int) else (↑c4 : Int) - (↑c.p.toNat : Int)), ag 3 (if c3 then 0 else c.p.toNat + 1) fun j ↦ rat (vB (fun i ↦ bg (rat (c.k i) sK)) c4 t c.p.toNat j) 268435456, ptr 65536 0 12 0 [], int i64 (0 : Int)], [((65536 : Nat), c1), ((8192 : Nat), c1), ((0 : Nat), aB.mk false true (br (er c sK r)).size 1 fun x ↦ agg [int i64 c.p, ag 3 c.n fun i ↦ rat (c.k i) 4096, ag 12 c.m fun i ↦ agg [agg [rat (c.f i).n.x r, rat (c.f i).n.y r, rat (c.f i).n.z r], rat (c.f i).d r]])]))) := by kernel_rfl
theorem Xu {c : Cu} {h : Pl} {p i j s r : Nat} {x : Nat → Rat} : aH T wL [25] 60 vF [part pL [1,1,1,0,1,0,0]] ⟨az vF (yb p i x j), [(2, qe h s), (1, qe ⟨⟨0, 0, 0⟩, 0⟩ 1), (0, BM c r)], 3⟩ =
  let c35 : Nat := p + 1; let c30 : Int := (↑i : Int) - (↑p : Int); let c27 : AV := ptr 0 0 3 0 []; let c26 : Nat := sV + (r + r); let c25 : AV := ptr 2 0 12 0 []; let c24 : AV := ptr 1 0 12 0 []; let c21 : AV := rat 0 1; let c19 : Int := (↑j : Int); let c18 : Prop := (0 : Int) ≤ (0 : Int); let c15 : Int := (↑(3 : Nat) : Int); let c14 : Bool := 0 == 0; let c11 : Int := (↑(4 : Nat) : Int); let c9 : Int := (2 : Int) ^ 63; let c7 : Nat := 2 ^ 41; let c4 : Prop := 0 < 1; let c3 : Int := (0 : Int) + (1 : Int); let c37 : Rat := x c19.toNat; let c36 : Int := c19 + (1 : Int); let c33 : Prop := c18 ∧ (0 : Int) < c11; let c32 : Prop := c18 ∧ (0 : Int) < c15; let c31 : Prop := (0 : Int) ≤ i64.wrap c3 ∧ i64.wrap c3 < c15; let c29 : Prop := (0 : Int) ≤ c3 ∧ c3 < c11; let c20 : AV := ag 3 c35 fun j ↦ rat (x j) 268435456; let c17 : Int := i64.wrap (i64.wrap c3 + (1 : Int)); let c16 : Int := c3 + (1 : Int); let c12 : Prop := (0 : Int) ≤ c19 ∧ c19.toNat < c35; let c6 : List (Nat × aB) := [((1 : Nat), aB.mk false true 12 1 fun x ↦ agg [c21, c21, c21, c21]), ((0 : Nat), aB.mk false true 3 1 fun x ↦ agg [int i64 c.p, ag 3 c.n fun i ↦ rat (c.k i) 4096, ag 12 c.m fun i ↦ agg [agg [rat (c.f i).n.x r, rat (c.f i).n.y r, rat (c.f i).n.z r], rat (c.f i).d r]])]; let c5 : Int := c30 + c19; let c38 : Prop := (0 : Int) ≤ c17 ∧ c17 < c15; let c23 : Prop := (0 : Int) ≤ c16 ∧ c16 < c11; let c22 : Pl := c.f c5.toNat; let c8 : Int := c16 + (1 : Int); let c28 : Prop := (0 : Int) ≤ c8 ∧ c8 < c11; let c2 : AV := agg ((jx h s).kids.set (Int.toNat (0 : Int)) (br (jh (h.n.x, s) (c37 * (c22.d * c22.n.x), c26)))); let c34 : AV := if c14 = true then c2 else jx h s; let c10 : AV := agg (c34.kids.set c3.toNat (br (jh (h.n.y, s) (c37 * (c22.d * c22.n.y), c26)))); let c1 : AV := if c14 = true then c10 else c34; let c13 : AV := agg (c1.kids.set c16.toNat (br (jh (h.n.z, s) (c37 * (c22.d * c22.n.z), c26)))); some (fork (decide (c19 < (↑c35 : Int))) (af [c4, -c9 ≤ c5 ∧ c5 < c9, (0 : Int) ≤ c5 ∧ c5.toNat < c.m, c4, c4, c4, c32, c4, r < c7, r < c7, c32, c4, c4, c31, c4, r < c7, r < c7, c31, c4, c4, c38, c4, r < c7, r < c7, c38, c4, c4, c4, c4, c4, c32, c4, (0 : Int) ≤ (1 : Int) ∧ (1 : Int) < c15, c4, (0 : Int) ≤ (2 : Int) ∧ (2 : Int) < c15, c4, c4, c4, c4, c4] (af [c33, c4, c12, c33, c4, sV < c7, r + r < c7, s < c7, c26 < c7, c33, c4] (af [-c9 ≤ c3 ∧ c3 < c9] (af [c29, c4, c12, c29, c4, sV < c7, r + r < c7, s < c7, c26 < c7, c29, c4] (af [-c9 ≤ c16 ∧ c16 < c9] (af [c23, c4, c12, c23, c4, sV < c7, r + r < c7, s < c7, c26 < c7, c23, c4] (af [-c9 ≤ c8 ∧ c8 < c9] (af [c28, c4, c12, c28, c4, sV < c7, r < c7, s < c7, sV + r < c7, c28, c4] (af [-c9 ≤ c8 + (1 : Int) ∧ c8 + (1 : Int) < c9] (af [-c9 ≤ c36 ∧ c36 < c9] (leaf normal ([c27, c24, int i64 c30, c20, c25, int i64 c36], ((2 : Nat), aB.mk false true 12 1 fun j ↦ if (j == 0) = true then agg ((if c14 = true then c13 else c1).kids.set c8.toNat (br (jh (h.d, s) (c37 * c22.d, sV + r)))) else if (j == 0) = true then c13 else if (j == 0) = true then c10 else if (j == 0) = true then c2 else jx h s) :: c6)))))))))))) (leaf (exit 0) ([c27, c24, int i64 c30, c20, c25, int i64 c19], ((2 : Nat), aB.mk false true 12 1 fun x ↦ agg [rat h.n.x s, rat h.n.y s, rat h.n.z s, rat h.d s]) :: c6))) := by kernel_rfl
theorem W3 {c : Cu} {h : Pl} {p i j s r : Nat} {x : Nat → Rat} : bR T wL [] 60 sI [part pL [1,1,1,1]] ⟨az vF (yb p i x j), [(2, qe h s), (1, qe ⟨⟨0, 0, 0⟩, 0⟩ 1), (0, BM c r)], 3⟩ =
  let c1 : Prop := 0 < 1; some (af [c1, c1] (af [c1] (leaf ret [agg [rat h.n.x s, rat h.n.y s, rat h.n.z s, rat h.d s]]))) := by kernel_rfl
def A7 (c : Cu) (x : Nat → Rat) (b j : Nat) : Pl :=
 ⟨⟨jU j fun j => x j * ((c.f (b + j)).d * (c.f (b + j)).n.x), jU j fun j => x j * ((c.f (b + j)).d * (c.f (b + j)).n.y), jU j fun j => x j * ((c.f (b + j)).d * (c.f (b + j)).n.z)⟩, jU j fun j => x j * (c.f (b + j)).d⟩
def zH (r j : Nat) : Nat := 1 + j * (sV + (r + r) + 1)
def pG (c : Cu) (t : Rat) : Pl := A7 c (vB c.k (cT c.n c.k t) t c.p.toNat) (cT c.n c.k t - c.p.toNat) (c.p.toNat + 1)
theorem KS : aV P CP := aD (hH fun _ _ K hn => OA hn.1 hn.2 K) (aD (cV hT jK hm G3 _ _) jK)
theorem P6 {h : Pl} {s s' : Nat} (hs : s < 2 ^ 40) (hs' : 1 + s + s ≤ s') (K : Nat) : aA P tR K [jx h s] [] (aG (.agg [vA (w8 h) s', .rat h.d s]) []) := by
 refine bD (r := aG (.agg [vA (w8 h) s', .rat h.d s]) []) hT KS hm V8 rfl (of_decide_eq_true (by kernel_rfl)) rfl 60 (TW (s := s)) (fun _ => ?_) K []
 have e1 : i64.wrap ((0 : Int) + 1) = 1 := rfl
 have e2 : i64.wrap ((1 : Int) + 1) = 2 := rfl
 simp only [aa.all, ax, P1, e1, e2]
 refine ⟨?_, by omega, cE ⟨cE ⟨bS rfl (by omega), bS rfl (by omega), bS rfl (by omega), trivial⟩, .refl _, trivial⟩⟩
 (repeat' with_reducible refine And.intro ?_ ?_)
 all_goals omega
theorem VY : ∀ K args pre r, EN K args pre = some r → aA P tR K args pre r := eC fun ⟨h, _⟩ K _ => P6 (by decide) (by decide) K
theorem Ja : aV P wL := eF (aD QS (aD (cV hT (aD (cV hT jK hm G3 _ _) jK) hm aak _ _) jK))
theorem Qx {c : Cu} {t : Rat} {r s : Nat} (hr : 1 + 7 * (sV + (r + r) + 1) ≤ s) (hs : s < 2 ^ 40) (hk : Kn c.n c.p.toNat c.k) (h0 : 0 ≤ c.p) (h6 : c.p ≤ 6) (hn : c.n < 2 ^ 40) (hm2 : (c.m : Int) = (c.n : Int) - c.p - 1) (hin : ¬ ec c.n c.k t) (K : Nat) : aA P qW K [er c sK r, .rat t sK] [] (aG (jx (pG c t) s) []) := by
 refine eZ (r := aG (jx (pG c t) s) []) hT ER rfl (of_decide_eq_true (by kernel_rfl)) rfl (fun _ cx h00 => ?_) K []
 have hkp := jM h00
 obtain ⟨q, hq⟩ : ∃ q, q = c.p.toNat := ⟨_, rfl⟩
 have hq2 : c.p = (q : Int) := by omega
 obtain ⟨i, hi⟩ : ∃ i, i = cT c.n c.k t := ⟨_, rfl⟩
 obtain ⟨x, hx⟩ : ∃ x, x = vB c.k i t q := ⟨_, rfl⟩
 have hiv := hk.xm hin
 rw [← hi, ← hq] at hiv
 have hV : pG c t = A7 c x (i - q) (q + 1) := by unfold pG; rw [← hi, ← hq, ← hx]
 rw [hV]
 have h1 : sK = 4096 := rfl
 have h2 : sV = 268435456 := rfl
 have z0 : zH r 0 = 1 := by unfold zH; rw [Nat.zero_mul]
 have zS : ∀ j, zH r (j + 1) = zH r j + (sV + (r + r) + 1) := fun j => by unfold zH; rw [Nat.add_mul, Nat.one_mul]; omega
 have zle : ∀ j, j ≤ 7 → zH r j ≤ s := fun j hj => by
  have := Nat.mul_le_mul_right (sV + (r + r) + 1) hj
  unfold zH; omega
 refine ak.iM hT Ja hm (x := pL) [1,1,1,0,1] (i := 0) (y := part pL [1,1,1,0,1,0,0]) (z := part pL [1,1,1,1]) (by kernel_rfl) (by kernel_rfl) (by kernel_rfl) ER.dst hkp (f1 := []) (f2 := [25]) 60 vF 3 (fun j : Nat => yb q i x j) (fun j => [(2, qe (A7 c x (i - q) j) (zH r j)), (1, qe ⟨⟨0, 0, 0⟩, 0⟩ 1), (0, BM c r)]) (fun j => j ≤ q + 1) (fun j => j = q + 1) (fun j => q + 1 - j) (fun _ => False) ⟨_, Wp, ?_⟩ (fun j hj => ⟨_, Xu, ?_⟩) (fun j hj => ?_) (fun _ _ h => h.elim)
 ·simp only [aa.all, ax]
  simp only [mX, show ec c.n (fun i => c.k i) t = ec c.n c.k t from rfl, if_neg hin]
  refine ⟨⟨by omega, by omega, by omega, en (Nat.le_refl _), Nat.le_refl _, hk, h0, h6, hn⟩, 0, Nat.zero_le _, [(0, 0), (1, 8192), (2, 65536)], rfl, ?_, rfl, aT rfl rfl (aP rfl (by rw [z0]; rfl)) (aT rfl rfl (aP rfl rfl) (aT rfl rfl (aP rfl rfl) trivial))⟩
  show _ = (yb q i x 0).map _
  rw [hx, hq, hi]; rfl
 ·simp only [aa.all, ax, decide_eq_true_eq, decide_eq_false_iff_not, show ((i : Int) - q + j).toNat = i - q + j by omega, Int.toNat_natCast, show i64.wrap ((0 : Int) + 1) = 1 from rfl, show i64.wrap ((1 : Int) + 1) = 2 from rfl]
  have hz1 := zS j
  refine ⟨fun h => ?_, fun h => ⟨rfl, j, by omega, [(0, 0), (1, 1), (2, 2)], rfl, rfl, rfl, aT rfl rfl (aP rfl rfl) (aT rfl rfl (aP rfl rfl) (aT rfl rfl (aP rfl rfl) trivial))⟩⟩
  have hz := zle j (by omega)
  have hz2 := zle (j + 1) (by omega)
  (repeat' with_reducible refine And.intro ?_ ?_)
  all_goals first | omega | skip
  exact ⟨j + 1, by omega, by dsimp only; omega, [(0, 0), (1, 1), (2, 2)], rfl, rfl, rfl, aT rfl rfl (.inr ⟨rfl, cE ⟨bS rfl (by omega), bS rfl (by omega), bS rfl (by omega), bS rfl (by omega), trivial⟩⟩) (aT rfl rfl (aP rfl rfl) (aT rfl rfl (aP rfl rfl) trivial))⟩
 ·subst hj
  refine ak.iZ ((ay.fin hT Ja hm 60 W3 (by kernel_rfl) ?_).mono fun _ _ h => .inl h)
  simp only [aa.all, ax]
  have hz := zle (q + 1) (by omega)
  exact ⟨by omega, by omega, cE ⟨dY (by omega), dY (by omega), dY (by omega), dY (by omega), trivial⟩⟩
def Dl : Spec := eA (kC (yB sK sK) (kC (mM sK) kN)) (fun a => jx (pG a.1 a.2.1) sH) fun a => [Kn a.1.n a.1.p.toNat a.1.k, 0 ≤ a.1.p, a.1.p ≤ 6, a.1.n < 2 ^ 40, (a.1.m : Int) = (a.1.n : Int) - a.1.p - 1, ¬ ec a.1.n a.1.k a.2.1]
noncomputable def Gc : aO := sG :: (oJ, BH) :: (qW, Dl) :: (tR, EN) :: []
theorem S1 : ∀ K args pre r, Dl K args pre = some r → aA P qW K args pre r := eC fun ⟨c, t, _⟩ K hn => Qx (by decide) (by decide) hn.1 hn.2.1 hn.2.2.1 hn.2.2.2.1 hn.2.2.2.2.1 hn.2.2.2.2.2 K
theorem aa6 : aV P Gc := cQ (aD Gg (aD S1 (aD VY aU)))
theorem XD {c : Cu} {t : Rat} : bA T Gc [18] 60 uJ (au uJ) ⟨aL 0 [er c sK sK, .rat t sK], [], 0⟩ =
  let c9 : Prop := c.n < 2 ^ 40; let c7 : Prop := b9 (fun i ↦ rat (c.k i) sK) c.n sK; let c5 : Int := fh c.n (fun i ↦ bg (rat (c.k i) sK)) t; let c4 : AV := rat 0 1; let c3 : Nat := c.p.toNat; let c1 : Nat := cT c.n (fun i ↦ bg (rat (c.k i) sK)) t; let c10 : Nat := c1 - c3; let c8 : Nat := c3 + 1; let c6 : Prop := Kn c.n c3 fun i ↦ bg (rat (c.k i) sK); let c2 : Rat := (↑(1 : Int) : Rat) / jU c8 fun j ↦ vB (fun i ↦ bg (rat (c.k i) sK)) c1 t c3 j * bg (rat (c.f (c10 + j)).d sK); some (af [c7, sK ≤ sK, c6, (0 : Int) ≤ c.p, c9] (fork (c5 != (0 : Int)) (af [(0 : Nat) < 1] (leaf ret [agg [c4, c4, c4], int i64 c5])) (af [c7, iT (fun i ↦ cU (c.f i) sK) c.m sK, sK ≤ sK, c6, (0 : Int) ≤ c.p, c.p ≤ (6 : Int), c9, (↑c.m : Int) = (↑c.n : Int) - c.p - (1 : Int), ¬ec c.n (fun i ↦ bg (rat (c.k i) sK)) t, sH ≤ sH, sH ≤ sH, sH ≤ sH, sH ≤ sH] (af [(0 : Nat) < 1] (leaf ret [agg [rat (c2 * jU c8 fun j ↦ vB (fun i ↦ bg (rat (c.k i) sK)) c1 t c3 j * (bg (rat (c.f (c10 + j)).d sK) * bg (rat (c.f (c10 + j)).n.x sK))) 4294967298, rat (c2 * jU c8 fun j ↦ vB (fun i ↦ bg (rat (c.k i) sK)) c1 t c3 j * (bg (rat (c.f (c10 + j)).d sK) * bg (rat (c.f (c10 + j)).n.y sK))) 4294967298, rat (c2 * jU c8 fun j ↦ vB (fun i ↦ bg (rat (c.k i) sK)) c1 t c3 j * (bg (rat (c.f (c10 + j)).d sK) * bg (rat (c.f (c10 + j)).n.z sK))) 4294967298], int i64 (0 : Int)]))))) := by kernel_rfl
def xx (c : Cu) (t : Rat) : V3 := if ec c.n c.k t then ⟨0, 0, 0⟩ else w8 (pG c t)
def CC : Spec := eA (kC (yB sK sK) (kC (mM sK) kN)) (fun a => .tuple [vA (xx a.1 a.2.1) sE, .int .i64 (fh a.1.n a.1.k a.2.1)]) fun a => [Kn a.1.n a.1.p.toNat a.1.k, 0 ≤ a.1.p, a.1.p ≤ 6, a.1.n < 2 ^ 40, (a.1.m : Int) = (a.1.n : Int) - a.1.p - 1]
theorem U1 : ∀ K args pre r, CC K args pre = some r → aA P yq K args pre r := eC fun ⟨c, t, _⟩ K hn => by
 obtain ⟨hk, h0, h6, hn, hm2⟩ := hn
 have hk : Kn c.n c.p.toNat c.k := hk
 have h6 : c.p ≤ 6 := h6
 have hm2 : (c.m : Int) = (c.n : Int) - c.p - 1 := hm2
 refine bD (r := aG (.tuple [vA (xx c t) sE, .int .i64 (fh c.n c.k t)]) []) hT aa6 hm NI rfl (of_decide_eq_true (by kernel_rfl)) rfl 60 XD (fun _ => ?_) K []
 simp only [aa.all, ax, mX, bne_iff_ne, bne_eq_false_iff_eq, ne_eq, show ec c.n (fun i => c.k i) t = ec c.n c.k t from rfl, show fh c.n (fun i => c.k i) t = fh c.n c.k t from rfl]
 refine ⟨⟨en (Nat.le_refl _), Nat.le_refl _, hk, h0, hn⟩, fun hout => ?_, fun hin => ?_⟩
 ·have ho : ec c.n c.k t := by
   unfold fh at hout
   by_cases ho : ec c.n c.k t
   ·exact ho
   ·rw [if_neg ho] at hout; exact absurd rfl hout
  refine ⟨by omega, ?_, .refl _, trivial⟩
  unfold xx
  rw [if_pos ho]
  exact cE ⟨dY (by decide), dY (by decide), dY (by decide), trivial⟩
 ·have hi := Dt hin
  refine ⟨⟨en (Nat.le_refl _), oW (Nat.le_refl _), Nat.le_refl _, hk, h0, h6, hn, hm2, hi, by omega, by omega⟩, by omega, ?_, bn hin.symm, trivial⟩
  unfold xx
  rw [if_neg hi]
  exact .refl _
end Go.Am.B

/- shapes.ints, ref14.ints. -/
namespace Go.Am.B
open Go Go.Am.N AV aa aj IntKind
theorem Cx : aN P oD nZ (au nZ) := aK aaS (by kernel_rfl) (by kernel_rfl) (by kernel_rfl)
theorem Cz : aN P xF oS (au oS) := aK abD (by kernel_rfl) (by kernel_rfl) (by kernel_rfl)
abbrev nB (n : Nat) (z : Nat → Int) : AV := .ag 1 n (fun i => .int .i64 (z i))
abbrev lT (n : Nat) (z : Nat → Int) : aB := ⟨true, true, 3, n, fun i => .rat ((z i : Int) : Rat) 64⟩
noncomputable abbrev jF : Code := au nZ
abbrev kf : List Nat := [3, 6, 7, 8]
abbrev uR (n : Nat) (z : Nat → Int) (v : AV) (i : Int) : List AV := [v, nB n z, .int .i64 n, .int .i64 i]
noncomputable abbrev jN : Code := au oS
abbrev lE : List Nat := [0, 3, 4]
abbrev wG (n : Nat) (z : Nat → Int) (v : AV) (i : Int) : List AV := [nB n z, v, .int .i64 i]
def o8 : aO := nG :: [(nY, Bz)]
def rL : aO := nG :: [(ir, pZ)]
theorem Mc {n : Nat} {z : Nat → Int} : aH T o8 [] 60 kf (before jF [1,1,0,1]) ⟨aL 0 [nB n z], [], 0⟩ =
  some (leaf normal ([nil, ag 1 n fun i ↦ int i64 (z i), int i64 (↑n : Int), int i64 (0 : Int)], [])) := by kernel_rfl
theorem abv {n : Nat} {z : Nat → Int} : aH T o8 [9] 60 kf [part jF [1,1,0,1,0,0]] ⟨az kf (uR n z .nil 0), [], 1⟩ =
  let c4 : Int := (↑n : Int); let c3 : AV := ag 1 n fun i ↦ int i64 (z i); let c2 : Int := (2 : Int) ^ 63; let c1 : Nat := Int.toNat (0 : Int); some (fork (decide ((0 : Int) < c4)) (af [(0 : Int) ≤ (0 : Int) ∧ c1 < n] (af [-c2 ≤ z c1, z c1 < c2, (1 : Nat) * 3 ≤ 2 ^ 24, (0 : Nat) < 1 ∧ 1 * ((56 : Nat) + 1) * 2 ≤ 2 ^ 47] (af [-c2 ≤ (0 : Int) + (1 : Int) ∧ (0 : Int) + (1 : Int) < c2] (leaf normal ([own 32769 3 0 1, c3, int i64 c4, int i64 (1 : Int)], [((32769 : Nat), aB.mk true true 3 1 fun i ↦ nth [rat (↑(z c1) : Rat) (Max.max 1 (aQ (z c1).natAbs))] (rat 0 1) (i + 0))]))))) (leaf (exit 0) ([nil, c3, int i64 c4, int i64 (0 : Int)], []))) := by kernel_rfl
theorem Ot {n i : Nat} {z : Nat → Int} : aH T o8 [9] 60 kf [part jF [1,1,0,1,0,0]] ⟨az kf (uR n z (.own 0 3 0 (i + 1)) ((i + 1 : Nat) : Int)), [(0, lT (i + 1) z)], 1⟩ =
  let c8 : Int := (↑n : Int); let c4 : AV := ag 1 n fun i ↦ int i64 (z i); let c3 : Int := (2 : Int) ^ 63; let c2 : Nat := i + 1; let c5 : Nat := c2 + 1; let c1 : Int := (↑c2 : Int); let c7 : Int := z c1.toNat; let c6 : Int := c1 + (1 : Int); some (fork (decide (c1 < c8)) (af [(0 : Int) ≤ c1 ∧ c1.toNat < n] (af [-c3 ≤ c7, c7 < c3, (1 : Nat) * 3 ≤ 2 ^ 24, c5 * ((56 : Nat) + 1) * 2 ≤ 2 ^ 47] (af [-c3 ≤ c6 ∧ c6 < c3] (leaf normal ([own 32769 3 0 c5, c4, int i64 c8, int i64 c6], [((32769 : Nat), aB.mk true true 3 c5 fun i ↦ if i < c2 then rat (↑(z i) : Rat) 64 else nth [rat (↑c7 : Rat) (Max.max 1 (aQ c7.natAbs))] (rat 0 1) (i - c2 + 0))]))))) (leaf (exit 0) ([own 0 3 0 c2, c4, int i64 c8, int i64 c1], [((0 : Nat), aB.mk true true 3 c2 fun i ↦ rat (↑(z i) : Rat) 64)]))) := by kernel_rfl
theorem Kt {n i : Nat} {z : Nat → Int} : aH T o8 [] 60 [2] [part jF [1,1,1]] ⟨az kf (uR n z (.own 0 3 0 (i + 1)) ((i + 1 : Nat) : Int)), [(0, lT (i + 1) z)], 1⟩ =
  some (leaf ret ([own 0 3 0 (i + 1)], [((0 : Nat), aB.mk true true 3 (i + 1) fun i ↦ rat (↑(z i) : Rat) 64)])) := by kernel_rfl
theorem Zz {n i : Nat} {z : Nat → Int} : bR T o8 [] 60 nZ [part jF [1,1,1]] ⟨az kf (uR n z (.own 0 3 0 (i + 1)) ((i + 1 : Nat) : Int)), [(0, lT (i + 1) z)], 1⟩ =
  some (leaf ret [ag 3 (i + 1) fun i ↦ rat (↑(z (i + 0)) : Rat) 64]) := by kernel_rfl
theorem Zm {n : Nat} {z : Nat → Int} : aH T rL [] 60 lE (before jN [1,1,0,1]) ⟨aL 0 [nB n z], [], 0⟩ =
  some (leaf normal ([ag 1 n fun i ↦ int i64 (z i), nil, int i64 (0 : Int)], [])) := by kernel_rfl
theorem KK {n : Nat} {z : Nat → Int} : aH T rL [8] 60 lE [part jN [1,1,0,1,0,0]] ⟨az lE (wG n z .nil 0), [], 1⟩ =
  let c3 : AV := ag 1 n fun i ↦ int i64 (z i); let c2 : Int := (2 : Int) ^ 63; let c1 : Nat := Int.toNat (0 : Int); some (fork (decide ((0 : Int) < (↑n : Int))) (af [(0 : Int) ≤ (0 : Int) ∧ c1 < n, -c2 ≤ z c1, z c1 < c2, (1 : Nat) * 3 ≤ 2 ^ 24, (0 : Nat) < 1 ∧ 1 * ((56 : Nat) + 1) * 2 ≤ 2 ^ 47] (af [-c2 ≤ (0 : Int) + (1 : Int) ∧ (0 : Int) + (1 : Int) < c2] (leaf normal ([c3, own 45057 3 0 1, int i64 (1 : Int)], [((45057 : Nat), aB.mk true true 3 1 fun i ↦ nth [rat (↑(z c1) : Rat) (Max.max 1 (aQ (z c1).natAbs))] (rat 0 1) (i + 0))])))) (leaf (exit 0) ([c3, nil, int i64 (0 : Int)], []))) := by kernel_rfl
theorem W8 {n i : Nat} {z : Nat → Int} : aH T rL [8] 60 lE [part jN [1,1,0,1,0,0]] ⟨az lE (wG n z (.own 0 3 0 (i + 1)) ((i + 1 : Nat) : Int)), [(0, lT (i + 1) z)], 1⟩ =
  let c4 : AV := ag 1 n fun i ↦ int i64 (z i); let c3 : Int := (2 : Int) ^ 63; let c2 : Nat := i + 1; let c5 : Nat := c2 + 1; let c1 : Int := (↑c2 : Int); let c7 : Int := z c1.toNat; let c6 : Int := c1 + (1 : Int); some (fork (decide (c1 < (↑n : Int))) (af [(0 : Int) ≤ c1 ∧ c1.toNat < n, -c3 ≤ c7, c7 < c3, (1 : Nat) * 3 ≤ 2 ^ 24, c5 * ((56 : Nat) + 1) * 2 ≤ 2 ^ 47] (af [-c3 ≤ c6 ∧ c6 < c3] (leaf normal ([c4, own 45057 3 0 c5, int i64 c6], [((45057 : Nat), aB.mk true true 3 c5 fun i ↦ if i < c2 then rat (↑(z i) : Rat) 64 else nth [rat (↑c7 : Rat) (Max.max 1 (aQ c7.natAbs))] (rat 0 1) (i - c2 + 0))])))) (leaf (exit 0) ([c4, own 0 3 0 c2, int i64 c1], [((0 : Nat), aB.mk true true 3 c2 fun i ↦ rat (↑(z i) : Rat) 64)]))) := by kernel_rfl
theorem Yr {n i : Nat} {z : Nat → Int} : aH T rL [] 60 [2] [part jN [1,1,1]] ⟨az lE (wG n z (.own 0 3 0 (i + 1)) ((i + 1 : Nat) : Int)), [(0, lT (i + 1) z)], 1⟩ =
  some (leaf ret ([own 0 3 0 (i + 1)], [((0 : Nat), aB.mk true true 3 (i + 1) fun i ↦ rat (↑(z i) : Rat) 64)])) := by kernel_rfl
theorem GU {rl : List (Nat × Nat)} {l i s s' s2 : Nat} {x y : Nat → Rat} {t : Rat} (hx : ∀ i, i < l → x i = y i) (ht : t = y l) (h1 : s ≤ s2) (h2 : Sz (y l) s2) (hi : i < l + 1) : gb rl (if i < l then .rat (x i) s else nth [.rat t s'] (.rat 0 1) (i - l + 0)) (.rat (y i) s2) := by
 by_cases h : i < l
 ·rw [if_pos h, hx i h]; exact .inr ⟨rfl, bS rfl h1⟩
 ·have : i = l := by omega
  subst this
  rw [if_neg h, Nat.sub_self]
  exact .inr ⟨rfl, eu ht h2⟩
theorem A2 : aV P o8 := eF (aD Ew aU)
theorem DX : aV P rL := eF (aD vK aU)
abbrev Ex (n : Nat) (z : Nat → Int) (i : Nat) : List AV := uR n z (match i with
 | 0 => .nil
 | _ + 1 => .own 0 3 0 i) i
abbrev xK (z : Nat → Int) (i : Nat) : aC := match i with
 | 0 => []
 | _ + 1 => [(0, lT i z)]
theorem C3 {P' : aj → aE → Prop} {n : Nat} {z : Nat → Int} (hn : 0 < n) (hn2 : n < 2 ^ 20) (hz : ∀ i, i < n → -2 ^ 63 ≤ z i ∧ z i < 2 ^ 63) (c : Ctx) (hk : Kept [] c) (hD : ak Go.Am.N.P c nZ.ntmps (part jF [1,1,1]) ⟨az kf (Ex n z n), xK z n, 1⟩ P') : ak Go.Am.N.P c nZ.ntmps jF ⟨aL 0 [nB n z], [], 0⟩ P' := by
 have hs : ∀ i, i < n → Sz ((z i : Int) : Rat) 64 := fun i hi => yQ (y := 0) (hz i hi).1 (hz i hi).2
 refine ak.iM hT A2 hm (x := jF) [1,1,0,1] (i := 0) (y := part jF [1,1,0,1,0,0]) (z := part jF [1,1,1]) (by kernel_rfl) (by kernel_rfl) (by kernel_rfl) Cx.dst hk (f1 := []) (f2 := [9]) 60 kf 1 (fun i : Nat => Ex n z i) (fun i => xK z i) (fun i => i ≤ n) (fun i => i = n) (fun i => n - i) (fun _ => False) ⟨_, Mc, ?_⟩ (fun i hi => ?_) (fun i hi => ?_) (fun _ _ h => h.elim)
 ·simp only [aa.all, ax]
  exact ⟨0, Nat.zero_le _, dn.vals rfl⟩
 ·cases i with
  | zero =>
   refine ⟨_, abv, ?_⟩
   simp only [aa.all, ax, decide_eq_true_eq, decide_eq_false_iff_not]
   refine ⟨fun h => ⟨⟨by omega, by omega⟩, ⟨(hz 0 hn).1, (hz 0 hn).2, by omega, by omega, by omega⟩, by omega, 1, by omega, by dsimp only; omega, [(0, 32769)], rfl, rfl, rfl, b6 rfl rfl rfl (fun j hj => ?_) trivial⟩, fun h => by omega⟩
   have hj : j = 0 := by omega
   subst hj
   exact .inr ⟨rfl, eu rfl (hs 0 hn)⟩
  | succ i =>
   refine ⟨_, Ot, ?_⟩
   simp only [aa.all, ax, decide_eq_true_eq, decide_eq_false_iff_not]
   have e : ((i + 1 : Nat) : Int).toNat = i + 1 := by omega
   simp only [e]
   refine ⟨fun h => ⟨⟨by omega, by omega⟩, ⟨(hz (i + 1) (by omega)).1, (hz (i + 1) (by omega)).2, by omega, by omega⟩, by omega, i + 2, by omega, by dsimp only; omega, [(0, 32769)], rfl, rfl, rfl, b6 rfl rfl rfl (fun j hj => GU (x := fun i => ((z i : Int) : Rat)) (y := fun i => ((z i : Int) : Rat)) (fun _ _ => rfl) rfl (Nat.le_refl _) (hs (i + 1) (by omega)) hj) trivial⟩, fun h => ⟨rfl, i + 1, by omega, [(0, 0)], rfl, rfl, rfl, b6 rfl rfl rfl (fun j hj => aP rfl rfl) trivial⟩⟩
 ·subst hi; exact hD
abbrev F2 (n : Nat) (z : Nat → Int) (i : Nat) : List AV := wG n z (match i with
 | 0 => .nil
 | _ + 1 => .own 0 3 0 i) i
theorem KA {P' : aj → aE → Prop} {n : Nat} {z : Nat → Int} (hn : 0 < n) (hn2 : n < 2 ^ 20) (hz : ∀ i, i < n → -2 ^ 63 ≤ z i ∧ z i < 2 ^ 63) (c : Ctx) (hk : Kept [] c) (hD : ak Go.Am.N.P c oS.ntmps (part jN [1,1,1]) ⟨az lE (F2 n z n), xK z n, 1⟩ P') : ak Go.Am.N.P c oS.ntmps jN ⟨aL 0 [nB n z], [], 0⟩ P' := by
 have hs : ∀ i, i < n → Sz ((z i : Int) : Rat) 64 := fun i hi => yQ (y := 0) (hz i hi).1 (hz i hi).2
 refine ak.iM hT DX hm (x := jN) [1,1,0,1] (i := 0) (y := part jN [1,1,0,1,0,0]) (z := part jN [1,1,1]) (by kernel_rfl) (by kernel_rfl) (by kernel_rfl) Cz.dst hk (f1 := []) (f2 := [8]) 60 lE 1 (fun i : Nat => F2 n z i) (fun i => xK z i) (fun i => i ≤ n) (fun i => i = n) (fun i => n - i) (fun _ => False) ⟨_, Zm, ?_⟩ (fun i hi => ?_) (fun i hi => ?_) (fun _ _ h => h.elim)
 ·simp only [aa.all, ax]
  exact ⟨0, Nat.zero_le _, dn.vals rfl⟩
 ·cases i with
  | zero =>
   refine ⟨_, KK, ?_⟩
   simp only [aa.all, ax, decide_eq_true_eq, decide_eq_false_iff_not]
   refine ⟨fun h => ⟨⟨⟨by omega, by omega⟩, (hz 0 hn).1, (hz 0 hn).2, by omega, by omega, by omega⟩, by omega, 1, by omega, by dsimp only; omega, [(0, 45057)], rfl, rfl, rfl, b6 rfl rfl rfl (fun j hj => ?_) trivial⟩, fun h => by omega⟩
   have hj : j = 0 := by omega
   subst hj
   exact .inr ⟨rfl, eu rfl (hs 0 hn)⟩
  | succ i =>
   refine ⟨_, W8, ?_⟩
   simp only [aa.all, ax, decide_eq_true_eq, decide_eq_false_iff_not]
   have e : ((i + 1 : Nat) : Int).toNat = i + 1 := by omega
   simp only [e]
   refine ⟨fun h => ⟨⟨⟨by omega, by omega⟩, (hz (i + 1) (by omega)).1, (hz (i + 1) (by omega)).2, by omega, by omega⟩, by omega, i + 2, by omega, by dsimp only; omega, [(0, 45057)], rfl, rfl, rfl, b6 rfl rfl rfl (fun j hj => GU (x := fun i => ((z i : Int) : Rat)) (y := fun i => ((z i : Int) : Rat)) (fun _ _ => rfl) rfl (Nat.le_refl _) (hs (i + 1) (by omega)) hj) trivial⟩, fun h => ⟨rfl, i + 1, by omega, [(0, 0)], rfl, rfl, rfl, b6 rfl rfl rfl (fun j hj => aP rfl rfl) trivial⟩⟩
 ·subst hi; exact hD
def yW : Nat → (Nat → AV) → Bool
 | 0, _ => true
 | n + 1, f => yW n f && match f n with
  | .int .i64 z => decide (-2 ^ 63 ≤ z) && decide (z < 2 ^ 63)
  | _ => false
def abG (n : Nat) (f : Nat → AV) : Bool := Nat.beq n 3 && !(decide (intOf (f 0) = 0) && decide (intOf (f 1) = 0))
def vX (n : Nat) (f : Nat → AV) : Bool := Nat.blt 0 n && Nat.blt n 100 && yW n f
def wJ : Spec := p5 fun K l => match l with
 | [.ag 1 n f] => match vX n f, abG n f with
  | true, true => some ⟨.ag 3 n (fun i => .rat ((intOf (f i) : Int) : Rat) 64), [], []⟩
  | true, false => some ⟨nA [.own K 3 0 n], [(K, lT n fun i => intOf (f i))], []⟩
  | _, _ => none
 | _ => none
def F4 : Spec := p5 fun K l => match l with
 | [.ag 1 n f] => match vX n f with
  | true => some ⟨nA [.own K 3 0 n], [(K, lT n fun i => intOf (f i))], []⟩
  | false => none
 | _ => none
theorem Av : ∀ {n : Nat} {f : Nat → AV}, yW n f = true → ∀ i, i < n → f i = .int .i64 (intOf (f i)) ∧ -2 ^ 63 ≤ intOf (f i) ∧ intOf (f i) < 2 ^ 63
 | 0, _, _, i, hi => by omega
 | n + 1, f, h, i, hi => by
  simp only [yW, Bool.and_eq_true] at h
  by_cases he : i = n
  ·subst he
   have h2 := h.2
   split at h2
   ·rename_i z hz
    simp only [Bool.and_eq_true, decide_eq_true_eq] at h2
    rw [hz]
    exact ⟨rfl, h2⟩
   ·simp at h2
  ·exact Av h.1 i (by omega)
theorem B1 {n : Nat} {f : Nat → AV} (h : vX n f = true) : 0 < n ∧ n < 100 ∧ (∀ i, i < n → -2 ^ 63 ≤ intOf (f i) ∧ intOf (f i) < 2 ^ 63) ∧ ej [.ag 1 n f] [nB n fun i => intOf (f i)] := by
 simp only [vX, Bool.and_eq_true, Nat.blt_eq] at h
 exact ⟨h.1.1, h.1.2, fun i hi => (Av h.2 i hi).2, j0 rfl fun i hi => (Av h.2 i hi).1, trivial⟩
theorem AI : ∀ K args pre r, wJ K args pre = some r → aA P oD K args pre r := by
 refine wW fun K args r hk hs => ?_
 split at hs
 ·rename_i n f
  split at hs
  ·rename_i h1 h2
   obtain ⟨a1, a2, a3, a4⟩ := B1 h1
   simp only [Option.some.injEq] at hs
   subst hs
   refine fk (eZ (r := aG (.ag 3 n (fun i => .rat ((intOf (f i) : Int) : Rat) 64)) []) hT Cx rfl (of_decide_eq_true (by kernel_rfl)) rfl (fun _ c h0 => C3 a1 (by omega) a3 c (jM h0) ?_) K []) hk a4 []
   obtain ⟨m, rfl⟩ : ∃ m, n = m + 1 := ⟨n - 1, by omega⟩
   refine ak.iZ ((ay.fin hT A2 hm 60 Zz (by kernel_rfl) ?_).mono fun _ _ h => .inl h)
   simp only [aa.all, ax]
   exact .refl _
  ·rename_i h1 h2
   obtain ⟨a1, a2, a3, a4⟩ := B1 h1
   simp only [Option.some.injEq] at hs
   subst hs
   refine CJ hT Cx (fun _ => A0 hk rfl a4) (of_decide_eq_true (by kernel_rfl)) fun _ c hkp => C3 a1 (by omega) a3 c hkp ?_
   obtain ⟨m, rfl⟩ : ∃ m, n = m + 1 := ⟨n - 1, by omega⟩
   refine ak.aY hT A2 hm 60 [2] Kt (by kernel_rfl) fun s' hs' => ⟨.inr rfl, [2], _, [.own 0 3 0 (m + 1)], _, 0, _, hs', by kernel_rfl, ⟨⟨rfl, cr (by simp [aW, look]) rfl rfl⟩, trivial⟩, rfl, gM rfl fun i hi => aF rfl⟩
  ·simp at hs
 ·simp at hs
theorem X6 : ∀ K args pre r, F4 K args pre = some r → aA P xF K args pre r := by
 refine wW fun K args r hk hs => ?_
 split at hs
 ·rename_i n f
  split at hs
  ·rename_i h1
   obtain ⟨a1, a2, a3, a4⟩ := B1 h1
   simp only [Option.some.injEq] at hs
   subst hs
   refine CJ hT Cz (fun _ => A0 hk rfl a4) (of_decide_eq_true (by kernel_rfl)) fun _ c hkp => KA a1 (by omega) a3 c hkp ?_
   obtain ⟨m, rfl⟩ : ∃ m, n = m + 1 := ⟨n - 1, by omega⟩
   refine ak.aY hT DX hm 60 [2] Yr (by kernel_rfl) fun s' hs' => ⟨.inr rfl, [2], _, [.own 0 3 0 (m + 1)], _, 0, _, hs', by kernel_rfl, ⟨⟨rfl, cr (by simp [aW, look]) rfl rfl⟩, trivial⟩, rfl, gM rfl fun i hi => aF rfl⟩
  ·simp at hs
 ·simp at hs
end Go.Am.B

/- ref10.Check. -/
namespace Go.Am.B
open Go Go.Am.N AV aa aj IntKind
noncomputable def gR : aO := nG :: (sj, Io) :: (mR, vZ) :: (vI, DP) :: (sZ, Aa) :: (oq, AZ) :: (rz, IZ) :: (FT ++ gr)
theorem yp : aV P gR := eF (aD Vv (aD Ae (aD aa5 (aD J7 (aD GK (aD Kj (fl We gP)))))))
theorem aa8 {q : Rat} (h : 0 < q) : ¬ (dA q ≤ 0) := by unfold dA; grind
end Go.Am.B

/- ref09.Sum; contracts of sums. -/
namespace Go.Am.B
open Go Go.Am.N AV aa aj IntKind
end Go.Am.B

/- basis.Blossom. -/
namespace Go.Am.B
open Go Go.Am.N AV aa aj IntKind
end Go.Am.B

/- ref09.Polar, ref09.Blossom; contracts of polar forms. -/
namespace Go.Am.B
open Go Go.Am.N AV aa aj IntKind
end Go.Am.B

/- ref02: SameList, Mid, Text; ref08.Greville. -/
namespace Go.Am.B
open Go Go.Am.N AV aa aj IntKind
theorem N3 : aN P qh uC (au uC) := aK Zy (by kernel_rfl) (by kernel_rfl) (by kernel_rfl)
theorem N4 : aN P y9 tw (au tw) := aK K9 (by kernel_rfl) (by kernel_rfl) (by kernel_rfl)
theorem Qe : aN P qL jV (au jV) := aK RM (by kernel_rfl) (by kernel_rfl) (by kernel_rfl)
abbrev vl : List Nat := [0, 1, 4, 5]
abbrev zd (n m : Nat) (f g : Nat → Rat) (i : Nat) : List AV := [bP f n sU, bP g m sU, .bool false, .int .i64 i]
noncomputable abbrev qq : Code := au uC
theorem WZ {n m : Nat} {f g : Nat → Rat} : aH T gB [10] 60 vl (before qq [1,1,0,1]) ⟨aL 0 [bP f n sU, bP g m sU], [], 0⟩ =
  let c2 : AV := ag 3 m fun i ↦ rat (g i) 4294967296; let c1 : AV := ag 3 n fun i ↦ rat (f i) 4294967296; some (fork ((↑n : Int) != (↑m : Int)) (leaf ret ([c1, c2, AV.bool false, tuple []], [])) (leaf normal ([c1, c2, AV.bool false, int i64 (0 : Int)], []))) := by kernel_rfl
theorem QX {n m i : Nat} {f g : Nat → Rat} : aH T gB [14, 26] 60 vl [part qq [1,1,0,1,0,0]] ⟨az vl (zd n m f g i), [], 0⟩ =
  let c4 : AV := ag 3 m fun i ↦ rat (g i) 4294967296; let c3 : AV := ag 3 n fun i ↦ rat (f i) 4294967296; let c2 : Int := (↑i : Int); let c5 : Int := c2 + (1 : Int); let c1 : List AV × aC := ([c3, c4, AV.bool false, int i64 c2], []); some (fork (decide (c2 < (↑n : Int))) (af [(0 : Int) ≤ c2 ∧ c2.toNat < n, (0 : Int) ≤ c2 ∧ c2.toNat < m] (fork (!decide (f c2.toNat = g c2.toNat)) (leaf ret c1) (af [-(2 : Int) ^ 63 ≤ c5 ∧ c5 < (2 : Int) ^ 63] (leaf normal ([c3, c4, AV.bool false, int i64 c5], []))))) (leaf (exit 0) c1)) := by kernel_rfl
theorem Lk {n m i : Nat} {f g : Nat → Rat} : bR T gB [] 60 uC [part qq [1,1,1]] ⟨az vl (zd n m f g i), [], 0⟩ =
  some (leaf ret [AV.bool true]) := by kernel_rfl
def mZ (n : Nat) (f : Nat → Rat) (m : Nat) (g : Nat → Rat) : Bool := decide (n = m ∧ ∀ i, i < n → f i = g i)
theorem aaF {n m : Nat} {f g : Nat → Rat} (hn : n < 2 ^ 40) (hm2 : m < 2 ^ 40) (K : Nat) : aA P qh K [bP f n sU, bP g m sU] [] (aG (.bool (mZ n f m g)) []) := by
 refine iJ (r := aG (.bool (mZ n f m g)) []) hT xT hm N3 rfl (of_decide_eq_true (by kernel_rfl)) rfl [1,1,0,1] (i := 0) (y := part qq [1,1,0,1,0,0]) (z := part qq [1,1,1]) (by kernel_rfl) (by kernel_rfl) (by kernel_rfl) (f1 := [10]) (f2 := [14, 26]) (f3 := []) 60 vl 0
  (fun i : Nat => zd n m f g i) (fun _ => []) (fun i => i ≤ n ∧ n = m ∧ ∀ j, j < i → f j = g j) (fun i => i = n ∧ n = m ∧ ∀ j, j < i → f j = g j) (fun i => n - i) (fun _ => ⟨⟨_, WZ, ?_⟩, fun i ⟨h1, h2, h3⟩ => ⟨_, QX, ?_⟩, fun i ⟨h1, h2, h3⟩ => ⟨_, Lk, ?_⟩⟩) K []
 ·simp only [aa.all, ax, bne_iff_ne, ne_eq, bne_eq_false_iff_eq]
  exact ⟨fun h => ⟨[.bool false], by kernel_rfl, gd (decide_eq_false (fun hh => h (by omega))).symm⟩, fun h => ⟨0, ⟨by omega, by omega, fun j hj => by omega⟩, .vals rfl⟩⟩
 ·simp only [aa.all, ax, decide_eq_true_eq, decide_eq_false_iff_not, Bool.not_eq_true', Bool.not_eq_false', Int.toNat_natCast]
  (repeat' with_reducible first | refine And.intro ?_ ?_ | intro _)
  all_goals first | omega | skip
  ·rename_i a b
   exact ⟨[.bool false], by kernel_rfl, gd (decide_eq_false (fun hh => b (hh.2 i (by omega)))).symm⟩
  ·rename_i a b
   refine ⟨i + 1, ⟨by omega, h2, fun j hj => ?_⟩, by dsimp only; omega, .vals rfl⟩
   by_cases hj2 : j = i
   ·subst hj2; exact b
   ·exact h3 j (by omega)
  ·exact ⟨rfl, i, ⟨by omega, h2, h3⟩, .vals rfl⟩
 ·subst h1
  exact gd (decide_eq_true ⟨h2, h3⟩).symm
def Ay : Spec := eA (kC (kL sU) (kC (kL sU) kN)) (fun a => .bool (mZ a.1.1 a.1.2 a.2.1.1 a.2.1.2)) fun a => [a.1.1 < 2 ^ 40, a.2.1.1 < 2 ^ 40]
theorem Du : ∀ K args pre r, Ay K args pre = some r → aA P qh K args pre r := eC fun _ K hn => aaF hn.1 hn.2 K
end Go.Am.B
