/- shapes.Circle. -/
import Derived.Test.YtbghpkgbokbmlaaGreatY48
import Derived.Test.YtbghpkgbokbmlaaGreatC9
set_option linter.unusedVariables false
namespace Go.Am.B
open Go Go.Am.N AV aa ah IntKind
theorem UN : aO P tM pI (au pI) := aL QV (by kernel_rfl) (by kernel_rfl) (by kernel_rfl)
def yR (a : V3) (r : Rat) (j : Nat) : Pl := ⟨⟨a.x + r * cX j, a.y + r * cY j, a.z⟩, cW j⟩
def fQ (r : Rat) (a b : Nat) : Nat := if dc r ≤ 0 then a else b
abbrev y5 (a : V3) (r : Rat) : AV := .agg [.int .i64 (fQ r 0 2 : Nat), g8 xE (fQ r 0 12) 64, iM (yR a r) (fQ r 0 9) 300]
def uR : Spec := gF (kC (IK 64) (kC (lf 64) kN)) (fun a => .tuple [y5 a.1 a.2.1, .int .i64 (fQ a.2.1 7 0 : Nat)]) fun _ => []
theorem Rs {a : V3} {r : Rat} : bw T (sG :: (nM ++ (tI ++ g9))) [11] 200 pI (au pI) ⟨aM 0 [vA a 64, .rat r 64], [], 0⟩ =
  let c26 : Int := i64.wrap ((1 : Int) + (1 : Int)); let c25 : AV := rat (↑(2 : Int) : Rat) (Max.max 1 (aN (Int.natAbs (2 : Int)))); let c24 : Nat := 3 + 2; let c23 : Nat := 1 + 1; let c22 : Nat := 56 + 1; let c21 : AV := rat 0 1; let c19 : Nat := nat_lit 0 + 0; let c18 : Nat := nat_lit 2 + 0; let c17 : Nat := nat_lit 1 + 0; let c16 : Prop := 3 ≤ 3; let c14 : Nat := 224 + 1; let c11 : Nat := 2 ^ 47; let c10 : AV := int i64 (-1 : Int); let c9 : AV := int i64 (1 : Int); let c8 : List AV := [rat (↑(1 : Int) : Rat) (Max.max 1 (aN (Int.natAbs (1 : Int))))]; let c3 : AV := int i64 (0 : Int); let c2 : Prop := 0 < 1; let c1 : Nat := 64 + ((64 : Nat) + 64) + 1 + 1 + 1; let c34 : List AV := [c3, c3]; let c32 : List AV := [c9, c3]; let c30 : List AV := [c10, c3]; let c15 : Int := i64.wrap (c26 + (1 : Int)); let c12 : Nat := c23 + 1; let c7 : Nat := c24 + 2; let c5 : AV := agg [agg [c21, c21, c21], c21]; let c33 : AV := int i64 (i64.wrap (c15 + (1 : Int))); let c31 : Nat := c7 + 2; let c27 : Nat := c12 + 1; let c6 : List AV := [agg (agg [rat (a.x + r * (↑(intOf (nth (c9 :: c34) c3 c19)) : Rat) + 0) c1, rat (a.y + r * (↑(intOf (nth (c9 :: c34) c3 c17)) : Rat) + 0) c1, rat (a.z + r * (↑(intOf (nth (c9 :: c34) c3 c18)) : Rat) + 0) c1] :: c8)]; let c20 : Nat := c31 + 2; let c4 : Nat := c27 + 1; let c29 : Nat := c4 + 1; let c13 : Nat := c29 + 1; let c28 : Nat := c13 + 1; some (fork (decide (dc r ≤ (0 : Int))) (af [c2] (leaf ret [agg [c3, nil, nil], int i64 (7 : Int)])) (af [c24 * c22 * 2 ≤ c11, c7 * c22 * 2 ≤ c11, c31 * c22 * 2 ≤ c11, c20 * c22 * 2 ≤ c11, (c20 + 1) * c22 * 2 ≤ c11] (af [c2] (af [c16, c2, c2, c2, c2, c2, c2, c2, c2 ∧ 1 * c14 * 2 ≤ c11] (af [c16, c2, c2, c2, c2, c2, c2, c2, c23 * c14 * 2 ≤ c11] (af [c16, c2, c2, c2, c2, c2, c2, c2, c12 * c14 * 2 ≤ c11] (af [c16, c2, c2, c2, c2, c2, c2, c2, c27 * c14 * 2 ≤ c11] (af [c16, c2, c2, c2, c2, c2, c2, c2, c4 * c14 * 2 ≤ c11] (af [c16, c2, c2, c2, c2, c2, c2, c2, c29 * c14 * 2 ≤ c11] (af [c16, c2, c2, c2, c2, c2, c2, c2, c13 * c14 * 2 ≤ c11] (af [c16, c2, c2, c2, c2, c2, c2, c2, c28 * c14 * 2 ≤ c11] (af [c16, c2, c2, c2, c2, c2, c2, c2, (c28 + 1) * c14 * 2 ≤ c11] (af [c2] (leaf ret [agg [int i64 (2 : Int), ak 3 12 fun i ↦ if i + 0 < c20 then if i + 0 < c31 then if i + 0 < c7 then if i + 0 < c24 then if i + 0 < 3 then rat (↑(intOf (nth (c3 :: c34) c3 (i + 0 + 0))) : Rat) 64 else rat (↑(intOf (nth [c9, c9] c3 (i + 0 - 3 + 0 + 0))) : Rat) 64 else rat (↑(intOf (nth [int i64 c26, int i64 c26] c3 (i + 0 - c24 + 0 + 0))) : Rat) 64 else rat (↑(intOf (nth [int i64 c15, int i64 c15] c3 (i + 0 - c7 + 0 + 0))) : Rat) 64 else rat (↑(intOf (nth [c33, c33] c3 (i + 0 - c31 + 0 + 0))) : Rat) 64 else nth [rat (↑(4 : Int) : Rat) (Max.max 1 (aN (Int.natAbs (4 : Int))))] c21 (i + 0 - c20 + 0), ak 12 9 fun i ↦ if i + 0 < c28 then if i + 0 < c13 then if i + 0 < c29 then if i + 0 < c4 then if i + 0 < c27 then if i + 0 < c12 then if i + 0 < c23 then if i + 0 < 1 then nth c6 c5 (i + 0 + 0) else nth [agg (agg [rat (a.x + r * (↑(intOf (nth (c9 :: c32) c3 c19)) : Rat) + 0) c1, rat (a.y + r * (↑(intOf (nth (c9 :: c32) c3 c17)) : Rat) + 0) c1, rat (a.z + r * (↑(intOf (nth (c9 :: c32) c3 c18)) : Rat) + 0) c1] :: c8)] c5 (i + 0 - 1 + 0) else nth [agg [agg [rat (a.x + r * (↑(intOf (nth (c3 :: c32) c3 c19)) : Rat) + 0) c1, rat (a.y + r * (↑(intOf (nth (c3 :: c32) c3 c17)) : Rat) + 0) c1, rat (a.z + r * (↑(intOf (nth (c3 :: c32) c3 c18)) : Rat) + 0) c1], c25]] c5 (i + 0 - c23 + 0) else nth [agg (agg [rat (a.x + r * (↑(intOf (nth (c10 :: c32) c3 c19)) : Rat) + 0) c1, rat (a.y + r * (↑(intOf (nth (c10 :: c32) c3 c17)) : Rat) + 0) c1, rat (a.z + r * (↑(intOf (nth (c10 :: c32) c3 c18)) : Rat) + 0) c1] :: c8)] c5 (i + 0 - c12 + 0) else nth [agg (agg [rat (a.x + r * (↑(intOf (nth (c10 :: c34) c3 c19)) : Rat) + 0) c1, rat (a.y + r * (↑(intOf (nth (c10 :: c34) c3 c17)) : Rat) + 0) c1, rat (a.z + r * (↑(intOf (nth (c10 :: c34) c3 c18)) : Rat) + 0) c1] :: c8)] c5 (i + 0 - c27 + 0) else nth [agg (agg [rat (a.x + r * (↑(intOf (nth (c10 :: c30) c3 c19)) : Rat) + 0) c1, rat (a.y + r * (↑(intOf (nth (c10 :: c30) c3 c17)) : Rat) + 0) c1, rat (a.z + r * (↑(intOf (nth (c10 :: c30) c3 c18)) : Rat) + 0) c1] :: c8)] c5 (i + 0 - c4 + 0) else nth [agg [agg [rat (a.x + r * (↑(intOf (nth (c3 :: c30) c3 c19)) : Rat) + 0) c1, rat (a.y + r * (↑(intOf (nth (c3 :: c30) c3 c17)) : Rat) + 0) c1, rat (a.z + r * (↑(intOf (nth (c3 :: c30) c3 c18)) : Rat) + 0) c1], c25]] c5 (i + 0 - c29 + 0) else nth [agg (agg [rat (a.x + r * (↑(intOf (nth (c9 :: c30) c3 c19)) : Rat) + 0) c1, rat (a.y + r * (↑(intOf (nth (c9 :: c30) c3 c17)) : Rat) + 0) c1, rat (a.z + r * (↑(intOf (nth (c9 :: c30) c3 c18)) : Rat) + 0) c1] :: c8)] c5 (i + 0 - c13 + 0) else nth c6 c5 (i + 0 - c28 + 0)], c3])))))))))))))) := by kernel_rfl
theorem iL {x y z d x' y' z' d' : Rat} {s1 s2 s3 s4 s : Nat} (h1 : x = x') (h2 : y = y') (h3 : z = z') (h4 : d = d') (k1 : s1 ≤ s) (k2 : s2 ≤ s) (k3 : s3 ≤ s) (k4 : s4 ≤ s) : bp (.agg [.agg [.rat x s1, .rat y s2, .rat z s3], .rat d s4]) (eu ⟨⟨x', y', z'⟩, d'⟩ s) :=
 cN ⟨cN ⟨bJ h1 k1, bJ h2 k2, bJ h3 k3, trivial⟩, bJ h4 k4, trivial⟩
theorem jt {x r : Rat} : x + r * ((0 : Int) : Rat) + 0 = x := by
 rw [Rat.intCast_zero]; grind
theorem lY {x r : Rat} : x + r * ((1 : Int) : Rat) + 0 = x + r * 1 := by
 rw [show ((1 : Int) : Rat) = 1 from rfl]; grind
theorem mL {x r : Rat} : x + r * ((-1 : Int) : Rat) + 0 = x + r * (-1) := by
 rw [show ((-1 : Int) : Rat) = -1 from rfl]; grind
theorem pX {x r : Rat} : x + r * ((0 : Int) : Rat) + 0 = x + r * 0 := by
 rw [Rat.intCast_zero]; grind
theorem JG : ∀ K args pre r, uR K args pre = some r → az P tM K args pre r := fU fun ⟨a, r, _⟩ K _ => by
 refine bC (r := aG (.tuple [y5 a r, .int .i64 (fQ r 7 0 : Nat)]) []) hT (cz (ek oP (ek wJ iW))) hm UN rfl (of_decide_eq_true (by kernel_rfl)) rfl 200 Rs (fun _ => ?_) K []
 simp only [aa.all, ay, decide_eq_true_eq, decide_eq_false_iff_not]
 refine ⟨fun h => ?_, fun h => ?_⟩
 ·have e : ∀ {x y : Nat}, fQ r x y = x := fun {x y} => if_pos h
  exact ⟨by omega, cN ⟨bf (by rw [e]; rfl), by rw [e]; exact fK (by omega), by rw [e]; exact fK (by omega), trivial⟩, bf (by rw [e]; rfl), trivial⟩
 ·have e : ∀ {x y : Nat}, fQ r x y = y := fun {x y} => if_neg h
  (repeat' with_reducible refine And.intro ?_ ?_)
  all_goals first | omega | decide | skip
  refine ⟨cN ⟨bf (by rw [e]; rfl), ?_, ?_, trivial⟩, bf (by rw [e]; rfl), trivial⟩
  ·rw [e]
   refine iV fun i hi => ?_
   match i, hi with
   | 0, _ | 1, _ | 2, _ | 3, _ | 4, _ | 5, _ | 6, _ | 7, _ | 8, _ | 9, _ | 10, _ | 11, _ => exact bJ (by decide +kernel) (by decide)
  ·rw [e]
   refine iV fun j hj => ?_
   match j, hj with
   | 0, _ => exact iL lY pX jt (by decide +kernel) (by decide) (by decide) (by decide) (by decide)
   | 1, _ => exact iL lY lY jt (by decide +kernel) (by decide) (by decide) (by decide) (by decide)
   | 2, _ => exact iL pX lY jt (by decide +kernel) (by decide) (by decide) (by decide) (by decide)
   | 3, _ => exact iL mL lY jt (by decide +kernel) (by decide) (by decide) (by decide) (by decide)
   | 4, _ => exact iL mL pX jt (by decide +kernel) (by decide) (by decide) (by decide) (by decide)
   | 5, _ => exact iL mL mL jt (by decide +kernel) (by decide) (by decide) (by decide) (by decide)
   | 6, _ => exact iL pX mL jt (by decide +kernel) (by decide) (by decide) (by decide) (by decide)
   | 7, _ => exact iL lY mL jt (by decide +kernel) (by decide) (by decide) (by decide) (by decide)
   | 8, _ => exact iL lY pX jt (by decide +kernel) (by decide) (by decide) (by decide) (by decide)
end Go.Am.B

/- shapes.Polyline, ref14.Polyline. -/
namespace Go.Am.B
open Go Go.Am.N AV aa ah IntKind
theorem EI : aO P rG mo (au mo) := aL G6 (by kernel_rfl) (by kernel_rfl) (by kernel_rfl)
theorem Ea : aO P rQ lK (au lK) := aL TB (by kernel_rfl) (by kernel_rfl) (by kernel_rfl)
def vV : AV → V3
 | .agg [x, y, z] => ⟨bQ x, bQ y, bQ z⟩
 | _ => ⟨0, 0, 0⟩
def sR (f : Nat → AV) (n s : Nat) : Prop := ∀ i, i < n → bp (f i) (vA (vV (f i)) s)
abbrev jd (f : Nat → V3) (n s : Nat) : AV := .ak 9 n (fun i => vA (f i) s)
theorem Ex {f : Nat → V3} {n s s' : Nat} (h : s ≤ s') : sR (fun i => vA (f i) s) n s' := fun _ _ => EK rfl h
def xk : AV → Option (Nat × (Nat → AV))
 | .ak 9 n f => some (n, f)
 | .nil => some (0, fun _ => .nil)
 | _ => none
theorem KU {v : AV} {n s : Nat} {f : Nat → AV} (h : xk v = some (n, f)) (ha : sR f n s) : bp v (jd (fun i => vV (f i)) n s) := by
 unfold xk at h
 split at h
 ·simp only [Option.some.injEq, Prod.mk.injEq] at h
  obtain ⟨rfl, rfl⟩ := h
  exact iV ha
 ·simp only [Option.some.injEq, Prod.mk.injEq] at h
  obtain ⟨rfl, rfl⟩ := h
  exact fK (by omega)
 ·simp at h
def QG (s : Nat) : Kind (Nat × (Nat → V3)) := ⟨fun v => match xk v with
 | some (n, f) => some ((n, fun i => vV (f i)), [sR f n s])
 | none => none, fun a => jd a.2 a.1 s, fun {v a q} h hq => by
  split at h
  ·rename_i h1
   simp only [Option.some.injEq, Prod.mk.injEq] at h
   obtain ⟨rfl, rfl⟩ := h
   exact KU h1 hq
  ·simp at h⟩
def ff (n j : Nat) : Rat := ((min (j - 1) (n - 1) : Nat) : Rat)
def jg (g : Nat → V3) (j : Nat) : Pl := ⟨g j, 1⟩
def gC (n : Nat) : Int := if n < 2 then 1 else if 40 < n then 2 else 0
def eo (n a : Nat) : Nat := if n < 2 then 0 else if 40 < n then 0 else a
def wW (n : Nat) (g : Nat → V3) : Cu := ⟨(eo n 1 : Nat), eo n (n + 2), ff n, eo n n, jg g⟩
abbrev mq (n : Nat) (g : Nat → V3) : AV := .tuple [gv (wW n g) 64 100, .int .i64 (gC n)]
noncomputable abbrev qL : Code := au mo
noncomputable abbrev q8 : Code := au lK
noncomputable def uX : aP := nG :: w9 :: (nM ++ g9)
noncomputable def uM : aP := nG :: (gW, qp) :: (mZ ++ eV)
abbrev rq : List Nat := [2, 3, 0, 4, 20, 21, 22]
abbrev y4 (n : Nat) (g : Nat → V3) (i : Nat) : List AV := [.ptr 0 0 3 0 [], .int .i64 0, jd g n 64, .ptr 1 0 3 0 [], jd g n 64, .int .i64 n, .int .i64 i]
abbrev MO : aJ := ⟨false, true, 3, 1, fun _ => .agg [.int .i64 0, .nil, .nil]⟩
abbrev An : aJ := ⟨false, true, 3, 1, fun j => if (j == (0 : Nat)) = true then bN (.agg (kids (.agg [.int .i64 0, .nil, .nil]))) else .agg [.int .i64 0, .nil, .nil]⟩
abbrev RQ (v w : AV) : aJ := ⟨false, true, 3, 1, fun _ => .agg [.int .i64 1, v, w]⟩
abbrev ny (n : Nat) (g : Nat → V3) (i : Nat) : aC := [(3, ⟨true, true, 12, i, fun j => eu (jg g j) 100⟩), (2, ⟨true, true, 3, i + 1, fun j => .rat (ff n j) 64⟩), (1, RQ (.own 2 3 0 (i + 1)) (.own 3 12 0 i)), (0, MO)]
abbrev pG : List Nat := [2, 3, 0, 4, 5]
abbrev yb (n : Nat) (g : Nat → V3) (i : Nat) : List AV := [.ptr 0 0 3 0 [], .int .i64 0, jd g n 64, .ptr 1 0 3 0 [], .int .i64 i]
theorem SZ {n : Nat} {g : Nat → V3} : aI T uX [7, 12] 60 rq (before qL [1,1,1,0,1]) ⟨aM 0 [jd g n 64], [], 0⟩ =
  let c8 : Int := (↑n : Int); let c7 : Prop := 0 < 1; let c5 : AV := int i64 (0 : Int); let c4 : AV := ptr 0 0 3 0 []; let c1 : AV := ak 9 n fun i ↦ agg [rat (g i).x 64, rat (g i).y 64, rat (g i).z 64]; let c6 : List AV := [c1, tuple [], tuple [], tuple [], tuple []]; let c3 : AV := agg [c5, nil, nil]; let c2 : List (Nat × aJ) := [((0 : Nat), aJ.mk false true 3 1 fun j ↦ if (j == 0) = true then bN (agg c3.kids) else c3)]; some (fork (decide (c8 < (2 : Int))) (af [c7] (leaf ret (c4 :: int i64 (1 : Int) :: c6, c2))) (fork (decide (c8 > (40 : Int))) (af [c7] (leaf ret (c4 :: int i64 (2 : Int) :: c6, c2))) (af [(1 : Nat) * 1 ≤ 2 ^ 24, c7] (leaf normal ([c4, c5, c1, ptr 53248 0 3 0 [], c1, int i64 c8, c5], [((45056 : Nat), aJ.mk true true 3 1 fun i ↦ rat (↑(intOf (nth [c5] c5 (i + 0))) : Rat) 64), ((53248 : Nat), aJ.mk false true 3 1 fun j ↦ if (j == 0) = true then bN (agg ((c3.kids.set 0 (bN (int i64 (1 : Int)))).set 1 (bN (jr [own (nat_lit 45055 + 1) 3 0 1])))) else c3), ((0 : Nat), aJ.mk false true 3 1 fun x ↦ c3)]))))) := by kernel_rfl
theorem N4 {n i : Nat} {g : Nat → V3} : aI T uX [23] 60 rq [part qL [1,1,1,0,1,0,0]] ⟨aB rq (y4 n g i), ny n g i, 4⟩ =
  let c16 : Int := (↑n : Int); let c13 : AV := int i64 (0 : Int); let c12 : AV := ptr 1 0 3 0 []; let c11 : AV := ptr 0 0 3 0 []; let c10 : Int := (2 : Int) ^ 63; let c9 : Nat := 64 + 1 + 1; let c8 : AV := rat 0 1; let c6 : Int := (↑i : Int); let c5 : Nat := i + 1; let c3 : Prop := 0 < 1; let c2 : AV := ak 9 n fun i ↦ agg [rat (g i).x 64, rat (g i).y 64, rat (g i).z 64]; let c15 : Nat := c5 + 1; let c14 : Int := c6 + (1 : Int); let c7 : Nat × aJ := ((0 : Nat), aJ.mk false true 3 1 fun x ↦ agg [c13, nil, nil]); let c1 : AV := agg [int i64 (1 : Int), own 2 3 0 c5, own 3 12 0 i]; let c4 : AV := agg (c1.kids.set 1 (bN (own (nat_lit 49155 + 1) 3 0 c15))); some (fork (decide (c6 < c16)) (af [(0 : Int) ≤ c6 ∧ c6.toNat < n, c3] (af [c3, -c10 ≤ c6, c6 < c10, (1 : Nat) * 3 ≤ 2 ^ 24, c15 * ((56 : Nat) + 1) * 2 ≤ 2 ^ 47, c3] (af [c3, c3, c3, c3, c3, (1 : Nat) * 12 ≤ 2 ^ 24, c5 * ((224 : Nat) + 1) * 2 ≤ 2 ^ 47, c3] (af [-c10 ≤ c14 ∧ c14 < c10] (leaf normal ([c11, c13, c2, c12, c2, int i64 c16, int i64 c14], [((81924 : Nat), aJ.mk true true 12 c5 fun i_1 ↦ if i_1 < i then eu (jg g i_1) 100 else nth [agg [agg [rat ((g c6.toNat).x + 0) c9, rat ((g c6.toNat).y + 0) c9, rat ((g c6.toNat).z + 0) c9], rat (↑(1 : Int) : Rat) (Max.max 1 (aN (Int.natAbs (1 : Int))))]] (agg [agg [c8, c8, c8], c8]) (i_1 - i + 0)), ((49156 : Nat), aJ.mk true true 3 c15 fun i ↦ if i < c5 then rat (ff n i) 64 else nth [rat (↑c6 : Rat) (Max.max 1 (aN c6.natAbs))] c8 (i - c5 + 0)), ((1 : Nat), aJ.mk false true 3 1 fun j ↦ if (j == 0) = true then agg ((if ((0 : Nat) == 0) = true then c4 else c1).kids.set 2 (bN (own (nat_lit 81923 + 1) 12 0 c5))) else if (j == 0) = true then c4 else c1), c7])))))) (leaf (exit 1) ([c11, c13, c2, c12, c2, int i64 c16, int i64 c6], [((3 : Nat), aJ.mk true true 12 i fun j ↦ agg [agg [rat (g j).x 100, rat (g j).y 100, rat (g j).z 100], rat 1 100]), ((2 : Nat), aJ.mk true true 3 c5 fun j ↦ rat (ff n j) 64), ((1 : Nat), aJ.mk false true 3 1 fun x ↦ c1), c7]))) := by kernel_rfl
theorem Pk {n i : Nat} {g : Nat → V3} : cr T uX [] 60 mo [part qL [1,1,1,1]] ⟨aB rq (y4 n g i), ny n g i, 4⟩ =
  let c4 : Nat := i + 1; let c3 : Int := (2 : Int) ^ 63; let c2 : Prop := 0 < 1; let c1 : Int := (↑n : Int) - (1 : Int); some (af [c2, -c3 ≤ c1 ∧ c1 < c3, -c3 ≤ c1, c1 < c3, (1 : Nat) * 3 ≤ 2 ^ 24, (c4 + 1) * ((56 : Nat) + 1) * 2 ≤ 2 ^ 47, c2] (af [c2, c2] (af [c2] (leaf ret [agg [int i64 (1 : Int), ak 3 (c4 + 1) fun i ↦ if i + 0 < c4 then rat (ff n (i + 0)) 64 else nth [rat (↑c1 : Rat) (Max.max 1 (aN c1.natAbs))] (rat 0 1) (i + 0 - c4 + 0), ak 12 i fun i ↦ agg [agg [rat (g (i + 0)).x 100, rat (g (i + 0)).y 100, rat (g (i + 0)).z 100], rat 1 100]], int i64 (0 : Int)])))) := by kernel_rfl
theorem zW {e : Int} : gI T mo .ret ⟨aB [2, 3] [.ptr 0 0 3 0 [], .int .i64 e], [(0, An)], 4⟩ =
  some (af [(0 : Nat) < 1] (leaf ret [agg [int i64 (0 : Int), nil, nil], int i64 e])) := by kernel_rfl
theorem C7 {e : Int} : gI T lK .ret ⟨aB [2, 3] [.ptr 0 0 3 0 [], .int .i64 e], [(0, An)], 4⟩ =
  some (af [(0 : Nat) < 1] (leaf ret [agg [int i64 (0 : Int), nil, nil], int i64 e])) := by kernel_rfl
theorem Mu {n : Nat} {g : Nat → V3} : aI T uM [8, 12] 60 pG (before q8 [1,1,1,1,0,1]) ⟨aM 0 [jd g n 64], [], 0⟩ =
  let c7 : Int := (↑n : Int); let c6 : Prop := 0 < 1; let c5 : AV := int i64 (0 : Int); let c4 : AV := ptr 0 0 3 0 []; let c1 : AV := ak 9 n fun i ↦ agg [rat (g i).x 64, rat (g i).y 64, rat (g i).z 64]; let c3 : AV := agg [c5, nil, nil]; let c2 : List (Nat × aJ) := [((0 : Nat), aJ.mk false true 3 1 fun j ↦ if (j == 0) = true then bN (agg c3.kids) else c3)]; some (fork (decide (c7 < (2 : Int))) (af [c6] (leaf ret ([c4, int i64 (1 : Int), c1, tuple [], tuple []], c2))) (fork (decide (c7 > (40 : Int))) (af [c6] (leaf ret ([c4, int i64 (2 : Int), c1, tuple [], tuple []], c2))) (af [(1 : Nat) * 1 ≤ 2 ^ 24, c6] (leaf normal ([c4, c5, c1, ptr 45056 0 3 0 [], c5], [((36864 : Nat), aJ.mk true true 3 1 fun i ↦ rat (↑(intOf (nth [c5] c5 (i + 0))) : Rat) 64), ((45056 : Nat), aJ.mk false true 3 1 fun j ↦ if (j == 0) = true then bN (agg ((c3.kids.set 0 (bN (int i64 (1 : Int)))).set 1 (bN (jr [own (nat_lit 36863 + 1) 3 0 1])))) else c3), ((0 : Nat), aJ.mk false true 3 1 fun x ↦ c3)]))))) := by kernel_rfl
theorem M6 {n i : Nat} {g : Nat → V3} : aI T uM [20] 60 pG [part q8 [1,1,1,1,0,1,0,0]] ⟨aB pG (yb n g i), ny n g i, 4⟩ =
  let c12 : AV := int i64 (0 : Int); let c11 : AV := ptr 1 0 3 0 []; let c10 : AV := ptr 0 0 3 0 []; let c9 : Int := (2 : Int) ^ 63; let c8 : Prop := 0 < 1; let c7 : AV := rat 0 1; let c5 : AV := ak 9 n fun i ↦ agg [rat (g i).x 64, rat (g i).y 64, rat (g i).z 64]; let c4 : Int := (↑i : Int); let c3 : Nat := i + 1; let c14 : Int := c4 + (1 : Int); let c13 : Nat := c3 + 1; let c6 : Nat × aJ := ((0 : Nat), aJ.mk false true 3 1 fun x ↦ agg [c12, nil, nil]); let c1 : AV := agg [int i64 (1 : Int), own 2 3 0 c3, own 3 12 0 i]; let c2 : AV := agg (c1.kids.set 1 (bN (own (nat_lit 36867 + 1) 3 0 c13))); some (fork (decide (c4 < (↑n : Int))) (af [c8, -c9 ≤ c4, c4 < c9, (1 : Nat) * 3 ≤ 2 ^ 24, c13 * ((56 : Nat) + 1) * 2 ≤ 2 ^ 47, c8] (af [c8, (0 : Int) ≤ c4 ∧ c4.toNat < n, c8, (1 : Nat) * 12 ≤ 2 ^ 24, c3 * ((224 : Nat) + 1) * 2 ≤ 2 ^ 47, c8] (af [-c9 ≤ c14 ∧ c14 < c9] (leaf normal ([c10, c12, c5, c11, int i64 c14], [((81924 : Nat), aJ.mk true true 12 c3 fun i_1 ↦ if i_1 < i then eu (jg g i_1) 100 else nth [agg [agg [rat (g c4.toNat).x 64, rat (g c4.toNat).y 64, rat (g c4.toNat).z 64], rat (↑(1 : Int) : Rat) (Max.max 1 (aN (Int.natAbs (1 : Int))))]] (agg [agg [c7, c7, c7], c7]) (i_1 - i + 0)), ((36868 : Nat), aJ.mk true true 3 c13 fun i ↦ if i < c3 then rat (ff n i) 64 else nth [rat (↑c4 : Rat) (Max.max 1 (aN c4.natAbs))] c7 (i - c3 + 0)), ((1 : Nat), aJ.mk false true 3 1 fun j ↦ if (j == 0) = true then agg ((if ((0 : Nat) == 0) = true then c2 else c1).kids.set 2 (bN (own (nat_lit 81923 + 1) 12 0 c3))) else if (j == 0) = true then c2 else c1), c6]))))) (leaf (exit 0) ([c10, c12, c5, c11, int i64 c4], [((3 : Nat), aJ.mk true true 12 i fun j ↦ agg [agg [rat (g j).x 100, rat (g j).y 100, rat (g j).z 100], rat 1 100]), ((2 : Nat), aJ.mk true true 3 c3 fun j ↦ rat (ff n j) 64), ((1 : Nat), aJ.mk false true 3 1 fun x ↦ c1), c6]))) := by kernel_rfl
theorem G3 {n i : Nat} {g : Nat → V3} : cr T uM [] 60 lK [part q8 [1,1,1,1,1]] ⟨aB pG (yb n g i), ny n g i, 4⟩ =
  let c4 : Nat := i + 1; let c3 : Int := (2 : Int) ^ 63; let c2 : Prop := 0 < 1; let c1 : Int := (↑n : Int) - (1 : Int); some (af [c2, -c3 ≤ c1 ∧ c1 < c3, -c3 ≤ c1, c1 < c3, (1 : Nat) * 3 ≤ 2 ^ 24, (c4 + 1) * ((56 : Nat) + 1) * 2 ≤ 2 ^ 47, c2] (af [c2, c2] (af [c2] (leaf ret [agg [int i64 (1 : Int), ak 3 (c4 + 1) fun i ↦ if i + 0 < c4 then rat (ff n (i + 0)) 64 else nth [rat (↑c1 : Rat) (Max.max 1 (aN c1.natAbs))] (rat 0 1) (i + 0 - c4 + 0), ak 12 i fun i ↦ agg [agg [rat (g (i + 0)).x 100, rat (g (i + 0)).y 100, rat (g (i + 0)).z 100], rat 1 100]], int i64 (0 : Int)])))) := by kernel_rfl
theorem D9 : aX P uX := ij (aE Qf (ek oP iW))
theorem D4 : aX P uM := ij (aE vt (ek qI fq))
theorem B1 {n a : Nat} (h : n < 2) : eo n a = 0 := if_pos h
theorem FD {n a : Nat} (h : 40 < n) : eo n a = 0 := by unfold eo; rw [if_neg (by omega), if_pos h]
theorem yW {n a : Nat} (h1 : ¬ n < 2) (h2 : ¬ 40 < n) : eo n a = a := by unfold eo; rw [if_neg h1, if_neg h2]
theorem Cp {n : Nat} (h : n < 2) : gC n = 1 := if_pos h
theorem AW {n : Nat} (h : 40 < n) : gC n = 2 := by unfold gC; rw [if_neg (by omega), if_pos h]
theorem Uu {n : Nat} (h1 : ¬ n < 2) (h2 : ¬ 40 < n) : gC n = 0 := by unfold gC; rw [if_neg h1, if_neg h2]
theorem EA {i : Nat} (h : i < 2 ^ 30) : max 1 (aN (i : Int).natAbs) ≤ 64 := by
 have : aN (i : Int).natAbs ≤ 30 := fH.2 (by omega)
 omega
theorem tg {n : Nat} {g : Nat → V3} {e : Int} (h : ∀ a, eo n a = 0) (he : gC n = e) : dj [.agg [.int .i64 0, .nil, .nil], .int .i64 e] [gv (wW n g) 64 100, .int .i64 (gC n)] := by
 show dj _ [.agg [.int .i64 (eo n 1 : Nat), .ak 3 (eo n (n + 2)) _, .ak 12 (eo n n) _], .int .i64 (gC n)]
 rw [h, h, h, he]
 exact ⟨cN ⟨.refl _, fK (by omega), fK (by omega), trivial⟩, .refl _, trivial⟩
theorem Bh {n i : Nat} (h : i < n) : ((i : Int) : Rat) = ff n (i + 1) := by
 unfold ff
 rw [show min (i + 1 - 1) (n - 1) = i by omega]
 rfl
theorem Me {n : Nat} (h : 1 ≤ n) : (((n : Int) - 1 : Int) : Rat) = ff n (n + 1) := by
 unfold ff
 rw [show (n : Int) - 1 = ((min (n + 1 - 1) (n - 1) : Nat) : Int) by omega]
 rfl
theorem tW {rl : List (Nat × Nat)} {n i a b : Nat} (h1 : aY rl 2 = some a) (h2 : aY rl 3 = some b) : gG rl (.agg [.int .i64 1, .own a 3 0 n, .own b 12 0 i]) (.agg [.int .i64 1, .own 2 3 0 n, .own 3 12 0 i]) :=
 xQ ⟨⟨rfl, aD rfl⟩, ⟨rfl, cw h1 rfl rfl⟩, ⟨rfl, cw h2 rfl rfl⟩, trivial⟩
theorem BF {n : Nat} {g : Nat → V3} (h2 : 2 ≤ n) (h3 : n ≤ 40) : dj [.agg [.int .i64 1, .ak 3 (n + 1 + 1) fun j => if j + 0 < n + 1 then .rat (ff n (j + 0)) 64 else nth [.rat (((n : Int) - 1 : Int) : Rat) (max 1 (aN ((n : Int) - 1).natAbs))] (.rat 0 1) (j + 0 - (n + 1) + 0), .ak 12 n fun j => eu (jg g (j + 0)) 100], .int .i64 0] [gv (wW n g) 64 100, .int .i64 (gC n)] := by
 show dj _ [.agg [.int .i64 (eo n 1 : Nat), .ak 3 (eo n (n + 2)) _, .ak 12 (eo n n) _], .int .i64 (gC n)]
 rw [yW (by omega) (by omega), yW (by omega) (by omega), yW (by omega) (by omega), Uu (by omega) (by omega)]
 refine ⟨cN ⟨.refl _, iV fun j hj => ?_, .refl _, trivial⟩, .refl _, trivial⟩
 by_cases h : j < n + 1
 ·show bp (if j < n + 1 then _ else _) _
  rw [if_pos h]; exact .refl _
 ·show bp (if j < n + 1 then _ else _) _
  have : j = n + 1 := by omega
  subst this
  rw [if_neg h, Nat.add_zero, Nat.sub_self]
  have : aN ((n : Int) - 1).natAbs ≤ 30 := fH.2 (by omega)
  exact bJ (Me (by omega)) (by omega)
theorem zV {rl : List (Nat × Nat)} {n k : Nat} (hk : k < 0 + 1) : gG rl (.rat ((intOf (nth [.int .i64 0] (.int .i64 0) (k + 0)) : Int) : Rat) 64) (.rat (ff n k) 64) := by
 have : k = 0 := by omega
 subst this
 have e : ff n 0 = 0 := by
  unfold ff
  rw [show min (0 - 1) (n - 1) = 0 by omega]
  rfl
 rw [e]
 exact bU rfl rfl
theorem Hs {n : Nat} {g : Nat → V3} (hn : n < 2 ^ 30) (K : Nat) : az P rG K [jd g n 64] [] (aG (mq n g) []) := by
 refine fk (r := aG (mq n g) []) hT EI rfl (of_decide_eq_true (by kernel_rfl)) rfl (fun _ cx h0 => ?_) K []
 have hk := nv h0
 refine aq.mm hT D9 hm [1,1,1,0,1] (i := 1) (y := part qL [1,1,1,0,1,0,0]) (z := part qL [1,1,1,1]) (by kernel_rfl) (by kernel_rfl) (by kernel_rfl) EI.dst hk (f1 := [7, 12]) (f2 := [23]) 60 rq 4
  (fun i : Nat => y4 n g i) (fun i => ny n g i) (fun i => i ≤ n ∧ 2 ≤ n ∧ n ≤ 40) (fun i => i = n ∧ 2 ≤ n ∧ n ≤ 40) (fun i => n - i) (uj T mo [2, 3] (mq n g)) ⟨_, SZ, ?_⟩ (fun i ⟨h1, h2, h3⟩ => ⟨_, N4, ?_⟩) (fun i ⟨h1, h2, h3⟩ => ?_) (fun v s' hv hs' => hv.fin (L1 := [0, 4, 20, 21, 22]) hk hs')
 all_goals try simp only [aa.all, ay, decide_eq_true_eq, decide_eq_false_iff_not, Int.toNat_natCast]
 ·exact ⟨fun h => ⟨by omega, [.ptr 0 0 3 0 [], .int .i64 1], _, 4, _, rfl, rfl, rfl, zW, rfl, ⟨⟨by omega, fun _ _ => uV rfl rfl⟩, trivial⟩, ⟨Nat.zero_lt_one, tg (n := n) (g := g) (fun _ => B1 (by omega)) (Cp (by omega))⟩⟩, fun h => ⟨fun h' => ⟨by omega, [.ptr 0 0 3 0 [], .int .i64 2], _, 4, _, rfl, rfl, rfl, zW, rfl, ⟨⟨by omega, fun _ _ => uV rfl rfl⟩, trivial⟩, ⟨Nat.zero_lt_one, tg (n := n) (g := g) (fun _ => FD (by omega)) (AW (by omega))⟩⟩,
   fun h' => ⟨⟨by omega, by omega⟩, 0, ⟨by omega, by omega, by omega⟩, [(0, 0), (1, 53248), (2, 45056)], rfl, rfl, rfl, xX rfl (by omega) (by omega) (ep rfl rfl rfl (fun k hk => zV hk) (cj rfl rfl (xQ ⟨⟨rfl, aD rfl⟩, ⟨rfl, cw rfl rfl rfl⟩, ⟨rfl, xx (by omega)⟩, trivial⟩) (cj rfl rfl (bU rfl rfl) trivial)))⟩⟩⟩
 ·refine ⟨fun h => ⟨by omega, by omega, by omega, by omega, i + 1, ⟨by omega, h2, h3⟩, by dsimp only; omega, [(0, 0), (1, 1), (2, 49156), (3, 81924)], rfl, rfl, rfl, ep rfl rfl rfl (fun k hk => CX (y := jg g) (fun _ _ => rfl) ?_ rfl (Nat.le_refl _) (Nat.le_refl _) hk) (ep rfl rfl rfl (fun k hk => yd (fun _ _ => rfl) (Bh (by omega)) (Nat.le_refl _) (EA (by omega)) hk) (cj rfl rfl (tW rfl rfl) (cj rfl rfl (bU rfl rfl) trivial)))⟩,
   fun h => ⟨rfl, i, ⟨by omega, h2, h3⟩, [(0, 0), (1, 1), (2, 2), (3, 3)], rfl, rfl, rfl, ep rfl rfl rfl (fun _ _ => bU rfl rfl) (ep rfl rfl rfl (fun _ _ => bU rfl rfl) (cj rfl rfl (tW rfl rfl) (cj rfl rfl (bU rfl rfl) trivial)))⟩⟩
  exact cN ⟨cN ⟨bJ (Rat.add_zero _) (by decide), bJ (Rat.add_zero _) (by decide), bJ (Rat.add_zero _) (by decide), trivial⟩, bJ rfl (by decide), trivial⟩
 ·subst h1
  refine aq.oz ((ax.fin hT D9 hm 60 Pk (by kernel_rfl) ?_).mono fun _ _ h => .inl h)
  simp only [aa.all, ay]
  exact ⟨⟨by omega, by omega, by omega, by omega, by omega, by omega, by omega⟩, by omega, by omega, BF h2 h3⟩
theorem Nq {n : Nat} {g : Nat → V3} (hn : n < 2 ^ 30) (K : Nat) : az P rQ K [jd g n 64] [] (aG (mq n g) []) := by
 refine fk (r := aG (mq n g) []) hT Ea rfl (of_decide_eq_true (by kernel_rfl)) rfl (fun _ cx h0 => ?_) K []
 have hk := nv h0
 refine aq.mm hT D4 hm [1,1,1,1,0,1] (i := 0) (y := part q8 [1,1,1,1,0,1,0,0]) (z := part q8 [1,1,1,1,1]) (by kernel_rfl) (by kernel_rfl) (by kernel_rfl) Ea.dst hk (f1 := [8, 12]) (f2 := [20]) 60 pG 4
  (fun i : Nat => yb n g i) (fun i => ny n g i) (fun i => i ≤ n ∧ 2 ≤ n ∧ n ≤ 40) (fun i => i = n ∧ 2 ≤ n ∧ n ≤ 40) (fun i => n - i) (uj T lK [2, 3] (mq n g)) ⟨_, Mu, ?_⟩ (fun i ⟨h1, h2, h3⟩ => ⟨_, M6, ?_⟩) (fun i ⟨h1, h2, h3⟩ => ?_) (fun v s' hv hs' => hv.fin (L1 := [0, 4, 5]) hk hs')
 all_goals try simp only [aa.all, ay, decide_eq_true_eq, decide_eq_false_iff_not, Int.toNat_natCast]
 ·exact ⟨fun h => ⟨by omega, [.ptr 0 0 3 0 [], .int .i64 1], _, 4, _, rfl, rfl, rfl, C7, rfl, ⟨⟨by omega, fun _ _ => uV rfl rfl⟩, trivial⟩, ⟨Nat.zero_lt_one, tg (n := n) (g := g) (fun _ => B1 (by omega)) (Cp (by omega))⟩⟩, fun h => ⟨fun h' => ⟨by omega, [.ptr 0 0 3 0 [], .int .i64 2], _, 4, _, rfl, rfl, rfl, C7, rfl, ⟨⟨by omega, fun _ _ => uV rfl rfl⟩, trivial⟩, ⟨Nat.zero_lt_one, tg (n := n) (g := g) (fun _ => FD (by omega)) (AW (by omega))⟩⟩,
   fun h' => ⟨⟨by omega, by omega⟩, 0, ⟨by omega, by omega, by omega⟩, [(0, 0), (1, 45056), (2, 36864)], rfl, rfl, rfl, xX rfl (by omega) (by omega) (ep rfl rfl rfl (fun k hk => zV hk) (cj rfl rfl (xQ ⟨⟨rfl, aD rfl⟩, ⟨rfl, cw rfl rfl rfl⟩, ⟨rfl, xx (by omega)⟩, trivial⟩) (cj rfl rfl (bU rfl rfl) trivial)))⟩⟩⟩
 ·refine ⟨fun h => ⟨by omega, by omega, by omega, i + 1, ⟨by omega, h2, h3⟩, by dsimp only; omega, [(0, 0), (1, 1), (2, 36868), (3, 81924)], rfl, rfl, rfl, ep rfl rfl rfl (fun k hk => CX (y := jg g) (fun _ _ => rfl) ?_ rfl (Nat.le_refl _) (Nat.le_refl _) hk) (ep rfl rfl rfl (fun k hk => yd (fun _ _ => rfl) (Bh (by omega)) (Nat.le_refl _) (EA (by omega)) hk) (cj rfl rfl (tW rfl rfl) (cj rfl rfl (bU rfl rfl) trivial)))⟩,
   fun h => ⟨rfl, i, ⟨by omega, h2, h3⟩, [(0, 0), (1, 1), (2, 2), (3, 3)], rfl, rfl, rfl, ep rfl rfl rfl (fun _ _ => bU rfl rfl) (ep rfl rfl rfl (fun _ _ => bU rfl rfl) (cj rfl rfl (tW rfl rfl) (cj rfl rfl (bU rfl rfl) trivial)))⟩⟩
  exact cN ⟨cN ⟨bJ rfl (by decide), bJ rfl (by decide), bJ rfl (by decide), trivial⟩, bJ rfl (by decide), trivial⟩
 ·subst h1
  refine aq.oz ((ax.fin hT D4 hm 60 G3 (by kernel_rfl) ?_).mono fun _ _ h => .inl h)
  simp only [aa.all, ay]
  exact ⟨⟨by omega, by omega, by omega, by omega, by omega, by omega, by omega⟩, by omega, by omega, BF h2 h3⟩
def uH : Spec := gF (kC (QG 64) kN) (fun a => mq a.1.1 a.1.2) fun a => [a.1.1 < 2 ^ 30]
theorem Ro : ∀ K args pre r, uH K args pre = some r → az P rG K args pre r := fU fun _ K hn => Hs hn K
theorem PO : ∀ K args pre r, uH K args pre = some r → az P rQ K args pre r := fU fun _ K hn => Nq hn K
end Go.Am.B

/- ref14: Circle, Rotation; ref04.SameMap. -/
namespace Go.Am.B
open Go Go.Am.N AV aa ah IntKind
theorem Ub : aO P uW r8 (au r8) := aL Ou (by kernel_rfl) (by kernel_rfl) (by kernel_rfl)
noncomputable def FP : aP := [(zY, cK T (sG :: (kk, qR) :: eV) [] 200 Ey), (FE, cK T [sG] [] 60 FY), (Bf, cK T (sG :: mZ) [] 200 y7), (qj, cK T (sG :: eV) [] 60 ot)]
noncomputable def Cx : aP := sG :: (FP ++ (mZ ++ (mY ++ eV)))
noncomputable def Du : aP := [(BV, cK T (sG :: (mZ ++ eV)) [] 200 Ee), (Eh, cK T (sG :: (kk, qR) :: (FN ++ eV)) [] 60 CQ), (E8, cK T (sG :: (mY ++ eV)) [100012, 100021, 100030] 60 AF)]
theorem Ix {a : V3} {r : Rat} : bw T Cx [10] 400 r8 (au r8) ⟨aM 0 [vA a 64, .rat r 64], [], 0⟩ =
  let c32 : Nat := Max.max 1 (aN (Int.natAbs (0 : Int))); let c27 : Int := i64.wrap ((0 : Int) + (1 : Int)); let c26 : AV := rat 0 1; let c24 : AV := rat (↑(2 : Int) : Rat) (Max.max 1 (aN (Int.natAbs (2 : Int)))); let c23 : Nat := 1 + 1; let c22 : Nat := 8 + 1; let c20 : Prop := (4 : Int) ≠ (0 : Int); let c19 : Nat := 1 + 2; let c18 : AV := int i64 (0 : Int); let c15 : Nat := 224 + 1; let c11 : Nat := 2 ^ 47; let c10 : Rat := (↑(1 : Int) : Rat); let c9 : Rat := (↑(0 : Int) : Rat); let c7 : Nat := Max.max 1 (aN (Int.natAbs (1 : Int))); let c6 : Prop := (2 : Int) ≠ (0 : Int); let c5 : Prop := 0 < 1; let c31 : Nat := c19 + 2; let c28 : List AV := [rat c10 c7]; let c16 : Nat := 64 + ((64 : Nat) + c7) + 1; let c13 : Nat := c23 + 1; let c12 : Int := i64.wrap (c27 + (1 : Int)); let c4 : AV := agg [agg [c26, c26, c26], c26]; let c2 : Nat := 64 + ((64 : Nat) + c32) + 1; let c1 : Nat := 64 + ((64 : Nat) + (c7 + c32 + 1)) + 1; let c29 : Nat := c13 + 1; let c25 : Int := i64.wrap (c12 + (1 : Int)); let c17 : List AV := [rat (a.z + r * c9) c2]; let c8 : Nat := c31 + 2; let c35 : AV := int i64 (i64.wrap (c25 + (1 : Int))); let c33 : Nat := c8 + 2; let c3 : Nat := c29 + 1; let c34 : Nat := c3 + 1; let c21 : Nat := c33 + 2; let c14 : Nat := c34 + 1; let c30 : Nat := c14 + 1; some (fork (decide (dc r ≤ (0 : Int))) (af [c5] (leaf ret [agg [c18, nil, nil], int i64 (7 : Int)])) (af [c19 * c22 * 2 ≤ c11, c31 * c22 * 2 ≤ c11, c8 * c22 * 2 ≤ c11, c33 * c22 * 2 ≤ c11, c21 * c22 * 2 ≤ c11, (c21 + 1) * c22 * 2 ≤ c11] (af [c5, c6, c6, c5, c5, c5, c20, c5, c5 ∧ 1 * c15 * 2 ≤ c11] (af [c5, c6, c6, c5, c5, c5, c20, c5, c23 * c15 * 2 ≤ c11] (af [c5, c6, c6, c6, c5, c5, c5, c20, c5, c13 * c15 * 2 ≤ c11] (af [c5, c6, c6, c6, c5, c5, c5, c20, c5, c29 * c15 * 2 ≤ c11] (af [c5, c6, c6, c6, c6, c5, c5, c5, c20, c5, c3 * c15 * 2 ≤ c11] (af [c5, c6, c6, c6, c6, c5, c5, c5, c20, c5, c34 * c15 * 2 ≤ c11] (af [c5, c6, c6, c6, c6, c6, c5, c5, c5, c20, c5, c14 * c15 * 2 ≤ c11] (af [c5, c6, c6, c6, c6, c6, c5, c5, c5, c20, c5, c30 * c15 * 2 ≤ c11] (af [c5, c6, c6, c6, c6, c6, c6, c5, c5, c5, c20, c5, (c30 + 1) * c15 * 2 ≤ c11] (af [c5] (leaf ret [agg [int i64 (2 : Int), ak 3 12 fun i ↦ rat (↑(intOf (if i + 0 + 0 < c21 then if i + 0 + 0 < c33 then if i + 0 + 0 < c8 then if i + 0 + 0 < c31 then if i + 0 + 0 < c19 then if i + 0 + 0 < 1 then nth [c18] c18 (i + 0 + 0) else nth [c18, c18] c18 (i + 0 + 0 - 1 + 0) else nth [int i64 c27, int i64 c27] c18 (i + 0 + 0 - c19 + 0) else nth [int i64 c12, int i64 c12] c18 (i + 0 + 0 - c31 + 0) else nth [int i64 c25, int i64 c25] c18 (i + 0 + 0 - c8 + 0) else nth [c35, c35] c18 (i + 0 + 0 - c33 + 0) else nth [int i64 (4 : Int)] c18 (i + 0 + 0 - c21 + 0))) : Rat) 64, ak 12 9 fun i ↦ if i + 0 < c30 then if i + 0 < c14 then if i + 0 < c34 then if i + 0 < c3 then if i + 0 < c29 then if i + 0 < c13 then if i + 0 < c23 then if i + 0 < 1 then nth [agg (agg (rat (a.x + r * c10) c16 :: rat (a.y + r * c9) c2 :: c17) :: c28)] c4 (i + 0 + 0) else nth [agg (agg (rat (a.x + r * (c10 - c9)) c1 :: rat (a.y + r * (c10 + c9)) c1 :: c17) :: c28)] c4 (i + 0 - 1 + 0) else nth [agg [agg (rat (a.x + r * -c9) c2 :: rat (a.y + r * c10) c16 :: c17), c24]] c4 (i + 0 - c23 + 0) else nth [agg (agg (rat (a.x + r * -(c10 + c9)) c1 :: rat (a.y + r * (c10 - c9)) c1 :: c17) :: c28)] c4 (i + 0 - c13 + 0) else nth [agg (agg (rat (a.x + r * -c10) c16 :: rat (a.y + r * -c9) c2 :: c17) :: c28)] c4 (i + 0 - c29 + 0) else nth [agg (agg (rat (a.x + r * -(c10 - c9)) c1 :: rat (a.y + r * -(c10 + c9)) c1 :: c17) :: c28)] c4 (i + 0 - c3 + 0) else nth [agg [agg (rat (a.x + r * - -c9) c2 :: rat (a.y + r * -c10) c16 :: c17), c24]] c4 (i + 0 - c34 + 0) else nth [agg (agg (rat (a.x + r * - -(c10 + c9)) c1 :: rat (a.y + r * -(c10 - c9)) c1 :: c17) :: c28)] c4 (i + 0 - c14 + 0) else nth [agg (agg (rat (a.x + r * - -c10) c16 :: rat (a.y + r * - -c9) c2 :: c17) :: c28)] c4 (i + 0 - c30 + 0)], c18]))))))))))))) := by kernel_rfl
theorem HN : aX P FP := aE (cM hT (cz (aE vu fq)) hm (aL Tm (by kernel_rfl) (by kernel_rfl) (by kernel_rfl)) _ _) (aE (cM hT (cz aZ) hm (aL Tf (by kernel_rfl) (by kernel_rfl) (by kernel_rfl)) _ _) (aE (cM hT (cz qI) hm (aL Ho (by kernel_rfl) (by kernel_rfl) (by kernel_rfl)) _ _) (aE (cM hT (cz fq) hm xI _ _) aZ)))
theorem OL : aX P Cx := cz (ek HN (ek qI (ek qb fq)))
theorem Np : aX P Du := aE (cM hT (cz (ek qI fq)) hm (aL Rh (by kernel_rfl) (by kernel_rfl) (by kernel_rfl)) _ _) (aE (cM hT (cz (aE vu (ek I9 fq))) hm (aL RI (by kernel_rfl) (by kernel_rfl) (by kernel_rfl)) _ _) (aE (cM hT (cz (ek qb fq)) hm (aL SH (by kernel_rfl) (by kernel_rfl) (by kernel_rfl)) _ _) aZ))
theorem DT {x r e c : Rat} (h : e = c) : x + r * e = x + r * c := by rw [h]
theorem O4 {x r : Rat} : x + r * ((0 : Int) : Rat) = x := by rw [Rat.intCast_zero]; grind
theorem U6 : ∀ K args pre r, uR K args pre = some r → az P uW K args pre r := fU fun ⟨a, r, _⟩ K _ => by
 refine bC (r := aG (.tuple [y5 a r, .int .i64 (fQ r 7 0 : Nat)]) []) hT OL hm Ub rfl (of_decide_eq_true (by kernel_rfl)) rfl 400 Ix (fun _ => ?_) K []
 simp only [aa.all, ay, decide_eq_true_eq, decide_eq_false_iff_not]
 refine ⟨fun h => ?_, fun h => ?_⟩
 ·have e : ∀ {x y : Nat}, fQ r x y = x := fun {x y} => if_pos h
  exact ⟨by omega, cN ⟨bf (by rw [e]; rfl), by rw [e]; exact fK (by omega), by rw [e]; exact fK (by omega), trivial⟩, bf (by rw [e]; rfl), trivial⟩
 ·have e : ∀ {x y : Nat}, fQ r x y = y := fun {x y} => if_neg h
  (repeat' with_reducible refine And.intro ?_ ?_)
  all_goals first | omega | decide | skip
  refine ⟨cN ⟨bf (by rw [e]; rfl), ?_, ?_, trivial⟩, bf (by rw [e]; rfl), trivial⟩
  ·rw [e]
   refine iV fun i hi => ?_
   match i, hi with
   | 0, _ | 1, _ | 2, _ | 3, _ | 4, _ | 5, _ | 6, _ | 7, _ | 8, _ | 9, _ | 10, _ | 11, _ => exact bJ (by decide +kernel) (by decide)
  ·rw [e]
   refine iV fun j hj => ?_
   match j, hj with
   | 0, _ | 1, _ | 2, _ | 3, _ | 4, _ | 5, _ | 6, _ | 7, _ | 8, _ => exact iL (DT (by decide +kernel)) (DT (by decide +kernel)) O4 (by decide +kernel) (by decide) (by decide) (by decide) (by decide)
end Go.Am.B
