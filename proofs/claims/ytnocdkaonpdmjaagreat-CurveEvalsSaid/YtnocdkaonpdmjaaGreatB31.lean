/- ref02: Add, Sub, Mul, Cmp, Make, Frac, Int. -/
import Derived.Test.YtnocdkaonpdmjaaGreatB30
set_option linter.unusedVariables false
namespace Go.Am.B
open Go Go.Am.N AV
theorem Py : aN P o3 wv (au wv) := aP X2 (by kernel_rfl) (by kernel_rfl) (by kernel_rfl)
theorem V9 : aN P vH wj (au wj) := aP aah (by kernel_rfl) (by kernel_rfl) (by kernel_rfl)
theorem Wv : aN P sx xl (au xl) := aP X0 (by kernel_rfl) (by kernel_rfl) (by kernel_rfl)
theorem Xt : aN P sS xR (au xR) := aP aeq (by kernel_rfl) (by kernel_rfl) (by kernel_rfl)
theorem ZI : aN P uW xG (au xG) := aP Ux (by kernel_rfl) (by kernel_rfl) (by kernel_rfl)
theorem Mc : aN P nj wE (au wE) := aP ZA (by kernel_rfl) (by kernel_rfl) (by kernel_rfl)
theorem NM : aN P jv xE (au xE) := aP aaN (by kernel_rfl) (by kernel_rfl) (by kernel_rfl)
def nY : aQ := [(vu, LN), (pW, DW), (xC, Il), (xM, LG), (mW, um), (uE, Iq), (pK, Hs), (rM, CJ), (u9, I2)]
def Ku : Spec := bw fun l => match l with
 | [.int .i64 x, .int .i64 y] => some (aG (.tuple [.rat ((x : Rat) / (y : Rat)) 64, .int .i64 (if y = 0 then 3 else 0)]) [-2 ^ 63 ≤ x, x < 2 ^ 63, -2 ^ 63 ≤ y, y < 2 ^ 63])
 | _ => none
def HO : Spec := bw fun l => match l with
 | [.rat q n, .rat r m] => some (aG (.rat (q + r) (n + m + 1)) [n < 2 ^ 41, m < 2 ^ 41])
 | _ => none
def Cc : aQ := [(o3, HO), (rM, CJ), (uW, Ku)]
theorem p6 : aY P nY := aF Zq (aF Gu (aF abe (aF OF (aF z5 (aF Xe (aF Nu (aF Kh (aF WO bk))))))))
theorem Qe {q r : Rat} {n m : Nat} : bu T nY [15, 20, 41, 52] 60 wv (au wv) ⟨aL 0 [.rat q n, .rat r m], [], 0⟩ =
  some (aa.ag [(0 : Nat) < 1] (aa.fork ((↑(nl q.num.natAbs) : Int) == (0 : Int)) (aa.ag [(0 : Nat) < 1, (0 : Nat) < 1] (aa.ag [(0 : Nat) < 1] (aa.leaf ah.ret [rat r m]))) (aa.ag [(0 : Nat) < 1] (aa.fork ((↑(nl r.num.natAbs) : Int) == (0 : Int)) (aa.ag [(0 : Nat) < 1, (0 : Nat) < 1] (aa.ag [(0 : Nat) < 1] (aa.leaf ah.ret [rat q n]))) (aa.ag [(0 : Nat) < 1, (0 : Nat) < 1, nl q.num.natAbs < 2 ^ 39, nl r.den < 2 ^ 39, (0 : Nat) < 1, (0 : Nat) < 1, nl r.num.natAbs < 2 ^ 39, nl q.den < 2 ^ 39] (aa.ag [(0 : Nat) < 1, (0 : Nat) < 1, nl q.den < 2 ^ 39, nl r.den < 2 ^ 39] (aa.ag [(0 : Nat) < 1, (0 : Nat) < 1] (aa.fork (decide (q < 0) == decide (r < 0)) (aa.ag [(0 : Nat) < 1, nl (q.num.natAbs * r.den) < 2 ^ 40, nl (r.num.natAbs * q.den) < 2 ^ 40, nl (q.num.natAbs * r.den + r.num.natAbs * q.den) < 2 ^ 38, nl (q.den * r.den) < 2 ^ 38, q.den * r.den ≠ 0, (0 : Nat) < 1] (aa.ag [(0 : Nat) < 1] (aa.leaf ah.ret [rat (sQ (decide (q < 0)) (q.num.natAbs * r.den + r.num.natAbs * q.den) (q.den * r.den)) (bS (sQ (decide (q < 0)) (q.num.natAbs * r.den + r.num.natAbs * q.den) (q.den * r.den)))]))) (aa.ag [nl (q.num.natAbs * r.den) < 2 ^ 40, nl (r.num.natAbs * q.den) < 2 ^ 40] (aa.fork (decide (bT (q.num.natAbs * r.den) (r.num.natAbs * q.den) < (0 : Int))) (aa.ag [nl (r.num.natAbs * q.den) < 2 ^ 40, nl (q.num.natAbs * r.den) < 2 ^ 40] (aa.ag [(0 : Nat) < 1, nl (r.num.natAbs * q.den - q.num.natAbs * r.den) < 2 ^ 38, nl (q.den * r.den) < 2 ^ 38, q.den * r.den ≠ 0, (0 : Nat) < 1] (aa.ag [(0 : Nat) < 1] (aa.leaf ah.ret [rat (sQ (decide (r < 0)) (r.num.natAbs * q.den - q.num.natAbs * r.den) (q.den * r.den)) (bS (sQ (decide (r < 0)) (r.num.natAbs * q.den - q.num.natAbs * r.den) (q.den * r.den)))])))) (aa.ag [nl (q.num.natAbs * r.den) < 2 ^ 40, nl (r.num.natAbs * q.den) < 2 ^ 40] (aa.ag [(0 : Nat) < 1, nl (q.num.natAbs * r.den - r.num.natAbs * q.den) < 2 ^ 38, nl (q.den * r.den) < 2 ^ 38, q.den * r.den ≠ 0, (0 : Nat) < 1] (aa.ag [(0 : Nat) < 1] (aa.leaf ah.ret [rat (sQ (decide (q < 0)) (q.num.natAbs * r.den - r.num.natAbs * q.den) (q.den * r.den)) (bS (sQ (decide (q < 0)) (q.num.natAbs * r.den - r.num.natAbs * q.den) (q.den * r.den)))])))))))))))))) := by kernel_rfl
theorem Tq {q r : Rat} {n m : Nat} : bu T nY [] 60 xl (au xl) ⟨aL 0 [.rat q n, .rat r m], [], 0⟩ =
  some (aa.ag [(0 : Nat) < 1, (0 : Nat) < 1, (0 : Nat) < 1, (0 : Nat) < 1, nl q.num.natAbs < 2 ^ 39, nl r.num.natAbs < 2 ^ 39, (0 : Nat) < 1, (0 : Nat) < 1, nl q.den < 2 ^ 39, nl r.den < 2 ^ 39, nl (q.num.natAbs * r.num.natAbs) < 2 ^ 38, nl (q.den * r.den) < 2 ^ 38, q.den * r.den ≠ 0, (0 : Nat) < 1] (aa.ag [(0 : Nat) < 1] (aa.leaf ah.ret [rat (sQ (decide (q < 0) != decide (r < 0)) (q.num.natAbs * r.num.natAbs) (q.den * r.den)) (bS (sQ (decide (q < 0) != decide (r < 0)) (q.num.natAbs * r.num.natAbs) (q.den * r.den)))]))) := by kernel_rfl
theorem X3 {q r : Rat} {n m : Nat} : bu T nY [14, 17, 30] 60 xR (au xR) ⟨aL 0 [.rat q n, .rat r m], [], 0⟩ =
  some (aa.ag [(0 : Nat) < 1, (0 : Nat) < 1] (aa.fork (dO q != dO r) (aa.fork (decide (dO q < dO r)) (aa.leaf ah.ret [int IntKind.i64 (-1 : Int)]) (aa.leaf ah.ret [int IntKind.i64 (1 : Int)])) (aa.ag [(0 : Nat) < 1, (0 : Nat) < 1, nl q.num.natAbs < 2 ^ 39, nl r.den < 2 ^ 39, (0 : Nat) < 1, (0 : Nat) < 1, nl r.num.natAbs < 2 ^ 39, nl q.den < 2 ^ 39, nl (q.num.natAbs * r.den) < 2 ^ 40, nl (r.num.natAbs * q.den) < 2 ^ 40] (aa.ag [(0 : Nat) < 1] (aa.fork (decide (q < 0)) (aa.leaf ah.ret [int IntKind.i64 (IntKind.i64.wrap ((0 : Int) - bT (q.num.natAbs * r.den) (r.num.natAbs * q.den)))]) (aa.leaf ah.ret [int IntKind.i64 (bT (q.num.natAbs * r.den) (r.num.natAbs * q.den))])))))) := by kernel_rfl
theorem RU {x y : Int} : bu T nY [11] 60 xG (au xG) ⟨aL 0 [.int .i64 x, .int .i64 y], [], 0⟩ =
  some (aa.fork (y == (0 : Int)) (aa.ag [(0 : Nat) < 1] (aa.ag [(0 : Nat) < 1] (aa.leaf ah.ret [agg [AV.bool false, mag 0, mag 0], int IntKind.i64 (3 : Int)]))) (aa.ag [-(2 : Int) ^ 63 ≤ x, x < (2 : Int) ^ 63] (aa.ag [-(2 : Int) ^ 63 ≤ y, y < (2 : Int) ^ 63] (aa.ag [nl x.natAbs < 2 ^ 38, nl y.natAbs < 2 ^ 38, y.natAbs ≠ 0, (0 : Nat) < 1] (aa.ag [(0 : Nat) < 1] (aa.leaf ah.ret [rat (sQ (decide (x < (0 : Int)) != decide (y < (0 : Int))) x.natAbs y.natAbs) (bS (sQ (decide (x < (0 : Int)) != decide (y < (0 : Int))) x.natAbs y.natAbs)), int IntKind.i64 (0 : Int)])))))) := by kernel_rfl
theorem Xf {x : Int} : bu T nY [] 60 xE (au xE) ⟨aL 0 [.int .i64 x], [], 0⟩ =
  some (aa.ag [-(2 : Int) ^ 63 ≤ x, x < (2 : Int) ^ 63] (aa.ag [(0 : Nat) < 1] (aa.ag [(0 : Nat) < 1] (aa.leaf ah.ret [agg [AV.bool (decide (x < (0 : Int))), mag x.natAbs, mag 0]])))) := by kernel_rfl
theorem TJ {q r : Rat} {n m : Nat} : bu T Cc [] 60 wj (au wj) ⟨aL 0 [.rat q n, .rat r m], [], 0⟩ =
  some (aa.ag [(0 : Nat) < 1, (0 : Nat) < 1, n < 2 ^ 41, m < 2 ^ 41, (0 : Nat) < 1] (aa.ag [(0 : Nat) < 1] (aa.leaf ah.ret [rat (q + -r) (n + m + 1)]))) := by kernel_rfl
theorem ab3 {x y : Int} : bu T Cc [] 60 wE (au wE) ⟨aL 0 [.int .i64 x, .int .i64 y], [], 0⟩ =
  some (aa.ag [-(2 : Int) ^ 63 ≤ x, x < (2 : Int) ^ 63, -(2 : Int) ^ 63 ≤ y, y < (2 : Int) ^ 63, (0 : Nat) < 1] (aa.ag [(0 : Nat) < 1, (0 : Nat) < 1] (aa.ag [(0 : Nat) < 1] (aa.leaf ah.ret [rat ((↑x : Rat) / (↑y : Rat)) 64])))) := by kernel_rfl
theorem eg {N n : Nat} (h : N < 2 ^ n) (hn : n < 2 ^ 42) : nl N < 2 ^ 38 := by
 have h1 : N < 2 ^ (32 * (n / 32 + 1)) := Nat.lt_of_lt_of_le h (Nat.pow_le_pow_right (by omega) (by omega))
 have := cA.2 h1
 omega
section ops
variable {q r : Rat} {n m : Nat}
theorem lZ {a b n m : Nat} (ha : a < 2 ^ n) (hb : b < 2 ^ m) : a * b < 2 ^ (n + m) := by rw [Nat.pow_add]; exact Nat.mul_lt_mul'' ha hb
theorem Ej (hn : n < 2 ^ 41) (hm' : m < 2 ^ 41) (K : Nat) : aA P o3 K [.rat q n, .rat r m] [] (aG (.rat (q + r) (n + m + 1)) []) := by
 refine gF fun ⟨hq, hr, _⟩ => ?_
 have hq : Sz q n := hq
 have hr : Sz r m := hr
 have d1 := q.den_nz
 have d2 := r.den_nz
 have hz := hq.add hr
 have a1 : nl q.num.natAbs < 2 ^ 38 := eg hq.1 (by omega)
 have a2 : nl q.den < 2 ^ 38 := eg hq.2 (by omega)
 have b1 : nl r.num.natAbs < 2 ^ 38 := eg hr.1 (by omega)
 have b2 : nl r.den < 2 ^ 38 := eg hr.2 (by omega)
 have x1 := lZ hq.1 hr.2
 have x2 := lZ hr.1 hq.2
 have m1 : nl (q.num.natAbs * r.den) < 2 ^ 38 := eg x1 (by omega)
 have m2 : nl (r.num.natAbs * q.den) < 2 ^ 38 := eg x2 (by omega)
 have m3 : nl (q.den * r.den) < 2 ^ 38 := eg (lZ hq.2 hr.2) (by omega)
 have m4 : nl (q.num.natAbs * r.den + r.num.natAbs * q.den) < 2 ^ 38 := eg (n := n + m + 1) (by rw [Nat.pow_succ]; rw [Nat.add_comm m n] at x2; omega) (by omega)
 have hd0 : q.den * r.den ≠ 0 := Nat.mul_ne_zero d1 d2
 have hv : q + r = sQ (decide (q < 0)) (q.num.natAbs * r.den) (q.den * r.den) + sQ (decide (r < 0)) (r.num.natAbs * q.den) (q.den * r.den) := by
  have := Cs q r (decide (r < 0))
  rw [iO r] at this
  exact this
 refine bC hT p6 hm Py rfl (of_decide_eq_true (by kernel_rfl)) rfl 60 Qe (fun _ => ?_) K []
 generalize q.num.natAbs * r.den = X at *
 generalize r.num.natAbs * q.den = Y at *
 generalize q.den * r.den = D at *
 simp only [aa.all, ay, beq_iff_eq, beq_eq_false_iff_ne, ne_eq, decide_eq_true_eq, decide_eq_false_iff_not, AD]
 have m5 : nl (Y - X) < 2 ^ 38 := Nat.lt_of_le_of_lt (fC (by omega)) m2
 have m6 : nl (X - Y) < 2 ^ 38 := Nat.lt_of_le_of_lt (fC (by omega)) m1
 refine ⟨by omega, fun hb => ⟨⟨by omega, by omega⟩, by omega, eM ?_ hz⟩, fun hb => ⟨by omega, fun hb2 => ⟨⟨by omega, by omega⟩, by omega, eM ?_ hz⟩, fun hb2 => ⟨⟨by omega, by omega, by omega, by omega, by omega, by omega, by omega, by omega⟩, ⟨by omega, by omega, by omega, by omega⟩, ⟨by omega, by omega⟩,
  fun hs => ⟨⟨by omega, by omega, by omega, m4, m3, hd0, by omega⟩, by omega, eM ?_ hz⟩, fun hs => ⟨⟨by omega, by omega⟩, fun hl => ⟨⟨by omega, by omega⟩, ⟨by omega, m5, m3, hd0, by omega⟩, by omega, eM ?_ hz⟩, fun hl => ⟨⟨by omega, by omega⟩, ⟨by omega, m6, m3, hd0, by omega⟩, by omega, eM ?_ hz⟩⟩⟩⟩⟩
 ·have h0 : q = 0 := j8.1 (gP.1 (by omega))
  rw [h0, Rat.zero_add]
 ·have h0 : r = 0 := j8.1 (gP.1 (by omega))
  rw [h0, Rat.add_zero]
 ·rw [hv, hs, DJ hd0]
 ·rw [hv, D4 hd0 hs (by omega)]
 ·rw [hv, DU hd0 hs (by omega)]
theorem II (hn : n < 2 ^ 41) (hm' : m < 2 ^ 41) (K : Nat) : aA P sx K [.rat q n, .rat r m] [] (aG (.rat (q * r) (n + m)) []) := by
 refine gF fun ⟨hq, hr, _⟩ => ?_
 have hq : Sz q n := hq
 have hr : Sz r m := hr
 have d1 := q.den_nz
 have d2 := r.den_nz
 have a1 : nl q.num.natAbs < 2 ^ 38 := eg hq.1 (by omega)
 have a2 : nl q.den < 2 ^ 38 := eg hq.2 (by omega)
 have b1 : nl r.num.natAbs < 2 ^ 38 := eg hr.1 (by omega)
 have b2 : nl r.den < 2 ^ 38 := eg hr.2 (by omega)
 have m1 : nl (q.num.natAbs * r.num.natAbs) < 2 ^ 38 := eg (lZ hq.1 hr.1) (by omega)
 have m3 : nl (q.den * r.den) < 2 ^ 38 := eg (lZ hq.2 hr.2) (by omega)
 have hv : sQ (decide (q < 0) != decide (r < 0)) (q.num.natAbs * r.num.natAbs) (q.den * r.den) = q * r := by rw [← Eg, iO, iO]
 refine bC hT p6 hm Wv rfl (of_decide_eq_true (by kernel_rfl)) rfl 60 Tq (fun _ => ?_) K []
 simp only [aa.all, ay]
 exact ⟨⟨by omega, by omega, by omega, by omega, by omega, by omega, by omega, by omega, by omega, by omega, m1, m3, Nat.mul_ne_zero d1 d2, by omega⟩, by omega, eM hv (hq.mul hr)⟩
theorem GB (hn : n < 2 ^ 41) (hm' : m < 2 ^ 41) (K : Nat) : aA P sS K [.rat q n, .rat r m] [] (aG (.int .i64 (dK q r)) []) := by
 refine gF fun ⟨hq, hr, _⟩ => ?_
 have hq : Sz q n := hq
 have hr : Sz r m := hr
 have a1 : nl q.num.natAbs < 2 ^ 38 := eg hq.1 (by omega)
 have a2 : nl q.den < 2 ^ 38 := eg hq.2 (by omega)
 have b1 : nl r.num.natAbs < 2 ^ 38 := eg hr.1 (by omega)
 have b2 : nl r.den < 2 ^ 38 := eg hr.2 (by omega)
 have m1 : nl (q.num.natAbs * r.den) < 2 ^ 38 := eg (lZ hq.1 hr.2) (by omega)
 have m2 : nl (r.num.natAbs * q.den) < 2 ^ 38 := eg (lZ hr.1 hq.2) (by omega)
 refine bC hT p6 hm Xt rfl (of_decide_eq_true (by kernel_rfl)) rfl 60 X3 (fun _ => ?_) K []
 simp only [aa.all, ay, bne_iff_ne, ne_eq, bne_eq_false_iff_eq]
 refine ⟨⟨by omega, by omega⟩, fun hs => ⟨fun hl => bq ?_, fun hl => bq ?_⟩, fun hs => ⟨⟨by omega, by omega, by omega, by omega, by omega, by omega, by omega, by omega, by omega, by omega⟩, by omega, fun hc => bq ?_, fun hc => bq ?_⟩⟩
 ·rw [Ac hs, if_pos (of_decide_eq_true hl)]
 ·rw [Ac hs, if_neg (of_decide_eq_false hl)]
 ·rw [k9 hs, if_pos (of_decide_eq_true hc), AM]
 ·rw [k9 hs, if_neg (of_decide_eq_false hc)]
end ops
theorem JL {x y : Int} (hy : y ≠ 0) : sQ (decide (x < 0) != decide (y < 0)) x.natAbs y.natAbs = (x : Rat) / (y : Rat) := by
 have h := CI (x : Rat) (y : Rat) (by simpa using hy)
 have c : ∀ {z : Int}, decide ((z : Rat) < 0) = decide (z < 0) := fun {z} => by rw [decide_eq_decide, gk, Rat.num_intCast]
 rw [c, c, Rat.num_intCast, Rat.num_intCast, Rat.den_intCast, Rat.den_intCast, Nat.mul_one, Nat.one_mul] at h
 exact h
theorem J6 {x y : Int} (h1 : -2 ^ 63 ≤ x) (h2 : x < 2 ^ 63) (h3 : -2 ^ 63 ≤ y) (h4 : y < 2 ^ 63) (hy : y ≠ 0) : Sz ((x : Rat) / (y : Rat)) 64 := by
 rw [← JL hy]; exact Ed (by omega) (by omega) (by omega)
theorem ZQ {x y : Int} (h1 : -2 ^ 63 ≤ x) (h2 : x < 2 ^ 63) (h3 : -2 ^ 63 ≤ y) (h4 : y < 2 ^ 63) (K : Nat) : aA P uW K [.int .i64 x, .int .i64 y] [] (aG (.tuple [.rat ((x : Rat) / (y : Rat)) 64, .int .i64 (if y = 0 then 3 else 0)]) []) := by
 refine bC hT p6 hm ZI rfl (of_decide_eq_true (by kernel_rfl)) rfl 60 RU (fun _ => ?_) K []
 simp only [aa.all, ay, beq_iff_eq, beq_eq_false_iff_ne, ne_eq]
 refine ⟨fun hb => ⟨by omega, by omega, ?_, bq (by rw [if_pos hb]), trivial⟩, fun hb => ⟨⟨h1, h2⟩, ⟨h3, h4⟩, ⟨eg (n := 64) (by omega) (by omega), eg (n := 64) (by omega) (by omega), by omega, by omega⟩, by omega, eM (JL hb) (J6 h1 h2 h3 h4 hb), bq (by rw [if_neg hb]), trivial⟩⟩
 rw [hb, show ((x : Rat) / ((0 : Int) : Rat)) = 0 by rw [Rat.intCast_zero, Rat.div_def, Rat.inv_zero, Rat.mul_zero]]
 exact iu
theorem zc {n : Int} (h1 : -2 ^ 63 ≤ n) (h2 : n < 2 ^ 63) (K : Nat) : aA P jv K [.int .i64 n] [] (aG (.rat (n : Rat) (max 1 (bg n.natAbs))) []) := by
 refine bC hT p6 hm NM rfl (of_decide_eq_true (by kernel_rfl)) rfl 60 Xf (fun _ => ?_) K []
 simp only [aa.all, ay]
 refine ⟨⟨h1, h2⟩, by omega, by omega, pJ Ce ?_ (by rw [Rat.num_intCast]) (by rw [Rat.den_intCast, if_pos rfl])⟩
 rw [decide_eq_decide, gk, Rat.num_intCast]
theorem abR : ∀ K args pre r, Ku K args pre = some r → aA P uW K args pre r := by
 refine bI fun K args r hk hs _ => ?_
 split at hs
 ·simp only [Option.some.injEq] at hs
  subst hs
  exact fun need => ZQ need.1 need.2.1 need.2.2.1 need.2.2.2 K trivial
 ·simp at hs
theorem YX : ∀ K args pre r, HO K args pre = some r → aA P o3 K args pre r := by
 refine bI fun K args r hk hs _ => ?_
 split at hs
 ·simp only [Option.some.injEq] at hs
  subst hs
  exact fun need => Ej need.1 need.2 K trivial
 ·simp at hs
theorem KU : aY P Cc := aF YX (aF Kh (aF abR bk))
theorem Is {q r : Rat} {n m : Nat} (hn : n < 2 ^ 41) (hm' : m < 2 ^ 41) (K : Nat) : aA P vH K [.rat q n, .rat r m] [] (aG (.rat (q - r) (n + m + 1)) []) := by
 refine bC hT KU hm V9 rfl (of_decide_eq_true (by kernel_rfl)) rfl 60 TJ (fun _ => ?_) K []
 simp only [aa.all, ay]
 exact ⟨⟨by omega, by omega, hn, hm', by omega⟩, by omega, cI (by rw [Rat.sub_eq_add_neg])⟩
theorem Pq {x y : Int} (h1 : -2 ^ 63 ≤ x) (h2 : x < 2 ^ 63) (h3 : -2 ^ 63 ≤ y) (h4 : y < 2 ^ 63) (K : Nat) : aA P nj K [.int .i64 x, .int .i64 y] [] (aG (.rat ((x : Rat) / (y : Rat)) 64) []) := by
 refine bC hT KU hm Mc rfl (of_decide_eq_true (by kernel_rfl)) rfl 60 ab3 (fun _ => ?_) K []
 simp only [aa.all, ay]
 exact ⟨⟨h1, h2, h3, h4, by omega⟩, ⟨by omega, by omega⟩, by omega, .refl _⟩
def vL : Spec := bw fun l => match l with
 | [.int .i64 n] => some (aG (.rat (n : Rat) (max 1 (bg n.natAbs))) [-2 ^ 63 ≤ n, n < 2 ^ 63])
 | _ => none
theorem z9 : ∀ K args pre r, vL K args pre = some r → aA P jv K args pre r := by
 refine bI fun K args r hk hs _ => ?_
 split at hs
 ·simp only [Option.some.injEq] at hs
  subst hs
  exact fun need => zc need.1 need.2 K trivial
 ·simp at hs
def tr : Spec := bw fun l => match l with
 | [.int .i64 x, .int .i64 y] => some (aG (.rat ((x : Rat) / (y : Rat)) 64) [-2 ^ 63 ≤ x, x < 2 ^ 63, -2 ^ 63 ≤ y, y < 2 ^ 63])
 | _ => none
theorem xx : ∀ K args pre r, tr K args pre = some r → aA P nj K args pre r := by
 refine bI fun K args r hk hs _ => ?_
 split at hs
 ·simp only [Option.some.injEq] at hs
  subst hs
  exact fun need => Pq need.1 need.2.1 need.2.2.1 need.2.2.2 K trivial
 ·simp at hs
end Go.Am.B
