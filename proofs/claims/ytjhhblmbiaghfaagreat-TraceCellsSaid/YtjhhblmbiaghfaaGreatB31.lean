/- ref02: Add, Sub, Mul, Cmp, Make, Frac, Int. -/
import Derived.Test.YtjhhblmbiaghfaaGreatB30
set_option linter.unusedVariables false
namespace Go.Am.B
open Go Go.Am.N AV
theorem VO : aO P pQ ve (ax ve) := aP RT (by kernel_rfl) (by kernel_rfl) (by kernel_rfl)
theorem Km : aO P yu rF (ax rF) := aP XR (by kernel_rfl) (by kernel_rfl) (by kernel_rfl)
theorem UX : aO P zj sY (ax sY) := aP ZK (by kernel_rfl) (by kernel_rfl) (by kernel_rfl)
theorem O6 : aO P wW u6 (ax u6) := aP NZ (by kernel_rfl) (by kernel_rfl) (by kernel_rfl)
theorem OO : aO P vQ wu (ax wu) := aP R4 (by kernel_rfl) (by kernel_rfl) (by kernel_rfl)
theorem PF : aO P rI wh (ax wh) := aP Yh (by kernel_rfl) (by kernel_rfl) (by kernel_rfl)
theorem OD : aO P oB qQ (ax qQ) := aP Mq (by kernel_rfl) (by kernel_rfl) (by kernel_rfl)
def pD : aW := [(wj, GY), (qe, B7), (ug, Hr), (uR, IE), (mK, vr), (um, HD), (oK, CX), (qh, CG), (sL, ER)]
def HB : Spec := bu fun l => match l with
 | [.int .i64 x, .int .i64 y] => some (aK (.tuple [.rat ((x : Rat) / (y : Rat)) 64, .int .i64 (if y = 0 then 3 else 0)]) [-2 ^ 63 ≤ x, x < 2 ^ 63, -2 ^ 63 ≤ y, y < 2 ^ 63])
 | _ => none
def GV : Spec := bu fun l => match l with
 | [.rat q n, .rat r m] => some (aK (.rat (q + r) (n + m + 1)) [n < 2 ^ 41, m < 2 ^ 41])
 | _ => none
def BW : aW := [(pQ, GV), (qh, CG), (vQ, HB)]
theorem tg : br P pD := aJ Td (aJ Fb (aJ Ms (aJ LN (aJ xE (aJ NF (aJ OA (aJ FF (aJ TH aY))))))))
theorem Vx {q r : Rat} {n m : Nat} : bF T pD [15, 20, 41, 52] 60 ve (ax ve) ⟨aN 0 [.rat q n, .rat r m], [], 0⟩ =
  some (af.ag [(0 : Nat) < 1] (af.fork ((↑(nl q.num.natAbs) : Int) == (0 : Int)) (af.ag [(0 : Nat) < 1, (0 : Nat) < 1] (af.ag [(0 : Nat) < 1] (af.leaf ak.ret [rat r m]))) (af.ag [(0 : Nat) < 1] (af.fork ((↑(nl r.num.natAbs) : Int) == (0 : Int)) (af.ag [(0 : Nat) < 1, (0 : Nat) < 1] (af.ag [(0 : Nat) < 1] (af.leaf ak.ret [rat q n]))) (af.ag [(0 : Nat) < 1, (0 : Nat) < 1, nl q.num.natAbs < 2 ^ 39, nl r.den < 2 ^ 39, (0 : Nat) < 1, (0 : Nat) < 1, nl r.num.natAbs < 2 ^ 39, nl q.den < 2 ^ 39] (af.ag [(0 : Nat) < 1, (0 : Nat) < 1, nl q.den < 2 ^ 39, nl r.den < 2 ^ 39] (af.ag [(0 : Nat) < 1, (0 : Nat) < 1] (af.fork (decide (q < 0) == decide (r < 0)) (af.ag [(0 : Nat) < 1, nl (q.num.natAbs * r.den) < 2 ^ 40, nl (r.num.natAbs * q.den) < 2 ^ 40, nl (q.num.natAbs * r.den + r.num.natAbs * q.den) < 2 ^ 38, nl (q.den * r.den) < 2 ^ 38, q.den * r.den ≠ 0, (0 : Nat) < 1] (af.ag [(0 : Nat) < 1] (af.leaf ak.ret [rat (sQ (decide (q < 0)) (q.num.natAbs * r.den + r.num.natAbs * q.den) (q.den * r.den)) (bW (sQ (decide (q < 0)) (q.num.natAbs * r.den + r.num.natAbs * q.den) (q.den * r.den)))]))) (af.ag [nl (q.num.natAbs * r.den) < 2 ^ 40, nl (r.num.natAbs * q.den) < 2 ^ 40] (af.fork (decide (bO (q.num.natAbs * r.den) (r.num.natAbs * q.den) < (0 : Int))) (af.ag [nl (r.num.natAbs * q.den) < 2 ^ 40, nl (q.num.natAbs * r.den) < 2 ^ 40] (af.ag [(0 : Nat) < 1, nl (r.num.natAbs * q.den - q.num.natAbs * r.den) < 2 ^ 38, nl (q.den * r.den) < 2 ^ 38, q.den * r.den ≠ 0, (0 : Nat) < 1] (af.ag [(0 : Nat) < 1] (af.leaf ak.ret [rat (sQ (decide (r < 0)) (r.num.natAbs * q.den - q.num.natAbs * r.den) (q.den * r.den)) (bW (sQ (decide (r < 0)) (r.num.natAbs * q.den - q.num.natAbs * r.den) (q.den * r.den)))])))) (af.ag [nl (q.num.natAbs * r.den) < 2 ^ 40, nl (r.num.natAbs * q.den) < 2 ^ 40] (af.ag [(0 : Nat) < 1, nl (q.num.natAbs * r.den - r.num.natAbs * q.den) < 2 ^ 38, nl (q.den * r.den) < 2 ^ 38, q.den * r.den ≠ 0, (0 : Nat) < 1] (af.ag [(0 : Nat) < 1] (af.leaf ak.ret [rat (sQ (decide (q < 0)) (q.num.natAbs * r.den - r.num.natAbs * q.den) (q.den * r.den)) (bW (sQ (decide (q < 0)) (q.num.natAbs * r.den - r.num.natAbs * q.den) (q.den * r.den)))])))))))))))))) := by kernel_rfl
theorem YF {q r : Rat} {n m : Nat} : bF T pD [] 60 sY (ax sY) ⟨aN 0 [.rat q n, .rat r m], [], 0⟩ =
  some (af.ag [(0 : Nat) < 1, (0 : Nat) < 1, (0 : Nat) < 1, (0 : Nat) < 1, nl q.num.natAbs < 2 ^ 39, nl r.num.natAbs < 2 ^ 39, (0 : Nat) < 1, (0 : Nat) < 1, nl q.den < 2 ^ 39, nl r.den < 2 ^ 39, nl (q.num.natAbs * r.num.natAbs) < 2 ^ 38, nl (q.den * r.den) < 2 ^ 38, q.den * r.den ≠ 0, (0 : Nat) < 1] (af.ag [(0 : Nat) < 1] (af.leaf ak.ret [rat (sQ (decide (q < 0) != decide (r < 0)) (q.num.natAbs * r.num.natAbs) (q.den * r.den)) (bW (sQ (decide (q < 0) != decide (r < 0)) (q.num.natAbs * r.num.natAbs) (q.den * r.den)))]))) := by kernel_rfl
theorem Ma {q r : Rat} {n m : Nat} : bF T pD [14, 17, 30] 60 u6 (ax u6) ⟨aN 0 [.rat q n, .rat r m], [], 0⟩ =
  some (af.ag [(0 : Nat) < 1, (0 : Nat) < 1] (af.fork (dO q != dO r) (af.fork (decide (dO q < dO r)) (af.leaf ak.ret [int IntKind.i64 (-1 : Int)]) (af.leaf ak.ret [int IntKind.i64 (1 : Int)])) (af.ag [(0 : Nat) < 1, (0 : Nat) < 1, nl q.num.natAbs < 2 ^ 39, nl r.den < 2 ^ 39, (0 : Nat) < 1, (0 : Nat) < 1, nl r.num.natAbs < 2 ^ 39, nl q.den < 2 ^ 39, nl (q.num.natAbs * r.den) < 2 ^ 40, nl (r.num.natAbs * q.den) < 2 ^ 40] (af.ag [(0 : Nat) < 1] (af.fork (decide (q < 0)) (af.leaf ak.ret [int IntKind.i64 (IntKind.i64.wrap ((0 : Int) - bO (q.num.natAbs * r.den) (r.num.natAbs * q.den)))]) (af.leaf ak.ret [int IntKind.i64 (bO (q.num.natAbs * r.den) (r.num.natAbs * q.den))])))))) := by kernel_rfl
theorem Rg {x y : Int} : bF T pD [11] 60 wu (ax wu) ⟨aN 0 [.int .i64 x, .int .i64 y], [], 0⟩ =
  some (af.fork (y == (0 : Int)) (af.ag [(0 : Nat) < 1] (af.ag [(0 : Nat) < 1] (af.leaf ak.ret [agg [AV.bool false, mag 0, mag 0], int IntKind.i64 (3 : Int)]))) (af.ag [-(2 : Int) ^ 63 ≤ x, x < (2 : Int) ^ 63] (af.ag [-(2 : Int) ^ 63 ≤ y, y < (2 : Int) ^ 63] (af.ag [nl x.natAbs < 2 ^ 38, nl y.natAbs < 2 ^ 38, y.natAbs ≠ 0, (0 : Nat) < 1] (af.ag [(0 : Nat) < 1] (af.leaf ak.ret [rat (sQ (decide (x < (0 : Int)) != decide (y < (0 : Int))) x.natAbs y.natAbs) (bW (sQ (decide (x < (0 : Int)) != decide (y < (0 : Int))) x.natAbs y.natAbs)), int IntKind.i64 (0 : Int)])))))) := by kernel_rfl
theorem ZF {x : Int} : bF T pD [] 60 qQ (ax qQ) ⟨aN 0 [.int .i64 x], [], 0⟩ =
  some (af.ag [-(2 : Int) ^ 63 ≤ x, x < (2 : Int) ^ 63] (af.ag [(0 : Nat) < 1] (af.ag [(0 : Nat) < 1] (af.leaf ak.ret [agg [AV.bool (decide (x < (0 : Int))), mag x.natAbs, mag 0]])))) := by kernel_rfl
theorem MB {q r : Rat} {n m : Nat} : bF T BW [] 60 rF (ax rF) ⟨aN 0 [.rat q n, .rat r m], [], 0⟩ =
  some (af.ag [(0 : Nat) < 1, (0 : Nat) < 1, n < 2 ^ 41, m < 2 ^ 41, (0 : Nat) < 1] (af.ag [(0 : Nat) < 1] (af.leaf ak.ret [rat (q + -r) (n + m + 1)]))) := by kernel_rfl
theorem NG {x y : Int} : bF T BW [] 60 wh (ax wh) ⟨aN 0 [.int .i64 x, .int .i64 y], [], 0⟩ =
  some (af.ag [-(2 : Int) ^ 63 ≤ x, x < (2 : Int) ^ 63, -(2 : Int) ^ 63 ≤ y, y < (2 : Int) ^ 63, (0 : Nat) < 1] (af.ag [(0 : Nat) < 1, (0 : Nat) < 1] (af.ag [(0 : Nat) < 1] (af.leaf ak.ret [rat ((↑x : Rat) / (↑y : Rat)) 64])))) := by kernel_rfl
theorem eR {N n : Nat} (h : N < 2 ^ n) (hn : n < 2 ^ 42) : nl N < 2 ^ 38 := by
 have h1 : N < 2 ^ (32 * (n / 32 + 1)) := Nat.lt_of_lt_of_le h (Nat.pow_le_pow_right (by omega) (by omega))
 have := cw.2 h1
 omega
section ops
variable {q r : Rat} {n m : Nat}
theorem nj {a b n m : Nat} (ha : a < 2 ^ n) (hb : b < 2 ^ m) : a * b < 2 ^ (n + m) := by rw [Nat.pow_add]; exact Nat.mul_lt_mul'' ha hb
theorem FO (hn : n < 2 ^ 41) (hm' : m < 2 ^ 41) (K : Nat) : aC P pQ K [.rat q n, .rat r m] [] (aK (.rat (q + r) (n + m + 1)) []) := by
 refine iD fun ⟨hq, hr, _⟩ => ?_
 have hq : Sz q n := hq
 have hr : Sz r m := hr
 have d1 := q.den_nz
 have d2 := r.den_nz
 have hz := hq.add hr
 have a1 : nl q.num.natAbs < 2 ^ 38 := eR hq.1 (by omega)
 have a2 : nl q.den < 2 ^ 38 := eR hq.2 (by omega)
 have b1 : nl r.num.natAbs < 2 ^ 38 := eR hr.1 (by omega)
 have b2 : nl r.den < 2 ^ 38 := eR hr.2 (by omega)
 have x1 := nj hq.1 hr.2
 have x2 := nj hr.1 hq.2
 have m1 : nl (q.num.natAbs * r.den) < 2 ^ 38 := eR x1 (by omega)
 have m2 : nl (r.num.natAbs * q.den) < 2 ^ 38 := eR x2 (by omega)
 have m3 : nl (q.den * r.den) < 2 ^ 38 := eR (nj hq.2 hr.2) (by omega)
 have m4 : nl (q.num.natAbs * r.den + r.num.natAbs * q.den) < 2 ^ 38 := eR (n := n + m + 1) (by rw [Nat.pow_succ]; rw [Nat.add_comm m n] at x2; omega) (by omega)
 have hd0 : q.den * r.den ≠ 0 := Nat.mul_ne_zero d1 d2
 have hv : q + r = sQ (decide (q < 0)) (q.num.natAbs * r.den) (q.den * r.den) + sQ (decide (r < 0)) (r.num.natAbs * q.den) (q.den * r.den) := by
  have := Bd q r (decide (r < 0))
  rw [iz r] at this
  exact this
 refine bH hT tg hm VO rfl (of_decide_eq_true (by kernel_rfl)) rfl 60 Vx (fun _ => ?_) K []
 generalize q.num.natAbs * r.den = X at *
 generalize r.num.natAbs * q.den = Y at *
 generalize q.den * r.den = D at *
 simp only [af.all, ay, beq_iff_eq, beq_eq_false_iff_ne, ne_eq, decide_eq_true_eq, decide_eq_false_iff_not, wP]
 have m5 : nl (Y - X) < 2 ^ 38 := Nat.lt_of_le_of_lt (fo (by omega)) m2
 have m6 : nl (X - Y) < 2 ^ 38 := Nat.lt_of_le_of_lt (fo (by omega)) m1
 refine ⟨by omega, fun hb => ⟨⟨by omega, by omega⟩, by omega, ga ?_ hz⟩, fun hb => ⟨by omega, fun hb2 => ⟨⟨by omega, by omega⟩, by omega, ga ?_ hz⟩, fun hb2 => ⟨⟨by omega, by omega, by omega, by omega, by omega, by omega, by omega, by omega⟩, ⟨by omega, by omega, by omega, by omega⟩, ⟨by omega, by omega⟩,
  fun hs => ⟨⟨by omega, by omega, by omega, m4, m3, hd0, by omega⟩, by omega, ga ?_ hz⟩, fun hs => ⟨⟨by omega, by omega⟩, fun hl => ⟨⟨by omega, by omega⟩, ⟨by omega, m5, m3, hd0, by omega⟩, by omega, ga ?_ hz⟩, fun hl => ⟨⟨by omega, by omega⟩, ⟨by omega, m6, m3, hd0, by omega⟩, by omega, ga ?_ hz⟩⟩⟩⟩⟩
 ·have h0 : q = 0 := nU.1 (gP.1 (by omega))
  rw [h0, Rat.zero_add]
 ·have h0 : r = 0 := nU.1 (gP.1 (by omega))
  rw [h0, Rat.add_zero]
 ·rw [hv, hs, Ag hd0]
 ·rw [hv, A4 hd0 hs (by omega)]
 ·rw [hv, BE hd0 hs (by omega)]
theorem Ra (hn : n < 2 ^ 41) (hm' : m < 2 ^ 41) (K : Nat) : aC P zj K [.rat q n, .rat r m] [] (aK (.rat (q * r) (n + m)) []) := by
 refine iD fun ⟨hq, hr, _⟩ => ?_
 have hq : Sz q n := hq
 have hr : Sz r m := hr
 have d1 := q.den_nz
 have d2 := r.den_nz
 have a1 : nl q.num.natAbs < 2 ^ 38 := eR hq.1 (by omega)
 have a2 : nl q.den < 2 ^ 38 := eR hq.2 (by omega)
 have b1 : nl r.num.natAbs < 2 ^ 38 := eR hr.1 (by omega)
 have b2 : nl r.den < 2 ^ 38 := eR hr.2 (by omega)
 have m1 : nl (q.num.natAbs * r.num.natAbs) < 2 ^ 38 := eR (nj hq.1 hr.1) (by omega)
 have m3 : nl (q.den * r.den) < 2 ^ 38 := eR (nj hq.2 hr.2) (by omega)
 have hv : sQ (decide (q < 0) != decide (r < 0)) (q.num.natAbs * r.num.natAbs) (q.den * r.den) = q * r := by rw [← BU, iz, iz]
 refine bH hT tg hm UX rfl (of_decide_eq_true (by kernel_rfl)) rfl 60 YF (fun _ => ?_) K []
 simp only [af.all, ay]
 exact ⟨⟨by omega, by omega, by omega, by omega, by omega, by omega, by omega, by omega, by omega, by omega, m1, m3, Nat.mul_ne_zero d1 d2, by omega⟩, by omega, ga hv (hq.mul hr)⟩
theorem Ov (hn : n < 2 ^ 41) (hm' : m < 2 ^ 41) (K : Nat) : aC P wW K [.rat q n, .rat r m] [] (aK (.int .i64 (cB q r)) []) := by
 refine iD fun ⟨hq, hr, _⟩ => ?_
 have hq : Sz q n := hq
 have hr : Sz r m := hr
 have a1 : nl q.num.natAbs < 2 ^ 38 := eR hq.1 (by omega)
 have a2 : nl q.den < 2 ^ 38 := eR hq.2 (by omega)
 have b1 : nl r.num.natAbs < 2 ^ 38 := eR hr.1 (by omega)
 have b2 : nl r.den < 2 ^ 38 := eR hr.2 (by omega)
 have m1 : nl (q.num.natAbs * r.den) < 2 ^ 38 := eR (nj hq.1 hr.2) (by omega)
 have m2 : nl (r.num.natAbs * q.den) < 2 ^ 38 := eR (nj hr.1 hq.2) (by omega)
 refine bH hT tg hm O6 rfl (of_decide_eq_true (by kernel_rfl)) rfl 60 Ma (fun _ => ?_) K []
 simp only [af.all, ay, bne_iff_ne, ne_eq, bne_eq_false_iff_eq]
 refine ⟨⟨by omega, by omega⟩, fun hs => ⟨fun hl => bm ?_, fun hl => bm ?_⟩, fun hs => ⟨⟨by omega, by omega, by omega, by omega, by omega, by omega, by omega, by omega, by omega, by omega⟩, by omega, fun hc => bm ?_, fun hc => bm ?_⟩⟩
 ·rw [xe hs, if_pos (of_decide_eq_true hl)]
 ·rw [xe hs, if_neg (of_decide_eq_false hl)]
 ·rw [kU hs, if_pos (of_decide_eq_true hc), wG]
 ·rw [kU hs, if_neg (of_decide_eq_false hc)]
end ops
theorem Eh {x y : Int} (hy : y ≠ 0) : sQ (decide (x < 0) != decide (y < 0)) x.natAbs y.natAbs = (x : Rat) / (y : Rat) := by
 have h := C2 (x : Rat) (y : Rat) (by simpa using hy)
 have c : ∀ {z : Int}, decide ((z : Rat) < 0) = decide (z < 0) := fun {z} => by rw [decide_eq_decide, gb, Rat.num_intCast]
 rw [c, c, Rat.num_intCast, Rat.num_intCast, Rat.den_intCast, Rat.den_intCast, Nat.mul_one, Nat.one_mul] at h
 exact h
theorem JQ {x y : Int} (h1 : -2 ^ 63 ≤ x) (h2 : x < 2 ^ 63) (h3 : -2 ^ 63 ≤ y) (h4 : y < 2 ^ 63) (hy : y ≠ 0) : Sz ((x : Rat) / (y : Rat)) 64 := by
 rw [← Eh hy]; exact Cg (by omega) (by omega) (by omega)
theorem XK {x y : Int} (h1 : -2 ^ 63 ≤ x) (h2 : x < 2 ^ 63) (h3 : -2 ^ 63 ≤ y) (h4 : y < 2 ^ 63) (K : Nat) : aC P vQ K [.int .i64 x, .int .i64 y] [] (aK (.tuple [.rat ((x : Rat) / (y : Rat)) 64, .int .i64 (if y = 0 then 3 else 0)]) []) := by
 refine bH hT tg hm OO rfl (of_decide_eq_true (by kernel_rfl)) rfl 60 Rg (fun _ => ?_) K []
 simp only [af.all, ay, beq_iff_eq, beq_eq_false_iff_ne, ne_eq]
 refine ⟨fun hb => ⟨by omega, by omega, ?_, bm (by rw [if_pos hb]), trivial⟩, fun hb => ⟨⟨h1, h2⟩, ⟨h3, h4⟩, ⟨eR (n := 64) (by omega) (by omega), eR (n := 64) (by omega) (by omega), by omega, by omega⟩, by omega, ga (Eh hb) (JQ h1 h2 h3 h4 hb), bm (by rw [if_neg hb]), trivial⟩⟩
 rw [hb, show ((x : Rat) / ((0 : Int) : Rat)) = 0 by rw [Rat.intCast_zero, Rat.div_def, Rat.inv_zero, Rat.mul_zero]]
 exact mW
theorem UB {n : Int} (h1 : -2 ^ 63 ≤ n) (h2 : n < 2 ^ 63) (K : Nat) : aC P oB K [.int .i64 n] [] (aK (.rat (n : Rat) (max 1 (bf n.natAbs))) []) := by
 refine bH hT tg hm OD rfl (of_decide_eq_true (by kernel_rfl)) rfl 60 ZF (fun _ => ?_) K []
 simp only [af.all, ay]
 refine ⟨⟨h1, h2⟩, by omega, by omega, qx zL ?_ (by rw [Rat.num_intCast]) (by rw [Rat.den_intCast, if_pos rfl])⟩
 rw [decide_eq_decide, gb, Rat.num_intCast]
theorem KQ : ∀ K args pre r, HB K args pre = some r → aC P vQ K args pre r := by
 refine bQ fun K args r hk hs _ => ?_
 split at hs
 ·simp only [Option.some.injEq] at hs
  subst hs
  exact fun need => XK need.1 need.2.1 need.2.2.1 need.2.2.2 K trivial
 ·simp at hs
theorem Og : ∀ K args pre r, GV K args pre = some r → aC P pQ K args pre r := by
 refine bQ fun K args r hk hs _ => ?_
 split at hs
 ·simp only [Option.some.injEq] at hs
  subst hs
  exact fun need => FO need.1 need.2 K trivial
 ·simp at hs
theorem E3 : br P BW := aJ Og (aJ FF (aJ KQ aY))
theorem TM {q r : Rat} {n m : Nat} (hn : n < 2 ^ 41) (hm' : m < 2 ^ 41) (K : Nat) : aC P yu K [.rat q n, .rat r m] [] (aK (.rat (q - r) (n + m + 1)) []) := by
 refine bH hT E3 hm Km rfl (of_decide_eq_true (by kernel_rfl)) rfl 60 MB (fun _ => ?_) K []
 simp only [af.all, ay]
 exact ⟨⟨by omega, by omega, hn, hm', by omega⟩, by omega, cV (by rw [Rat.sub_eq_add_neg])⟩
theorem Wu {x y : Int} (h1 : -2 ^ 63 ≤ x) (h2 : x < 2 ^ 63) (h3 : -2 ^ 63 ≤ y) (h4 : y < 2 ^ 63) (K : Nat) : aC P rI K [.int .i64 x, .int .i64 y] [] (aK (.rat ((x : Rat) / (y : Rat)) 64) []) := by
 refine bH hT E3 hm PF rfl (of_decide_eq_true (by kernel_rfl)) rfl 60 NG (fun _ => ?_) K []
 simp only [af.all, ay]
 exact ⟨⟨h1, h2, h3, h4, by omega⟩, ⟨by omega, by omega⟩, by omega, .refl _⟩
def xV : Spec := bu fun l => match l with
 | [.int .i64 n] => some (aK (.rat (n : Rat) (max 1 (bf n.natAbs))) [-2 ^ 63 ≤ n, n < 2 ^ 63])
 | _ => none
theorem zU : ∀ K args pre r, xV K args pre = some r → aC P oB K args pre r := by
 refine bQ fun K args r hk hs _ => ?_
 split at hs
 ·simp only [Option.some.injEq] at hs
  subst hs
  exact fun need => UB need.1 need.2 K trivial
 ·simp at hs
def Ek : Spec := bu fun l => match l with
 | [.int .i64 x, .int .i64 y] => some (aK (.rat ((x : Rat) / (y : Rat)) 64) [-2 ^ 63 ≤ x, x < 2 ^ 63, -2 ^ 63 ≤ y, y < 2 ^ 63])
 | _ => none
theorem QA : ∀ K args pre r, Ek K args pre = some r → aC P rI K args pre r := by
 refine bQ fun K args r hk hs _ => ?_
 split at hs
 ·simp only [Option.some.injEq] at hs
  subst hs
  exact fun need => Wu need.1 need.2.1 need.2.2.1 need.2.2.2 K trivial
 ·simp at hs
end Go.Am.B
