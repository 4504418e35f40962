/- ref02: Add, Sub, Mul, Cmp, Make, Frac, Int. -/
import Derived.Test.YtbghpkgbokbmlaaGreatB30
set_option linter.unusedVariables false
namespace Go.Am.B
open Go Go.Am.N AV
theorem Mr : aP P nI tK (au tK) := aL Ua (by kernel_rfl) (by kernel_rfl) (by kernel_rfl)
theorem aaQ : aP P rY vI (au vI) := aL Nn (by kernel_rfl) (by kernel_rfl) (by kernel_rfl)
theorem Ka : aP P rK tv (au tv) := aL Sn (by kernel_rfl) (by kernel_rfl) (by kernel_rfl)
theorem Uw : aP P qW uE (au uE) := aL X2 (by kernel_rfl) (by kernel_rfl) (by kernel_rfl)
theorem Ws : aP P vC uB (au uB) := aL Zp (by kernel_rfl) (by kernel_rfl) (by kernel_rfl)
theorem Qi : aP P oE r9 (au r9) := aL SW (by kernel_rfl) (by kernel_rfl) (by kernel_rfl)
theorem Ng : aP P ir ri (au ri) := aL Pb (by kernel_rfl) (by kernel_rfl) (by kernel_rfl)
def n7 : aO := [(vY, DO), (oJ, Bs), (s9, Dk), (qV, Ij), (lK, tg), (uY, EW), (ot, Jb), (mQ, wS), (uP, HR)]
def HJ : Spec := bA fun l => match l with
 | [.int .i64 x, .int .i64 y] => some (aF (.tuple [.rat ((x : Rat) / (y : Rat)) 64, .int .i64 (if y = 0 then 3 else 0)]) [-2 ^ 63 ≤ x, x < 2 ^ 63, -2 ^ 63 ≤ y, y < 2 ^ 63])
 | _ => none
def JE : Spec := bA fun l => match l with
 | [.rat q n, .rat r m] => some (aF (.rat (q + r) (n + m + 1)) [n < 2 ^ 41, m < 2 ^ 41])
 | _ => none
def Cb : aO := [(nI, JE), (mQ, wS), (vC, HJ)]
theorem o3 : aW P n7 := aD YB (aD DK (aD Xc (aD aaT (aD xu (aD Ok (aD ZL (aD Cg (aD UN bg))))))))
theorem ZV {q r : Rat} {n m : Nat} : bq T n7 [15, 20, 41, 52] 60 tK (au tK) ⟨aK 0 [.rat q n, .rat r m], [], 0⟩ =
  some (aa.af [(0 : Nat) < 1] (aa.fork ((↑(nl q.num.natAbs) : Int) == (0 : Int)) (aa.af [(0 : Nat) < 1, (0 : Nat) < 1] (aa.af [(0 : Nat) < 1] (aa.leaf ah.ret [rat r m]))) (aa.af [(0 : Nat) < 1] (aa.fork ((↑(nl r.num.natAbs) : Int) == (0 : Int)) (aa.af [(0 : Nat) < 1, (0 : Nat) < 1] (aa.af [(0 : Nat) < 1] (aa.leaf ah.ret [rat q n]))) (aa.af [(0 : Nat) < 1, (0 : Nat) < 1, nl q.num.natAbs < 2 ^ 39, nl r.den < 2 ^ 39, (0 : Nat) < 1, (0 : Nat) < 1, nl r.num.natAbs < 2 ^ 39, nl q.den < 2 ^ 39] (aa.af [(0 : Nat) < 1, (0 : Nat) < 1, nl q.den < 2 ^ 39, nl r.den < 2 ^ 39] (aa.af [(0 : Nat) < 1, (0 : Nat) < 1] (aa.fork (decide (q < 0) == decide (r < 0)) (aa.af [(0 : Nat) < 1, nl (q.num.natAbs * r.den) < 2 ^ 40, nl (r.num.natAbs * q.den) < 2 ^ 40, nl (q.num.natAbs * r.den + r.num.natAbs * q.den) < 2 ^ 38, nl (q.den * r.den) < 2 ^ 38, q.den * r.den ≠ 0, (0 : Nat) < 1] (aa.af [(0 : Nat) < 1] (aa.leaf ah.ret [rat (sQ (decide (q < 0)) (q.num.natAbs * r.den + r.num.natAbs * q.den) (q.den * r.den)) (bX (sQ (decide (q < 0)) (q.num.natAbs * r.den + r.num.natAbs * q.den) (q.den * r.den)))]))) (aa.af [nl (q.num.natAbs * r.den) < 2 ^ 40, nl (r.num.natAbs * q.den) < 2 ^ 40] (aa.fork (decide (bS (q.num.natAbs * r.den) (r.num.natAbs * q.den) < (0 : Int))) (aa.af [nl (r.num.natAbs * q.den) < 2 ^ 40, nl (q.num.natAbs * r.den) < 2 ^ 40] (aa.af [(0 : Nat) < 1, nl (r.num.natAbs * q.den - q.num.natAbs * r.den) < 2 ^ 38, nl (q.den * r.den) < 2 ^ 38, q.den * r.den ≠ 0, (0 : Nat) < 1] (aa.af [(0 : Nat) < 1] (aa.leaf ah.ret [rat (sQ (decide (r < 0)) (r.num.natAbs * q.den - q.num.natAbs * r.den) (q.den * r.den)) (bX (sQ (decide (r < 0)) (r.num.natAbs * q.den - q.num.natAbs * r.den) (q.den * r.den)))])))) (aa.af [nl (q.num.natAbs * r.den) < 2 ^ 40, nl (r.num.natAbs * q.den) < 2 ^ 40] (aa.af [(0 : Nat) < 1, nl (q.num.natAbs * r.den - r.num.natAbs * q.den) < 2 ^ 38, nl (q.den * r.den) < 2 ^ 38, q.den * r.den ≠ 0, (0 : Nat) < 1] (aa.af [(0 : Nat) < 1] (aa.leaf ah.ret [rat (sQ (decide (q < 0)) (q.num.natAbs * r.den - r.num.natAbs * q.den) (q.den * r.den)) (bX (sQ (decide (q < 0)) (q.num.natAbs * r.den - r.num.natAbs * q.den) (q.den * r.den)))])))))))))))))) := by kernel_rfl
theorem Rn {q r : Rat} {n m : Nat} : bq T n7 [] 60 tv (au tv) ⟨aK 0 [.rat q n, .rat r m], [], 0⟩ =
  some (aa.af [(0 : Nat) < 1, (0 : Nat) < 1, (0 : Nat) < 1, (0 : Nat) < 1, nl q.num.natAbs < 2 ^ 39, nl r.num.natAbs < 2 ^ 39, (0 : Nat) < 1, (0 : Nat) < 1, nl q.den < 2 ^ 39, nl r.den < 2 ^ 39, nl (q.num.natAbs * r.num.natAbs) < 2 ^ 38, nl (q.den * r.den) < 2 ^ 38, q.den * r.den ≠ 0, (0 : Nat) < 1] (aa.af [(0 : Nat) < 1] (aa.leaf ah.ret [rat (sQ (decide (q < 0) != decide (r < 0)) (q.num.natAbs * r.num.natAbs) (q.den * r.den)) (bX (sQ (decide (q < 0) != decide (r < 0)) (q.num.natAbs * r.num.natAbs) (q.den * r.den)))]))) := by kernel_rfl
theorem OR {q r : Rat} {n m : Nat} : bq T n7 [14, 17, 30] 60 uE (au uE) ⟨aK 0 [.rat q n, .rat r m], [], 0⟩ =
  some (aa.af [(0 : Nat) < 1, (0 : Nat) < 1] (aa.fork (ej q != ej r) (aa.fork (decide (ej q < ej r)) (aa.leaf ah.ret [int IntKind.i64 (-1 : Int)]) (aa.leaf ah.ret [int IntKind.i64 (1 : Int)])) (aa.af [(0 : Nat) < 1, (0 : Nat) < 1, nl q.num.natAbs < 2 ^ 39, nl r.den < 2 ^ 39, (0 : Nat) < 1, (0 : Nat) < 1, nl r.num.natAbs < 2 ^ 39, nl q.den < 2 ^ 39, nl (q.num.natAbs * r.den) < 2 ^ 40, nl (r.num.natAbs * q.den) < 2 ^ 40] (aa.af [(0 : Nat) < 1] (aa.fork (decide (q < 0)) (aa.leaf ah.ret [int IntKind.i64 (IntKind.i64.wrap ((0 : Int) - bS (q.num.natAbs * r.den) (r.num.natAbs * q.den)))]) (aa.leaf ah.ret [int IntKind.i64 (bS (q.num.natAbs * r.den) (r.num.natAbs * q.den))])))))) := by kernel_rfl
theorem TZ {x y : Int} : bq T n7 [11] 60 uB (au uB) ⟨aK 0 [.int .i64 x, .int .i64 y], [], 0⟩ =
  some (aa.fork (y == (0 : Int)) (aa.af [(0 : Nat) < 1] (aa.af [(0 : Nat) < 1] (aa.leaf ah.ret [agg [AV.bool false, mag 0, mag 0], int IntKind.i64 (3 : Int)]))) (aa.af [-(2 : Int) ^ 63 ≤ x, x < (2 : Int) ^ 63] (aa.af [-(2 : Int) ^ 63 ≤ y, y < (2 : Int) ^ 63] (aa.af [nl x.natAbs < 2 ^ 38, nl y.natAbs < 2 ^ 38, y.natAbs ≠ 0, (0 : Nat) < 1] (aa.af [(0 : Nat) < 1] (aa.leaf ah.ret [rat (sQ (decide (x < (0 : Int)) != decide (y < (0 : Int))) x.natAbs y.natAbs) (bX (sQ (decide (x < (0 : Int)) != decide (y < (0 : Int))) x.natAbs y.natAbs)), int IntKind.i64 (0 : Int)])))))) := by kernel_rfl
theorem Nf {x : Int} : bq T n7 [] 60 ri (au ri) ⟨aK 0 [.int .i64 x], [], 0⟩ =
  some (aa.af [-(2 : Int) ^ 63 ≤ x, x < (2 : Int) ^ 63] (aa.af [(0 : Nat) < 1] (aa.af [(0 : Nat) < 1] (aa.leaf ah.ret [agg [AV.bool (decide (x < (0 : Int))), mag x.natAbs, mag 0]])))) := by kernel_rfl
theorem O8 {q r : Rat} {n m : Nat} : bq T Cb [] 60 vI (au vI) ⟨aK 0 [.rat q n, .rat r m], [], 0⟩ =
  some (aa.af [(0 : Nat) < 1, (0 : Nat) < 1, n < 2 ^ 41, m < 2 ^ 41, (0 : Nat) < 1] (aa.af [(0 : Nat) < 1] (aa.leaf ah.ret [rat (q + -r) (n + m + 1)]))) := by kernel_rfl
theorem Tv {x y : Int} : bq T Cb [] 60 r9 (au r9) ⟨aK 0 [.int .i64 x, .int .i64 y], [], 0⟩ =
  some (aa.af [-(2 : Int) ^ 63 ≤ x, x < (2 : Int) ^ 63, -(2 : Int) ^ 63 ≤ y, y < (2 : Int) ^ 63, (0 : Nat) < 1] (aa.af [(0 : Nat) < 1, (0 : Nat) < 1] (aa.af [(0 : Nat) < 1] (aa.leaf ah.ret [rat ((↑x : Rat) / (↑y : Rat)) 64])))) := by kernel_rfl
theorem eo {N n : Nat} (h : N < 2 ^ n) (hn : n < 2 ^ 42) : nl N < 2 ^ 38 := by
 have h1 : N < 2 ^ (32 * (n / 32 + 1)) := Nat.lt_of_lt_of_le h (Nat.pow_le_pow_right (by omega) (by omega))
 have := cD.2 h1
 omega
section ops
variable {q r : Rat} {n m : Nat}
theorem kP {a b n m : Nat} (ha : a < 2 ^ n) (hb : b < 2 ^ m) : a * b < 2 ^ (n + m) := by rw [Nat.pow_add]; exact Nat.mul_lt_mul'' ha hb
theorem BI (hn : n < 2 ^ 41) (hm' : m < 2 ^ 41) (K : Nat) : ay P nI K [.rat q n, .rat r m] [] (aF (.rat (q + r) (n + m + 1)) []) := by
 refine gT fun ⟨hq, hr, _⟩ => ?_
 have hq : Sz q n := hq
 have hr : Sz r m := hr
 have d1 := q.den_nz
 have d2 := r.den_nz
 have hz := hq.add hr
 have a1 : nl q.num.natAbs < 2 ^ 38 := eo hq.1 (by omega)
 have a2 : nl q.den < 2 ^ 38 := eo hq.2 (by omega)
 have b1 : nl r.num.natAbs < 2 ^ 38 := eo hr.1 (by omega)
 have b2 : nl r.den < 2 ^ 38 := eo hr.2 (by omega)
 have x1 := kP hq.1 hr.2
 have x2 := kP hr.1 hq.2
 have m1 : nl (q.num.natAbs * r.den) < 2 ^ 38 := eo x1 (by omega)
 have m2 : nl (r.num.natAbs * q.den) < 2 ^ 38 := eo x2 (by omega)
 have m3 : nl (q.den * r.den) < 2 ^ 38 := eo (kP hq.2 hr.2) (by omega)
 have m4 : nl (q.num.natAbs * r.den + r.num.natAbs * q.den) < 2 ^ 38 := eo (n := n + m + 1) (by rw [Nat.pow_succ]; rw [Nat.add_comm m n] at x2; omega) (by omega)
 have hd0 : q.den * r.den ≠ 0 := Nat.mul_ne_zero d1 d2
 have hv : q + r = sQ (decide (q < 0)) (q.num.natAbs * r.den) (q.den * r.den) + sQ (decide (r < 0)) (r.num.natAbs * q.den) (q.den * r.den) := by
  have := Ah q r (decide (r < 0))
  rw [iz r] at this
  exact this
 refine bt hT o3 hm Mr rfl (of_decide_eq_true (by kernel_rfl)) rfl 60 ZV (fun _ => ?_) K []
 generalize q.num.natAbs * r.den = X at *
 generalize r.num.natAbs * q.den = Y at *
 generalize q.den * r.den = D at *
 simp only [aa.all, ax, beq_iff_eq, beq_eq_false_iff_ne, ne_eq, decide_eq_true_eq, decide_eq_false_iff_not, xp]
 have m5 : nl (Y - X) < 2 ^ 38 := Nat.lt_of_le_of_lt (fA (by omega)) m2
 have m6 : nl (X - Y) < 2 ^ 38 := Nat.lt_of_le_of_lt (fA (by omega)) m1
 refine ⟨by omega, fun hb => ⟨⟨by omega, by omega⟩, by omega, eE ?_ hz⟩, fun hb => ⟨by omega, fun hb2 => ⟨⟨by omega, by omega⟩, by omega, eE ?_ hz⟩, fun hb2 => ⟨⟨by omega, by omega, by omega, by omega, by omega, by omega, by omega, by omega⟩, ⟨by omega, by omega, by omega, by omega⟩, ⟨by omega, by omega⟩,
  fun hs => ⟨⟨by omega, by omega, by omega, m4, m3, hd0, by omega⟩, by omega, eE ?_ hz⟩, fun hs => ⟨⟨by omega, by omega⟩, fun hl => ⟨⟨by omega, by omega⟩, ⟨by omega, m5, m3, hd0, by omega⟩, by omega, eE ?_ hz⟩, fun hl => ⟨⟨by omega, by omega⟩, ⟨by omega, m6, m3, hd0, by omega⟩, by omega, eE ?_ hz⟩⟩⟩⟩⟩
 ·have h0 : q = 0 := kD.1 (gI.1 (by omega))
  rw [h0, Rat.zero_add]
 ·have h0 : r = 0 := kD.1 (gI.1 (by omega))
  rw [h0, Rat.add_zero]
 ·rw [hv, hs, zI hd0]
 ·rw [hv, Bv hd0 hs (by omega)]
 ·rw [hv, AW hd0 hs (by omega)]
theorem Fc (hn : n < 2 ^ 41) (hm' : m < 2 ^ 41) (K : Nat) : ay P rK K [.rat q n, .rat r m] [] (aF (.rat (q * r) (n + m)) []) := by
 refine gT fun ⟨hq, hr, _⟩ => ?_
 have hq : Sz q n := hq
 have hr : Sz r m := hr
 have d1 := q.den_nz
 have d2 := r.den_nz
 have a1 : nl q.num.natAbs < 2 ^ 38 := eo hq.1 (by omega)
 have a2 : nl q.den < 2 ^ 38 := eo hq.2 (by omega)
 have b1 : nl r.num.natAbs < 2 ^ 38 := eo hr.1 (by omega)
 have b2 : nl r.den < 2 ^ 38 := eo hr.2 (by omega)
 have m1 : nl (q.num.natAbs * r.num.natAbs) < 2 ^ 38 := eo (kP hq.1 hr.1) (by omega)
 have m3 : nl (q.den * r.den) < 2 ^ 38 := eo (kP hq.2 hr.2) (by omega)
 have hv : sQ (decide (q < 0) != decide (r < 0)) (q.num.natAbs * r.num.natAbs) (q.den * r.den) = q * r := by rw [← Ba, iz, iz]
 refine bt hT o3 hm Ka rfl (of_decide_eq_true (by kernel_rfl)) rfl 60 Rn (fun _ => ?_) K []
 simp only [aa.all, ax]
 exact ⟨⟨by omega, by omega, by omega, by omega, by omega, by omega, by omega, by omega, by omega, by omega, m1, m3, Nat.mul_ne_zero d1 d2, by omega⟩, by omega, eE hv (hq.mul hr)⟩
theorem Jd (hn : n < 2 ^ 41) (hm' : m < 2 ^ 41) (K : Nat) : ay P qW K [.rat q n, .rat r m] [] (aF (.int .i64 (gl q r)) []) := by
 refine gT fun ⟨hq, hr, _⟩ => ?_
 have hq : Sz q n := hq
 have hr : Sz r m := hr
 have a1 : nl q.num.natAbs < 2 ^ 38 := eo hq.1 (by omega)
 have a2 : nl q.den < 2 ^ 38 := eo hq.2 (by omega)
 have b1 : nl r.num.natAbs < 2 ^ 38 := eo hr.1 (by omega)
 have b2 : nl r.den < 2 ^ 38 := eo hr.2 (by omega)
 have m1 : nl (q.num.natAbs * r.den) < 2 ^ 38 := eo (kP hq.1 hr.2) (by omega)
 have m2 : nl (r.num.natAbs * q.den) < 2 ^ 38 := eo (kP hr.1 hq.2) (by omega)
 refine bt hT o3 hm Uw rfl (of_decide_eq_true (by kernel_rfl)) rfl 60 OR (fun _ => ?_) K []
 simp only [aa.all, ax, bne_iff_ne, ne_eq, bne_eq_false_iff_eq]
 refine ⟨⟨by omega, by omega⟩, fun hs => ⟨fun hl => bB ?_, fun hl => bB ?_⟩, fun hs => ⟨⟨by omega, by omega, by omega, by omega, by omega, by omega, by omega, by omega, by omega, by omega⟩, by omega, fun hc => bB ?_, fun hc => bB ?_⟩⟩
 ·rw [xX hs, if_pos (of_decide_eq_true hl)]
 ·rw [xX hs, if_neg (of_decide_eq_false hl)]
 ·rw [kB hs, if_pos (of_decide_eq_true hc), wo]
 ·rw [kB hs, if_neg (of_decide_eq_false hc)]
end ops
theorem EH {x y : Int} (hy : y ≠ 0) : sQ (decide (x < 0) != decide (y < 0)) x.natAbs y.natAbs = (x : Rat) / (y : Rat) := by
 have h := Bd (x : Rat) (y : Rat) (by simpa using hy)
 have c : ∀ {z : Int}, decide ((z : Rat) < 0) = decide (z < 0) := fun {z} => by rw [decide_eq_decide, fc, Rat.num_intCast]
 rw [c, c, Rat.num_intCast, Rat.num_intCast, Rat.den_intCast, Rat.den_intCast, Nat.mul_one, Nat.one_mul] at h
 exact h
theorem I4 {x y : Int} (h1 : -2 ^ 63 ≤ x) (h2 : x < 2 ^ 63) (h3 : -2 ^ 63 ≤ y) (h4 : y < 2 ^ 63) (hy : y ≠ 0) : Sz ((x : Rat) / (y : Rat)) 64 := by
 rw [← EH hy]; exact zL (by omega) (by omega) (by omega)
theorem aax {x y : Int} (h1 : -2 ^ 63 ≤ x) (h2 : x < 2 ^ 63) (h3 : -2 ^ 63 ≤ y) (h4 : y < 2 ^ 63) (K : Nat) : ay P vC K [.int .i64 x, .int .i64 y] [] (aF (.tuple [.rat ((x : Rat) / (y : Rat)) 64, .int .i64 (if y = 0 then 3 else 0)]) []) := by
 refine bt hT o3 hm Ws rfl (of_decide_eq_true (by kernel_rfl)) rfl 60 TZ (fun _ => ?_) K []
 simp only [aa.all, ax, beq_iff_eq, beq_eq_false_iff_ne, ne_eq]
 refine ⟨fun hb => ⟨by omega, by omega, ?_, bB (by rw [if_pos hb]), trivial⟩, fun hb => ⟨⟨h1, h2⟩, ⟨h3, h4⟩, ⟨eo (n := 64) (by omega) (by omega), eo (n := 64) (by omega) (by omega), by omega, by omega⟩, by omega, eE (EH hb) (I4 h1 h2 h3 h4 hb), bB (by rw [if_neg hb]), trivial⟩⟩
 rw [hb, show ((x : Rat) / ((0 : Int) : Rat)) = 0 by rw [Rat.intCast_zero, Rat.div_def, Rat.inv_zero, Rat.mul_zero]]
 exact ji
theorem yT {n : Int} (h1 : -2 ^ 63 ≤ n) (h2 : n < 2 ^ 63) (K : Nat) : ay P ir K [.int .i64 n] [] (aF (.rat (n : Rat) (max 1 (aQ n.natAbs))) []) := by
 refine bt hT o3 hm Ng rfl (of_decide_eq_true (by kernel_rfl)) rfl 60 Nf (fun _ => ?_) K []
 simp only [aa.all, ax]
 refine ⟨⟨h1, h2⟩, by omega, by omega, j6 zK ?_ (by rw [Rat.num_intCast]) (by rw [Rat.den_intCast, if_pos rfl])⟩
 rw [decide_eq_decide, fc, Rat.num_intCast]
theorem NK : ∀ K args pre r, HJ K args pre = some r → ay P vC K args pre r := by
 refine bQ fun K args r hk hs _ => ?_
 split at hs
 ·simp only [Option.some.injEq] at hs
  subst hs
  exact fun need => aax need.1 need.2.1 need.2.2.1 need.2.2.2 K trivial
 ·simp at hs
theorem Yc : ∀ K args pre r, JE K args pre = some r → ay P nI K args pre r := by
 refine bQ fun K args r hk hs _ => ?_
 split at hs
 ·simp only [Option.some.injEq] at hs
  subst hs
  exact fun need => BI need.1 need.2 K trivial
 ·simp at hs
theorem EV : aW P Cb := aD Yc (aD Cg (aD NK bg))
theorem HC {q r : Rat} {n m : Nat} (hn : n < 2 ^ 41) (hm' : m < 2 ^ 41) (K : Nat) : ay P rY K [.rat q n, .rat r m] [] (aF (.rat (q - r) (n + m + 1)) []) := by
 refine bt hT EV hm aaQ rfl (of_decide_eq_true (by kernel_rfl)) rfl 60 O8 (fun _ => ?_) K []
 simp only [aa.all, ax]
 exact ⟨⟨by omega, by omega, hn, hm', by omega⟩, by omega, de (by rw [Rat.sub_eq_add_neg])⟩
theorem Td {x y : Int} (h1 : -2 ^ 63 ≤ x) (h2 : x < 2 ^ 63) (h3 : -2 ^ 63 ≤ y) (h4 : y < 2 ^ 63) (K : Nat) : ay P oE K [.int .i64 x, .int .i64 y] [] (aF (.rat ((x : Rat) / (y : Rat)) 64) []) := by
 refine bt hT EV hm Qi rfl (of_decide_eq_true (by kernel_rfl)) rfl 60 Tv (fun _ => ?_) K []
 simp only [aa.all, ax]
 exact ⟨⟨h1, h2, h3, h4, by omega⟩, ⟨by omega, by omega⟩, by omega, .refl _⟩
def qx : Spec := bA fun l => match l with
 | [.int .i64 n] => some (aF (.rat (n : Rat) (max 1 (aQ n.natAbs))) [-2 ^ 63 ≤ n, n < 2 ^ 63])
 | _ => none
theorem sX : ∀ K args pre r, qx K args pre = some r → ay P ir K args pre r := by
 refine bQ fun K args r hk hs _ => ?_
 split at hs
 ·simp only [Option.some.injEq] at hs
  subst hs
  exact fun need => yT need.1 need.2 K trivial
 ·simp at hs
def yb : Spec := bA fun l => match l with
 | [.int .i64 x, .int .i64 y] => some (aF (.rat ((x : Rat) / (y : Rat)) 64) [-2 ^ 63 ≤ x, x < 2 ^ 63, -2 ^ 63 ≤ y, y < 2 ^ 63])
 | _ => none
theorem Bm : ∀ K args pre r, yb K args pre = some r → ay P oE K args pre r := by
 refine bQ fun K args r hk hs _ => ?_
 split at hs
 ·simp only [Option.some.injEq] at hs
  subst hs
  exact fun need => Td need.1 need.2.1 need.2.2.1 need.2.2.2 K trivial
 ·simp at hs
end Go.Am.B
