/- ref02: Add, Sub, Mul, Cmp, Make, Frac, Int. -/
import Derived.Test.YtbghpkgbokbmlaaGreatB30
set_option linter.unusedVariables false
namespace Go.Am.B
open Go Go.Am.N AV
theorem aaM : aP P ni r7 (au r7) := aL T4 (by kernel_rfl) (by kernel_rfl) (by kernel_rfl)
theorem SH : aP P vl tS (au tS) := aL TP (by kernel_rfl) (by kernel_rfl) (by kernel_rfl)
theorem aam : aP P vG uM (au uM) := aL Od (by kernel_rfl) (by kernel_rfl) (by kernel_rfl)
theorem Mk : aP P vD rU (au rU) := aL Om (by kernel_rfl) (by kernel_rfl) (by kernel_rfl)
theorem YH : aP P uT sC (au sC) := aL Ms (by kernel_rfl) (by kernel_rfl) (by kernel_rfl)
theorem aae : aP P l5 tH (au tH) := aL Oy (by kernel_rfl) (by kernel_rfl) (by kernel_rfl)
theorem Oi : aP P iI tq (au tq) := aL adi (by kernel_rfl) (by kernel_rfl) (by kernel_rfl)
def nk : aQ := [(ow, xI), (pB, CO), (tK, H9), (uQ, II), (lW, w7), (ug, Es), (oq, Fs), (qn, Dc), (tY, FD)]
def FM : Spec := bt fun l => match l with
 | [.int .i64 x, .int .i64 y] => some (aF (.tuple [.rat ((x : Rat) / (y : Rat)) 64, .int .i64 (if y = 0 then 3 else 0)]) [-2 ^ 63 ≤ x, x < 2 ^ 63, -2 ^ 63 ≤ y, y < 2 ^ 63])
 | _ => none
def Jo : Spec := bt fun l => match l with
 | [.rat q n, .rat r m] => some (aF (.rat (q + r) (n + m + 1)) [n < 2 ^ 41, m < 2 ^ 41])
 | _ => none
def Bh : aQ := [(ni, Jo), (qn, Dc), (uT, FM)]
theorem o9 : aW P nk := aC Df (aC Lw (aC U5 (aC Nu (aC xX (aC Sl (aC Tp (aC LH (aC YM aT))))))))
theorem ZF {q r : Rat} {n m : Nat} : bA T nk [15, 20, 41, 52] 60 r7 (au r7) ⟨aM 0 [.rat q n, .rat r m], [], 0⟩ =
  some (aa.af [(0 : Nat) < 1] (aa.fork ((↑(nl q.num.natAbs) : Int) == (0 : Int)) (aa.af [(0 : Nat) < 1, (0 : Nat) < 1] (aa.af [(0 : Nat) < 1] (aa.leaf ag.ret [rat r m]))) (aa.af [(0 : Nat) < 1] (aa.fork ((↑(nl r.num.natAbs) : Int) == (0 : Int)) (aa.af [(0 : Nat) < 1, (0 : Nat) < 1] (aa.af [(0 : Nat) < 1] (aa.leaf ag.ret [rat q n]))) (aa.af [(0 : Nat) < 1, (0 : Nat) < 1, nl q.num.natAbs < 2 ^ 39, nl r.den < 2 ^ 39, (0 : Nat) < 1, (0 : Nat) < 1, nl r.num.natAbs < 2 ^ 39, nl q.den < 2 ^ 39] (aa.af [(0 : Nat) < 1, (0 : Nat) < 1, nl q.den < 2 ^ 39, nl r.den < 2 ^ 39] (aa.af [(0 : Nat) < 1, (0 : Nat) < 1] (aa.fork (decide (q < 0) == decide (r < 0)) (aa.af [(0 : Nat) < 1, nl (q.num.natAbs * r.den) < 2 ^ 40, nl (r.num.natAbs * q.den) < 2 ^ 40, nl (q.num.natAbs * r.den + r.num.natAbs * q.den) < 2 ^ 38, nl (q.den * r.den) < 2 ^ 38, q.den * r.den ≠ 0, (0 : Nat) < 1] (aa.af [(0 : Nat) < 1] (aa.leaf ag.ret [rat (sQ (decide (q < 0)) (q.num.natAbs * r.den + r.num.natAbs * q.den) (q.den * r.den)) (bV (sQ (decide (q < 0)) (q.num.natAbs * r.den + r.num.natAbs * q.den) (q.den * r.den)))]))) (aa.af [nl (q.num.natAbs * r.den) < 2 ^ 40, nl (r.num.natAbs * q.den) < 2 ^ 40] (aa.fork (decide (bN (q.num.natAbs * r.den) (r.num.natAbs * q.den) < (0 : Int))) (aa.af [nl (r.num.natAbs * q.den) < 2 ^ 40, nl (q.num.natAbs * r.den) < 2 ^ 40] (aa.af [(0 : Nat) < 1, nl (r.num.natAbs * q.den - q.num.natAbs * r.den) < 2 ^ 38, nl (q.den * r.den) < 2 ^ 38, q.den * r.den ≠ 0, (0 : Nat) < 1] (aa.af [(0 : Nat) < 1] (aa.leaf ag.ret [rat (sQ (decide (r < 0)) (r.num.natAbs * q.den - q.num.natAbs * r.den) (q.den * r.den)) (bV (sQ (decide (r < 0)) (r.num.natAbs * q.den - q.num.natAbs * r.den) (q.den * r.den)))])))) (aa.af [nl (q.num.natAbs * r.den) < 2 ^ 40, nl (r.num.natAbs * q.den) < 2 ^ 40] (aa.af [(0 : Nat) < 1, nl (q.num.natAbs * r.den - r.num.natAbs * q.den) < 2 ^ 38, nl (q.den * r.den) < 2 ^ 38, q.den * r.den ≠ 0, (0 : Nat) < 1] (aa.af [(0 : Nat) < 1] (aa.leaf ag.ret [rat (sQ (decide (q < 0)) (q.num.natAbs * r.den - r.num.natAbs * q.den) (q.den * r.den)) (bV (sQ (decide (q < 0)) (q.num.natAbs * r.den - r.num.natAbs * q.den) (q.den * r.den)))])))))))))))))) := by kernel_rfl
theorem acM {q r : Rat} {n m : Nat} : bA T nk [] 60 uM (au uM) ⟨aM 0 [.rat q n, .rat r m], [], 0⟩ =
  some (aa.af [(0 : Nat) < 1, (0 : Nat) < 1, (0 : Nat) < 1, (0 : Nat) < 1, nl q.num.natAbs < 2 ^ 39, nl r.num.natAbs < 2 ^ 39, (0 : Nat) < 1, (0 : Nat) < 1, nl q.den < 2 ^ 39, nl r.den < 2 ^ 39, nl (q.num.natAbs * r.num.natAbs) < 2 ^ 38, nl (q.den * r.den) < 2 ^ 38, q.den * r.den ≠ 0, (0 : Nat) < 1] (aa.af [(0 : Nat) < 1] (aa.leaf ag.ret [rat (sQ (decide (q < 0) != decide (r < 0)) (q.num.natAbs * r.num.natAbs) (q.den * r.den)) (bV (sQ (decide (q < 0) != decide (r < 0)) (q.num.natAbs * r.num.natAbs) (q.den * r.den)))]))) := by kernel_rfl
theorem TA {q r : Rat} {n m : Nat} : bA T nk [14, 17, 30] 60 rU (au rU) ⟨aM 0 [.rat q n, .rat r m], [], 0⟩ =
  some (aa.af [(0 : Nat) < 1, (0 : Nat) < 1] (aa.fork (dD q != dD r) (aa.fork (decide (dD q < dD r)) (aa.leaf ag.ret [int IntKind.i64 (-1 : Int)]) (aa.leaf ag.ret [int IntKind.i64 (1 : Int)])) (aa.af [(0 : Nat) < 1, (0 : Nat) < 1, nl q.num.natAbs < 2 ^ 39, nl r.den < 2 ^ 39, (0 : Nat) < 1, (0 : Nat) < 1, nl r.num.natAbs < 2 ^ 39, nl q.den < 2 ^ 39, nl (q.num.natAbs * r.den) < 2 ^ 40, nl (r.num.natAbs * q.den) < 2 ^ 40] (aa.af [(0 : Nat) < 1] (aa.fork (decide (q < 0)) (aa.leaf ag.ret [int IntKind.i64 (IntKind.i64.wrap ((0 : Int) - bN (q.num.natAbs * r.den) (r.num.natAbs * q.den)))]) (aa.leaf ag.ret [int IntKind.i64 (bN (q.num.natAbs * r.den) (r.num.natAbs * q.den))])))))) := by kernel_rfl
theorem Pt {x y : Int} : bA T nk [11] 60 sC (au sC) ⟨aM 0 [.int .i64 x, .int .i64 y], [], 0⟩ =
  some (aa.fork (y == (0 : Int)) (aa.af [(0 : Nat) < 1] (aa.af [(0 : Nat) < 1] (aa.leaf ag.ret [agg [AV.bool false, mag 0, mag 0], int IntKind.i64 (3 : Int)]))) (aa.af [-(2 : Int) ^ 63 ≤ x, x < (2 : Int) ^ 63] (aa.af [-(2 : Int) ^ 63 ≤ y, y < (2 : Int) ^ 63] (aa.af [nl x.natAbs < 2 ^ 38, nl y.natAbs < 2 ^ 38, y.natAbs ≠ 0, (0 : Nat) < 1] (aa.af [(0 : Nat) < 1] (aa.leaf ag.ret [rat (sQ (decide (x < (0 : Int)) != decide (y < (0 : Int))) x.natAbs y.natAbs) (bV (sQ (decide (x < (0 : Int)) != decide (y < (0 : Int))) x.natAbs y.natAbs)), int IntKind.i64 (0 : Int)])))))) := by kernel_rfl
theorem Up {x : Int} : bA T nk [] 60 tq (au tq) ⟨aM 0 [.int .i64 x], [], 0⟩ =
  some (aa.af [-(2 : Int) ^ 63 ≤ x, x < (2 : Int) ^ 63] (aa.af [(0 : Nat) < 1] (aa.af [(0 : Nat) < 1] (aa.leaf ag.ret [agg [AV.bool (decide (x < (0 : Int))), mag x.natAbs, mag 0]])))) := by kernel_rfl
theorem R4 {q r : Rat} {n m : Nat} : bA T Bh [] 60 tS (au tS) ⟨aM 0 [.rat q n, .rat r m], [], 0⟩ =
  some (aa.af [(0 : Nat) < 1, (0 : Nat) < 1, n < 2 ^ 41, m < 2 ^ 41, (0 : Nat) < 1] (aa.af [(0 : Nat) < 1] (aa.leaf ag.ret [rat (q + -r) (n + m + 1)]))) := by kernel_rfl
theorem PI {x y : Int} : bA T Bh [] 60 tH (au tH) ⟨aM 0 [.int .i64 x, .int .i64 y], [], 0⟩ =
  some (aa.af [-(2 : Int) ^ 63 ≤ x, x < (2 : Int) ^ 63, -(2 : Int) ^ 63 ≤ y, y < (2 : Int) ^ 63, (0 : Nat) < 1] (aa.af [(0 : Nat) < 1, (0 : Nat) < 1] (aa.af [(0 : Nat) < 1] (aa.leaf ag.ret [rat ((↑x : Rat) / (↑y : Rat)) 64])))) := by kernel_rfl
theorem dO {N n : Nat} (h : N < 2 ^ n) (hn : n < 2 ^ 42) : nl N < 2 ^ 38 := by
 have h1 : N < 2 ^ (32 * (n / 32 + 1)) := Nat.lt_of_lt_of_le h (Nat.pow_le_pow_right (by omega) (by omega))
 have := cw.2 h1
 omega
section ops
variable {q r : Rat} {n m : Nat}
theorem kU {a b n m : Nat} (ha : a < 2 ^ n) (hb : b < 2 ^ m) : a * b < 2 ^ (n + m) := by rw [Nat.pow_add]; exact Nat.mul_lt_mul'' ha hb
theorem A8 (hn : n < 2 ^ 41) (hm' : m < 2 ^ 41) (K : Nat) : az P ni K [.rat q n, .rat r m] [] (aF (.rat (q + r) (n + m + 1)) []) := by
 refine gA fun ⟨hq, hr, _⟩ => ?_
 have hq : Sz q n := hq
 have hr : Sz r m := hr
 have d1 := q.den_nz
 have d2 := r.den_nz
 have hz := hq.add hr
 have a1 : nl q.num.natAbs < 2 ^ 38 := dO hq.1 (by omega)
 have a2 : nl q.den < 2 ^ 38 := dO hq.2 (by omega)
 have b1 : nl r.num.natAbs < 2 ^ 38 := dO hr.1 (by omega)
 have b2 : nl r.den < 2 ^ 38 := dO hr.2 (by omega)
 have x1 := kU hq.1 hr.2
 have x2 := kU hr.1 hq.2
 have m1 : nl (q.num.natAbs * r.den) < 2 ^ 38 := dO x1 (by omega)
 have m2 : nl (r.num.natAbs * q.den) < 2 ^ 38 := dO x2 (by omega)
 have m3 : nl (q.den * r.den) < 2 ^ 38 := dO (kU hq.2 hr.2) (by omega)
 have m4 : nl (q.num.natAbs * r.den + r.num.natAbs * q.den) < 2 ^ 38 := dO (n := n + m + 1) (by rw [Nat.pow_succ]; rw [Nat.add_comm m n] at x2; omega) (by omega)
 have hd0 : q.den * r.den ≠ 0 := Nat.mul_ne_zero d1 d2
 have hv : q + r = sQ (decide (q < 0)) (q.num.natAbs * r.den) (q.den * r.den) + sQ (decide (r < 0)) (r.num.natAbs * q.den) (q.den * r.den) := by
  have := Ay q r (decide (r < 0))
  rw [iK r] at this
  exact this
 refine bD hT o9 hm aaM rfl (of_decide_eq_true (by kernel_rfl)) rfl 60 ZF (fun _ => ?_) K []
 generalize q.num.natAbs * r.den = X at *
 generalize r.num.natAbs * q.den = Y at *
 generalize q.den * r.den = D at *
 simp only [aa.all, ax, beq_iff_eq, beq_eq_false_iff_ne, ne_eq, decide_eq_true_eq, decide_eq_false_iff_not, xz]
 have m5 : nl (Y - X) < 2 ^ 38 := Nat.lt_of_le_of_lt (fu (by omega)) m2
 have m6 : nl (X - Y) < 2 ^ 38 := Nat.lt_of_le_of_lt (fu (by omega)) m1
 refine ⟨by omega, fun hb => ⟨⟨by omega, by omega⟩, by omega, eG ?_ hz⟩, fun hb => ⟨by omega, fun hb2 => ⟨⟨by omega, by omega⟩, by omega, eG ?_ hz⟩, fun hb2 => ⟨⟨by omega, by omega, by omega, by omega, by omega, by omega, by omega, by omega⟩, ⟨by omega, by omega, by omega, by omega⟩, ⟨by omega, by omega⟩,
  fun hs => ⟨⟨by omega, by omega, by omega, m4, m3, hd0, by omega⟩, by omega, eG ?_ hz⟩, fun hs => ⟨⟨by omega, by omega⟩, fun hl => ⟨⟨by omega, by omega⟩, ⟨by omega, m5, m3, hd0, by omega⟩, by omega, eG ?_ hz⟩, fun hl => ⟨⟨by omega, by omega⟩, ⟨by omega, m6, m3, hd0, by omega⟩, by omega, eG ?_ hz⟩⟩⟩⟩⟩
 ·have h0 : q = 0 := kZ.1 (iC.1 (by omega))
  rw [h0, Rat.zero_add]
 ·have h0 : r = 0 := kZ.1 (iC.1 (by omega))
  rw [h0, Rat.add_zero]
 ·rw [hv, hs, Bn hd0]
 ·rw [hv, Ck hd0 hs (by omega)]
 ·rw [hv, Da hd0 hs (by omega)]
theorem F0 (hn : n < 2 ^ 41) (hm' : m < 2 ^ 41) (K : Nat) : az P vG K [.rat q n, .rat r m] [] (aF (.rat (q * r) (n + m)) []) := by
 refine gA fun ⟨hq, hr, _⟩ => ?_
 have hq : Sz q n := hq
 have hr : Sz r m := hr
 have d1 := q.den_nz
 have d2 := r.den_nz
 have a1 : nl q.num.natAbs < 2 ^ 38 := dO hq.1 (by omega)
 have a2 : nl q.den < 2 ^ 38 := dO hq.2 (by omega)
 have b1 : nl r.num.natAbs < 2 ^ 38 := dO hr.1 (by omega)
 have b2 : nl r.den < 2 ^ 38 := dO hr.2 (by omega)
 have m1 : nl (q.num.natAbs * r.num.natAbs) < 2 ^ 38 := dO (kU hq.1 hr.1) (by omega)
 have m3 : nl (q.den * r.den) < 2 ^ 38 := dO (kU hq.2 hr.2) (by omega)
 have hv : sQ (decide (q < 0) != decide (r < 0)) (q.num.natAbs * r.num.natAbs) (q.den * r.den) = q * r := by rw [← Bw, iK, iK]
 refine bD hT o9 hm aam rfl (of_decide_eq_true (by kernel_rfl)) rfl 60 acM (fun _ => ?_) K []
 simp only [aa.all, ax]
 exact ⟨⟨by omega, by omega, by omega, by omega, by omega, by omega, by omega, by omega, by omega, by omega, m1, m3, Nat.mul_ne_zero d1 d2, by omega⟩, by omega, eG hv (hq.mul hr)⟩
theorem HU (hn : n < 2 ^ 41) (hm' : m < 2 ^ 41) (K : Nat) : az P vD K [.rat q n, .rat r m] [] (aF (.int .i64 (eV q r)) []) := by
 refine gA fun ⟨hq, hr, _⟩ => ?_
 have hq : Sz q n := hq
 have hr : Sz r m := hr
 have a1 : nl q.num.natAbs < 2 ^ 38 := dO hq.1 (by omega)
 have a2 : nl q.den < 2 ^ 38 := dO hq.2 (by omega)
 have b1 : nl r.num.natAbs < 2 ^ 38 := dO hr.1 (by omega)
 have b2 : nl r.den < 2 ^ 38 := dO hr.2 (by omega)
 have m1 : nl (q.num.natAbs * r.den) < 2 ^ 38 := dO (kU hq.1 hr.2) (by omega)
 have m2 : nl (r.num.natAbs * q.den) < 2 ^ 38 := dO (kU hr.1 hq.2) (by omega)
 refine bD hT o9 hm Mk rfl (of_decide_eq_true (by kernel_rfl)) rfl 60 TA (fun _ => ?_) K []
 simp only [aa.all, ax, bne_iff_ne, ne_eq, bne_eq_false_iff_eq]
 refine ⟨⟨by omega, by omega⟩, fun hs => ⟨fun hl => bq ?_, fun hl => bq ?_⟩, fun hs => ⟨⟨by omega, by omega, by omega, by omega, by omega, by omega, by omega, by omega, by omega, by omega⟩, by omega, fun hc => bq ?_, fun hc => bq ?_⟩⟩
 ·rw [z8 hs, if_pos (of_decide_eq_true hl)]
 ·rw [z8 hs, if_neg (of_decide_eq_false hl)]
 ·rw [k9 hs, if_pos (of_decide_eq_true hc), yo]
 ·rw [k9 hs, if_neg (of_decide_eq_false hc)]
end ops
theorem G0 {x y : Int} (hy : y ≠ 0) : sQ (decide (x < 0) != decide (y < 0)) x.natAbs y.natAbs = (x : Rat) / (y : Rat) := by
 have h := Bx (x : Rat) (y : Rat) (by simpa using hy)
 have c : ∀ {z : Int}, decide ((z : Rat) < 0) = decide (z < 0) := fun {z} => by rw [decide_eq_decide, fy, Rat.num_intCast]
 rw [c, c, Rat.num_intCast, Rat.num_intCast, Rat.den_intCast, Rat.den_intCast, Nat.mul_one, Nat.one_mul] at h
 exact h
theorem Gy {x y : Int} (h1 : -2 ^ 63 ≤ x) (h2 : x < 2 ^ 63) (h3 : -2 ^ 63 ≤ y) (h4 : y < 2 ^ 63) (hy : y ≠ 0) : Sz ((x : Rat) / (y : Rat)) 64 := by
 rw [← G0 hy]; exact Cb (by omega) (by omega) (by omega)
theorem acz {x y : Int} (h1 : -2 ^ 63 ≤ x) (h2 : x < 2 ^ 63) (h3 : -2 ^ 63 ≤ y) (h4 : y < 2 ^ 63) (K : Nat) : az P uT K [.int .i64 x, .int .i64 y] [] (aF (.tuple [.rat ((x : Rat) / (y : Rat)) 64, .int .i64 (if y = 0 then 3 else 0)]) []) := by
 refine bD hT o9 hm YH rfl (of_decide_eq_true (by kernel_rfl)) rfl 60 Pt (fun _ => ?_) K []
 simp only [aa.all, ax, beq_iff_eq, beq_eq_false_iff_ne, ne_eq]
 refine ⟨fun hb => ⟨by omega, by omega, ?_, bq (by rw [if_pos hb]), trivial⟩, fun hb => ⟨⟨h1, h2⟩, ⟨h3, h4⟩, ⟨dO (n := 64) (by omega) (by omega), dO (n := 64) (by omega) (by omega), by omega, by omega⟩, by omega, eG (G0 hb) (Gy h1 h2 h3 h4 hb), bq (by rw [if_neg hb]), trivial⟩⟩
 rw [hb, show ((x : Rat) / ((0 : Int) : Rat)) = 0 by rw [Rat.intCast_zero, Rat.div_def, Rat.inv_zero, Rat.mul_zero]]
 exact jI
theorem x5 {n : Int} (h1 : -2 ^ 63 ≤ n) (h2 : n < 2 ^ 63) (K : Nat) : az P iI K [.int .i64 n] [] (aF (.rat (n : Rat) (max 1 (aS n.natAbs))) []) := by
 refine bD hT o9 hm Oi rfl (of_decide_eq_true (by kernel_rfl)) rfl 60 Up (fun _ => ?_) K []
 simp only [aa.all, ax]
 refine ⟨⟨h1, h2⟩, by omega, by omega, lH Af ?_ (by rw [Rat.num_intCast]) (by rw [Rat.den_intCast, if_pos rfl])⟩
 rw [decide_eq_decide, fy, Rat.num_intCast]
theorem adg : ∀ K args pre r, FM K args pre = some r → az P uT K args pre r := by
 refine bH fun K args r hk hs _ => ?_
 split at hs
 ·simp only [Option.some.injEq] at hs
  subst hs
  exact fun need => acz need.1 need.2.1 need.2.2.1 need.2.2.2 K trivial
 ·simp at hs
theorem RT : ∀ K args pre r, Jo K args pre = some r → az P ni K args pre r := by
 refine bH fun K args r hk hs _ => ?_
 split at hs
 ·simp only [Option.some.injEq] at hs
  subst hs
  exact fun need => A8 need.1 need.2 K trivial
 ·simp at hs
theorem Im : aW P Bh := aC RT (aC LH (aC adg aT))
theorem HX {q r : Rat} {n m : Nat} (hn : n < 2 ^ 41) (hm' : m < 2 ^ 41) (K : Nat) : az P vl K [.rat q n, .rat r m] [] (aF (.rat (q - r) (n + m + 1)) []) := by
 refine bD hT Im hm SH rfl (of_decide_eq_true (by kernel_rfl)) rfl 60 R4 (fun _ => ?_) K []
 simp only [aa.all, ax]
 exact ⟨⟨by omega, by omega, hn, hm', by omega⟩, by omega, cZ (by rw [Rat.sub_eq_add_neg])⟩
theorem abT {x y : Int} (h1 : -2 ^ 63 ≤ x) (h2 : x < 2 ^ 63) (h3 : -2 ^ 63 ≤ y) (h4 : y < 2 ^ 63) (K : Nat) : az P l5 K [.int .i64 x, .int .i64 y] [] (aF (.rat ((x : Rat) / (y : Rat)) 64) []) := by
 refine bD hT Im hm aae rfl (of_decide_eq_true (by kernel_rfl)) rfl 60 PI (fun _ => ?_) K []
 simp only [aa.all, ax]
 exact ⟨⟨h1, h2, h3, h4, by omega⟩, ⟨by omega, by omega⟩, by omega, .refl _⟩
def pD : Spec := bt fun l => match l with
 | [.int .i64 n] => some (aF (.rat (n : Rat) (max 1 (aS n.natAbs))) [-2 ^ 63 ≤ n, n < 2 ^ 63])
 | _ => none
theorem uV : ∀ K args pre r, pD K args pre = some r → az P iI K args pre r := by
 refine bH fun K args r hk hs _ => ?_
 split at hs
 ·simp only [Option.some.injEq] at hs
  subst hs
  exact fun need => x5 need.1 need.2 K trivial
 ·simp at hs
def ud : Spec := bt fun l => match l with
 | [.int .i64 x, .int .i64 y] => some (aF (.rat ((x : Rat) / (y : Rat)) 64) [-2 ^ 63 ≤ x, x < 2 ^ 63, -2 ^ 63 ≤ y, y < 2 ^ 63])
 | _ => none
theorem zj : ∀ K args pre r, ud K args pre = some r → az P l5 K args pre r := by
 refine bH fun K args r hk hs _ => ?_
 split at hs
 ·simp only [Option.some.injEq] at hs
  subst hs
  exact fun need => abT need.1 need.2.1 need.2.2.1 need.2.2.2 K trivial
 ·simp at hs
end Go.Am.B
