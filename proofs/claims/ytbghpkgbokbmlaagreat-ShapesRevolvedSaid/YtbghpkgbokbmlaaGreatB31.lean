/- ref02: Add, Sub, Mul, Cmp, Make, Frac, Int. -/
import Derived.Test.YtbghpkgbokbmlaaGreatB30
set_option linter.unusedVariables false
namespace Go.Am.B
open Go Go.Am.N AV
theorem WN : aS P nw vE (au vE) := aN OL (by kernel_rfl) (by kernel_rfl) (by kernel_rfl)
theorem PX : aS P tn s6 (au s6) := aN QU (by kernel_rfl) (by kernel_rfl) (by kernel_rfl)
theorem Uh : aS P tN sw (au sw) := aN ZX (by kernel_rfl) (by kernel_rfl) (by kernel_rfl)
theorem Vt : aS P td rz (au rz) := aN LG (by kernel_rfl) (by kernel_rfl) (by kernel_rfl)
theorem Vm : aS P vR sM (au sM) := aN Mi (by kernel_rfl) (by kernel_rfl) (by kernel_rfl)
theorem M5 : aS P lC rK (au rK) := aN KJ (by kernel_rfl) (by kernel_rfl) (by kernel_rfl)
theorem KM : aS P iy uE (au uE) := aN TD (by kernel_rfl) (by kernel_rfl) (by kernel_rfl)
def oe : aT := [(mW, yP), (qA, BN), (vL, Dx), (v7, HG), (mh, uy), (r7, Fz), (nY, IC), (nh, yq), (sn, CL)]
def DU : Spec := bt fun l => match l with
 | [.int .i64 x, .int .i64 y] => some (aH (.tuple [.rat ((x : Rat) / (y : Rat)) 64, .int .i64 (if y = 0 then 3 else 0)]) [-2 ^ 63 ≤ x, x < 2 ^ 63, -2 ^ 63 ≤ y, y < 2 ^ 63])
 | _ => none
def G6 : Spec := bt fun l => match l with
 | [.rat q n, .rat r m] => some (aH (.rat (q + r) (n + m + 1)) [n < 2 ^ 41, m < 2 ^ 41])
 | _ => none
def zO : aT := [(nw, G6), (nh, yq), (vR, DU)]
theorem o7 : bh P oe := aE Bt (aE Fg (aE Vg (aE Ns (aE yE (aE YZ (aE VP (aE zJ (aE RS aY))))))))
theorem NU {q r : Rat} {n m : Nat} : bB T oe [15, 20, 41, 52] 60 vE (au vE) ⟨aO 0 [.rat q n, .rat r m], [], 0⟩ =
  some (aa.af [(0 : Nat) < 1] (aa.fork ((↑(nl q.num.natAbs) : Int) == (0 : Int)) (aa.af [(0 : Nat) < 1, (0 : Nat) < 1] (aa.af [(0 : Nat) < 1] (aa.leaf ah.ret [rat r m]))) (aa.af [(0 : Nat) < 1] (aa.fork ((↑(nl r.num.natAbs) : Int) == (0 : Int)) (aa.af [(0 : Nat) < 1, (0 : Nat) < 1] (aa.af [(0 : Nat) < 1] (aa.leaf ah.ret [rat q n]))) (aa.af [(0 : Nat) < 1, (0 : Nat) < 1, nl q.num.natAbs < 2 ^ 39, nl r.den < 2 ^ 39, (0 : Nat) < 1, (0 : Nat) < 1, nl r.num.natAbs < 2 ^ 39, nl q.den < 2 ^ 39] (aa.af [(0 : Nat) < 1, (0 : Nat) < 1, nl q.den < 2 ^ 39, nl r.den < 2 ^ 39] (aa.af [(0 : Nat) < 1, (0 : Nat) < 1] (aa.fork (decide (q < 0) == decide (r < 0)) (aa.af [(0 : Nat) < 1, nl (q.num.natAbs * r.den) < 2 ^ 40, nl (r.num.natAbs * q.den) < 2 ^ 40, nl (q.num.natAbs * r.den + r.num.natAbs * q.den) < 2 ^ 38, nl (q.den * r.den) < 2 ^ 38, q.den * r.den ≠ 0, (0 : Nat) < 1] (aa.af [(0 : Nat) < 1] (aa.leaf ah.ret [rat (sQ (decide (q < 0)) (q.num.natAbs * r.den + r.num.natAbs * q.den) (q.den * r.den)) (bW (sQ (decide (q < 0)) (q.num.natAbs * r.den + r.num.natAbs * q.den) (q.den * r.den)))]))) (aa.af [nl (q.num.natAbs * r.den) < 2 ^ 40, nl (r.num.natAbs * q.den) < 2 ^ 40] (aa.fork (decide (bO (q.num.natAbs * r.den) (r.num.natAbs * q.den) < (0 : Int))) (aa.af [nl (r.num.natAbs * q.den) < 2 ^ 40, nl (q.num.natAbs * r.den) < 2 ^ 40] (aa.af [(0 : Nat) < 1, nl (r.num.natAbs * q.den - q.num.natAbs * r.den) < 2 ^ 38, nl (q.den * r.den) < 2 ^ 38, q.den * r.den ≠ 0, (0 : Nat) < 1] (aa.af [(0 : Nat) < 1] (aa.leaf ah.ret [rat (sQ (decide (r < 0)) (r.num.natAbs * q.den - q.num.natAbs * r.den) (q.den * r.den)) (bW (sQ (decide (r < 0)) (r.num.natAbs * q.den - q.num.natAbs * r.den) (q.den * r.den)))])))) (aa.af [nl (q.num.natAbs * r.den) < 2 ^ 40, nl (r.num.natAbs * q.den) < 2 ^ 40] (aa.af [(0 : Nat) < 1, nl (q.num.natAbs * r.den - r.num.natAbs * q.den) < 2 ^ 38, nl (q.den * r.den) < 2 ^ 38, q.den * r.den ≠ 0, (0 : Nat) < 1] (aa.af [(0 : Nat) < 1] (aa.leaf ah.ret [rat (sQ (decide (q < 0)) (q.num.natAbs * r.den - r.num.natAbs * q.den) (q.den * r.den)) (bW (sQ (decide (q < 0)) (q.num.natAbs * r.den - r.num.natAbs * q.den) (q.den * r.den)))])))))))))))))) := by kernel_rfl
theorem Kr {q r : Rat} {n m : Nat} : bB T oe [] 60 sw (au sw) ⟨aO 0 [.rat q n, .rat r m], [], 0⟩ =
  some (aa.af [(0 : Nat) < 1, (0 : Nat) < 1, (0 : Nat) < 1, (0 : Nat) < 1, nl q.num.natAbs < 2 ^ 39, nl r.num.natAbs < 2 ^ 39, (0 : Nat) < 1, (0 : Nat) < 1, nl q.den < 2 ^ 39, nl r.den < 2 ^ 39, nl (q.num.natAbs * r.num.natAbs) < 2 ^ 38, nl (q.den * r.den) < 2 ^ 38, q.den * r.den ≠ 0, (0 : Nat) < 1] (aa.af [(0 : Nat) < 1] (aa.leaf ah.ret [rat (sQ (decide (q < 0) != decide (r < 0)) (q.num.natAbs * r.num.natAbs) (q.den * r.den)) (bW (sQ (decide (q < 0) != decide (r < 0)) (q.num.natAbs * r.num.natAbs) (q.den * r.den)))]))) := by kernel_rfl
theorem Ni {q r : Rat} {n m : Nat} : bB T oe [14, 17, 30] 60 rz (au rz) ⟨aO 0 [.rat q n, .rat r m], [], 0⟩ =
  some (aa.af [(0 : Nat) < 1, (0 : Nat) < 1] (aa.fork (dA q != dA r) (aa.fork (decide (dA q < dA r)) (aa.leaf ah.ret [int IntKind.i64 (-1 : Int)]) (aa.leaf ah.ret [int IntKind.i64 (1 : Int)])) (aa.af [(0 : Nat) < 1, (0 : Nat) < 1, nl q.num.natAbs < 2 ^ 39, nl r.den < 2 ^ 39, (0 : Nat) < 1, (0 : Nat) < 1, nl r.num.natAbs < 2 ^ 39, nl q.den < 2 ^ 39, nl (q.num.natAbs * r.den) < 2 ^ 40, nl (r.num.natAbs * q.den) < 2 ^ 40] (aa.af [(0 : Nat) < 1] (aa.fork (decide (q < 0)) (aa.leaf ah.ret [int IntKind.i64 (IntKind.i64.wrap ((0 : Int) - bO (q.num.natAbs * r.den) (r.num.natAbs * q.den)))]) (aa.leaf ah.ret [int IntKind.i64 (bO (q.num.natAbs * r.den) (r.num.natAbs * q.den))])))))) := by kernel_rfl
theorem Xv {x y : Int} : bB T oe [11] 60 sM (au sM) ⟨aO 0 [.int .i64 x, .int .i64 y], [], 0⟩ =
  some (aa.fork (y == (0 : Int)) (aa.af [(0 : Nat) < 1] (aa.af [(0 : Nat) < 1] (aa.leaf ah.ret [agg [AV.bool false, mag 0, mag 0], int IntKind.i64 (3 : Int)]))) (aa.af [-(2 : Int) ^ 63 ≤ x, x < (2 : Int) ^ 63] (aa.af [-(2 : Int) ^ 63 ≤ y, y < (2 : Int) ^ 63] (aa.af [nl x.natAbs < 2 ^ 38, nl y.natAbs < 2 ^ 38, y.natAbs ≠ 0, (0 : Nat) < 1] (aa.af [(0 : Nat) < 1] (aa.leaf ah.ret [rat (sQ (decide (x < (0 : Int)) != decide (y < (0 : Int))) x.natAbs y.natAbs) (bW (sQ (decide (x < (0 : Int)) != decide (y < (0 : Int))) x.natAbs y.natAbs)), int IntKind.i64 (0 : Int)])))))) := by kernel_rfl
theorem aae {x : Int} : bB T oe [] 60 uE (au uE) ⟨aO 0 [.int .i64 x], [], 0⟩ =
  some (aa.af [-(2 : Int) ^ 63 ≤ x, x < (2 : Int) ^ 63] (aa.af [(0 : Nat) < 1] (aa.af [(0 : Nat) < 1] (aa.leaf ah.ret [agg [AV.bool (decide (x < (0 : Int))), mag x.natAbs, mag 0]])))) := by kernel_rfl
theorem VT {q r : Rat} {n m : Nat} : bB T zO [] 60 s6 (au s6) ⟨aO 0 [.rat q n, .rat r m], [], 0⟩ =
  some (aa.af [(0 : Nat) < 1, (0 : Nat) < 1, n < 2 ^ 41, m < 2 ^ 41, (0 : Nat) < 1] (aa.af [(0 : Nat) < 1] (aa.leaf ah.ret [rat (q + -r) (n + m + 1)]))) := by kernel_rfl
theorem To {x y : Int} : bB T zO [] 60 rK (au rK) ⟨aO 0 [.int .i64 x, .int .i64 y], [], 0⟩ =
  some (aa.af [-(2 : Int) ^ 63 ≤ x, x < (2 : Int) ^ 63, -(2 : Int) ^ 63 ≤ y, y < (2 : Int) ^ 63, (0 : Nat) < 1] (aa.af [(0 : Nat) < 1, (0 : Nat) < 1] (aa.af [(0 : Nat) < 1] (aa.leaf ah.ret [rat ((↑x : Rat) / (↑y : Rat)) 64])))) := by kernel_rfl
theorem dG {N n : Nat} (h : N < 2 ^ n) (hn : n < 2 ^ 42) : nl N < 2 ^ 38 := by
 have h1 : N < 2 ^ (32 * (n / 32 + 1)) := Nat.lt_of_lt_of_le h (Nat.pow_le_pow_right (by omega) (by omega))
 have := cu.2 h1
 omega
section ops
variable {q r : Rat} {n m : Nat}
theorem j5 {a b n m : Nat} (ha : a < 2 ^ n) (hb : b < 2 ^ m) : a * b < 2 ^ (n + m) := by rw [Nat.pow_add]; exact Nat.mul_lt_mul'' ha hb
theorem BG (hn : n < 2 ^ 41) (hm' : m < 2 ^ 41) (K : Nat) : aB P nw K [.rat q n, .rat r m] [] (aH (.rat (q + r) (n + m + 1)) []) := by
 refine gl fun ⟨hq, hr, _⟩ => ?_
 have hq : Sz q n := hq
 have hr : Sz r m := hr
 have d1 := q.den_nz
 have d2 := r.den_nz
 have hz := hq.add hr
 have a1 : nl q.num.natAbs < 2 ^ 38 := dG hq.1 (by omega)
 have a2 : nl q.den < 2 ^ 38 := dG hq.2 (by omega)
 have b1 : nl r.num.natAbs < 2 ^ 38 := dG hr.1 (by omega)
 have b2 : nl r.den < 2 ^ 38 := dG hr.2 (by omega)
 have x1 := j5 hq.1 hr.2
 have x2 := j5 hr.1 hq.2
 have m1 : nl (q.num.natAbs * r.den) < 2 ^ 38 := dG x1 (by omega)
 have m2 : nl (r.num.natAbs * q.den) < 2 ^ 38 := dG x2 (by omega)
 have m3 : nl (q.den * r.den) < 2 ^ 38 := dG (j5 hq.2 hr.2) (by omega)
 have m4 : nl (q.num.natAbs * r.den + r.num.natAbs * q.den) < 2 ^ 38 := dG (n := n + m + 1) (by rw [Nat.pow_succ]; rw [Nat.add_comm m n] at x2; omega) (by omega)
 have hd0 : q.den * r.den ≠ 0 := Nat.mul_ne_zero d1 d2
 have hv : q + r = sQ (decide (q < 0)) (q.num.natAbs * r.den) (q.den * r.den) + sQ (decide (r < 0)) (r.num.natAbs * q.den) (q.den * r.den) := by
  have := AP q r (decide (r < 0))
  rw [ir r] at this
  exact this
 refine bF hT o7 hm WN rfl (of_decide_eq_true (by kernel_rfl)) rfl 60 NU (fun _ => ?_) K []
 generalize q.num.natAbs * r.den = X at *
 generalize r.num.natAbs * q.den = Y at *
 generalize q.den * r.den = D at *
 simp only [aa.all, ax, beq_iff_eq, beq_eq_false_iff_ne, ne_eq, decide_eq_true_eq, decide_eq_false_iff_not, xE]
 have m5 : nl (Y - X) < 2 ^ 38 := Nat.lt_of_le_of_lt (ff (by omega)) m2
 have m6 : nl (X - Y) < 2 ^ 38 := Nat.lt_of_le_of_lt (ff (by omega)) m1
 refine ⟨by omega, fun hb => ⟨⟨by omega, by omega⟩, by omega, eA ?_ hz⟩, fun hb => ⟨by omega, fun hb2 => ⟨⟨by omega, by omega⟩, by omega, eA ?_ hz⟩, fun hb2 => ⟨⟨by omega, by omega, by omega, by omega, by omega, by omega, by omega, by omega⟩, ⟨by omega, by omega, by omega, by omega⟩, ⟨by omega, by omega⟩,
  fun hs => ⟨⟨by omega, by omega, by omega, m4, m3, hd0, by omega⟩, by omega, eA ?_ hz⟩, fun hs => ⟨⟨by omega, by omega⟩, fun hl => ⟨⟨by omega, by omega⟩, ⟨by omega, m5, m3, hd0, by omega⟩, by omega, eA ?_ hz⟩, fun hl => ⟨⟨by omega, by omega⟩, ⟨by omega, m6, m3, hd0, by omega⟩, by omega, eA ?_ hz⟩⟩⟩⟩⟩
 ·have h0 : q = 0 := kT.1 (gU.1 (by omega))
  rw [h0, Rat.zero_add]
 ·have h0 : r = 0 := kT.1 (gU.1 (by omega))
  rw [h0, Rat.add_zero]
 ·rw [hv, hs, Bv hd0]
 ·rw [hv, Az hd0 hs (by omega)]
 ·rw [hv, zZ hd0 hs (by omega)]
theorem GO (hn : n < 2 ^ 41) (hm' : m < 2 ^ 41) (K : Nat) : aB P tN K [.rat q n, .rat r m] [] (aH (.rat (q * r) (n + m)) []) := by
 refine gl fun ⟨hq, hr, _⟩ => ?_
 have hq : Sz q n := hq
 have hr : Sz r m := hr
 have d1 := q.den_nz
 have d2 := r.den_nz
 have a1 : nl q.num.natAbs < 2 ^ 38 := dG hq.1 (by omega)
 have a2 : nl q.den < 2 ^ 38 := dG hq.2 (by omega)
 have b1 : nl r.num.natAbs < 2 ^ 38 := dG hr.1 (by omega)
 have b2 : nl r.den < 2 ^ 38 := dG hr.2 (by omega)
 have m1 : nl (q.num.natAbs * r.num.natAbs) < 2 ^ 38 := dG (j5 hq.1 hr.1) (by omega)
 have m3 : nl (q.den * r.den) < 2 ^ 38 := dG (j5 hq.2 hr.2) (by omega)
 have hv : sQ (decide (q < 0) != decide (r < 0)) (q.num.natAbs * r.num.natAbs) (q.den * r.den) = q * r := by rw [← Ag, ir, ir]
 refine bF hT o7 hm Uh rfl (of_decide_eq_true (by kernel_rfl)) rfl 60 Kr (fun _ => ?_) K []
 simp only [aa.all, ax]
 exact ⟨⟨by omega, by omega, by omega, by omega, by omega, by omega, by omega, by omega, by omega, by omega, m1, m3, Nat.mul_ne_zero d1 d2, by omega⟩, by omega, eA hv (hq.mul hr)⟩
theorem GU (hn : n < 2 ^ 41) (hm' : m < 2 ^ 41) (K : Nat) : aB P td K [.rat q n, .rat r m] [] (aH (.int .i64 (fS q r)) []) := by
 refine gl fun ⟨hq, hr, _⟩ => ?_
 have hq : Sz q n := hq
 have hr : Sz r m := hr
 have a1 : nl q.num.natAbs < 2 ^ 38 := dG hq.1 (by omega)
 have a2 : nl q.den < 2 ^ 38 := dG hq.2 (by omega)
 have b1 : nl r.num.natAbs < 2 ^ 38 := dG hr.1 (by omega)
 have b2 : nl r.den < 2 ^ 38 := dG hr.2 (by omega)
 have m1 : nl (q.num.natAbs * r.den) < 2 ^ 38 := dG (j5 hq.1 hr.2) (by omega)
 have m2 : nl (r.num.natAbs * q.den) < 2 ^ 38 := dG (j5 hr.1 hq.2) (by omega)
 refine bF hT o7 hm Vt rfl (of_decide_eq_true (by kernel_rfl)) rfl 60 Ni (fun _ => ?_) K []
 simp only [aa.all, ax, bne_iff_ne, ne_eq, bne_eq_false_iff_eq]
 refine ⟨⟨by omega, by omega⟩, fun hs => ⟨fun hl => br ?_, fun hl => br ?_⟩, fun hs => ⟨⟨by omega, by omega, by omega, by omega, by omega, by omega, by omega, by omega, by omega, by omega⟩, by omega, fun hc => br ?_, fun hc => br ?_⟩⟩
 ·rw [wZ hs, if_pos (of_decide_eq_true hl)]
 ·rw [wZ hs, if_neg (of_decide_eq_false hl)]
 ·rw [kO hs, if_pos (of_decide_eq_true hc), wG]
 ·rw [kO hs, if_neg (of_decide_eq_false hc)]
end ops
theorem Gx {x y : Int} (hy : y ≠ 0) : sQ (decide (x < 0) != decide (y < 0)) x.natAbs y.natAbs = (x : Rat) / (y : Rat) := by
 have h := Cl (x : Rat) (y : Rat) (by simpa using hy)
 have c : ∀ {z : Int}, decide ((z : Rat) < 0) = decide (z < 0) := fun {z} => by rw [decide_eq_decide, fl, Rat.num_intCast]
 rw [c, c, Rat.num_intCast, Rat.num_intCast, Rat.den_intCast, Rat.den_intCast, Nat.mul_one, Nat.one_mul] at h
 exact h
theorem IQ {x y : Int} (h1 : -2 ^ 63 ≤ x) (h2 : x < 2 ^ 63) (h3 : -2 ^ 63 ≤ y) (h4 : y < 2 ^ 63) (hy : y ≠ 0) : Sz ((x : Rat) / (y : Rat)) 64 := by
 rw [← Gx hy]; exact Cs (by omega) (by omega) (by omega)
theorem NR {x y : Int} (h1 : -2 ^ 63 ≤ x) (h2 : x < 2 ^ 63) (h3 : -2 ^ 63 ≤ y) (h4 : y < 2 ^ 63) (K : Nat) : aB P vR K [.int .i64 x, .int .i64 y] [] (aH (.tuple [.rat ((x : Rat) / (y : Rat)) 64, .int .i64 (if y = 0 then 3 else 0)]) []) := by
 refine bF hT o7 hm Vm rfl (of_decide_eq_true (by kernel_rfl)) rfl 60 Xv (fun _ => ?_) K []
 simp only [aa.all, ax, beq_iff_eq, beq_eq_false_iff_ne, ne_eq]
 refine ⟨fun hb => ⟨by omega, by omega, ?_, br (by rw [if_pos hb]), trivial⟩, fun hb => ⟨⟨h1, h2⟩, ⟨h3, h4⟩, ⟨dG (n := 64) (by omega) (by omega), dG (n := 64) (by omega) (by omega), by omega, by omega⟩, by omega, eA (Gx hb) (IQ h1 h2 h3 h4 hb), br (by rw [if_neg hb]), trivial⟩⟩
 rw [hb, show ((x : Rat) / ((0 : Int) : Rat)) = 0 by rw [Rat.intCast_zero, Rat.div_def, Rat.inv_zero, Rat.mul_zero]]
 exact jh
theorem wI {n : Int} (h1 : -2 ^ 63 ≤ n) (h2 : n < 2 ^ 63) (K : Nat) : aB P iy K [.int .i64 n] [] (aH (.rat (n : Rat) (max 1 (aV n.natAbs))) []) := by
 refine bF hT o7 hm KM rfl (of_decide_eq_true (by kernel_rfl)) rfl 60 aae (fun _ => ?_) K []
 simp only [aa.all, ax]
 refine ⟨⟨h1, h2⟩, by omega, by omega, kz AO ?_ (by rw [Rat.num_intCast]) (by rw [Rat.den_intCast, if_pos rfl])⟩
 rw [decide_eq_decide, fl, Rat.num_intCast]
theorem SF : ∀ K args pre r, DU K args pre = some r → aB P vR K args pre r := by
 refine bJ fun K args r hk hs _ => ?_
 split at hs
 ·simp only [Option.some.injEq] at hs
  subst hs
  exact fun need => NR need.1 need.2.1 need.2.2.1 need.2.2.2 K trivial
 ·simp at hs
theorem YF : ∀ K args pre r, G6 K args pre = some r → aB P nw K args pre r := by
 refine bJ fun K args r hk hs _ => ?_
 split at hs
 ·simp only [Option.some.injEq] at hs
  subst hs
  exact fun need => BG need.1 need.2 K trivial
 ·simp at hs
theorem FQ : bh P zO := aE YF (aE zJ (aE SF aY))
theorem EP {q r : Rat} {n m : Nat} (hn : n < 2 ^ 41) (hm' : m < 2 ^ 41) (K : Nat) : aB P tn K [.rat q n, .rat r m] [] (aH (.rat (q - r) (n + m + 1)) []) := by
 refine bF hT FQ hm PX rfl (of_decide_eq_true (by kernel_rfl)) rfl 60 VT (fun _ => ?_) K []
 simp only [aa.all, ax]
 exact ⟨⟨by omega, by omega, hn, hm', by omega⟩, by omega, cR (by rw [Rat.sub_eq_add_neg])⟩
theorem Xi {x y : Int} (h1 : -2 ^ 63 ≤ x) (h2 : x < 2 ^ 63) (h3 : -2 ^ 63 ≤ y) (h4 : y < 2 ^ 63) (K : Nat) : aB P lC K [.int .i64 x, .int .i64 y] [] (aH (.rat ((x : Rat) / (y : Rat)) 64) []) := by
 refine bF hT FQ hm M5 rfl (of_decide_eq_true (by kernel_rfl)) rfl 60 To (fun _ => ?_) K []
 simp only [aa.all, ax]
 exact ⟨⟨h1, h2, h3, h4, by omega⟩, ⟨by omega, by omega⟩, by omega, .refl _⟩
def oI : Spec := bt fun l => match l with
 | [.int .i64 n] => some (aH (.rat (n : Rat) (max 1 (aV n.natAbs))) [-2 ^ 63 ≤ n, n < 2 ^ 63])
 | _ => none
theorem tY : ∀ K args pre r, oI K args pre = some r → aB P iy K args pre r := by
 refine bJ fun K args r hk hs _ => ?_
 split at hs
 ·simp only [Option.some.injEq] at hs
  subst hs
  exact fun need => wI need.1 need.2 K trivial
 ·simp at hs
def qX : Spec := bt fun l => match l with
 | [.int .i64 x, .int .i64 y] => some (aH (.rat ((x : Rat) / (y : Rat)) 64) [-2 ^ 63 ≤ x, x < 2 ^ 63, -2 ^ 63 ≤ y, y < 2 ^ 63])
 | _ => none
theorem yK : ∀ K args pre r, qX K args pre = some r → aB P lC K args pre r := by
 refine bJ fun K args r hk hs _ => ?_
 split at hs
 ·simp only [Option.some.injEq] at hs
  subst hs
  exact fun need => Xi need.1 need.2.1 need.2.2.1 need.2.2.2 K trivial
 ·simp at hs
end Go.Am.B
