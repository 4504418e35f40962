/- ref02: Add, Sub, Mul, Cmp, Make, Frac, Int. -/
import Derived.Test.YtjhhblmbiaghfaaB30
set_option linter.unusedVariables false
namespace Go.Am.B
open Go Go.Am.N AV
theorem G7 : aO P nu ta (ax ta) := aS PD (by kernel_rfl) (by kernel_rfl) (by kernel_rfl)
theorem UK : aO P wV tq (ax tq) := aS UB (by kernel_rfl) (by kernel_rfl) (by kernel_rfl)
theorem KS : aO P uX qX (ax qX) := aS O9 (by kernel_rfl) (by kernel_rfl) (by kernel_rfl)
theorem IG : aO P vB sP (ax sP) := aS Gz (by kernel_rfl) (by kernel_rfl) (by kernel_rfl)
theorem GL : aO P s7 sL (ax sL) := aS U1 (by kernel_rfl) (by kernel_rfl) (by kernel_rfl)
theorem HF : aO P tv qw (ax qw) := aS KZ (by kernel_rfl) (by kernel_rfl) (by kernel_rfl)
theorem Pd : aO P mW qN (ax qN) := aS KF (by kernel_rfl) (by kernel_rfl) (by kernel_rfl)
def og : bf := [(p8, Cu), (oA, zx), (rZ, EB), (rm, Cx), (kV, qf), (su, Bx), (oK, BR), (oW, yO), (rQ, Cv)]
def Fw : Spec := bp fun l => match l with
 | [.int .i64 x, .int .i64 y] => some (aJ (.tuple [.rat ((x : Rat) / (y : Rat)) 64, .int .i64 (if y = 0 then 3 else 0)]) [-2 ^ 63 ≤ x, x < 2 ^ 63, -2 ^ 63 ≤ y, y < 2 ^ 63])
 | _ => none
def DO : Spec := bp fun l => match l with
 | [.rat q n, .rat r m] => some (aJ (.rat (q + r) (n + m + 1)) [n < 2 ^ 41, m < 2 ^ 41])
 | _ => none
def zU : bf := [(nu, DO), (oW, yO), (s7, Fw)]
theorem qR : bC P og := aK RR (aK Cb (aK GK (aK Tq (aK uT (aK Pq (aK Sy (aK Bt (aK Ir aZ))))))))
theorem TA {q r : Rat} {n m : Nat} : bA T og [15, 20, 41, 52] 60 ta (ax ta) ⟨aM 0 [.rat q n, .rat r m], [], 0⟩ =
  some (aa.af [(0 : Nat) < 1] (aa.fork ((↑(nl q.num.natAbs) : Int) == (0 : Int)) (aa.af [(0 : Nat) < 1, (0 : Nat) < 1] (aa.af [(0 : Nat) < 1] (aa.leaf aj.ret [rat r m]))) (aa.af [(0 : Nat) < 1] (aa.fork ((↑(nl r.num.natAbs) : Int) == (0 : Int)) (aa.af [(0 : Nat) < 1, (0 : Nat) < 1] (aa.af [(0 : Nat) < 1] (aa.leaf aj.ret [rat q n]))) (aa.af [(0 : Nat) < 1, (0 : Nat) < 1, nl q.num.natAbs < 2 ^ 39, nl r.den < 2 ^ 39, (0 : Nat) < 1, (0 : Nat) < 1, nl r.num.natAbs < 2 ^ 39, nl q.den < 2 ^ 39] (aa.af [(0 : Nat) < 1, (0 : Nat) < 1, nl q.den < 2 ^ 39, nl r.den < 2 ^ 39] (aa.af [(0 : Nat) < 1, (0 : Nat) < 1] (aa.fork (decide (q < 0) == decide (r < 0)) (aa.af [(0 : Nat) < 1, nl (q.num.natAbs * r.den) < 2 ^ 40, nl (r.num.natAbs * q.den) < 2 ^ 40, nl (q.num.natAbs * r.den + r.num.natAbs * q.den) < 2 ^ 38, nl (q.den * r.den) < 2 ^ 38, q.den * r.den ≠ 0, (0 : Nat) < 1] (aa.af [(0 : Nat) < 1] (aa.leaf aj.ret [rat (sQ (decide (q < 0)) (q.num.natAbs * r.den + r.num.natAbs * q.den) (q.den * r.den)) (bT (sQ (decide (q < 0)) (q.num.natAbs * r.den + r.num.natAbs * q.den) (q.den * r.den)))]))) (aa.af [nl (q.num.natAbs * r.den) < 2 ^ 40, nl (r.num.natAbs * q.den) < 2 ^ 40] (aa.fork (decide (bI (q.num.natAbs * r.den) (r.num.natAbs * q.den) < (0 : Int))) (aa.af [nl (r.num.natAbs * q.den) < 2 ^ 40, nl (q.num.natAbs * r.den) < 2 ^ 40] (aa.af [(0 : Nat) < 1, nl (r.num.natAbs * q.den - q.num.natAbs * r.den) < 2 ^ 38, nl (q.den * r.den) < 2 ^ 38, q.den * r.den ≠ 0, (0 : Nat) < 1] (aa.af [(0 : Nat) < 1] (aa.leaf aj.ret [rat (sQ (decide (r < 0)) (r.num.natAbs * q.den - q.num.natAbs * r.den) (q.den * r.den)) (bT (sQ (decide (r < 0)) (r.num.natAbs * q.den - q.num.natAbs * r.den) (q.den * r.den)))])))) (aa.af [nl (q.num.natAbs * r.den) < 2 ^ 40, nl (r.num.natAbs * q.den) < 2 ^ 40] (aa.af [(0 : Nat) < 1, nl (q.num.natAbs * r.den - r.num.natAbs * q.den) < 2 ^ 38, nl (q.den * r.den) < 2 ^ 38, q.den * r.den ≠ 0, (0 : Nat) < 1] (aa.af [(0 : Nat) < 1] (aa.leaf aj.ret [rat (sQ (decide (q < 0)) (q.num.natAbs * r.den - r.num.natAbs * q.den) (q.den * r.den)) (bT (sQ (decide (q < 0)) (q.num.natAbs * r.den - r.num.natAbs * q.den) (q.den * r.den)))])))))))))))))) := by kernel_rfl
theorem Tt {q r : Rat} {n m : Nat} : bA T og [] 60 qX (ax qX) ⟨aM 0 [.rat q n, .rat r m], [], 0⟩ =
  some (aa.af [(0 : Nat) < 1, (0 : Nat) < 1, (0 : Nat) < 1, (0 : Nat) < 1, nl q.num.natAbs < 2 ^ 39, nl r.num.natAbs < 2 ^ 39, (0 : Nat) < 1, (0 : Nat) < 1, nl q.den < 2 ^ 39, nl r.den < 2 ^ 39, nl (q.num.natAbs * r.num.natAbs) < 2 ^ 38, nl (q.den * r.den) < 2 ^ 38, q.den * r.den ≠ 0, (0 : Nat) < 1] (aa.af [(0 : Nat) < 1] (aa.leaf aj.ret [rat (sQ (decide (q < 0) != decide (r < 0)) (q.num.natAbs * r.num.natAbs) (q.den * r.den)) (bT (sQ (decide (q < 0) != decide (r < 0)) (q.num.natAbs * r.num.natAbs) (q.den * r.den)))]))) := by kernel_rfl
theorem Ud {q r : Rat} {n m : Nat} : bA T og [14, 17, 30] 60 sP (ax sP) ⟨aM 0 [.rat q n, .rat r m], [], 0⟩ =
  some (aa.af [(0 : Nat) < 1, (0 : Nat) < 1] (aa.fork (dG q != dG r) (aa.fork (decide (dG q < dG r)) (aa.leaf aj.ret [int IntKind.i64 (-1 : Int)]) (aa.leaf aj.ret [int IntKind.i64 (1 : Int)])) (aa.af [(0 : Nat) < 1, (0 : Nat) < 1, nl q.num.natAbs < 2 ^ 39, nl r.den < 2 ^ 39, (0 : Nat) < 1, (0 : Nat) < 1, nl r.num.natAbs < 2 ^ 39, nl q.den < 2 ^ 39, nl (q.num.natAbs * r.den) < 2 ^ 40, nl (r.num.natAbs * q.den) < 2 ^ 40] (aa.af [(0 : Nat) < 1] (aa.fork (decide (q < 0)) (aa.leaf aj.ret [int IntKind.i64 (IntKind.i64.wrap ((0 : Int) - bI (q.num.natAbs * r.den) (r.num.natAbs * q.den)))]) (aa.leaf aj.ret [int IntKind.i64 (bI (q.num.natAbs * r.den) (r.num.natAbs * q.den))])))))) := by kernel_rfl
theorem PI {x y : Int} : bA T og [11] 60 sL (ax sL) ⟨aM 0 [.int .i64 x, .int .i64 y], [], 0⟩ =
  some (aa.fork (y == (0 : Int)) (aa.af [(0 : Nat) < 1] (aa.af [(0 : Nat) < 1] (aa.leaf aj.ret [agg [AV.bool false, mag 0, mag 0], int IntKind.i64 (3 : Int)]))) (aa.af [-(2 : Int) ^ 63 ≤ x, x < (2 : Int) ^ 63] (aa.af [-(2 : Int) ^ 63 ≤ y, y < (2 : Int) ^ 63] (aa.af [nl x.natAbs < 2 ^ 38, nl y.natAbs < 2 ^ 38, y.natAbs ≠ 0, (0 : Nat) < 1] (aa.af [(0 : Nat) < 1] (aa.leaf aj.ret [rat (sQ (decide (x < (0 : Int)) != decide (y < (0 : Int))) x.natAbs y.natAbs) (bT (sQ (decide (x < (0 : Int)) != decide (y < (0 : Int))) x.natAbs y.natAbs)), int IntKind.i64 (0 : Int)])))))) := by kernel_rfl
theorem Kq {x : Int} : bA T og [] 60 qN (ax qN) ⟨aM 0 [.int .i64 x], [], 0⟩ =
  some (aa.af [-(2 : Int) ^ 63 ≤ x, x < (2 : Int) ^ 63] (aa.af [(0 : Nat) < 1] (aa.af [(0 : Nat) < 1] (aa.leaf aj.ret [agg [AV.bool (decide (x < (0 : Int))), mag x.natAbs, mag 0]])))) := by kernel_rfl
theorem Gp {q r : Rat} {n m : Nat} : bA T zU [] 60 tq (ax tq) ⟨aM 0 [.rat q n, .rat r m], [], 0⟩ =
  some (aa.af [(0 : Nat) < 1, (0 : Nat) < 1, n < 2 ^ 41, m < 2 ^ 41, (0 : Nat) < 1] (aa.af [(0 : Nat) < 1] (aa.leaf aj.ret [rat (q + -r) (n + m + 1)]))) := by kernel_rfl
theorem NN {x y : Int} : bA T zU [] 60 qw (ax qw) ⟨aM 0 [.int .i64 x, .int .i64 y], [], 0⟩ =
  some (aa.af [-(2 : Int) ^ 63 ≤ x, x < (2 : Int) ^ 63, -(2 : Int) ^ 63 ≤ y, y < (2 : Int) ^ 63, (0 : Nat) < 1] (aa.af [(0 : Nat) < 1, (0 : Nat) < 1] (aa.af [(0 : Nat) < 1] (aa.leaf aj.ret [rat ((↑x : Rat) / (↑y : Rat)) 64])))) := by kernel_rfl
theorem eF {N n : Nat} (h : N < 2 ^ n) (hn : n < 2 ^ 42) : nl N < 2 ^ 38 := by
 have h1 : N < 2 ^ (32 * (n / 32 + 1)) := Nat.lt_of_lt_of_le h (Nat.pow_le_pow_right (by omega) (by omega))
 have := cm.2 h1
 omega
section ops
variable {q r : Rat} {n m : Nat}
theorem lV {a b n m : Nat} (ha : a < 2 ^ n) (hb : b < 2 ^ m) : a * b < 2 ^ (n + m) := by rw [Nat.pow_add]; exact Nat.mul_lt_mul'' ha hb
theorem BX (hn : n < 2 ^ 41) (hm' : m < 2 ^ 41) (K : Nat) : aC P nu K [.rat q n, .rat r m] [] (aJ (.rat (q + r) (n + m + 1)) []) := by
 refine iA fun ⟨hq, hr, _⟩ => ?_
 have hq : Sz q n := hq
 have hr : Sz r m := hr
 have d1 := q.den_nz
 have d2 := r.den_nz
 have hz := hq.add hr
 have a1 : nl q.num.natAbs < 2 ^ 38 := eF hq.1 (by omega)
 have a2 : nl q.den < 2 ^ 38 := eF hq.2 (by omega)
 have b1 : nl r.num.natAbs < 2 ^ 38 := eF hr.1 (by omega)
 have b2 : nl r.den < 2 ^ 38 := eF hr.2 (by omega)
 have x1 := lV hq.1 hr.2
 have x2 := lV hr.1 hq.2
 have m1 : nl (q.num.natAbs * r.den) < 2 ^ 38 := eF x1 (by omega)
 have m2 : nl (r.num.natAbs * q.den) < 2 ^ 38 := eF x2 (by omega)
 have m3 : nl (q.den * r.den) < 2 ^ 38 := eF (lV hq.2 hr.2) (by omega)
 have m4 : nl (q.num.natAbs * r.den + r.num.natAbs * q.den) < 2 ^ 38 := eF (n := n + m + 1) (by rw [Nat.pow_succ]; rw [Nat.add_comm m n] at x2; omega) (by omega)
 have hd0 : q.den * r.den ≠ 0 := Nat.mul_ne_zero d1 d2
 have hv : q + r = sQ (decide (q < 0)) (q.num.natAbs * r.den) (q.den * r.den) + sQ (decide (r < 0)) (r.num.natAbs * q.den) (q.den * r.den) := by
  have := yB q r (decide (r < 0))
  rw [gR r] at this
  exact this
 refine bE hT qR hm G7 rfl (of_decide_eq_true (by kernel_rfl)) rfl 60 TA (fun _ => ?_) K []
 generalize q.num.natAbs * r.den = X at *
 generalize r.num.natAbs * q.den = Y at *
 generalize q.den * r.den = D at *
 simp only [aa.all, az, beq_iff_eq, beq_eq_false_iff_ne, ne_eq, decide_eq_true_eq, decide_eq_false_iff_not, wN]
 have m5 : nl (Y - X) < 2 ^ 38 := Nat.lt_of_le_of_lt (eR (by omega)) m2
 have m6 : nl (X - Y) < 2 ^ 38 := Nat.lt_of_le_of_lt (eR (by omega)) m1
 refine ⟨by omega, fun hb => ⟨⟨by omega, by omega⟩, by omega, fZ ?_ hz⟩, fun hb => ⟨by omega, fun hb2 => ⟨⟨by omega, by omega⟩, by omega, fZ ?_ hz⟩, fun hb2 => ⟨⟨by omega, by omega, by omega, by omega, by omega, by omega, by omega, by omega⟩, ⟨by omega, by omega, by omega, by omega⟩, ⟨by omega, by omega⟩,
  fun hs => ⟨⟨by omega, by omega, by omega, m4, m3, hd0, by omega⟩, by omega, fZ ?_ hz⟩, fun hs => ⟨⟨by omega, by omega⟩, fun hl => ⟨⟨by omega, by omega⟩, ⟨by omega, m5, m3, hd0, by omega⟩, by omega, fZ ?_ hz⟩, fun hl => ⟨⟨by omega, by omega⟩, ⟨by omega, m6, m3, hd0, by omega⟩, by omega, fZ ?_ hz⟩⟩⟩⟩⟩
 ·have h0 : q = 0 := mG.1 (gz.1 (by omega))
  rw [h0, Rat.zero_add]
 ·have h0 : r = 0 := mG.1 (gz.1 (by omega))
  rw [h0, Rat.add_zero]
 ·rw [hv, hs, yW hd0]
 ·rw [hv, yf hd0 hs (by omega)]
 ·rw [hv, ye hd0 hs (by omega)]
theorem T1 (hn : n < 2 ^ 41) (hm' : m < 2 ^ 41) (K : Nat) : aC P uX K [.rat q n, .rat r m] [] (aJ (.rat (q * r) (n + m)) []) := by
 refine iA fun ⟨hq, hr, _⟩ => ?_
 have hq : Sz q n := hq
 have hr : Sz r m := hr
 have d1 := q.den_nz
 have d2 := r.den_nz
 have a1 : nl q.num.natAbs < 2 ^ 38 := eF hq.1 (by omega)
 have a2 : nl q.den < 2 ^ 38 := eF hq.2 (by omega)
 have b1 : nl r.num.natAbs < 2 ^ 38 := eF hr.1 (by omega)
 have b2 : nl r.den < 2 ^ 38 := eF hr.2 (by omega)
 have m1 : nl (q.num.natAbs * r.num.natAbs) < 2 ^ 38 := eF (lV hq.1 hr.1) (by omega)
 have m3 : nl (q.den * r.den) < 2 ^ 38 := eF (lV hq.2 hr.2) (by omega)
 have hv : sQ (decide (q < 0) != decide (r < 0)) (q.num.natAbs * r.num.natAbs) (q.den * r.den) = q * r := by rw [← yR, gR, gR]
 refine bE hT qR hm KS rfl (of_decide_eq_true (by kernel_rfl)) rfl 60 Tt (fun _ => ?_) K []
 simp only [aa.all, az]
 exact ⟨⟨by omega, by omega, by omega, by omega, by omega, by omega, by omega, by omega, by omega, by omega, m1, m3, Nat.mul_ne_zero d1 d2, by omega⟩, by omega, fZ hv (hq.mul hr)⟩
theorem Tn (hn : n < 2 ^ 41) (hm' : m < 2 ^ 41) (K : Nat) : aC P vB K [.rat q n, .rat r m] [] (aJ (.int .i64 (dJ q r)) []) := by
 refine iA fun ⟨hq, hr, _⟩ => ?_
 have hq : Sz q n := hq
 have hr : Sz r m := hr
 have a1 : nl q.num.natAbs < 2 ^ 38 := eF hq.1 (by omega)
 have a2 : nl q.den < 2 ^ 38 := eF hq.2 (by omega)
 have b1 : nl r.num.natAbs < 2 ^ 38 := eF hr.1 (by omega)
 have b2 : nl r.den < 2 ^ 38 := eF hr.2 (by omega)
 have m1 : nl (q.num.natAbs * r.den) < 2 ^ 38 := eF (lV hq.1 hr.2) (by omega)
 have m2 : nl (r.num.natAbs * q.den) < 2 ^ 38 := eF (lV hr.1 hq.2) (by omega)
 refine bE hT qR hm IG rfl (of_decide_eq_true (by kernel_rfl)) rfl 60 Ud (fun _ => ?_) K []
 simp only [aa.all, az, bne_iff_ne, ne_eq, bne_eq_false_iff_eq]
 refine ⟨⟨by omega, by omega⟩, fun hs => ⟨fun hl => bm ?_, fun hl => bm ?_⟩, fun hs => ⟨⟨by omega, by omega, by omega, by omega, by omega, by omega, by omega, by omega, by omega, by omega⟩, by omega, fun hc => bm ?_, fun hc => bm ?_⟩⟩
 ·rw [tR hs, if_pos (of_decide_eq_true hl)]
 ·rw [tR hs, if_neg (of_decide_eq_false hl)]
 ·rw [jH hs, if_pos (of_decide_eq_true hc), vk]
 ·rw [jH hs, if_neg (of_decide_eq_false hc)]
end ops
theorem D7 {x y : Int} (hy : y ≠ 0) : sQ (decide (x < 0) != decide (y < 0)) x.natAbs y.natAbs = (x : Rat) / (y : Rat) := by
 have h := Au (x : Rat) (y : Rat) (by simpa using hy)
 have c : ∀ {z : Int}, decide ((z : Rat) < 0) = decide (z < 0) := fun {z} => by rw [decide_eq_decide, fG, Rat.num_intCast]
 rw [c, c, Rat.num_intCast, Rat.num_intCast, Rat.den_intCast, Rat.den_intCast, Nat.mul_one, Nat.one_mul] at h
 exact h
theorem RH {x y : Int} (h1 : -2 ^ 63 ≤ x) (h2 : x < 2 ^ 63) (h3 : -2 ^ 63 ≤ y) (h4 : y < 2 ^ 63) (hy : y ≠ 0) : Sz ((x : Rat) / (y : Rat)) 64 := by
 rw [← D7 hy]; exact xI (by omega) (by omega) (by omega)
theorem Im {x y : Int} (h1 : -2 ^ 63 ≤ x) (h2 : x < 2 ^ 63) (h3 : -2 ^ 63 ≤ y) (h4 : y < 2 ^ 63) (K : Nat) : aC P s7 K [.int .i64 x, .int .i64 y] [] (aJ (.tuple [.rat ((x : Rat) / (y : Rat)) 64, .int .i64 (if y = 0 then 3 else 0)]) []) := by
 refine bE hT qR hm GL rfl (of_decide_eq_true (by kernel_rfl)) rfl 60 PI (fun _ => ?_) K []
 simp only [aa.all, az, beq_iff_eq, beq_eq_false_iff_ne, ne_eq]
 refine ⟨fun hb => ⟨by omega, by omega, ?_, bm (by rw [if_pos hb]), trivial⟩, fun hb => ⟨⟨h1, h2⟩, ⟨h3, h4⟩, ⟨eF (n := 64) (by omega) (by omega), eF (n := 64) (by omega) (by omega), by omega, by omega⟩, by omega, fZ (D7 hb) (RH h1 h2 h3 h4 hb), bm (by rw [if_neg hb]), trivial⟩⟩
 rw [hb, show ((x : Rat) / ((0 : Int) : Rat)) = 0 by rw [Rat.intCast_zero, Rat.div_def, Rat.inv_zero, Rat.mul_zero]]
 exact lZ
theorem Qt {n : Int} (h1 : -2 ^ 63 ≤ n) (h2 : n < 2 ^ 63) (K : Nat) : aC P mW K [.int .i64 n] [] (aJ (.rat (n : Rat) (max 1 (aY n.natAbs))) []) := by
 refine bE hT qR hm Pd rfl (of_decide_eq_true (by kernel_rfl)) rfl 60 Kq (fun _ => ?_) K []
 simp only [aa.all, az]
 refine ⟨⟨h1, h2⟩, by omega, by omega, oT CW ?_ (by rw [Rat.num_intCast]) (by rw [Rat.den_intCast, if_pos rfl])⟩
 rw [decide_eq_decide, fG, Rat.num_intCast]
theorem MN : ∀ K args pre r, Fw K args pre = some r → aC P s7 K args pre r := by
 refine bK fun K args r hk hs _ => ?_
 split at hs
 ·simp only [Option.some.injEq] at hs
  subst hs
  exact fun need => Im need.1 need.2.1 need.2.2.1 need.2.2.2 K trivial
 ·simp at hs
theorem Gm : ∀ K args pre r, DO K args pre = some r → aC P nu K args pre r := by
 refine bK fun K args r hk hs _ => ?_
 split at hs
 ·simp only [Option.some.injEq] at hs
  subst hs
  exact fun need => BX need.1 need.2 K trivial
 ·simp at hs
theorem C3 : bC P zU := aK Gm (aK Bt (aK MN aZ))
theorem S9 {q r : Rat} {n m : Nat} (hn : n < 2 ^ 41) (hm' : m < 2 ^ 41) (K : Nat) : aC P wV K [.rat q n, .rat r m] [] (aJ (.rat (q - r) (n + m + 1)) []) := by
 refine bE hT C3 hm UK rfl (of_decide_eq_true (by kernel_rfl)) rfl 60 Gp (fun _ => ?_) K []
 simp only [aa.all, az]
 exact ⟨⟨by omega, by omega, hn, hm', by omega⟩, by omega, cF (by rw [Rat.sub_eq_add_neg])⟩
theorem RB {x y : Int} (h1 : -2 ^ 63 ≤ x) (h2 : x < 2 ^ 63) (h3 : -2 ^ 63 ≤ y) (h4 : y < 2 ^ 63) (K : Nat) : aC P tv K [.int .i64 x, .int .i64 y] [] (aJ (.rat ((x : Rat) / (y : Rat)) 64) []) := by
 refine bE hT C3 hm HF rfl (of_decide_eq_true (by kernel_rfl)) rfl 60 NN (fun _ => ?_) K []
 simp only [aa.all, az]
 exact ⟨⟨h1, h2, h3, h4, by omega⟩, ⟨by omega, by omega⟩, by omega, .refl _⟩
def vZ : Spec := bp fun l => match l with
 | [.int .i64 n] => some (aJ (.rat (n : Rat) (max 1 (aY n.natAbs))) [-2 ^ 63 ≤ n, n < 2 ^ 63])
 | _ => none
theorem xY : ∀ K args pre r, vZ K args pre = some r → aC P mW K args pre r := by
 refine bK fun K args r hk hs _ => ?_
 split at hs
 ·simp only [Option.some.injEq] at hs
  subst hs
  exact fun need => Qt need.1 need.2 K trivial
 ·simp at hs
def BO : Spec := bp fun l => match l with
 | [.int .i64 x, .int .i64 y] => some (aJ (.rat ((x : Rat) / (y : Rat)) 64) [-2 ^ 63 ≤ x, x < 2 ^ 63, -2 ^ 63 ≤ y, y < 2 ^ 63])
 | _ => none
theorem JT : ∀ K args pre r, BO K args pre = some r → aC P tv K args pre r := by
 refine bK fun K args r hk hs _ => ?_
 split at hs
 ·simp only [Option.some.injEq] at hs
  subst hs
  exact fun need => RB need.1 need.2.1 need.2.2.1 need.2.2.2 K trivial
 ·simp at hs
end Go.Am.B
