/- ref02: Add, Sub, Mul, Cmp, Make, Frac, Int. -/
import Derived.Test.YtbghpkgbokbmlaaGreatB30
set_option linter.unusedVariables false
namespace Go.Am.B
open Go Go.Am.N AV
theorem Pr : aN P nr uu (au uu) := aK NN (by kernel_rfl) (by kernel_rfl) (by kernel_rfl)
theorem Xd : aN P vk vt (au vt) := aK Vy (by kernel_rfl) (by kernel_rfl) (by kernel_rfl)
theorem Rw : aN P rJ vE (au vE) := aK S3 (by kernel_rfl) (by kernel_rfl) (by kernel_rfl)
theorem U4 : aN P rU vP (au vP) := aK ZD (by kernel_rfl) (by kernel_rfl) (by kernel_rfl)
theorem Vz : aN P su tS (au tS) := aK Xn (by kernel_rfl) (by kernel_rfl) (by kernel_rfl)
theorem RD : aN P lF tY (au tY) := aK NX (by kernel_rfl) (by kernel_rfl) (by kernel_rfl)
theorem Wq : aN P ir ri (au ri) := aK Rh (by kernel_rfl) (by kernel_rfl) (by kernel_rfl)
def nN : aO := [(mC, wj), (oz, z6), (r4, C1), (s6, D7), (lS, sY), (uO, EG), (ni, DA), (pq, Ao), (uk, J9)]
def Gh : Spec := bp fun l => match l with
 | [.int .i64 x, .int .i64 y] => some (aG (.tuple [.rat ((x : Rat) / (y : Rat)) 64, .int .i64 (if y = 0 then 3 else 0)]) [-2 ^ 63 ≤ x, x < 2 ^ 63, -2 ^ 63 ≤ y, y < 2 ^ 63])
 | _ => none
def F9 : Spec := bp fun l => match l with
 | [.rat q n, .rat r m] => some (aG (.rat (q + r) (n + m + 1)) [n < 2 ^ 41, m < 2 ^ 41])
 | _ => none
def Cn : aO := [(nr, F9), (pq, Ao), (su, Gh)]
theorem qb : aV P nN := aD BU (aD Fa (aD aaU (aD TC (aD yw (aD Tx (aD P8 (aD Fc (aD S4 aU))))))))
theorem Md {q r : Rat} {n m : Nat} : bA T nN [15, 20, 41, 52] 60 uu (au uu) ⟨aL 0 [.rat q n, .rat r m], [], 0⟩ =
  some (aa.af [(0 : Nat) < 1] (aa.fork ((↑(nl q.num.natAbs) : Int) == (0 : Int)) (aa.af [(0 : Nat) < 1, (0 : Nat) < 1] (aa.af [(0 : Nat) < 1] (aa.leaf aj.ret [rat r m]))) (aa.af [(0 : Nat) < 1] (aa.fork ((↑(nl r.num.natAbs) : Int) == (0 : Int)) (aa.af [(0 : Nat) < 1, (0 : Nat) < 1] (aa.af [(0 : Nat) < 1] (aa.leaf aj.ret [rat q n]))) (aa.af [(0 : Nat) < 1, (0 : Nat) < 1, nl q.num.natAbs < 2 ^ 39, nl r.den < 2 ^ 39, (0 : Nat) < 1, (0 : Nat) < 1, nl r.num.natAbs < 2 ^ 39, nl q.den < 2 ^ 39] (aa.af [(0 : Nat) < 1, (0 : Nat) < 1, nl q.den < 2 ^ 39, nl r.den < 2 ^ 39] (aa.af [(0 : Nat) < 1, (0 : Nat) < 1] (aa.fork (decide (q < 0) == decide (r < 0)) (aa.af [(0 : Nat) < 1, nl (q.num.natAbs * r.den) < 2 ^ 40, nl (r.num.natAbs * q.den) < 2 ^ 40, nl (q.num.natAbs * r.den + r.num.natAbs * q.den) < 2 ^ 38, nl (q.den * r.den) < 2 ^ 38, q.den * r.den ≠ 0, (0 : Nat) < 1] (aa.af [(0 : Nat) < 1] (aa.leaf aj.ret [rat (sQ (decide (q < 0)) (q.num.natAbs * r.den + r.num.natAbs * q.den) (q.den * r.den)) (bQ (sQ (decide (q < 0)) (q.num.natAbs * r.den + r.num.natAbs * q.den) (q.den * r.den)))]))) (aa.af [nl (q.num.natAbs * r.den) < 2 ^ 40, nl (r.num.natAbs * q.den) < 2 ^ 40] (aa.fork (decide (bK (q.num.natAbs * r.den) (r.num.natAbs * q.den) < (0 : Int))) (aa.af [nl (r.num.natAbs * q.den) < 2 ^ 40, nl (q.num.natAbs * r.den) < 2 ^ 40] (aa.af [(0 : Nat) < 1, nl (r.num.natAbs * q.den - q.num.natAbs * r.den) < 2 ^ 38, nl (q.den * r.den) < 2 ^ 38, q.den * r.den ≠ 0, (0 : Nat) < 1] (aa.af [(0 : Nat) < 1] (aa.leaf aj.ret [rat (sQ (decide (r < 0)) (r.num.natAbs * q.den - q.num.natAbs * r.den) (q.den * r.den)) (bQ (sQ (decide (r < 0)) (r.num.natAbs * q.den - q.num.natAbs * r.den) (q.den * r.den)))])))) (aa.af [nl (q.num.natAbs * r.den) < 2 ^ 40, nl (r.num.natAbs * q.den) < 2 ^ 40] (aa.af [(0 : Nat) < 1, nl (q.num.natAbs * r.den - r.num.natAbs * q.den) < 2 ^ 38, nl (q.den * r.den) < 2 ^ 38, q.den * r.den ≠ 0, (0 : Nat) < 1] (aa.af [(0 : Nat) < 1] (aa.leaf aj.ret [rat (sQ (decide (q < 0)) (q.num.natAbs * r.den - r.num.natAbs * q.den) (q.den * r.den)) (bQ (sQ (decide (q < 0)) (q.num.natAbs * r.den - r.num.natAbs * q.den) (q.den * r.den)))])))))))))))))) := by kernel_rfl
theorem Px {q r : Rat} {n m : Nat} : bA T nN [] 60 vE (au vE) ⟨aL 0 [.rat q n, .rat r m], [], 0⟩ =
  some (aa.af [(0 : Nat) < 1, (0 : Nat) < 1, (0 : Nat) < 1, (0 : Nat) < 1, nl q.num.natAbs < 2 ^ 39, nl r.num.natAbs < 2 ^ 39, (0 : Nat) < 1, (0 : Nat) < 1, nl q.den < 2 ^ 39, nl r.den < 2 ^ 39, nl (q.num.natAbs * r.num.natAbs) < 2 ^ 38, nl (q.den * r.den) < 2 ^ 38, q.den * r.den ≠ 0, (0 : Nat) < 1] (aa.af [(0 : Nat) < 1] (aa.leaf aj.ret [rat (sQ (decide (q < 0) != decide (r < 0)) (q.num.natAbs * r.num.natAbs) (q.den * r.den)) (bQ (sQ (decide (q < 0) != decide (r < 0)) (q.num.natAbs * r.num.natAbs) (q.den * r.den)))]))) := by kernel_rfl
theorem abo {q r : Rat} {n m : Nat} : bA T nN [14, 17, 30] 60 vP (au vP) ⟨aL 0 [.rat q n, .rat r m], [], 0⟩ =
  some (aa.af [(0 : Nat) < 1, (0 : Nat) < 1] (aa.fork (dA q != dA r) (aa.fork (decide (dA q < dA r)) (aa.leaf aj.ret [int IntKind.i64 (-1 : Int)]) (aa.leaf aj.ret [int IntKind.i64 (1 : Int)])) (aa.af [(0 : Nat) < 1, (0 : Nat) < 1, nl q.num.natAbs < 2 ^ 39, nl r.den < 2 ^ 39, (0 : Nat) < 1, (0 : Nat) < 1, nl r.num.natAbs < 2 ^ 39, nl q.den < 2 ^ 39, nl (q.num.natAbs * r.den) < 2 ^ 40, nl (r.num.natAbs * q.den) < 2 ^ 40] (aa.af [(0 : Nat) < 1] (aa.fork (decide (q < 0)) (aa.leaf aj.ret [int IntKind.i64 (IntKind.i64.wrap ((0 : Int) - bK (q.num.natAbs * r.den) (r.num.natAbs * q.den)))]) (aa.leaf aj.ret [int IntKind.i64 (bK (q.num.natAbs * r.den) (r.num.natAbs * q.den))])))))) := by kernel_rfl
theorem K5 {x y : Int} : bA T nN [11] 60 tS (au tS) ⟨aL 0 [.int .i64 x, .int .i64 y], [], 0⟩ =
  some (aa.fork (y == (0 : Int)) (aa.af [(0 : Nat) < 1] (aa.af [(0 : Nat) < 1] (aa.leaf aj.ret [agg [AV.bool false, mag 0, mag 0], int IntKind.i64 (3 : Int)]))) (aa.af [-(2 : Int) ^ 63 ≤ x, x < (2 : Int) ^ 63] (aa.af [-(2 : Int) ^ 63 ≤ y, y < (2 : Int) ^ 63] (aa.af [nl x.natAbs < 2 ^ 38, nl y.natAbs < 2 ^ 38, y.natAbs ≠ 0, (0 : Nat) < 1] (aa.af [(0 : Nat) < 1] (aa.leaf aj.ret [rat (sQ (decide (x < (0 : Int)) != decide (y < (0 : Int))) x.natAbs y.natAbs) (bQ (sQ (decide (x < (0 : Int)) != decide (y < (0 : Int))) x.natAbs y.natAbs)), int IntKind.i64 (0 : Int)])))))) := by kernel_rfl
theorem QZ {x : Int} : bA T nN [] 60 ri (au ri) ⟨aL 0 [.int .i64 x], [], 0⟩ =
  some (aa.af [-(2 : Int) ^ 63 ≤ x, x < (2 : Int) ^ 63] (aa.af [(0 : Nat) < 1] (aa.af [(0 : Nat) < 1] (aa.leaf aj.ret [agg [AV.bool (decide (x < (0 : Int))), mag x.natAbs, mag 0]])))) := by kernel_rfl
theorem XQ {q r : Rat} {n m : Nat} : bA T Cn [] 60 vt (au vt) ⟨aL 0 [.rat q n, .rat r m], [], 0⟩ =
  some (aa.af [(0 : Nat) < 1, (0 : Nat) < 1, n < 2 ^ 41, m < 2 ^ 41, (0 : Nat) < 1] (aa.af [(0 : Nat) < 1] (aa.leaf aj.ret [rat (q + -r) (n + m + 1)]))) := by kernel_rfl
theorem NB {x y : Int} : bA T Cn [] 60 tY (au tY) ⟨aL 0 [.int .i64 x, .int .i64 y], [], 0⟩ =
  some (aa.af [-(2 : Int) ^ 63 ≤ x, x < (2 : Int) ^ 63, -(2 : Int) ^ 63 ≤ y, y < (2 : Int) ^ 63, (0 : Nat) < 1] (aa.af [(0 : Nat) < 1, (0 : Nat) < 1] (aa.af [(0 : Nat) < 1] (aa.leaf aj.ret [rat ((↑x : Rat) / (↑y : Rat)) 64])))) := by kernel_rfl
theorem dB {N n : Nat} (h : N < 2 ^ n) (hn : n < 2 ^ 42) : nl N < 2 ^ 38 := by
 have h1 : N < 2 ^ (32 * (n / 32 + 1)) := Nat.lt_of_lt_of_le h (Nat.pow_le_pow_right (by omega) (by omega))
 have := cj.2 h1
 omega
section ops
variable {q r : Rat} {n m : Nat}
theorem kM {a b n m : Nat} (ha : a < 2 ^ n) (hb : b < 2 ^ m) : a * b < 2 ^ (n + m) := by rw [Nat.pow_add]; exact Nat.mul_lt_mul'' ha hb
theorem AD (hn : n < 2 ^ 41) (hm' : m < 2 ^ 41) (K : Nat) : aA P nr K [.rat q n, .rat r m] [] (aG (.rat (q + r) (n + m + 1)) []) := by
 refine gj fun ⟨hq, hr, _⟩ => ?_
 have hq : Sz q n := hq
 have hr : Sz r m := hr
 have d1 := q.den_nz
 have d2 := r.den_nz
 have hz := hq.add hr
 have a1 : nl q.num.natAbs < 2 ^ 38 := dB hq.1 (by omega)
 have a2 : nl q.den < 2 ^ 38 := dB hq.2 (by omega)
 have b1 : nl r.num.natAbs < 2 ^ 38 := dB hr.1 (by omega)
 have b2 : nl r.den < 2 ^ 38 := dB hr.2 (by omega)
 have x1 := kM hq.1 hr.2
 have x2 := kM hr.1 hq.2
 have m1 : nl (q.num.natAbs * r.den) < 2 ^ 38 := dB x1 (by omega)
 have m2 : nl (r.num.natAbs * q.den) < 2 ^ 38 := dB x2 (by omega)
 have m3 : nl (q.den * r.den) < 2 ^ 38 := dB (kM hq.2 hr.2) (by omega)
 have m4 : nl (q.num.natAbs * r.den + r.num.natAbs * q.den) < 2 ^ 38 := dB (n := n + m + 1) (by rw [Nat.pow_succ]; rw [Nat.add_comm m n] at x2; omega) (by omega)
 have hd0 : q.den * r.den ≠ 0 := Nat.mul_ne_zero d1 d2
 have hv : q + r = sQ (decide (q < 0)) (q.num.natAbs * r.den) (q.den * r.den) + sQ (decide (r < 0)) (r.num.natAbs * q.den) (q.den * r.den) := by
  have := Ca q r (decide (r < 0))
  rw [ic r] at this
  exact this
 refine bD hT qb hm Pr rfl (of_decide_eq_true (by kernel_rfl)) rfl 60 Md (fun _ => ?_) K []
 generalize q.num.natAbs * r.den = X at *
 generalize r.num.natAbs * q.den = Y at *
 generalize q.den * r.den = D at *
 simp only [aa.all, ax, beq_iff_eq, beq_eq_false_iff_ne, ne_eq, decide_eq_true_eq, decide_eq_false_iff_not, xM]
 have m5 : nl (Y - X) < 2 ^ 38 := Nat.lt_of_le_of_lt (fc (by omega)) m2
 have m6 : nl (X - Y) < 2 ^ 38 := Nat.lt_of_le_of_lt (fc (by omega)) m1
 refine ⟨by omega, fun hb => ⟨⟨by omega, by omega⟩, by omega, eu ?_ hz⟩, fun hb => ⟨by omega, fun hb2 => ⟨⟨by omega, by omega⟩, by omega, eu ?_ hz⟩, fun hb2 => ⟨⟨by omega, by omega, by omega, by omega, by omega, by omega, by omega, by omega⟩, ⟨by omega, by omega, by omega, by omega⟩, ⟨by omega, by omega⟩,
  fun hs => ⟨⟨by omega, by omega, by omega, m4, m3, hd0, by omega⟩, by omega, eu ?_ hz⟩, fun hs => ⟨⟨by omega, by omega⟩, fun hl => ⟨⟨by omega, by omega⟩, ⟨by omega, m5, m3, hd0, by omega⟩, by omega, eu ?_ hz⟩, fun hl => ⟨⟨by omega, by omega⟩, ⟨by omega, m6, m3, hd0, by omega⟩, by omega, eu ?_ hz⟩⟩⟩⟩⟩
 ·have h0 : q = 0 := kO.1 (gG.1 (by omega))
  rw [h0, Rat.zero_add]
 ·have h0 : r = 0 := kO.1 (gG.1 (by omega))
  rw [h0, Rat.add_zero]
 ·rw [hv, hs, AN hd0]
 ·rw [hv, Aq hd0 hs (by omega)]
 ·rw [hv, zV hd0 hs (by omega)]
theorem Kh (hn : n < 2 ^ 41) (hm' : m < 2 ^ 41) (K : Nat) : aA P rJ K [.rat q n, .rat r m] [] (aG (.rat (q * r) (n + m)) []) := by
 refine gj fun ⟨hq, hr, _⟩ => ?_
 have hq : Sz q n := hq
 have hr : Sz r m := hr
 have d1 := q.den_nz
 have d2 := r.den_nz
 have a1 : nl q.num.natAbs < 2 ^ 38 := dB hq.1 (by omega)
 have a2 : nl q.den < 2 ^ 38 := dB hq.2 (by omega)
 have b1 : nl r.num.natAbs < 2 ^ 38 := dB hr.1 (by omega)
 have b2 : nl r.den < 2 ^ 38 := dB hr.2 (by omega)
 have m1 : nl (q.num.natAbs * r.num.natAbs) < 2 ^ 38 := dB (kM hq.1 hr.1) (by omega)
 have m3 : nl (q.den * r.den) < 2 ^ 38 := dB (kM hq.2 hr.2) (by omega)
 have hv : sQ (decide (q < 0) != decide (r < 0)) (q.num.natAbs * r.num.natAbs) (q.den * r.den) = q * r := by rw [← zk, ic, ic]
 refine bD hT qb hm Rw rfl (of_decide_eq_true (by kernel_rfl)) rfl 60 Px (fun _ => ?_) K []
 simp only [aa.all, ax]
 exact ⟨⟨by omega, by omega, by omega, by omega, by omega, by omega, by omega, by omega, by omega, by omega, m1, m3, Nat.mul_ne_zero d1 d2, by omega⟩, by omega, eu hv (hq.mul hr)⟩
theorem Dx (hn : n < 2 ^ 41) (hm' : m < 2 ^ 41) (K : Nat) : aA P rU K [.rat q n, .rat r m] [] (aG (.int .i64 (fH q r)) []) := by
 refine gj fun ⟨hq, hr, _⟩ => ?_
 have hq : Sz q n := hq
 have hr : Sz r m := hr
 have a1 : nl q.num.natAbs < 2 ^ 38 := dB hq.1 (by omega)
 have a2 : nl q.den < 2 ^ 38 := dB hq.2 (by omega)
 have b1 : nl r.num.natAbs < 2 ^ 38 := dB hr.1 (by omega)
 have b2 : nl r.den < 2 ^ 38 := dB hr.2 (by omega)
 have m1 : nl (q.num.natAbs * r.den) < 2 ^ 38 := dB (kM hq.1 hr.2) (by omega)
 have m2 : nl (r.num.natAbs * q.den) < 2 ^ 38 := dB (kM hr.1 hq.2) (by omega)
 refine bD hT qb hm U4 rfl (of_decide_eq_true (by kernel_rfl)) rfl 60 abo (fun _ => ?_) K []
 simp only [aa.all, ax, bne_iff_ne, ne_eq, bne_eq_false_iff_eq]
 refine ⟨⟨by omega, by omega⟩, fun hs => ⟨fun hl => bn ?_, fun hl => bn ?_⟩, fun hs => ⟨⟨by omega, by omega, by omega, by omega, by omega, by omega, by omega, by omega, by omega, by omega⟩, by omega, fun hc => bn ?_, fun hc => bn ?_⟩⟩
 ·rw [xP hs, if_pos (of_decide_eq_true hl)]
 ·rw [xP hs, if_neg (of_decide_eq_false hl)]
 ·rw [jT hs, if_pos (of_decide_eq_true hc), xG]
 ·rw [jT hs, if_neg (of_decide_eq_false hc)]
end ops
theorem CT {x y : Int} (hy : y ≠ 0) : sQ (decide (x < 0) != decide (y < 0)) x.natAbs y.natAbs = (x : Rat) / (y : Rat) := by
 have h := zX (x : Rat) (y : Rat) (by simpa using hy)
 have c : ∀ {z : Int}, decide ((z : Rat) < 0) = decide (z < 0) := fun {z} => by rw [decide_eq_decide, e9, Rat.num_intCast]
 rw [c, c, Rat.num_intCast, Rat.num_intCast, Rat.den_intCast, Rat.den_intCast, Nat.mul_one, Nat.one_mul] at h
 exact h
theorem FW {x y : Int} (h1 : -2 ^ 63 ≤ x) (h2 : x < 2 ^ 63) (h3 : -2 ^ 63 ≤ y) (h4 : y < 2 ^ 63) (hy : y ≠ 0) : Sz ((x : Rat) / (y : Rat)) 64 := by
 rw [← CT hy]; exact BT (by omega) (by omega) (by omega)
theorem MF {x y : Int} (h1 : -2 ^ 63 ≤ x) (h2 : x < 2 ^ 63) (h3 : -2 ^ 63 ≤ y) (h4 : y < 2 ^ 63) (K : Nat) : aA P su K [.int .i64 x, .int .i64 y] [] (aG (.tuple [.rat ((x : Rat) / (y : Rat)) 64, .int .i64 (if y = 0 then 3 else 0)]) []) := by
 refine bD hT qb hm Vz rfl (of_decide_eq_true (by kernel_rfl)) rfl 60 K5 (fun _ => ?_) K []
 simp only [aa.all, ax, beq_iff_eq, beq_eq_false_iff_ne, ne_eq]
 refine ⟨fun hb => ⟨by omega, by omega, ?_, bn (by rw [if_pos hb]), trivial⟩, fun hb => ⟨⟨h1, h2⟩, ⟨h3, h4⟩, ⟨dB (n := 64) (by omega) (by omega), dB (n := 64) (by omega) (by omega), by omega, by omega⟩, by omega, eu (CT hb) (FW h1 h2 h3 h4 hb), bn (by rw [if_neg hb]), trivial⟩⟩
 rw [hb, show ((x : Rat) / ((0 : Int) : Rat)) = 0 by rw [Rat.intCast_zero, Rat.div_def, Rat.inv_zero, Rat.mul_zero]]
 exact ji
theorem wq {n : Int} (h1 : -2 ^ 63 ≤ n) (h2 : n < 2 ^ 63) (K : Nat) : aA P ir K [.int .i64 n] [] (aG (.rat (n : Rat) (max 1 (aQ n.natAbs))) []) := by
 refine bD hT qb hm Wq rfl (of_decide_eq_true (by kernel_rfl)) rfl 60 QZ (fun _ => ?_) K []
 simp only [aa.all, ax]
 refine ⟨⟨h1, h2⟩, by omega, by omega, jS BN ?_ (by rw [Rat.num_intCast]) (by rw [Rat.den_intCast, if_pos rfl])⟩
 rw [decide_eq_decide, e9, Rat.num_intCast]
theorem TK : ∀ K args pre r, Gh K args pre = some r → aA P su K args pre r := by
 refine bF fun K args r hk hs _ => ?_
 split at hs
 ·simp only [Option.some.injEq] at hs
  subst hs
  exact fun need => MF need.1 need.2.1 need.2.2.1 need.2.2.2 K trivial
 ·simp at hs
theorem Tf : ∀ K args pre r, F9 K args pre = some r → aA P nr K args pre r := by
 refine bF fun K args r hk hs _ => ?_
 split at hs
 ·simp only [Option.some.injEq] at hs
  subst hs
  exact fun need => AD need.1 need.2 K trivial
 ·simp at hs
theorem IV : aV P Cn := aD Tf (aD Fc (aD TK aU))
theorem DV {q r : Rat} {n m : Nat} (hn : n < 2 ^ 41) (hm' : m < 2 ^ 41) (K : Nat) : aA P vk K [.rat q n, .rat r m] [] (aG (.rat (q - r) (n + m + 1)) []) := by
 refine bD hT IV hm Xd rfl (of_decide_eq_true (by kernel_rfl)) rfl 60 XQ (fun _ => ?_) K []
 simp only [aa.all, ax]
 exact ⟨⟨by omega, by omega, hn, hm', by omega⟩, by omega, cW (by rw [Rat.sub_eq_add_neg])⟩
theorem WL {x y : Int} (h1 : -2 ^ 63 ≤ x) (h2 : x < 2 ^ 63) (h3 : -2 ^ 63 ≤ y) (h4 : y < 2 ^ 63) (K : Nat) : aA P lF K [.int .i64 x, .int .i64 y] [] (aG (.rat ((x : Rat) / (y : Rat)) 64) []) := by
 refine bD hT IV hm RD rfl (of_decide_eq_true (by kernel_rfl)) rfl 60 NB (fun _ => ?_) K []
 simp only [aa.all, ax]
 exact ⟨⟨h1, h2, h3, h4, by omega⟩, ⟨by omega, by omega⟩, by omega, .refl _⟩
def pZ : Spec := bp fun l => match l with
 | [.int .i64 n] => some (aG (.rat (n : Rat) (max 1 (aQ n.natAbs))) [-2 ^ 63 ≤ n, n < 2 ^ 63])
 | _ => none
theorem vK : ∀ K args pre r, pZ K args pre = some r → aA P ir K args pre r := by
 refine bF fun K args r hk hs _ => ?_
 split at hs
 ·simp only [Option.some.injEq] at hs
  subst hs
  exact fun need => wq need.1 need.2 K trivial
 ·simp at hs
def vC : Spec := bp fun l => match l with
 | [.int .i64 x, .int .i64 y] => some (aG (.rat ((x : Rat) / (y : Rat)) 64) [-2 ^ 63 ≤ x, x < 2 ^ 63, -2 ^ 63 ≤ y, y < 2 ^ 63])
 | _ => none
theorem vW : ∀ K args pre r, vC K args pre = some r → aA P lF K args pre r := by
 refine bF fun K args r hk hs _ => ?_
 split at hs
 ·simp only [Option.some.injEq] at hs
  subst hs
  exact fun need => WL need.1 need.2.1 need.2.2.1 need.2.2.2 K trivial
 ·simp at hs
end Go.Am.B
