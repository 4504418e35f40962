/- ref02: Add, Sub, Mul, Cmp, Make, Frac, Int. -/
import Derived.Test.YtbghpkgbokbmlaaGreatB30
set_option linter.unusedVariables false
namespace Go.Am.B
open Go Go.Am.N AV
theorem It : aO P mw pq (au pq) := aL N5 (by kernel_rfl) (by kernel_rfl) (by kernel_rfl)
theorem NZ : aO P rY sB (au sB) := aL TW (by kernel_rfl) (by kernel_rfl) (by kernel_rfl)
theorem Iu : aO P sr qN (au qN) := aL LZ (by kernel_rfl) (by kernel_rfl) (by kernel_rfl)
theorem O0 : aO P rB pe (au pe) := aL Qh (by kernel_rfl) (by kernel_rfl) (by kernel_rfl)
theorem SD : aO P p6 qk (au qk) := aL HL (by kernel_rfl) (by kernel_rfl) (by kernel_rfl)
theorem T9 : aO P ng r7 (au r7) := aL U9 (by kernel_rfl) (by kernel_rfl) (by kernel_rfl)
theorem II : aO P gW qS (au qS) := aL S1 (by kernel_rfl) (by kernel_rfl) (by kernel_rfl)
def lE : aP := [(rV, Bu), (mQ, xZ), (pJ, BN), (ru, ES), (kg, pR), (qe, Co), (lH, DB), (kk, qR), (rm, zp)]
def CN : Spec := bk fun l => match l with
 | [.int .i64 x, .int .i64 y] => some (aG (.tuple [.rat ((x : Rat) / (y : Rat)) 64, .int .i64 (if y = 0 then 3 else 0)]) [-2 ^ 63 ≤ x, x < 2 ^ 63, -2 ^ 63 ≤ y, y < 2 ^ 63])
 | _ => none
def D7 : Spec := bk fun l => match l with
 | [.rat q n, .rat r m] => some (aG (.rat (q + r) (n + m + 1)) [n < 2 ^ 41, m < 2 ^ 41])
 | _ => none
def yq : aP := [(mw, D7), (kk, qR), (p6, CN)]
theorem n8 : aX P lE := aE TE (aE E5 (aE Nb (aE U4 (aE vp (aE Mo (aE Gw (aE vu (aE UA aZ))))))))
theorem O6 {q r : Rat} {n m : Nat} : bw T lE [15, 20, 41, 52] 60 pq (au pq) ⟨aM 0 [.rat q n, .rat r m], [], 0⟩ =
  some (aa.af [(0 : Nat) < 1] (aa.fork ((↑(nl q.num.natAbs) : Int) == (0 : Int)) (aa.af [(0 : Nat) < 1, (0 : Nat) < 1] (aa.af [(0 : Nat) < 1] (aa.leaf ah.ret [rat r m]))) (aa.af [(0 : Nat) < 1] (aa.fork ((↑(nl r.num.natAbs) : Int) == (0 : Int)) (aa.af [(0 : Nat) < 1, (0 : Nat) < 1] (aa.af [(0 : Nat) < 1] (aa.leaf ah.ret [rat q n]))) (aa.af [(0 : Nat) < 1, (0 : Nat) < 1, nl q.num.natAbs < 2 ^ 39, nl r.den < 2 ^ 39, (0 : Nat) < 1, (0 : Nat) < 1, nl r.num.natAbs < 2 ^ 39, nl q.den < 2 ^ 39] (aa.af [(0 : Nat) < 1, (0 : Nat) < 1, nl q.den < 2 ^ 39, nl r.den < 2 ^ 39] (aa.af [(0 : Nat) < 1, (0 : Nat) < 1] (aa.fork (decide (q < 0) == decide (r < 0)) (aa.af [(0 : Nat) < 1, nl (q.num.natAbs * r.den) < 2 ^ 40, nl (r.num.natAbs * q.den) < 2 ^ 40, nl (q.num.natAbs * r.den + r.num.natAbs * q.den) < 2 ^ 38, nl (q.den * r.den) < 2 ^ 38, q.den * r.den ≠ 0, (0 : Nat) < 1] (aa.af [(0 : Nat) < 1] (aa.leaf ah.ret [rat (sQ (decide (q < 0)) (q.num.natAbs * r.den + r.num.natAbs * q.den) (q.den * r.den)) (bH (sQ (decide (q < 0)) (q.num.natAbs * r.den + r.num.natAbs * q.den) (q.den * r.den)))]))) (aa.af [nl (q.num.natAbs * r.den) < 2 ^ 40, nl (r.num.natAbs * q.den) < 2 ^ 40] (aa.fork (decide (bB (q.num.natAbs * r.den) (r.num.natAbs * q.den) < (0 : Int))) (aa.af [nl (r.num.natAbs * q.den) < 2 ^ 40, nl (q.num.natAbs * r.den) < 2 ^ 40] (aa.af [(0 : Nat) < 1, nl (r.num.natAbs * q.den - q.num.natAbs * r.den) < 2 ^ 38, nl (q.den * r.den) < 2 ^ 38, q.den * r.den ≠ 0, (0 : Nat) < 1] (aa.af [(0 : Nat) < 1] (aa.leaf ah.ret [rat (sQ (decide (r < 0)) (r.num.natAbs * q.den - q.num.natAbs * r.den) (q.den * r.den)) (bH (sQ (decide (r < 0)) (r.num.natAbs * q.den - q.num.natAbs * r.den) (q.den * r.den)))])))) (aa.af [nl (q.num.natAbs * r.den) < 2 ^ 40, nl (r.num.natAbs * q.den) < 2 ^ 40] (aa.af [(0 : Nat) < 1, nl (q.num.natAbs * r.den - r.num.natAbs * q.den) < 2 ^ 38, nl (q.den * r.den) < 2 ^ 38, q.den * r.den ≠ 0, (0 : Nat) < 1] (aa.af [(0 : Nat) < 1] (aa.leaf ah.ret [rat (sQ (decide (q < 0)) (q.num.natAbs * r.den - r.num.natAbs * q.den) (q.den * r.den)) (bH (sQ (decide (q < 0)) (q.num.natAbs * r.den - r.num.natAbs * q.den) (q.den * r.den)))])))))))))))))) := by kernel_rfl
theorem PS {q r : Rat} {n m : Nat} : bw T lE [] 60 qN (au qN) ⟨aM 0 [.rat q n, .rat r m], [], 0⟩ =
  some (aa.af [(0 : Nat) < 1, (0 : Nat) < 1, (0 : Nat) < 1, (0 : Nat) < 1, nl q.num.natAbs < 2 ^ 39, nl r.num.natAbs < 2 ^ 39, (0 : Nat) < 1, (0 : Nat) < 1, nl q.den < 2 ^ 39, nl r.den < 2 ^ 39, nl (q.num.natAbs * r.num.natAbs) < 2 ^ 38, nl (q.den * r.den) < 2 ^ 38, q.den * r.den ≠ 0, (0 : Nat) < 1] (aa.af [(0 : Nat) < 1] (aa.leaf ah.ret [rat (sQ (decide (q < 0) != decide (r < 0)) (q.num.natAbs * r.num.natAbs) (q.den * r.den)) (bH (sQ (decide (q < 0) != decide (r < 0)) (q.num.natAbs * r.num.natAbs) (q.den * r.den)))]))) := by kernel_rfl
theorem Ua {q r : Rat} {n m : Nat} : bw T lE [14, 17, 30] 60 pe (au pe) ⟨aM 0 [.rat q n, .rat r m], [], 0⟩ =
  some (aa.af [(0 : Nat) < 1, (0 : Nat) < 1] (aa.fork (dc q != dc r) (aa.fork (decide (dc q < dc r)) (aa.leaf ah.ret [int IntKind.i64 (-1 : Int)]) (aa.leaf ah.ret [int IntKind.i64 (1 : Int)])) (aa.af [(0 : Nat) < 1, (0 : Nat) < 1, nl q.num.natAbs < 2 ^ 39, nl r.den < 2 ^ 39, (0 : Nat) < 1, (0 : Nat) < 1, nl r.num.natAbs < 2 ^ 39, nl q.den < 2 ^ 39, nl (q.num.natAbs * r.den) < 2 ^ 40, nl (r.num.natAbs * q.den) < 2 ^ 40] (aa.af [(0 : Nat) < 1] (aa.fork (decide (q < 0)) (aa.leaf ah.ret [int IntKind.i64 (IntKind.i64.wrap ((0 : Int) - bB (q.num.natAbs * r.den) (r.num.natAbs * q.den)))]) (aa.leaf ah.ret [int IntKind.i64 (bB (q.num.natAbs * r.den) (r.num.natAbs * q.den))])))))) := by kernel_rfl
theorem HU {x y : Int} : bw T lE [11] 60 qk (au qk) ⟨aM 0 [.int .i64 x, .int .i64 y], [], 0⟩ =
  some (aa.fork (y == (0 : Int)) (aa.af [(0 : Nat) < 1] (aa.af [(0 : Nat) < 1] (aa.leaf ah.ret [agg [AV.bool false, mag 0, mag 0], int IntKind.i64 (3 : Int)]))) (aa.af [-(2 : Int) ^ 63 ≤ x, x < (2 : Int) ^ 63] (aa.af [-(2 : Int) ^ 63 ≤ y, y < (2 : Int) ^ 63] (aa.af [nl x.natAbs < 2 ^ 38, nl y.natAbs < 2 ^ 38, y.natAbs ≠ 0, (0 : Nat) < 1] (aa.af [(0 : Nat) < 1] (aa.leaf ah.ret [rat (sQ (decide (x < (0 : Int)) != decide (y < (0 : Int))) x.natAbs y.natAbs) (bH (sQ (decide (x < (0 : Int)) != decide (y < (0 : Int))) x.natAbs y.natAbs)), int IntKind.i64 (0 : Int)])))))) := by kernel_rfl
theorem Ib {x : Int} : bw T lE [] 60 qS (au qS) ⟨aM 0 [.int .i64 x], [], 0⟩ =
  some (aa.af [-(2 : Int) ^ 63 ≤ x, x < (2 : Int) ^ 63] (aa.af [(0 : Nat) < 1] (aa.af [(0 : Nat) < 1] (aa.leaf ah.ret [agg [AV.bool (decide (x < (0 : Int))), mag x.natAbs, mag 0]])))) := by kernel_rfl
theorem SO {q r : Rat} {n m : Nat} : bw T yq [] 60 sB (au sB) ⟨aM 0 [.rat q n, .rat r m], [], 0⟩ =
  some (aa.af [(0 : Nat) < 1, (0 : Nat) < 1, n < 2 ^ 41, m < 2 ^ 41, (0 : Nat) < 1] (aa.af [(0 : Nat) < 1] (aa.leaf ah.ret [rat (q + -r) (n + m + 1)]))) := by kernel_rfl
theorem Mh {x y : Int} : bw T yq [] 60 r7 (au r7) ⟨aM 0 [.int .i64 x, .int .i64 y], [], 0⟩ =
  some (aa.af [-(2 : Int) ^ 63 ≤ x, x < (2 : Int) ^ 63, -(2 : Int) ^ 63 ≤ y, y < (2 : Int) ^ 63, (0 : Nat) < 1] (aa.af [(0 : Nat) < 1, (0 : Nat) < 1] (aa.af [(0 : Nat) < 1] (aa.leaf ah.ret [rat ((↑x : Rat) / (↑y : Rat)) 64])))) := by kernel_rfl
theorem dK {N n : Nat} (h : N < 2 ^ n) (hn : n < 2 ^ 42) : nl N < 2 ^ 38 := by
 have h1 : N < 2 ^ (32 * (n / 32 + 1)) := Nat.lt_of_lt_of_le h (Nat.pow_le_pow_right (by omega) (by omega))
 have := bX.2 h1
 omega
section ops
variable {q r : Rat} {n m : Nat}
theorem jI {a b n m : Nat} (ha : a < 2 ^ n) (hb : b < 2 ^ m) : a * b < 2 ^ (n + m) := by rw [Nat.pow_add]; exact Nat.mul_lt_mul'' ha hb
theorem wE (hn : n < 2 ^ 41) (hm' : m < 2 ^ 41) (K : Nat) : az P mw K [.rat q n, .rat r m] [] (aG (.rat (q + r) (n + m + 1)) []) := by
 refine gk fun ⟨hq, hr, _⟩ => ?_
 have hq : Sz q n := hq
 have hr : Sz r m := hr
 have d1 := q.den_nz
 have d2 := r.den_nz
 have hz := hq.add hr
 have a1 : nl q.num.natAbs < 2 ^ 38 := dK hq.1 (by omega)
 have a2 : nl q.den < 2 ^ 38 := dK hq.2 (by omega)
 have b1 : nl r.num.natAbs < 2 ^ 38 := dK hr.1 (by omega)
 have b2 : nl r.den < 2 ^ 38 := dK hr.2 (by omega)
 have x1 := jI hq.1 hr.2
 have x2 := jI hr.1 hq.2
 have m1 : nl (q.num.natAbs * r.den) < 2 ^ 38 := dK x1 (by omega)
 have m2 : nl (r.num.natAbs * q.den) < 2 ^ 38 := dK x2 (by omega)
 have m3 : nl (q.den * r.den) < 2 ^ 38 := dK (jI hq.2 hr.2) (by omega)
 have m4 : nl (q.num.natAbs * r.den + r.num.natAbs * q.den) < 2 ^ 38 := dK (n := n + m + 1) (by rw [Nat.pow_succ]; rw [Nat.add_comm m n] at x2; omega) (by omega)
 have hd0 : q.den * r.den ≠ 0 := Nat.mul_ne_zero d1 d2
 have hv : q + r = sQ (decide (q < 0)) (q.num.natAbs * r.den) (q.den * r.den) + sQ (decide (r < 0)) (r.num.natAbs * q.den) (q.den * r.den) := by
  have := vT q r (decide (r < 0))
  rw [gH r] at this
  exact this
 refine bC hT n8 hm It rfl (of_decide_eq_true (by kernel_rfl)) rfl 60 O6 (fun _ => ?_) K []
 generalize q.num.natAbs * r.den = X at *
 generalize r.num.natAbs * q.den = Y at *
 generalize q.den * r.den = D at *
 simp only [aa.all, ay, beq_iff_eq, beq_eq_false_iff_ne, ne_eq, decide_eq_true_eq, decide_eq_false_iff_not, tu]
 have m5 : nl (Y - X) < 2 ^ 38 := Nat.lt_of_le_of_lt (eJ (by omega)) m2
 have m6 : nl (X - Y) < 2 ^ 38 := Nat.lt_of_le_of_lt (eJ (by omega)) m1
 refine ⟨by omega, fun hb => ⟨⟨by omega, by omega⟩, by omega, eG ?_ hz⟩, fun hb => ⟨by omega, fun hb2 => ⟨⟨by omega, by omega⟩, by omega, eG ?_ hz⟩, fun hb2 => ⟨⟨by omega, by omega, by omega, by omega, by omega, by omega, by omega, by omega⟩, ⟨by omega, by omega, by omega, by omega⟩, ⟨by omega, by omega⟩,
  fun hs => ⟨⟨by omega, by omega, by omega, m4, m3, hd0, by omega⟩, by omega, eG ?_ hz⟩, fun hs => ⟨⟨by omega, by omega⟩, fun hl => ⟨⟨by omega, by omega⟩, ⟨by omega, m5, m3, hd0, by omega⟩, by omega, eG ?_ hz⟩, fun hl => ⟨⟨by omega, by omega⟩, ⟨by omega, m6, m3, hd0, by omega⟩, by omega, eG ?_ hz⟩⟩⟩⟩⟩
 ·have h0 : q = 0 := jE.1 (gf.1 (by omega))
  rw [h0, Rat.zero_add]
 ·have h0 : r = 0 := jE.1 (gf.1 (by omega))
  rw [h0, Rat.add_zero]
 ·rw [hv, hs, wP hd0]
 ·rw [hv, xL hd0 hs (by omega)]
 ·rw [hv, yV hd0 hs (by omega)]
theorem F4 (hn : n < 2 ^ 41) (hm' : m < 2 ^ 41) (K : Nat) : az P sr K [.rat q n, .rat r m] [] (aG (.rat (q * r) (n + m)) []) := by
 refine gk fun ⟨hq, hr, _⟩ => ?_
 have hq : Sz q n := hq
 have hr : Sz r m := hr
 have d1 := q.den_nz
 have d2 := r.den_nz
 have a1 : nl q.num.natAbs < 2 ^ 38 := dK hq.1 (by omega)
 have a2 : nl q.den < 2 ^ 38 := dK hq.2 (by omega)
 have b1 : nl r.num.natAbs < 2 ^ 38 := dK hr.1 (by omega)
 have b2 : nl r.den < 2 ^ 38 := dK hr.2 (by omega)
 have m1 : nl (q.num.natAbs * r.num.natAbs) < 2 ^ 38 := dK (jI hq.1 hr.1) (by omega)
 have m3 : nl (q.den * r.den) < 2 ^ 38 := dK (jI hq.2 hr.2) (by omega)
 have hv : sQ (decide (q < 0) != decide (r < 0)) (q.num.natAbs * r.num.natAbs) (q.den * r.den) = q * r := by rw [← v8, gH, gH]
 refine bC hT n8 hm Iu rfl (of_decide_eq_true (by kernel_rfl)) rfl 60 PS (fun _ => ?_) K []
 simp only [aa.all, ay]
 exact ⟨⟨by omega, by omega, by omega, by omega, by omega, by omega, by omega, by omega, by omega, by omega, m1, m3, Nat.mul_ne_zero d1 d2, by omega⟩, by omega, eG hv (hq.mul hr)⟩
theorem Eg (hn : n < 2 ^ 41) (hm' : m < 2 ^ 41) (K : Nat) : az P rB K [.rat q n, .rat r m] [] (aG (.int .i64 (fy q r)) []) := by
 refine gk fun ⟨hq, hr, _⟩ => ?_
 have hq : Sz q n := hq
 have hr : Sz r m := hr
 have a1 : nl q.num.natAbs < 2 ^ 38 := dK hq.1 (by omega)
 have a2 : nl q.den < 2 ^ 38 := dK hq.2 (by omega)
 have b1 : nl r.num.natAbs < 2 ^ 38 := dK hr.1 (by omega)
 have b2 : nl r.den < 2 ^ 38 := dK hr.2 (by omega)
 have m1 : nl (q.num.natAbs * r.den) < 2 ^ 38 := dK (jI hq.1 hr.2) (by omega)
 have m2 : nl (r.num.natAbs * q.den) < 2 ^ 38 := dK (jI hr.1 hq.2) (by omega)
 refine bC hT n8 hm O0 rfl (of_decide_eq_true (by kernel_rfl)) rfl 60 Ua (fun _ => ?_) K []
 simp only [aa.all, ay, bne_iff_ne, ne_eq, bne_eq_false_iff_eq]
 refine ⟨⟨by omega, by omega⟩, fun hs => ⟨fun hl => bf ?_, fun hl => bf ?_⟩, fun hs => ⟨⟨by omega, by omega, by omega, by omega, by omega, by omega, by omega, by omega, by omega, by omega⟩, by omega, fun hc => bf ?_, fun hc => bf ?_⟩⟩
 ·rw [uN hs, if_pos (of_decide_eq_true hl)]
 ·rw [uN hs, if_neg (of_decide_eq_false hl)]
 ·rw [jv hs, if_pos (of_decide_eq_true hc), vD]
 ·rw [jv hs, if_neg (of_decide_eq_false hc)]
end ops
theorem Fx {x y : Int} (hy : y ≠ 0) : sQ (decide (x < 0) != decide (y < 0)) x.natAbs y.natAbs = (x : Rat) / (y : Rat) := by
 have h := w7 (x : Rat) (y : Rat) (by simpa using hy)
 have c : ∀ {z : Int}, decide ((z : Rat) < 0) = decide (z < 0) := fun {z} => by rw [decide_eq_decide, eE, Rat.num_intCast]
 rw [c, c, Rat.num_intCast, Rat.num_intCast, Rat.den_intCast, Rat.den_intCast, Nat.mul_one, Nat.one_mul] at h
 exact h
theorem Eu {x y : Int} (h1 : -2 ^ 63 ≤ x) (h2 : x < 2 ^ 63) (h3 : -2 ^ 63 ≤ y) (h4 : y < 2 ^ 63) (hy : y ≠ 0) : Sz ((x : Rat) / (y : Rat)) 64 := by
 rw [← Fx hy]; exact xY (by omega) (by omega) (by omega)
theorem JZ {x y : Int} (h1 : -2 ^ 63 ≤ x) (h2 : x < 2 ^ 63) (h3 : -2 ^ 63 ≤ y) (h4 : y < 2 ^ 63) (K : Nat) : az P p6 K [.int .i64 x, .int .i64 y] [] (aG (.tuple [.rat ((x : Rat) / (y : Rat)) 64, .int .i64 (if y = 0 then 3 else 0)]) []) := by
 refine bC hT n8 hm SD rfl (of_decide_eq_true (by kernel_rfl)) rfl 60 HU (fun _ => ?_) K []
 simp only [aa.all, ay, beq_iff_eq, beq_eq_false_iff_ne, ne_eq]
 refine ⟨fun hb => ⟨by omega, by omega, ?_, bf (by rw [if_pos hb]), trivial⟩, fun hb => ⟨⟨h1, h2⟩, ⟨h3, h4⟩, ⟨dK (n := 64) (by omega) (by omega), dK (n := 64) (by omega) (by omega), by omega, by omega⟩, by omega, eG (Fx hb) (Eu h1 h2 h3 h4 hb), bf (by rw [if_neg hb]), trivial⟩⟩
 rw [hb, show ((x : Rat) / ((0 : Int) : Rat)) = 0 by rw [Rat.intCast_zero, Rat.div_def, Rat.inv_zero, Rat.mul_zero]]
 exact hJ
theorem sP {n : Int} (h1 : -2 ^ 63 ≤ n) (h2 : n < 2 ^ 63) (K : Nat) : az P gW K [.int .i64 n] [] (aG (.rat (n : Rat) (max 1 (aN n.natAbs))) []) := by
 refine bC hT n8 hm II rfl (of_decide_eq_true (by kernel_rfl)) rfl 60 Ib (fun _ => ?_) K []
 simp only [aa.all, ay]
 refine ⟨⟨h1, h2⟩, by omega, by omega, kD yH ?_ (by rw [Rat.num_intCast]) (by rw [Rat.den_intCast, if_pos rfl])⟩
 rw [decide_eq_decide, eE, Rat.num_intCast]
theorem GO : ∀ K args pre r, CN K args pre = some r → az P p6 K args pre r := by
 refine bD fun K args r hk hs _ => ?_
 split at hs
 ·simp only [Option.some.injEq] at hs
  subst hs
  exact fun need => JZ need.1 need.2.1 need.2.2.1 need.2.2.2 K trivial
 ·simp at hs
theorem Od : ∀ K args pre r, D7 K args pre = some r → az P mw K args pre r := by
 refine bD fun K args r hk hs _ => ?_
 split at hs
 ·simp only [Option.some.injEq] at hs
  subst hs
  exact fun need => wE need.1 need.2 K trivial
 ·simp at hs
theorem DR : aX P yq := aE Od (aE vu (aE GO aZ))
theorem Cb {q r : Rat} {n m : Nat} (hn : n < 2 ^ 41) (hm' : m < 2 ^ 41) (K : Nat) : az P rY K [.rat q n, .rat r m] [] (aG (.rat (q - r) (n + m + 1)) []) := by
 refine bC hT DR hm NZ rfl (of_decide_eq_true (by kernel_rfl)) rfl 60 SO (fun _ => ?_) K []
 simp only [aa.all, ay]
 exact ⟨⟨by omega, by omega, hn, hm', by omega⟩, by omega, cI (by rw [Rat.sub_eq_add_neg])⟩
theorem Uo {x y : Int} (h1 : -2 ^ 63 ≤ x) (h2 : x < 2 ^ 63) (h3 : -2 ^ 63 ≤ y) (h4 : y < 2 ^ 63) (K : Nat) : az P ng K [.int .i64 x, .int .i64 y] [] (aG (.rat ((x : Rat) / (y : Rat)) 64) []) := by
 refine bC hT DR hm T9 rfl (of_decide_eq_true (by kernel_rfl)) rfl 60 Mh (fun _ => ?_) K []
 simp only [aa.all, ay]
 exact ⟨⟨h1, h2, h3, h4, by omega⟩, ⟨by omega, by omega⟩, by omega, .refl _⟩
def qp : Spec := bk fun l => match l with
 | [.int .i64 n] => some (aG (.rat (n : Rat) (max 1 (aN n.natAbs))) [-2 ^ 63 ≤ n, n < 2 ^ 63])
 | _ => none
theorem vt : ∀ K args pre r, qp K args pre = some r → az P gW K args pre r := by
 refine bD fun K args r hk hs _ => ?_
 split at hs
 ·simp only [Option.some.injEq] at hs
  subst hs
  exact fun need => sP need.1 need.2 K trivial
 ·simp at hs
def wB : Spec := bk fun l => match l with
 | [.int .i64 x, .int .i64 y] => some (aG (.rat ((x : Rat) / (y : Rat)) 64) [-2 ^ 63 ≤ x, x < 2 ^ 63, -2 ^ 63 ≤ y, y < 2 ^ 63])
 | _ => none
theorem BK : ∀ K args pre r, wB K args pre = some r → az P ng K args pre r := by
 refine bD fun K args r hk hs _ => ?_
 split at hs
 ·simp only [Option.some.injEq] at hs
  subst hs
  exact fun need => Uo need.1 need.2.1 need.2.2.1 need.2.2.2 K trivial
 ·simp at hs
end Go.Am.B
