/- ref02: Add, Sub, Mul, Cmp, Make, Frac, Int. -/
import Derived.Test.YtnocdkaonpdmjaaGreatB30
set_option linter.unusedVariables false
namespace Go.Am.B
open Go Go.Am.N AV
theorem aa9 : aO P oA wv (ax wv) := aP Rm (by kernel_rfl) (by kernel_rfl) (by kernel_rfl)
theorem Sj : aO P v9 tN (ax tN) := aP Ri (by kernel_rfl) (by kernel_rfl) (by kernel_rfl)
theorem VY : aO P uK tC (ax tC) := aP aac (by kernel_rfl) (by kernel_rfl) (by kernel_rfl)
theorem aby : aO P xg tu (ax tu) := aP Su (by kernel_rfl) (by kernel_rfl) (by kernel_rfl)
theorem W6 : aO P uv vX (ax vX) := aP aar (by kernel_rfl) (by kernel_rfl) (by kernel_rfl)
theorem Pf : aO P mw sZ (ax sZ) := aP ZR (by kernel_rfl) (by kernel_rfl) (by kernel_rfl)
theorem LZ : aO P lS rJ (ax rJ) := aP MM (by kernel_rfl) (by kernel_rfl) (by kernel_rfl)
def qA : aQ := [(vq, H9), (p5, Bg), (vO, Hq), (vl, HG), (mo, s8), (tc, JX), (oX, Ib), (o9, A2), (rL, Gh)]
def JZ : Spec := bu fun l => match l with
 | [.int .i64 x, .int .i64 y] => some (aG (.tuple [.rat ((x : Rat) / (y : Rat)) 64, .int .i64 (if y = 0 then 3 else 0)]) [-2 ^ 63 ≤ x, x < 2 ^ 63, -2 ^ 63 ≤ y, y < 2 ^ 63])
 | _ => none
def Fa : Spec := bu fun l => match l with
 | [.rat q n, .rat r m] => some (aG (.rat (q + r) (n + m + 1)) [n < 2 ^ 41, m < 2 ^ 41])
 | _ => none
def AX : aQ := [(oA, Fa), (o9, A2), (uv, JZ)]
theorem xh : bg P qA := aH T5 (aH Ey (aH abH (aH VC (aH yg (aH Ye (aH OV (aH Gb (aH abw bn))))))))
theorem L4 {q r : Rat} {n m : Nat} : bB T qA [15, 20, 41, 52] 60 wv (ax wv) ⟨aL 0 [.rat q n, .rat r m], [], 0⟩ =
  some (aa.ag [(0 : Nat) < 1] (aa.fork ((↑(nl q.num.natAbs) : Int) == (0 : Int)) (aa.ag [(0 : Nat) < 1, (0 : Nat) < 1] (aa.ag [(0 : Nat) < 1] (aa.leaf aj.ret [rat r m]))) (aa.ag [(0 : Nat) < 1] (aa.fork ((↑(nl r.num.natAbs) : Int) == (0 : Int)) (aa.ag [(0 : Nat) < 1, (0 : Nat) < 1] (aa.ag [(0 : Nat) < 1] (aa.leaf aj.ret [rat q n]))) (aa.ag [(0 : Nat) < 1, (0 : Nat) < 1, nl q.num.natAbs < 2 ^ 39, nl r.den < 2 ^ 39, (0 : Nat) < 1, (0 : Nat) < 1, nl r.num.natAbs < 2 ^ 39, nl q.den < 2 ^ 39] (aa.ag [(0 : Nat) < 1, (0 : Nat) < 1, nl q.den < 2 ^ 39, nl r.den < 2 ^ 39] (aa.ag [(0 : Nat) < 1, (0 : Nat) < 1] (aa.fork (decide (q < 0) == decide (r < 0)) (aa.ag [(0 : Nat) < 1, nl (q.num.natAbs * r.den) < 2 ^ 40, nl (r.num.natAbs * q.den) < 2 ^ 40, nl (q.num.natAbs * r.den + r.num.natAbs * q.den) < 2 ^ 38, nl (q.den * r.den) < 2 ^ 38, q.den * r.den ≠ 0, (0 : Nat) < 1] (aa.ag [(0 : Nat) < 1] (aa.leaf aj.ret [rat (sQ (decide (q < 0)) (q.num.natAbs * r.den + r.num.natAbs * q.den) (q.den * r.den)) (bS (sQ (decide (q < 0)) (q.num.natAbs * r.den + r.num.natAbs * q.den) (q.den * r.den)))]))) (aa.ag [nl (q.num.natAbs * r.den) < 2 ^ 40, nl (r.num.natAbs * q.den) < 2 ^ 40] (aa.fork (decide (bT (q.num.natAbs * r.den) (r.num.natAbs * q.den) < (0 : Int))) (aa.ag [nl (r.num.natAbs * q.den) < 2 ^ 40, nl (q.num.natAbs * r.den) < 2 ^ 40] (aa.ag [(0 : Nat) < 1, nl (r.num.natAbs * q.den - q.num.natAbs * r.den) < 2 ^ 38, nl (q.den * r.den) < 2 ^ 38, q.den * r.den ≠ 0, (0 : Nat) < 1] (aa.ag [(0 : Nat) < 1] (aa.leaf aj.ret [rat (sQ (decide (r < 0)) (r.num.natAbs * q.den - q.num.natAbs * r.den) (q.den * r.den)) (bS (sQ (decide (r < 0)) (r.num.natAbs * q.den - q.num.natAbs * r.den) (q.den * r.den)))])))) (aa.ag [nl (q.num.natAbs * r.den) < 2 ^ 40, nl (r.num.natAbs * q.den) < 2 ^ 40] (aa.ag [(0 : Nat) < 1, nl (q.num.natAbs * r.den - r.num.natAbs * q.den) < 2 ^ 38, nl (q.den * r.den) < 2 ^ 38, q.den * r.den ≠ 0, (0 : Nat) < 1] (aa.ag [(0 : Nat) < 1] (aa.leaf aj.ret [rat (sQ (decide (q < 0)) (q.num.natAbs * r.den - r.num.natAbs * q.den) (q.den * r.den)) (bS (sQ (decide (q < 0)) (q.num.natAbs * r.den - r.num.natAbs * q.den) (q.den * r.den)))])))))))))))))) := by kernel_rfl
theorem Xt {q r : Rat} {n m : Nat} : bB T qA [] 60 tC (ax tC) ⟨aL 0 [.rat q n, .rat r m], [], 0⟩ =
  some (aa.ag [(0 : Nat) < 1, (0 : Nat) < 1, (0 : Nat) < 1, (0 : Nat) < 1, nl q.num.natAbs < 2 ^ 39, nl r.num.natAbs < 2 ^ 39, (0 : Nat) < 1, (0 : Nat) < 1, nl q.den < 2 ^ 39, nl r.den < 2 ^ 39, nl (q.num.natAbs * r.num.natAbs) < 2 ^ 38, nl (q.den * r.den) < 2 ^ 38, q.den * r.den ≠ 0, (0 : Nat) < 1] (aa.ag [(0 : Nat) < 1] (aa.leaf aj.ret [rat (sQ (decide (q < 0) != decide (r < 0)) (q.num.natAbs * r.num.natAbs) (q.den * r.den)) (bS (sQ (decide (q < 0) != decide (r < 0)) (q.num.natAbs * r.num.natAbs) (q.den * r.den)))]))) := by kernel_rfl
theorem ach {q r : Rat} {n m : Nat} : bB T qA [14, 17, 30] 60 tu (ax tu) ⟨aL 0 [.rat q n, .rat r m], [], 0⟩ =
  some (aa.ag [(0 : Nat) < 1, (0 : Nat) < 1] (aa.fork (bK q != bK r) (aa.fork (decide (bK q < bK r)) (aa.leaf aj.ret [int IntKind.i64 (-1 : Int)]) (aa.leaf aj.ret [int IntKind.i64 (1 : Int)])) (aa.ag [(0 : Nat) < 1, (0 : Nat) < 1, nl q.num.natAbs < 2 ^ 39, nl r.den < 2 ^ 39, (0 : Nat) < 1, (0 : Nat) < 1, nl r.num.natAbs < 2 ^ 39, nl q.den < 2 ^ 39, nl (q.num.natAbs * r.den) < 2 ^ 40, nl (r.num.natAbs * q.den) < 2 ^ 40] (aa.ag [(0 : Nat) < 1] (aa.fork (decide (q < 0)) (aa.leaf aj.ret [int IntKind.i64 (IntKind.i64.wrap ((0 : Int) - bT (q.num.natAbs * r.den) (r.num.natAbs * q.den)))]) (aa.leaf aj.ret [int IntKind.i64 (bT (q.num.natAbs * r.den) (r.num.natAbs * q.den))])))))) := by kernel_rfl
theorem RW {x y : Int} : bB T qA [11] 60 vX (ax vX) ⟨aL 0 [.int .i64 x, .int .i64 y], [], 0⟩ =
  some (aa.fork (y == (0 : Int)) (aa.ag [(0 : Nat) < 1] (aa.ag [(0 : Nat) < 1] (aa.leaf aj.ret [agg [AV.bool false, mag 0, mag 0], int IntKind.i64 (3 : Int)]))) (aa.ag [-(2 : Int) ^ 63 ≤ x, x < (2 : Int) ^ 63] (aa.ag [-(2 : Int) ^ 63 ≤ y, y < (2 : Int) ^ 63] (aa.ag [nl x.natAbs < 2 ^ 38, nl y.natAbs < 2 ^ 38, y.natAbs ≠ 0, (0 : Nat) < 1] (aa.ag [(0 : Nat) < 1] (aa.leaf aj.ret [rat (sQ (decide (x < (0 : Int)) != decide (y < (0 : Int))) x.natAbs y.natAbs) (bS (sQ (decide (x < (0 : Int)) != decide (y < (0 : Int))) x.natAbs y.natAbs)), int IntKind.i64 (0 : Int)])))))) := by kernel_rfl
theorem Q8 {x : Int} : bB T qA [] 60 rJ (ax rJ) ⟨aL 0 [.int .i64 x], [], 0⟩ =
  some (aa.ag [-(2 : Int) ^ 63 ≤ x, x < (2 : Int) ^ 63] (aa.ag [(0 : Nat) < 1] (aa.ag [(0 : Nat) < 1] (aa.leaf aj.ret [agg [AV.bool (decide (x < (0 : Int))), mag x.natAbs, mag 0]])))) := by kernel_rfl
theorem R7 {q r : Rat} {n m : Nat} : bB T AX [] 60 tN (ax tN) ⟨aL 0 [.rat q n, .rat r m], [], 0⟩ =
  some (aa.ag [(0 : Nat) < 1, (0 : Nat) < 1, n < 2 ^ 41, m < 2 ^ 41, (0 : Nat) < 1] (aa.ag [(0 : Nat) < 1] (aa.leaf aj.ret [rat (q + -r) (n + m + 1)]))) := by kernel_rfl
theorem T7 {x y : Int} : bB T AX [] 60 sZ (ax sZ) ⟨aL 0 [.int .i64 x, .int .i64 y], [], 0⟩ =
  some (aa.ag [-(2 : Int) ^ 63 ≤ x, x < (2 : Int) ^ 63, -(2 : Int) ^ 63 ≤ y, y < (2 : Int) ^ 63, (0 : Nat) < 1] (aa.ag [(0 : Nat) < 1, (0 : Nat) < 1] (aa.ag [(0 : Nat) < 1] (aa.leaf aj.ret [rat ((↑x : Rat) / (↑y : Rat)) 64])))) := by kernel_rfl
theorem eW {N n : Nat} (h : N < 2 ^ n) (hn : n < 2 ^ 42) : nl N < 2 ^ 38 := by
 have h1 : N < 2 ^ (32 * (n / 32 + 1)) := Nat.lt_of_lt_of_le h (Nat.pow_le_pow_right (by omega) (by omega))
 have := cB.2 h1
 omega
section ops
variable {q r : Rat} {n m : Nat}
theorem oG {a b n m : Nat} (ha : a < 2 ^ n) (hb : b < 2 ^ m) : a * b < 2 ^ (n + m) := by rw [Nat.pow_add]; exact Nat.mul_lt_mul'' ha hb
theorem Dr (hn : n < 2 ^ 41) (hm' : m < 2 ^ 41) (K : Nat) : aA P oA K [.rat q n, .rat r m] [] (aG (.rat (q + r) (n + m + 1)) []) := by
 refine gL fun ⟨hq, hr, _⟩ => ?_
 have hq : Sz q n := hq
 have hr : Sz r m := hr
 have d1 := q.den_nz
 have d2 := r.den_nz
 have hz := hq.add hr
 have a1 : nl q.num.natAbs < 2 ^ 38 := eW hq.1 (by omega)
 have a2 : nl q.den < 2 ^ 38 := eW hq.2 (by omega)
 have b1 : nl r.num.natAbs < 2 ^ 38 := eW hr.1 (by omega)
 have b2 : nl r.den < 2 ^ 38 := eW hr.2 (by omega)
 have x1 := oG hq.1 hr.2
 have x2 := oG hr.1 hq.2
 have m1 : nl (q.num.natAbs * r.den) < 2 ^ 38 := eW x1 (by omega)
 have m2 : nl (r.num.natAbs * q.den) < 2 ^ 38 := eW x2 (by omega)
 have m3 : nl (q.den * r.den) < 2 ^ 38 := eW (oG hq.2 hr.2) (by omega)
 have m4 : nl (q.num.natAbs * r.den + r.num.natAbs * q.den) < 2 ^ 38 := eW (n := n + m + 1) (by rw [Nat.pow_succ]; rw [Nat.add_comm m n] at x2; omega) (by omega)
 have hd0 : q.den * r.den ≠ 0 := Nat.mul_ne_zero d1 d2
 have hv : q + r = sQ (decide (q < 0)) (q.num.natAbs * r.den) (q.den * r.den) + sQ (decide (r < 0)) (r.num.natAbs * q.den) (q.den * r.den) := by
  have := B3 q r (decide (r < 0))
  rw [iL r] at this
  exact this
 refine bH hT xh hm aa9 rfl (of_decide_eq_true (by kernel_rfl)) rfl 60 L4 (fun _ => ?_) K []
 generalize q.num.natAbs * r.den = X at *
 generalize r.num.natAbs * q.den = Y at *
 generalize q.den * r.den = D at *
 simp only [aa.all, ay, beq_iff_eq, beq_eq_false_iff_ne, ne_eq, decide_eq_true_eq, decide_eq_false_iff_not, yF]
 have m5 : nl (Y - X) < 2 ^ 38 := Nat.lt_of_le_of_lt (fu (by omega)) m2
 have m6 : nl (X - Y) < 2 ^ 38 := Nat.lt_of_le_of_lt (fu (by omega)) m1
 refine ⟨by omega, fun hb => ⟨⟨by omega, by omega⟩, by omega, eU ?_ hz⟩, fun hb => ⟨by omega, fun hb2 => ⟨⟨by omega, by omega⟩, by omega, eU ?_ hz⟩, fun hb2 => ⟨⟨by omega, by omega, by omega, by omega, by omega, by omega, by omega, by omega⟩, ⟨by omega, by omega, by omega, by omega⟩, ⟨by omega, by omega⟩,
  fun hs => ⟨⟨by omega, by omega, by omega, m4, m3, hd0, by omega⟩, by omega, eU ?_ hz⟩, fun hs => ⟨⟨by omega, by omega⟩, fun hl => ⟨⟨by omega, by omega⟩, ⟨by omega, m5, m3, hd0, by omega⟩, by omega, eU ?_ hz⟩, fun hl => ⟨⟨by omega, by omega⟩, ⟨by omega, m6, m3, hd0, by omega⟩, by omega, eU ?_ hz⟩⟩⟩⟩⟩
 ·have h0 : q = 0 := mB.1 (gH.1 (by omega))
  rw [h0, Rat.zero_add]
 ·have h0 : r = 0 := mB.1 (gH.1 (by omega))
  rw [h0, Rat.add_zero]
 ·rw [hv, hs, A9 hd0]
 ·rw [hv, DF hd0 hs (by omega)]
 ·rw [hv, Cz hd0 hs (by omega)]
theorem Gf (hn : n < 2 ^ 41) (hm' : m < 2 ^ 41) (K : Nat) : aA P uK K [.rat q n, .rat r m] [] (aG (.rat (q * r) (n + m)) []) := by
 refine gL fun ⟨hq, hr, _⟩ => ?_
 have hq : Sz q n := hq
 have hr : Sz r m := hr
 have d1 := q.den_nz
 have d2 := r.den_nz
 have a1 : nl q.num.natAbs < 2 ^ 38 := eW hq.1 (by omega)
 have a2 : nl q.den < 2 ^ 38 := eW hq.2 (by omega)
 have b1 : nl r.num.natAbs < 2 ^ 38 := eW hr.1 (by omega)
 have b2 : nl r.den < 2 ^ 38 := eW hr.2 (by omega)
 have m1 : nl (q.num.natAbs * r.num.natAbs) < 2 ^ 38 := eW (oG hq.1 hr.1) (by omega)
 have m3 : nl (q.den * r.den) < 2 ^ 38 := eW (oG hq.2 hr.2) (by omega)
 have hv : sQ (decide (q < 0) != decide (r < 0)) (q.num.natAbs * r.num.natAbs) (q.den * r.den) = q * r := by rw [← BW, iL, iL]
 refine bH hT xh hm VY rfl (of_decide_eq_true (by kernel_rfl)) rfl 60 Xt (fun _ => ?_) K []
 simp only [aa.all, ay]
 exact ⟨⟨by omega, by omega, by omega, by omega, by omega, by omega, by omega, by omega, by omega, by omega, m1, m3, Nat.mul_ne_zero d1 d2, by omega⟩, by omega, eU hv (hq.mul hr)⟩
theorem Hf (hn : n < 2 ^ 41) (hm' : m < 2 ^ 41) (K : Nat) : aA P xg K [.rat q n, .rat r m] [] (aG (.int .i64 (ef q r)) []) := by
 refine gL fun ⟨hq, hr, _⟩ => ?_
 have hq : Sz q n := hq
 have hr : Sz r m := hr
 have a1 : nl q.num.natAbs < 2 ^ 38 := eW hq.1 (by omega)
 have a2 : nl q.den < 2 ^ 38 := eW hq.2 (by omega)
 have b1 : nl r.num.natAbs < 2 ^ 38 := eW hr.1 (by omega)
 have b2 : nl r.den < 2 ^ 38 := eW hr.2 (by omega)
 have m1 : nl (q.num.natAbs * r.den) < 2 ^ 38 := eW (oG hq.1 hr.2) (by omega)
 have m2 : nl (r.num.natAbs * q.den) < 2 ^ 38 := eW (oG hr.1 hq.2) (by omega)
 refine bH hT xh hm aby rfl (of_decide_eq_true (by kernel_rfl)) rfl 60 ach (fun _ => ?_) K []
 simp only [aa.all, ay, bne_iff_ne, ne_eq, bne_eq_false_iff_eq]
 refine ⟨⟨by omega, by omega⟩, fun hs => ⟨fun hl => bq ?_, fun hl => bq ?_⟩, fun hs => ⟨⟨by omega, by omega, by omega, by omega, by omega, by omega, by omega, by omega, by omega, by omega⟩, by omega, fun hc => bq ?_, fun hc => bq ?_⟩⟩
 ·rw [xW hs, if_pos (of_decide_eq_true hl)]
 ·rw [xW hs, if_neg (of_decide_eq_false hl)]
 ·rw [lE hs, if_pos (of_decide_eq_true hc), zw]
 ·rw [lE hs, if_neg (of_decide_eq_false hc)]
end ops
theorem HL {x y : Int} (hy : y ≠ 0) : sQ (decide (x < 0) != decide (y < 0)) x.natAbs y.natAbs = (x : Rat) / (y : Rat) := by
 have h := E8 (x : Rat) (y : Rat) (by simpa using hy)
 have c : ∀ {z : Int}, decide ((z : Rat) < 0) = decide (z < 0) := fun {z} => by rw [decide_eq_decide, gq, Rat.num_intCast]
 rw [c, c, Rat.num_intCast, Rat.num_intCast, Rat.den_intCast, Rat.den_intCast, Nat.mul_one, Nat.one_mul] at h
 exact h
theorem EC {x y : Int} (h1 : -2 ^ 63 ≤ x) (h2 : x < 2 ^ 63) (h3 : -2 ^ 63 ≤ y) (h4 : y < 2 ^ 63) (hy : y ≠ 0) : Sz ((x : Rat) / (y : Rat)) 64 := by
 rw [← HL hy]; exact BS (by omega) (by omega) (by omega)
theorem W9 {x y : Int} (h1 : -2 ^ 63 ≤ x) (h2 : x < 2 ^ 63) (h3 : -2 ^ 63 ≤ y) (h4 : y < 2 ^ 63) (K : Nat) : aA P uv K [.int .i64 x, .int .i64 y] [] (aG (.tuple [.rat ((x : Rat) / (y : Rat)) 64, .int .i64 (if y = 0 then 3 else 0)]) []) := by
 refine bH hT xh hm W6 rfl (of_decide_eq_true (by kernel_rfl)) rfl 60 RW (fun _ => ?_) K []
 simp only [aa.all, ay, beq_iff_eq, beq_eq_false_iff_ne, ne_eq]
 refine ⟨fun hb => ⟨by omega, by omega, ?_, bq (by rw [if_pos hb]), trivial⟩, fun hb => ⟨⟨h1, h2⟩, ⟨h3, h4⟩, ⟨eW (n := 64) (by omega) (by omega), eW (n := 64) (by omega) (by omega), by omega, by omega⟩, by omega, eU (HL hb) (EC h1 h2 h3 h4 hb), bq (by rw [if_neg hb]), trivial⟩⟩
 rw [hb, show ((x : Rat) / ((0 : Int) : Rat)) = 0 by rw [Rat.intCast_zero, Rat.div_def, Rat.inv_zero, Rat.mul_zero]]
 exact kz
theorem EG {n : Int} (h1 : -2 ^ 63 ≤ n) (h2 : n < 2 ^ 63) (K : Nat) : aA P lS K [.int .i64 n] [] (aG (.rat (n : Rat) (max 1 (aZ n.natAbs))) []) := by
 refine bH hT xh hm LZ rfl (of_decide_eq_true (by kernel_rfl)) rfl 60 Q8 (fun _ => ?_) K []
 simp only [aa.all, ay]
 refine ⟨⟨h1, h2⟩, by omega, by omega, oc CB ?_ (by rw [Rat.num_intCast]) (by rw [Rat.den_intCast, if_pos rfl])⟩
 rw [decide_eq_decide, gq, Rat.num_intCast]
theorem ab1 : ∀ K args pre r, JZ K args pre = some r → aA P uv K args pre r := by
 refine bN fun K args r hk hs _ => ?_
 split at hs
 ·simp only [Option.some.injEq] at hs
  subst hs
  exact fun need => W9 need.1 need.2.1 need.2.2.1 need.2.2.2 K trivial
 ·simp at hs
theorem Zk : ∀ K args pre r, Fa K args pre = some r → aA P oA K args pre r := by
 refine bN fun K args r hk hs _ => ?_
 split at hs
 ·simp only [Option.some.injEq] at hs
  subst hs
  exact fun need => Dr need.1 need.2 K trivial
 ·simp at hs
theorem EK : bg P AX := aH Zk (aH Gb (aH ab1 bn))
theorem IC {q r : Rat} {n m : Nat} (hn : n < 2 ^ 41) (hm' : m < 2 ^ 41) (K : Nat) : aA P v9 K [.rat q n, .rat r m] [] (aG (.rat (q - r) (n + m + 1)) []) := by
 refine bH hT EK hm Sj rfl (of_decide_eq_true (by kernel_rfl)) rfl 60 R7 (fun _ => ?_) K []
 simp only [aa.all, ay]
 exact ⟨⟨by omega, by omega, hn, hm', by omega⟩, by omega, cI (by rw [Rat.sub_eq_add_neg])⟩
theorem XK {x y : Int} (h1 : -2 ^ 63 ≤ x) (h2 : x < 2 ^ 63) (h3 : -2 ^ 63 ≤ y) (h4 : y < 2 ^ 63) (K : Nat) : aA P mw K [.int .i64 x, .int .i64 y] [] (aG (.rat ((x : Rat) / (y : Rat)) 64) []) := by
 refine bH hT EK hm Pf rfl (of_decide_eq_true (by kernel_rfl)) rfl 60 T7 (fun _ => ?_) K []
 simp only [aa.all, ay]
 exact ⟨⟨h1, h2, h3, h4, by omega⟩, ⟨by omega, by omega⟩, by omega, .refl _⟩
def xG : Spec := bu fun l => match l with
 | [.int .i64 n] => some (aG (.rat (n : Rat) (max 1 (aZ n.natAbs))) [-2 ^ 63 ≤ n, n < 2 ^ 63])
 | _ => none
theorem Aa : ∀ K args pre r, xG K args pre = some r → aA P lS K args pre r := by
 refine bN fun K args r hk hs _ => ?_
 split at hs
 ·simp only [Option.some.injEq] at hs
  subst hs
  exact fun need => EG need.1 need.2 K trivial
 ·simp at hs
def xb : Spec := bu fun l => match l with
 | [.int .i64 x, .int .i64 y] => some (aG (.rat ((x : Rat) / (y : Rat)) 64) [-2 ^ 63 ≤ x, x < 2 ^ 63, -2 ^ 63 ≤ y, y < 2 ^ 63])
 | _ => none
theorem yP : ∀ K args pre r, xb K args pre = some r → aA P mw K args pre r := by
 refine bN fun K args r hk hs _ => ?_
 split at hs
 ·simp only [Option.some.injEq] at hs
  subst hs
  exact fun need => XK need.1 need.2.1 need.2.2.1 need.2.2.2 K trivial
 ·simp at hs
end Go.Am.B
