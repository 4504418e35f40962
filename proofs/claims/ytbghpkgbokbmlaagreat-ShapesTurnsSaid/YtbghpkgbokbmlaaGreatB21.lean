/- rational.Add, Sub, Mul, Quo, Cmp, Min, Max, Int. -/
import Derived.Test.YtbghpkgbokbmlaaGreatB20
set_option linter.unusedVariables false
namespace Go.Am.B
open Go Go.Am.N AV
theorem Zt : aN P r6 tU (au tU) := aK Po (by kernel_rfl) (by kernel_rfl) (by kernel_rfl)
theorem LR : aN P vj qV (au qV) := aK K0 (by kernel_rfl) (by kernel_rfl) (by kernel_rfl)
theorem K6 : aN P yl ua (au ua) := aK YA (by kernel_rfl) (by kernel_rfl) (by kernel_rfl)
theorem T2 : aN P wS uy (au uy) := aK LU (by kernel_rfl) (by kernel_rfl) (by kernel_rfl)
theorem M8 : aN P nY rF (au rF) := aK aa4 (by kernel_rfl) (by kernel_rfl) (by kernel_rfl)
def Dw : Spec := bp fun l => match l with
 | [.rat q n, .rat r m, .bool s] => some (aG (.rat (q + sQ s r.num.natAbs r.den) (n + m + 1)) [n < 2 ^ 42, m < 2 ^ 42])
 | _ => none
def J8 : Spec := bp fun l => match l with
 | [.rat q n, .rat r m] => some (aG (.int .i64 (fH q r)) [n < 2 ^ 42, m < 2 ^ 42])
 | _ => none
def GA : aO := (sO, Dw) :: (nT, J8) :: (qH, EA) :: (rZ, IL) :: (qa, B3) :: (ot, BG) :: []
theorem Lc {q r : Rat} {n m : Nat} : bA T GA [] 60 tU (au tU) ⟨aL 0 [.rat q n, .rat r m], [], 0⟩ =
  some (aa.af [(0 : Nat) < 1, (0 : Nat) < 1, (0 : Nat) < 1, n < 2 ^ 42, m < 2 ^ 42, (0 : Nat) < 1] (aa.af [(0 : Nat) < 1] (aa.leaf aj.ret [rat (q + sQ (decide (r < 0)) r.num.natAbs r.den) (n + m + 1)]))) := by kernel_rfl
theorem Ra {q r : Rat} {n m : Nat} : bA T GA [] 60 qV (au qV) ⟨aL 0 [.rat q n, .rat r m], [], 0⟩ =
  some (aa.af [(0 : Nat) < 1, (0 : Nat) < 1, (0 : Nat) < 1, n < 2 ^ 42, m < 2 ^ 42, (0 : Nat) < 1] (aa.af [(0 : Nat) < 1] (aa.leaf aj.ret [rat (q + sQ (!decide (r < 0)) r.num.natAbs r.den) (n + m + 1)]))) := by kernel_rfl
theorem Mz {q r : Rat} {n m : Nat} : bA T GA [8] 60 ua (au ua) ⟨aL 0 [.rat q n, .rat r m], [], 0⟩ =
  some (aa.af [(0 : Nat) < 1, (0 : Nat) < 1, m < 2 ^ 42, n < 2 ^ 42] (aa.fork (decide (fH r q < (0 : Int))) (aa.af [(0 : Nat) < 1, (0 : Nat) < 1] (aa.af [(0 : Nat) < 1, m < 2 ^ 44, (0 : Nat) < 1] (aa.af [(0 : Nat) < 1] (aa.leaf aj.ret [rat r m])))) (aa.af [(0 : Nat) < 1, n < 2 ^ 44, (0 : Nat) < 1] (aa.af [(0 : Nat) < 1] (aa.leaf aj.ret [rat q n]))))) := by kernel_rfl
theorem Qq {q r : Rat} {n m : Nat} : bA T GA [8] 60 uy (au uy) ⟨aL 0 [.rat q n, .rat r m], [], 0⟩ =
  some (aa.af [(0 : Nat) < 1, (0 : Nat) < 1, m < 2 ^ 42, n < 2 ^ 42] (aa.fork (decide (fH r q > (0 : Int))) (aa.af [(0 : Nat) < 1, (0 : Nat) < 1] (aa.af [(0 : Nat) < 1, m < 2 ^ 44, (0 : Nat) < 1] (aa.af [(0 : Nat) < 1] (aa.leaf aj.ret [rat r m])))) (aa.af [(0 : Nat) < 1, n < 2 ^ 44, (0 : Nat) < 1] (aa.af [(0 : Nat) < 1] (aa.leaf aj.ret [rat q n]))))) := by kernel_rfl
theorem V4 {n : Int} : bA T GA [] 60 rF (au rF) ⟨aL 0 [.int .i64 n], [], 0⟩ =
  some (aa.af [-(2 : Int) ^ 63 ≤ n, n < (2 : Int) ^ 63, nl n.natAbs < 2 ^ 40, nl 1 < 2 ^ 40, (0 : Nat) < 1] (aa.af [(0 : Nat) < 1] (aa.leaf aj.ret [rat (sQ (decide (n < (0 : Int))) n.natAbs 1) (bQ (sQ (decide (n < (0 : Int))) n.natAbs 1))]))) := by kernel_rfl
theorem Tc {q r : Rat} {n m : Nat} : bA T GQ [20, 23, 34, 47, 49, 56, 63, 76] 60 qF (au qF) ⟨aL 0 [.rat q n, .rat r m], [], 0⟩ =
  some (aa.af [(0 : Nat) < 1, n < 2 ^ 44, (0 : Nat) < 1, m < 2 ^ 44] (aa.fork (dA q != dA r) (aa.fork (decide (dA q < dA r)) (aa.leaf aj.ret [int IntKind.i64 (-1 : Int)]) (aa.leaf aj.ret [int IntKind.i64 (1 : Int)])) (aa.af [(0 : Nat) < 1] (aa.af [(0 : Nat) < 1, (0 : Nat) < 1, nl (if q.den = 1 then 0 else q.den) < 2 ^ 40, nl (if r.den = 1 then 0 else r.den) < 2 ^ 40] (aa.fork (decide ((if q.den = 1 then 0 else q.den) = if r.den = 1 then 0 else r.den)) (aa.af [(0 : Nat) < 1, (0 : Nat) < 1, nl q.num.natAbs < 2 ^ 40, nl r.num.natAbs < 2 ^ 40] (aa.af [(0 : Nat) < 1] (aa.fork (decide (q < 0)) (aa.leaf aj.ret [int IntKind.i64 (IntKind.i64.wrap ((0 : Int) - bK q.num.natAbs r.num.natAbs))]) (aa.leaf aj.ret [int IntKind.i64 (bK q.num.natAbs r.num.natAbs)])))) (aa.af [(0 : Nat) < 1] (aa.fork (bf q) (aa.af [bf q = true] (aa.fork (bif true then bf r else false) (aa.fork (decide (IntKind.u64.wrap ((↑(if bf q = true then q.num.natAbs else 0) : Int) * (↑(if bf r = true then r.den else 0) : Int)) < IntKind.u64.wrap ((↑(if bf r = true then r.num.natAbs else 0) : Int) * (↑(if bf q = true then q.den else 0) : Int)))) (aa.af [(0 : Nat) < 1] (aa.fork (decide (q < 0)) (aa.leaf aj.ret [int IntKind.i64 (1 : Int)]) (aa.leaf aj.ret [int IntKind.i64 (-1 : Int)]))) (aa.fork (decide (IntKind.u64.wrap ((↑(if bf q = true then q.num.natAbs else 0) : Int) * (↑(if bf r = true then r.den else 0) : Int)) > IntKind.u64.wrap ((↑(if bf r = true then r.num.natAbs else 0) : Int) * (↑(if bf q = true then q.den else 0) : Int)))) (aa.af [(0 : Nat) < 1] (aa.fork (decide (q < 0)) (aa.leaf aj.ret [int IntKind.i64 (-1 : Int)]) (aa.leaf aj.ret [int IntKind.i64 (1 : Int)]))) (aa.af [(0 : Nat) < 1] (aa.fork (decide (q < 0)) (aa.leaf aj.ret [int IntKind.i64 (0 : Int)]) (aa.leaf aj.ret [int IntKind.i64 (0 : Int)]))))) (aa.af [(0 : Nat) < 1, (0 : Nat) < 1, nl q.num.natAbs < 2 ^ 40, nl r.den < 2 ^ 40, (0 : Nat) < 1, (0 : Nat) < 1, nl r.num.natAbs < 2 ^ 40, nl q.den < 2 ^ 40, nl (q.num.natAbs * r.den) < 2 ^ 40, nl (r.num.natAbs * q.den) < 2 ^ 40] (aa.af [(0 : Nat) < 1] (aa.fork (decide (q < 0)) (aa.leaf aj.ret [int IntKind.i64 (IntKind.i64.wrap ((0 : Int) - bK (q.num.natAbs * r.den) (r.num.natAbs * q.den)))]) (aa.leaf aj.ret [int IntKind.i64 (bK (q.num.natAbs * r.den) (r.num.natAbs * q.den))])))))) (aa.af [bf q = false] (aa.fork false (aa.fork (decide (IntKind.u64.wrap ((↑(if bf q = true then q.num.natAbs else 0) : Int) * (↑(if bf r = true then r.den else 0) : Int)) < IntKind.u64.wrap ((↑(if bf r = true then r.num.natAbs else 0) : Int) * (↑(if bf q = true then q.den else 0) : Int)))) (aa.af [(0 : Nat) < 1] (aa.fork (decide (q < 0)) (aa.leaf aj.ret [int IntKind.i64 (1 : Int)]) (aa.leaf aj.ret [int IntKind.i64 (-1 : Int)]))) (aa.fork (decide (IntKind.u64.wrap ((↑(if bf q = true then q.num.natAbs else 0) : Int) * (↑(if bf r = true then r.den else 0) : Int)) > IntKind.u64.wrap ((↑(if bf r = true then r.num.natAbs else 0) : Int) * (↑(if bf q = true then q.den else 0) : Int)))) (aa.af [(0 : Nat) < 1] (aa.fork (decide (q < 0)) (aa.leaf aj.ret [int IntKind.i64 (-1 : Int)]) (aa.leaf aj.ret [int IntKind.i64 (1 : Int)]))) (aa.af [(0 : Nat) < 1] (aa.fork (decide (q < 0)) (aa.leaf aj.ret [int IntKind.i64 (0 : Int)]) (aa.leaf aj.ret [int IntKind.i64 (0 : Int)]))))) (aa.af [(0 : Nat) < 1, (0 : Nat) < 1, nl q.num.natAbs < 2 ^ 40, nl r.den < 2 ^ 40, (0 : Nat) < 1, (0 : Nat) < 1, nl r.num.natAbs < 2 ^ 40, nl q.den < 2 ^ 40, nl (q.num.natAbs * r.den) < 2 ^ 40, nl (r.num.natAbs * q.den) < 2 ^ 40] (aa.af [(0 : Nat) < 1] (aa.fork (decide (q < 0)) (aa.leaf aj.ret [int IntKind.i64 (IntKind.i64.wrap ((0 : Int) - bK (q.num.natAbs * r.den) (r.num.natAbs * q.den)))]) (aa.leaf aj.ret [int IntKind.i64 (bK (q.num.natAbs * r.den) (r.num.natAbs * q.den))]))))))))))))) := by kernel_rfl
theorem Uw : ∀ K args pre r, Dw K args pre = some r → aA P sO K args pre r := by
 refine bF fun K args r hk hs _ => ?_
 split at hs
 ·simp only [Option.some.injEq] at hs
  subst hs
  exact fun need => Rf need.1 need.2 K [] trivial
 ·simp at hs
theorem xP {q r : Rat} (h : dA q ≠ dA r) : fH q r = if dA q < dA r then -1 else 1 := by
 unfold dA fH at *
 grind
theorem OK {a b : Nat} : -bK a b = bK b a := by unfold bK; split <;> split <;> omega
theorem EY {a b k : Nat} (hk : 0 < k) : bK (a * k) (b * k) = bK a b := by
 unfold bK
 simp only [Nat.mul_lt_mul_right hk]
theorem xG {a b : Nat} : IntKind.i64.wrap (0 - bK a b) = -bK a b := by
 have : bK a b = -1 ∨ bK a b = 0 ∨ bK a b = 1 := by unfold bK; split; exact .inl rfl; split; exact .inr (.inr rfl); exact .inr (.inl rfl)
 rcases this with h | h | h <;> rw [h] <;> rfl
theorem jT {q r : Rat} (h : dA q = dA r) : fH q r = if q < 0 then -bK (q.num.natAbs * r.den) (r.num.natAbs * q.den) else bK (q.num.natAbs * r.den) (r.num.natAbs * q.den) := by
 have h1 : q < 0 ↔ r < 0 := by unfold dA at h; grind
 have e1 : ∀ {a b : Nat}, (-(a : Int)) * (b : Int) = -((a * b : Nat) : Int) := fun {a b} => by simp [Int.neg_mul]
 have e2 : ∀ {a b : Nat}, (a : Int) * (b : Int) = ((a * b : Nat) : Int) := fun {a b} => by simp
 unfold fH
 by_cases hq : q < 0
 ·have hr := h1.1 hq
  have q1 : q.num = -(q.num.natAbs : Int) := by have := e9.1 hq; omega
  have r1 : r.num = -(r.num.natAbs : Int) := by have := e9.1 hr; omega
  have l1 : q < r ↔ r.num.natAbs * q.den < q.num.natAbs * r.den := by
   rw [Rat.lt_iff]
   conv => lhs; rw [q1, r1, e1, e1]
   omega
  have l2 : r < q ↔ q.num.natAbs * r.den < r.num.natAbs * q.den := by
   rw [Rat.lt_iff]
   conv => lhs; rw [q1, r1, e1, e1]
   omega
  rw [if_pos hq, OK]
  unfold bK
  simp only [l1, l2]
 ·have hr : ¬ r < 0 := fun h => hq (h1.2 h)
  have q1 : q.num = (q.num.natAbs : Int) := by have : ¬ q.num < 0 := fun h => hq (e9.2 h); omega
  have r1 : r.num = (r.num.natAbs : Int) := by have : ¬ r.num < 0 := fun h => hr (e9.2 h); omega
  have l1 : q < r ↔ q.num.natAbs * r.den < r.num.natAbs * q.den := by
   rw [Rat.lt_iff]
   conv => lhs; rw [q1, r1, e2, e2]
   omega
  have l2 : r < q ↔ r.num.natAbs * q.den < q.num.natAbs * r.den := by
   rw [Rat.lt_iff]
   conv => lhs; rw [q1, r1, e2, e2]
   omega
  rw [if_neg hq]
  unfold bK
  simp only [l1, l2]
theorem Cm {q r : Rat} {n m : Nat} (hn : n < 2 ^ 42) (hm' : m < 2 ^ 42) (K : Nat) (pre : aC) : aA P nT K [.rat q n, .rat r m] pre (aG (.int .i64 (fH q r)) []) := by
 refine gj fun ⟨hq, hr, _⟩ => ?_
 have hq : Sz q n := hq
 have hr : Sz r m := hr
 obtain ⟨a1, a2, a3⟩ := Sz.gH hq (by omega)
 obtain ⟨b1, b2, b3⟩ := Sz.gH hr (by omega)
 have d1 := q.den_nz
 have d2 := r.den_nz
 have m1 : nl (q.num.natAbs * r.den) < 2 ^ 40 := gL (n := n + m) (by rw [Nat.pow_add]; exact Nat.mul_lt_mul'' hq.1 hr.2) (by omega)
 have m2 : nl (r.num.natAbs * q.den) < 2 ^ 40 := gL (n := m + n) (by rw [Nat.pow_add]; exact Nat.mul_lt_mul'' hr.1 hq.2) (by omega)
 refine bD hT iQ hm NZ rfl (of_decide_eq_true (by kernel_rfl)) rfl 60 Tc (fun _ => ?_) K pre
 simp only [aa.all, ax, bne_iff_ne, ne_eq, bne_eq_false_iff_eq]
 refine ⟨⟨by omega, by omega, by omega, by omega⟩, fun hs => ⟨fun hl => bn ?_, fun hl => bn ?_⟩, fun hs => ⟨by omega, ⟨by omega, by omega, a3, b3⟩, fun hd => ⟨⟨by omega, by omega, a1, b1⟩, by omega, fun hc => bn ?_, fun hc => bn ?_⟩, fun hd => ⟨by omega, fun hp => ⟨hp, fun hp2 => ?_, fun hp2 => ⟨⟨by omega, by omega, a1, b2, by omega, by omega, b1, a2, m1, m2⟩, by omega, fun hc => bn ?_, fun hc => bn ?_⟩⟩, fun hp => ⟨hp, fun h => by simp at h, fun _ => ⟨⟨by omega, by omega, a1, b2, by omega, by omega, b1, a2, m1, m2⟩, by omega, fun hc => bn ?_, fun hc => bn ?_⟩⟩⟩⟩⟩
 ·rw [xP hs, if_pos (of_decide_eq_true hl)]
 ·rw [xP hs, if_neg (of_decide_eq_false hl)]
 ·have hd := of_decide_eq_true hd
  have e : q.den = r.den := by split at hd <;> split at hd <;> omega
  rw [jT hs, if_pos (of_decide_eq_true hc), e, EY (by omega), xG]
 ·have hd := of_decide_eq_true hd
  have e : q.den = r.den := by split at hd <;> split at hd <;> omega
  rw [jT hs, if_neg (of_decide_eq_false hc), e, EY (by omega)]
 ·have hp2 := gn hp2
  obtain ⟨q1, q2⟩ := lZ hp
  obtain ⟨r1, r2⟩ := lZ hp2
  rw [if_pos hp, if_pos hp2, if_pos hp2, if_pos hp, (jX q1 r2).1, (jX r1 q2).1]
  have hcs := jT hs
  generalize q.num.natAbs * r.den = X at *
  generalize r.num.natAbs * q.den = Y at *
  unfold bK at hcs
  refine ⟨fun h1 => ⟨by omega, fun hc => bn ?_, fun hc => bn ?_⟩, fun h1 => ⟨fun h2 => ⟨by omega, fun hc => bn ?_, fun hc => bn ?_⟩, fun h2 => ⟨by omega, fun hc => bn ?_, fun hc => bn ?_⟩⟩⟩
  all_goals rw [hcs]
  ·rw [if_pos (of_decide_eq_true hc), if_pos (by have := of_decide_eq_true h1; omega)]; rfl
  ·rw [if_neg (of_decide_eq_false hc), if_pos (by have := of_decide_eq_true h1; omega)]
  ·rw [if_pos (of_decide_eq_true hc), if_neg (by have := of_decide_eq_false h1; omega), if_pos (by have := of_decide_eq_true h2; omega)]
  ·rw [if_neg (of_decide_eq_false hc), if_neg (by have := of_decide_eq_false h1; omega), if_pos (by have := of_decide_eq_true h2; omega)]
  ·rw [if_pos (of_decide_eq_true hc), if_neg (by have := of_decide_eq_false h1; omega), if_neg (by have := of_decide_eq_false h2; omega)]; rfl
  ·rw [if_neg (of_decide_eq_false hc), if_neg (by have := of_decide_eq_false h1; omega), if_neg (by have := of_decide_eq_false h2; omega)]
 ·rw [jT hs, if_pos (of_decide_eq_true hc), xG]
 ·rw [jT hs, if_neg (of_decide_eq_false hc)]
 ·rw [jT hs, if_pos (of_decide_eq_true hc), xG]
 ·rw [jT hs, if_neg (of_decide_eq_false hc)]
theorem UO : ∀ K args pre r, J8 K args pre = some r → aA P nT K args pre r := by
 refine bF fun K args r hk hs _ => ?_
 split at hs
 ·simp only [Option.some.injEq] at hs
  subst hs
  exact fun need => Cm need.1 need.2 K [] trivial
 ·simp at hs
theorem qd : aV P GA := aD Uw (aD UO (aD XU (aD Nv (aD CG (aD IP aU)))))
section ops
variable {q r : Rat} {n m : Nat}
theorem Ke (hn : n < 2 ^ 42) (hm' : m < 2 ^ 42) (K : Nat) : aA P r6 K [.rat q n, .rat r m] [] (aG (.rat (q + r) (n + m + 1)) []) := by
 refine bD hT qd hm Zt rfl (of_decide_eq_true (by kernel_rfl)) rfl 60 Lc (fun _ => ?_) K []
 simp only [aa.all, ax, ic]
 exact ⟨⟨by omega, by omega, by omega, hn, hm', by omega⟩, by omega, .refl _⟩
theorem OF (r : Rat) : sQ (!decide (r < 0)) r.num.natAbs r.den = -r := by
 have h := ic r
 conv => rhs; rw [← h]
 unfold sQ
 rw [Rat.neg_mkRat]
 congr 1
 unfold ew
 by_cases h : r < 0 <;> simp [h]
theorem Iz (hn : n < 2 ^ 42) (hm' : m < 2 ^ 42) (K : Nat) : aA P vj K [.rat q n, .rat r m] [] (aG (.rat (q - r) (n + m + 1)) []) := by
 refine bD hT qd hm LR rfl (of_decide_eq_true (by kernel_rfl)) rfl 60 Ra (fun _ => ?_) K []
 simp only [aa.all, ax, OF]
 exact ⟨⟨by omega, by omega, by omega, hn, hm', by omega⟩, by omega, cW (by rw [Rat.sub_eq_add_neg])⟩
def xA (q r : Rat) : Rat := if r < q then r else q
def xC (q r : Rat) : Rat := if q < r then r else q
theorem v7 {q r : Rat} : fH q r < 0 ↔ q < r := by unfold fH; grind
theorem JI {q r : Rat} : fH q r > 0 ↔ r < q := by unfold fH; grind
theorem Ul (hn : n < 2 ^ 42) (hm' : m < 2 ^ 42) (K : Nat) : aA P yl K [.rat q n, .rat r m] [] (aG (.rat (xA q r) (max n m)) []) := by
 refine bD hT qd hm K6 rfl (of_decide_eq_true (by kernel_rfl)) rfl 60 Mz (fun _ => ?_) K []
 simp only [aa.all, ax, decide_eq_true_eq, decide_eq_false_iff_not, v7]
 refine ⟨⟨by omega, by omega, hm', hn⟩, fun h => ⟨⟨by omega, by omega⟩, ⟨by omega, by omega, by omega⟩, by omega, ?_⟩, fun h => ⟨⟨by omega, by omega, by omega⟩, by omega, ?_⟩⟩
 ·unfold xA; rw [if_pos h]; exact dY (Nat.le_max_right _ _)
 ·unfold xA; rw [if_neg h]; exact dY (Nat.le_max_left _ _)
theorem MP (hn : n < 2 ^ 42) (hm' : m < 2 ^ 42) (K : Nat) : aA P wS K [.rat q n, .rat r m] [] (aG (.rat (xC q r) (max n m)) []) := by
 refine bD hT qd hm T2 rfl (of_decide_eq_true (by kernel_rfl)) rfl 60 Qq (fun _ => ?_) K []
 simp only [aa.all, ax, decide_eq_true_eq, decide_eq_false_iff_not, JI]
 refine ⟨⟨by omega, by omega, hm', hn⟩, fun h => ⟨⟨by omega, by omega⟩, ⟨by omega, by omega, by omega⟩, by omega, ?_⟩, fun h => ⟨⟨by omega, by omega, by omega⟩, by omega, ?_⟩⟩
 ·unfold xC; rw [if_pos h]; exact dY (Nat.le_max_right _ _)
 ·unfold xC; rw [if_neg h]; exact dY (Nat.le_max_left _ _)
theorem abb {n : Int} : sQ (decide (n < 0)) n.natAbs 1 = (n : Rat) := by
 unfold sQ
 have : ew (decide (n < 0)) n.natAbs = n := by unfold ew; by_cases h : n < 0 <;> simp [h] <;> omega
 rw [this, Rat.mkRat_one]
theorem BN {n : Int} : Sz (n : Rat) (max 1 (aQ n.natAbs)) := by
 refine ⟨?_, ?_⟩
 ·rw [Rat.num_intCast]
  exact Nat.lt_of_lt_of_le (gh.1 (Nat.le_refl _)) (Nat.pow_le_pow_right (by omega) (Nat.le_max_right _ _))
 ·rw [Rat.den_intCast]
  exact Nat.lt_of_lt_of_le (show 1 < 2 ^ 1 by omega) (Nat.pow_le_pow_right (by omega) (Nat.le_max_left _ _))
theorem Et {n : Int} (h1 : -2 ^ 63 ≤ n) (h2 : n < 2 ^ 63) (K : Nat) : aA P nY K [.int .i64 n] [] (aG (.rat (n : Rat) (max 1 (aQ n.natAbs))) []) := by
 refine bD hT qd hm M8 rfl (of_decide_eq_true (by kernel_rfl)) rfl 60 V4 (fun _ => ?_) K []
 simp only [aa.all, ax, abb]
 exact ⟨⟨h1, h2, gL (n := 64) (by omega) (by omega), by decide, by omega⟩, by omega, eu rfl BN⟩
theorem Fl (hn : n < 2 ^ 42) (hm' : m < 2 ^ 42) (K : Nat) : aA P uT K [.rat q n, .rat r m] [] (aG (.rat (q * r) (n + m)) []) := by
 refine gj fun ⟨hq, hr, _⟩ => ?_
 have hq : Sz q n := hq
 have hr : Sz r m := hr
 obtain ⟨a1, a2, a3⟩ := Sz.gH hq (by omega)
 obtain ⟨b1, b2, b3⟩ := Sz.gH hr (by omega)
 have d1 := q.den_nz
 have d2 := r.den_nz
 have m1 : nl (q.num.natAbs * r.num.natAbs) < 2 ^ 40 := gL (n := n + m) (by rw [Nat.pow_add]; exact Nat.mul_lt_mul'' hq.1 hr.1) (by omega)
 have m2 : nl (q.den * r.den) < 2 ^ 40 := gL (n := n + m) (by rw [Nat.pow_add]; exact Nat.mul_lt_mul'' hq.2 hr.2) (by omega)
 have hz := hq.mul hr
 have hv : sQ (decide (q < 0) != decide (r < 0)) (q.num.natAbs * r.num.natAbs) (q.den * r.den) = q * r := by rw [← zk, ic, ic]
 have hzero : q = 0 ∨ r = 0 → bu (.agg [.bool false, .mag 0, .mag 0]) (.rat (q * r) (n + m)) := by
  intro h
  have e : q * r = 0 := by rcases h with h | h <;> subst h <;> simp
  obtain ⟨k, hk⟩ : ∃ k, n + m = k + 1 := ⟨n + m - 1, by have := hq.pos; omega⟩
  rw [e, hk]; exact ji
 refine bD hT iQ hm XY rfl (of_decide_eq_true (by kernel_rfl)) rfl 60 Ub (fun _ => ?_) K []
 have hlong : (aa.af
         [(0 : Nat) < 1, (0 : Nat) < 1, (0 : Nat) < 1, (0 : Nat) < 1, nl q.num.natAbs < 2 ^ 40, nl r.num.natAbs < 2 ^ 40, (0 : Nat) < 1, (0 : Nat) < 1, nl q.den < 2 ^ 40, nl r.den < 2 ^ 40, nl (q.num.natAbs * r.num.natAbs) < 2 ^ 40, nl (q.den * r.den) < 2 ^ 40, (0 : Nat) < 1]
         (aa.af [(0 : Nat) < 1]
          (aa.leaf aj.ret
           [AV.rat (sQ (decide (q < (0 : Rat)) != decide (r < (0 : Rat))) (q.num.natAbs * r.num.natAbs) (q.den * r.den))
             (bQ (sQ (decide (q < (0 : Rat)) != decide (r < (0 : Rat))) (q.num.natAbs * r.num.natAbs) (q.den * r.den)))]))).all fun _ us => dG us (.rat (q * r) (n + m)) := by
  simp only [aa.all, ax]
  exact ⟨⟨by omega, by omega, by omega, by omega, a1, b1, by omega, by omega, a2, b2, m1, m2, by omega⟩, by omega, eu hv hz⟩
 refine ⟨fun hb => ⟨⟨show 0 < 1 by omega, hb⟩, fun _ => ⟨show 0 < 1 by omega, show 0 < 1 by omega, hzero (.inl ?_)⟩, fun h => by simp at h⟩, fun hb => ⟨⟨show 0 < 1 by omega, hb, show 0 < 1 by omega⟩, fun hc => ⟨show 0 < 1 by omega, show 0 < 1 by omega, hzero (.inr ?_)⟩, fun hc => ⟨show 0 < 1 by omega, fun h1 => ⟨show 0 < 1 by omega, fun h2 => ?_, fun h2 => hlong⟩, fun h1 => hlong⟩⟩⟩
 ·have := eq_of_beq hb
  exact kO.1 (gG.1 (by omega))
 ·have := eq_of_beq (fG hc)
  exact kO.1 (gG.1 (by omega))
 ·obtain ⟨q1, q2⟩ := lZ h1
  obtain ⟨r1, r2⟩ := lZ h2
  obtain ⟨wx, bx⟩ := jX q1 r1
  obtain ⟨wd, bd⟩ := jX q2 r2
  have hd0 : q.den * r.den ≠ 0 := Nat.mul_ne_zero d1 d2
  rw [if_pos h1, if_pos h2, if_pos h1, if_pos h2, wx, wd]
  simp only [aa.all, ax, Int.toNat_natCast]
  exact ⟨⟨by omega, by omega, by omega, by omega, by omega⟩, by omega, eu hv hz⟩
theorem zX (q r : Rat) (hr : r ≠ 0) : sQ (decide (q < 0) != decide (r < 0)) (q.num.natAbs * r.den) (q.den * r.num.natAbs) = q / r := by
 have hn : r.num ≠ 0 := fun h => hr (Rat.num_eq_zero.1 h)
 have hi : r⁻¹ = sQ (decide (r < 0)) r.den r.num.natAbs := by
  rw [← ic r⁻¹]
  have e1 : r⁻¹.num.natAbs = r.den := by rw [Rat.num_inv, Int.natAbs_mul, Int.natAbs_natCast, Int.natAbs_sign_of_ne_zero hn, Nat.one_mul]
  have e2 : r⁻¹.den = r.num.natAbs := by rw [Rat.den_inv, if_neg hn]
  have e3 : decide (r⁻¹ < 0) = decide (r < 0) := by
   rw [decide_eq_decide, e9, e9, Rat.num_inv]
   have hd := r.den_nz
   have hd' : (0 : Int) < (r.den : Int) := by omega
   rcases Int.lt_trichotomy r.num 0 with h | h | h
   ·rw [Int.sign_eq_neg_one_of_neg h]; omega
   ·exact absurd h hn
   ·rw [Int.sign_eq_one_of_pos h]; omega
  rw [e1, e2, e3]
 rw [Rat.div_def, hi]
 conv => rhs; rw [← ic q]
 rw [zk]
theorem Qi (hn : n < 2 ^ 42) (hm' : m < 2 ^ 42) (K : Nat) : aA P xU K [.rat q n, .rat r m] [] (aG (.tuple [.rat (q / r) (n + m), .int .i64 (if r = 0 then 3 else 0)]) []) := by
 refine gj fun ⟨hq, hr, _⟩ => ?_
 have hq : Sz q n := hq
 have hr : Sz r m := hr
 obtain ⟨a1, a2, a3⟩ := Sz.gH hq (by omega)
 obtain ⟨b1, b2, b3⟩ := Sz.gH hr (by omega)
 have d1 := q.den_nz
 have d2 := r.den_nz
 have m1 : nl (q.num.natAbs * r.den) < 2 ^ 40 := gL (n := n + m) (by rw [Nat.pow_add]; exact Nat.mul_lt_mul'' hq.1 hr.2) (by omega)
 have m2 : nl (q.den * r.num.natAbs) < 2 ^ 40 := gL (n := n + m) (by rw [Nat.pow_add]; exact Nat.mul_lt_mul'' hq.2 hr.1) (by omega)
 have hz := hq.div hr
 have sg : ∀ {x : Rat}, dA x = 0 ↔ x = 0 := by intro x; unfold dA; grind
 refine bD hT iQ hm Wu rfl (of_decide_eq_true (by kernel_rfl)) rfl 60 Yb (fun _ => ?_) K []
 refine ⟨⟨show 0 < 1 by omega, show m < 2 ^ 44 by omega⟩, fun hb => ⟨show 0 < 1 by omega, show 0 < 1 by omega, ?_, ?_, trivial⟩, fun hb => ⟨show 0 < 1 by omega, ?_⟩⟩
 ·have h0 : r = 0 := sg.1 (eq_of_beq hb)
  have e : q / r = 0 := by rw [h0, Rat.div_def, Rat.inv_zero, Rat.mul_zero]
  obtain ⟨k, hk⟩ : ∃ k, n + m = k + 1 := ⟨n + m - 1, by have := hq.pos; omega⟩
  rw [e, hk]; exact ji
 ·have h0 : r = 0 := sg.1 (eq_of_beq hb)
  exact bn (by rw [if_pos h0])
 have h0 : r ≠ 0 := fun h => by
  rw [h] at hb
  simp [dA] at hb
 have hv := zX q r h0
 have he : bu (.int .i64 0) (.int .i64 (if r = 0 then 3 else 0)) := bn (by rw [if_neg h0])
 have hlong : (aa.af
         [(0 : Nat) < 1, (0 : Nat) < 1, (0 : Nat) < 1, (0 : Nat) < 1, nl q.num.natAbs < 2 ^ 40, nl r.den < 2 ^ 40, (0 : Nat) < 1, (0 : Nat) < 1, nl q.den < 2 ^ 40, nl r.num.natAbs < 2 ^ 40, nl (q.num.natAbs * r.den) < 2 ^ 40, nl (q.den * r.num.natAbs) < 2 ^ 40, (0 : Nat) < 1]
         (aa.af [(0 : Nat) < 1]
          (aa.leaf aj.ret
           [AV.rat (sQ (decide (q < (0 : Rat)) != decide (r < (0 : Rat))) (q.num.natAbs * r.den) (q.den * r.num.natAbs))
             (bQ (sQ (decide (q < (0 : Rat)) != decide (r < (0 : Rat))) (q.num.natAbs * r.den) (q.den * r.num.natAbs))), .int .i64 0]))).all fun _ us => dG us (.tuple [.rat (q / r) (n + m), .int .i64 (if r = 0 then 3 else 0)]) := by
  simp only [aa.all, ax]
  exact ⟨⟨by omega, by omega, by omega, by omega, a1, b2, by omega, by omega, a2, b1, m1, m2, by omega⟩, by omega, eu hv hz, he, trivial⟩
 refine ⟨fun h1 => ⟨show 0 < 1 by omega, fun h2 => ?_, fun h2 => hlong⟩, fun h1 => hlong⟩
 obtain ⟨q1, q2⟩ := lZ h1
 obtain ⟨r1, r2⟩ := lZ h2
 obtain ⟨wx, bx⟩ := jX q1 r2
 obtain ⟨wd, bd⟩ := jX q2 r1
 have hr0 : r.num.natAbs ≠ 0 := fun h => h0 (kO.1 h)
 have hd0 : q.den * r.num.natAbs ≠ 0 := Nat.mul_ne_zero d1 hr0
 rw [if_pos h1, if_pos h2, if_pos h1, if_pos h2, wx, wd]
 simp only [aa.all, ax, Int.toNat_natCast]
 exact ⟨⟨by omega, by omega, by omega, by omega, by omega⟩, by omega, eu hv hz, he, trivial⟩
end ops
def Bz : Spec := bp fun l => match l with
 | [.int .i64 n] => some (aG (.rat (n : Rat) (max 1 (aQ n.natAbs))) [-2 ^ 63 ≤ n, n < 2 ^ 63])
 | _ => none
theorem Ew : ∀ K args pre r, Bz K args pre = some r → aA P nY K args pre r := by
 refine bF fun K args r hk hs _ => ?_
 split at hs
 ·simp only [Option.some.injEq] at hs
  subst hs
  exact fun need => Et need.1 need.2 K trivial
 ·simp at hs
end Go.Am.B
