/- rational.Add, Sub, Mul, Quo, Cmp, Min, Max, Int. -/
import Derived.Test.YtbghpkgbokbmlaaGreatB20
set_option linter.unusedVariables false
namespace Go.Am.B
open Go Go.Am.N AV
theorem V4 : aS P v5 rG (au rG) := aN MS (by kernel_rfl) (by kernel_rfl) (by kernel_rfl)
theorem PF : aS P rY vh (au vh) := aN Ob (by kernel_rfl) (by kernel_rfl) (by kernel_rfl)
theorem Qr : aS P y9 tS (au tS) := aN Ux (by kernel_rfl) (by kernel_rfl) (by kernel_rfl)
theorem NV : aS P xH r6 (au r6) := aN Q8 (by kernel_rfl) (by kernel_rfl) (by kernel_rfl)
theorem OE : aS P mZ sr (au sr) := aN MM (by kernel_rfl) (by kernel_rfl) (by kernel_rfl)
def ED : Spec := bt fun l => match l with
 | [.rat q n, .rat r m, .bool s] => some (aH (.rat (q + sQ s r.num.natAbs r.den) (n + m + 1)) [n < 2 ^ 42, m < 2 ^ 42])
 | _ => none
def Kj : Spec := bt fun l => match l with
 | [.rat q n, .rat r m] => some (aH (.int .i64 (fS q r)) [n < 2 ^ 42, m < 2 ^ 42])
 | _ => none
def GA : aT := (vc, ED) :: (mX, Kj) :: (sy, GL) :: (tr, Jt) :: (pG, Cj) :: (pJ, BX) :: []
theorem SC {q r : Rat} {n m : Nat} : bB T GA [] 60 rG (au rG) ⟨aO 0 [.rat q n, .rat r m], [], 0⟩ =
  some (aa.af [(0 : Nat) < 1, (0 : Nat) < 1, (0 : Nat) < 1, n < 2 ^ 42, m < 2 ^ 42, (0 : Nat) < 1] (aa.af [(0 : Nat) < 1] (aa.leaf ah.ret [rat (q + sQ (decide (r < 0)) r.num.natAbs r.den) (n + m + 1)]))) := by kernel_rfl
theorem Ms {q r : Rat} {n m : Nat} : bB T GA [] 60 vh (au vh) ⟨aO 0 [.rat q n, .rat r m], [], 0⟩ =
  some (aa.af [(0 : Nat) < 1, (0 : Nat) < 1, (0 : Nat) < 1, n < 2 ^ 42, m < 2 ^ 42, (0 : Nat) < 1] (aa.af [(0 : Nat) < 1] (aa.leaf ah.ret [rat (q + sQ (!decide (r < 0)) r.num.natAbs r.den) (n + m + 1)]))) := by kernel_rfl
theorem Qw {q r : Rat} {n m : Nat} : bB T GA [8] 60 tS (au tS) ⟨aO 0 [.rat q n, .rat r m], [], 0⟩ =
  some (aa.af [(0 : Nat) < 1, (0 : Nat) < 1, m < 2 ^ 42, n < 2 ^ 42] (aa.fork (decide (fS r q < (0 : Int))) (aa.af [(0 : Nat) < 1, (0 : Nat) < 1] (aa.af [(0 : Nat) < 1, m < 2 ^ 44, (0 : Nat) < 1] (aa.af [(0 : Nat) < 1] (aa.leaf ah.ret [rat r m])))) (aa.af [(0 : Nat) < 1, n < 2 ^ 44, (0 : Nat) < 1] (aa.af [(0 : Nat) < 1] (aa.leaf ah.ret [rat q n]))))) := by kernel_rfl
theorem YH {q r : Rat} {n m : Nat} : bB T GA [8] 60 r6 (au r6) ⟨aO 0 [.rat q n, .rat r m], [], 0⟩ =
  some (aa.af [(0 : Nat) < 1, (0 : Nat) < 1, m < 2 ^ 42, n < 2 ^ 42] (aa.fork (decide (fS r q > (0 : Int))) (aa.af [(0 : Nat) < 1, (0 : Nat) < 1] (aa.af [(0 : Nat) < 1, m < 2 ^ 44, (0 : Nat) < 1] (aa.af [(0 : Nat) < 1] (aa.leaf ah.ret [rat r m])))) (aa.af [(0 : Nat) < 1, n < 2 ^ 44, (0 : Nat) < 1] (aa.af [(0 : Nat) < 1] (aa.leaf ah.ret [rat q n]))))) := by kernel_rfl
theorem abe {n : Int} : bB T GA [] 60 sr (au sr) ⟨aO 0 [.int .i64 n], [], 0⟩ =
  some (aa.af [-(2 : Int) ^ 63 ≤ n, n < (2 : Int) ^ 63, nl n.natAbs < 2 ^ 40, nl 1 < 2 ^ 40, (0 : Nat) < 1] (aa.af [(0 : Nat) < 1] (aa.leaf ah.ret [rat (sQ (decide (n < (0 : Int))) n.natAbs 1) (bW (sQ (decide (n < (0 : Int))) n.natAbs 1))]))) := by kernel_rfl
theorem aaR {q r : Rat} {n m : Nat} : bB T GQ [20, 23, 34, 47, 49, 56, 63, 76] 60 uj (au uj) ⟨aO 0 [.rat q n, .rat r m], [], 0⟩ =
  some (aa.af [(0 : Nat) < 1, n < 2 ^ 44, (0 : Nat) < 1, m < 2 ^ 44] (aa.fork (dA q != dA r) (aa.fork (decide (dA q < dA r)) (aa.leaf ah.ret [int IntKind.i64 (-1 : Int)]) (aa.leaf ah.ret [int IntKind.i64 (1 : Int)])) (aa.af [(0 : Nat) < 1] (aa.af [(0 : Nat) < 1, (0 : Nat) < 1, nl (if q.den = 1 then 0 else q.den) < 2 ^ 40, nl (if r.den = 1 then 0 else r.den) < 2 ^ 40] (aa.fork (decide ((if q.den = 1 then 0 else q.den) = if r.den = 1 then 0 else r.den)) (aa.af [(0 : Nat) < 1, (0 : Nat) < 1, nl q.num.natAbs < 2 ^ 40, nl r.num.natAbs < 2 ^ 40] (aa.af [(0 : Nat) < 1] (aa.fork (decide (q < 0)) (aa.leaf ah.ret [int IntKind.i64 (IntKind.i64.wrap ((0 : Int) - bO q.num.natAbs r.num.natAbs))]) (aa.leaf ah.ret [int IntKind.i64 (bO q.num.natAbs r.num.natAbs)])))) (aa.af [(0 : Nat) < 1] (aa.fork (bm q) (aa.af [bm q = true] (aa.fork (bif true then bm r else false) (aa.fork (decide (IntKind.u64.wrap ((↑(if bm q = true then q.num.natAbs else 0) : Int) * (↑(if bm r = true then r.den else 0) : Int)) < IntKind.u64.wrap ((↑(if bm r = true then r.num.natAbs else 0) : Int) * (↑(if bm q = true then q.den else 0) : Int)))) (aa.af [(0 : Nat) < 1] (aa.fork (decide (q < 0)) (aa.leaf ah.ret [int IntKind.i64 (1 : Int)]) (aa.leaf ah.ret [int IntKind.i64 (-1 : Int)]))) (aa.fork (decide (IntKind.u64.wrap ((↑(if bm q = true then q.num.natAbs else 0) : Int) * (↑(if bm r = true then r.den else 0) : Int)) > IntKind.u64.wrap ((↑(if bm r = true then r.num.natAbs else 0) : Int) * (↑(if bm q = true then q.den else 0) : Int)))) (aa.af [(0 : Nat) < 1] (aa.fork (decide (q < 0)) (aa.leaf ah.ret [int IntKind.i64 (-1 : Int)]) (aa.leaf ah.ret [int IntKind.i64 (1 : Int)]))) (aa.af [(0 : Nat) < 1] (aa.fork (decide (q < 0)) (aa.leaf ah.ret [int IntKind.i64 (0 : Int)]) (aa.leaf ah.ret [int IntKind.i64 (0 : Int)]))))) (aa.af [(0 : Nat) < 1, (0 : Nat) < 1, nl q.num.natAbs < 2 ^ 40, nl r.den < 2 ^ 40, (0 : Nat) < 1, (0 : Nat) < 1, nl r.num.natAbs < 2 ^ 40, nl q.den < 2 ^ 40, nl (q.num.natAbs * r.den) < 2 ^ 40, nl (r.num.natAbs * q.den) < 2 ^ 40] (aa.af [(0 : Nat) < 1] (aa.fork (decide (q < 0)) (aa.leaf ah.ret [int IntKind.i64 (IntKind.i64.wrap ((0 : Int) - bO (q.num.natAbs * r.den) (r.num.natAbs * q.den)))]) (aa.leaf ah.ret [int IntKind.i64 (bO (q.num.natAbs * r.den) (r.num.natAbs * q.den))])))))) (aa.af [bm q = false] (aa.fork false (aa.fork (decide (IntKind.u64.wrap ((↑(if bm q = true then q.num.natAbs else 0) : Int) * (↑(if bm r = true then r.den else 0) : Int)) < IntKind.u64.wrap ((↑(if bm r = true then r.num.natAbs else 0) : Int) * (↑(if bm q = true then q.den else 0) : Int)))) (aa.af [(0 : Nat) < 1] (aa.fork (decide (q < 0)) (aa.leaf ah.ret [int IntKind.i64 (1 : Int)]) (aa.leaf ah.ret [int IntKind.i64 (-1 : Int)]))) (aa.fork (decide (IntKind.u64.wrap ((↑(if bm q = true then q.num.natAbs else 0) : Int) * (↑(if bm r = true then r.den else 0) : Int)) > IntKind.u64.wrap ((↑(if bm r = true then r.num.natAbs else 0) : Int) * (↑(if bm q = true then q.den else 0) : Int)))) (aa.af [(0 : Nat) < 1] (aa.fork (decide (q < 0)) (aa.leaf ah.ret [int IntKind.i64 (-1 : Int)]) (aa.leaf ah.ret [int IntKind.i64 (1 : Int)]))) (aa.af [(0 : Nat) < 1] (aa.fork (decide (q < 0)) (aa.leaf ah.ret [int IntKind.i64 (0 : Int)]) (aa.leaf ah.ret [int IntKind.i64 (0 : Int)]))))) (aa.af [(0 : Nat) < 1, (0 : Nat) < 1, nl q.num.natAbs < 2 ^ 40, nl r.den < 2 ^ 40, (0 : Nat) < 1, (0 : Nat) < 1, nl r.num.natAbs < 2 ^ 40, nl q.den < 2 ^ 40, nl (q.num.natAbs * r.den) < 2 ^ 40, nl (r.num.natAbs * q.den) < 2 ^ 40] (aa.af [(0 : Nat) < 1] (aa.fork (decide (q < 0)) (aa.leaf ah.ret [int IntKind.i64 (IntKind.i64.wrap ((0 : Int) - bO (q.num.natAbs * r.den) (r.num.natAbs * q.den)))]) (aa.leaf ah.ret [int IntKind.i64 (bO (q.num.natAbs * r.den) (r.num.natAbs * q.den))]))))))))))))) := by kernel_rfl
theorem O7 : ∀ K args pre r, ED K args pre = some r → aB P vc K args pre r := by
 refine bJ fun K args r hk hs _ => ?_
 split at hs
 ·simp only [Option.some.injEq] at hs
  subst hs
  exact fun need => Pf need.1 need.2 K [] trivial
 ·simp at hs
theorem wZ {q r : Rat} (h : dA q ≠ dA r) : fS q r = if dA q < dA r then -1 else 1 := by
 unfold dA fS at *
 grind
theorem QI {a b : Nat} : -bO a b = bO b a := by unfold bO; split <;> split <;> omega
theorem GY {a b k : Nat} (hk : 0 < k) : bO (a * k) (b * k) = bO a b := by
 unfold bO
 simp only [Nat.mul_lt_mul_right hk]
theorem wG {a b : Nat} : IntKind.i64.wrap (0 - bO a b) = -bO a b := by
 have : bO a b = -1 ∨ bO a b = 0 ∨ bO a b = 1 := by unfold bO; split; exact .inl rfl; split; exact .inr (.inr rfl); exact .inr (.inl rfl)
 rcases this with h | h | h <;> rw [h] <;> rfl
theorem kO {q r : Rat} (h : dA q = dA r) : fS q r = if q < 0 then -bO (q.num.natAbs * r.den) (r.num.natAbs * q.den) else bO (q.num.natAbs * r.den) (r.num.natAbs * q.den) := by
 have h1 : q < 0 ↔ r < 0 := by unfold dA at h; grind
 have e1 : ∀ {a b : Nat}, (-(a : Int)) * (b : Int) = -((a * b : Nat) : Int) := fun {a b} => by simp [Int.neg_mul]
 have e2 : ∀ {a b : Nat}, (a : Int) * (b : Int) = ((a * b : Nat) : Int) := fun {a b} => by simp
 unfold fS
 by_cases hq : q < 0
 ·have hr := h1.1 hq
  have q1 : q.num = -(q.num.natAbs : Int) := by have := fl.1 hq; omega
  have r1 : r.num = -(r.num.natAbs : Int) := by have := fl.1 hr; omega
  have l1 : q < r ↔ r.num.natAbs * q.den < q.num.natAbs * r.den := by
   rw [Rat.lt_iff]
   conv => lhs; rw [q1, r1, e1, e1]
   omega
  have l2 : r < q ↔ q.num.natAbs * r.den < r.num.natAbs * q.den := by
   rw [Rat.lt_iff]
   conv => lhs; rw [q1, r1, e1, e1]
   omega
  rw [if_pos hq, QI]
  unfold bO
  simp only [l1, l2]
 ·have hr : ¬ r < 0 := fun h => hq (h1.2 h)
  have q1 : q.num = (q.num.natAbs : Int) := by have : ¬ q.num < 0 := fun h => hq (fl.2 h); omega
  have r1 : r.num = (r.num.natAbs : Int) := by have : ¬ r.num < 0 := fun h => hr (fl.2 h); omega
  have l1 : q < r ↔ q.num.natAbs * r.den < r.num.natAbs * q.den := by
   rw [Rat.lt_iff]
   conv => lhs; rw [q1, r1, e2, e2]
   omega
  have l2 : r < q ↔ r.num.natAbs * q.den < q.num.natAbs * r.den := by
   rw [Rat.lt_iff]
   conv => lhs; rw [q1, r1, e2, e2]
   omega
  rw [if_neg hq]
  unfold bO
  simp only [l1, l2]
theorem BO {q r : Rat} {n m : Nat} (hn : n < 2 ^ 42) (hm' : m < 2 ^ 42) (K : Nat) (pre : aD) : aB P mX K [.rat q n, .rat r m] pre (aH (.int .i64 (fS q r)) []) := by
 refine gl fun ⟨hq, hr, _⟩ => ?_
 have hq : Sz q n := hq
 have hr : Sz r m := hr
 obtain ⟨a1, a2, a3⟩ := Sz.gX hq (by omega)
 obtain ⟨b1, b2, b3⟩ := Sz.gX hr (by omega)
 have d1 := q.den_nz
 have d2 := r.den_nz
 have m1 : nl (q.num.natAbs * r.den) < 2 ^ 40 := gW (n := n + m) (by rw [Nat.pow_add]; exact Nat.mul_lt_mul'' hq.1 hr.2) (by omega)
 have m2 : nl (r.num.natAbs * q.den) < 2 ^ 40 := gW (n := m + n) (by rw [Nat.pow_add]; exact Nat.mul_lt_mul'' hr.1 hq.2) (by omega)
 refine bF hT iJ hm SV rfl (of_decide_eq_true (by kernel_rfl)) rfl 60 aaR (fun _ => ?_) K pre
 simp only [aa.all, ax, bne_iff_ne, ne_eq, bne_eq_false_iff_eq]
 refine ⟨⟨by omega, by omega, by omega, by omega⟩, fun hs => ⟨fun hl => br ?_, fun hl => br ?_⟩, fun hs => ⟨by omega, ⟨by omega, by omega, a3, b3⟩, fun hd => ⟨⟨by omega, by omega, a1, b1⟩, by omega, fun hc => br ?_, fun hc => br ?_⟩, fun hd => ⟨by omega, fun hp => ⟨hp, fun hp2 => ?_, fun hp2 => ⟨⟨by omega, by omega, a1, b2, by omega, by omega, b1, a2, m1, m2⟩, by omega, fun hc => br ?_, fun hc => br ?_⟩⟩, fun hp => ⟨hp, fun h => by simp at h, fun _ => ⟨⟨by omega, by omega, a1, b2, by omega, by omega, b1, a2, m1, m2⟩, by omega, fun hc => br ?_, fun hc => br ?_⟩⟩⟩⟩⟩
 ·rw [wZ hs, if_pos (of_decide_eq_true hl)]
 ·rw [wZ hs, if_neg (of_decide_eq_false hl)]
 ·have hd := of_decide_eq_true hd
  have e : q.den = r.den := by split at hd <;> split at hd <;> omega
  rw [kO hs, if_pos (of_decide_eq_true hc), e, GY (by omega), wG]
 ·have hd := of_decide_eq_true hd
  have e : q.den = r.den := by split at hd <;> split at hd <;> omega
  rw [kO hs, if_neg (of_decide_eq_false hc), e, GY (by omega)]
 ·have hp2 := gr hp2
  obtain ⟨q1, q2⟩ := l5 hp
  obtain ⟨r1, r2⟩ := l5 hp2
  rw [if_pos hp, if_pos hp2, if_pos hp2, if_pos hp, (kG q1 r2).1, (kG r1 q2).1]
  have hcs := kO hs
  generalize q.num.natAbs * r.den = X at *
  generalize r.num.natAbs * q.den = Y at *
  unfold bO at hcs
  refine ⟨fun h1 => ⟨by omega, fun hc => br ?_, fun hc => br ?_⟩, fun h1 => ⟨fun h2 => ⟨by omega, fun hc => br ?_, fun hc => br ?_⟩, fun h2 => ⟨by omega, fun hc => br ?_, fun hc => br ?_⟩⟩⟩
  all_goals rw [hcs]
  ·rw [if_pos (of_decide_eq_true hc), if_pos (by have := of_decide_eq_true h1; omega)]; rfl
  ·rw [if_neg (of_decide_eq_false hc), if_pos (by have := of_decide_eq_true h1; omega)]
  ·rw [if_pos (of_decide_eq_true hc), if_neg (by have := of_decide_eq_false h1; omega), if_pos (by have := of_decide_eq_true h2; omega)]
  ·rw [if_neg (of_decide_eq_false hc), if_neg (by have := of_decide_eq_false h1; omega), if_pos (by have := of_decide_eq_true h2; omega)]
  ·rw [if_pos (of_decide_eq_true hc), if_neg (by have := of_decide_eq_false h1; omega), if_neg (by have := of_decide_eq_false h2; omega)]; rfl
  ·rw [if_neg (of_decide_eq_false hc), if_neg (by have := of_decide_eq_false h1; omega), if_neg (by have := of_decide_eq_false h2; omega)]
 ·rw [kO hs, if_pos (of_decide_eq_true hc), wG]
 ·rw [kO hs, if_neg (of_decide_eq_false hc)]
 ·rw [kO hs, if_pos (of_decide_eq_true hc), wG]
 ·rw [kO hs, if_neg (of_decide_eq_false hc)]
theorem Xg : ∀ K args pre r, Kj K args pre = some r → aB P mX K args pre r := by
 refine bJ fun K args r hk hs _ => ?_
 split at hs
 ·simp only [Option.some.injEq] at hs
  subst hs
  exact fun need => BO need.1 need.2 K [] trivial
 ·simp at hs
theorem qp : bh P GA := aE O7 (aE Xg (aE Ph (aE Pr (aE Km (aE J7 aY)))))
section ops
variable {q r : Rat} {n m : Nat}
theorem Ik (hn : n < 2 ^ 42) (hm' : m < 2 ^ 42) (K : Nat) : aB P v5 K [.rat q n, .rat r m] [] (aH (.rat (q + r) (n + m + 1)) []) := by
 refine bF hT qp hm V4 rfl (of_decide_eq_true (by kernel_rfl)) rfl 60 SC (fun _ => ?_) K []
 simp only [aa.all, ax, ir]
 exact ⟨⟨by omega, by omega, by omega, hn, hm', by omega⟩, by omega, .refl _⟩
theorem Rh (r : Rat) : sQ (!decide (r < 0)) r.num.natAbs r.den = -r := by
 have h := ir r
 conv => rhs; rw [← h]
 unfold sQ
 rw [Rat.neg_mkRat]
 congr 1
 unfold eF
 by_cases h : r < 0 <;> simp [h]
theorem Jj (hn : n < 2 ^ 42) (hm' : m < 2 ^ 42) (K : Nat) : aB P rY K [.rat q n, .rat r m] [] (aH (.rat (q - r) (n + m + 1)) []) := by
 refine bF hT qp hm PF rfl (of_decide_eq_true (by kernel_rfl)) rfl 60 Ms (fun _ => ?_) K []
 simp only [aa.all, ax, Rh]
 exact ⟨⟨by omega, by omega, by omega, hn, hm', by omega⟩, by omega, cR (by rw [Rat.sub_eq_add_neg])⟩
def xk (q r : Rat) : Rat := if r < q then r else q
def w7 (q r : Rat) : Rat := if q < r then r else q
theorem wu {q r : Rat} : fS q r < 0 ↔ q < r := by unfold fS; grind
theorem DJ {q r : Rat} : fS q r > 0 ↔ r < q := by unfold fS; grind
theorem Qn (hn : n < 2 ^ 42) (hm' : m < 2 ^ 42) (K : Nat) : aB P y9 K [.rat q n, .rat r m] [] (aH (.rat (xk q r) (max n m)) []) := by
 refine bF hT qp hm Qr rfl (of_decide_eq_true (by kernel_rfl)) rfl 60 Qw (fun _ => ?_) K []
 simp only [aa.all, ax, decide_eq_true_eq, decide_eq_false_iff_not, wu]
 refine ⟨⟨by omega, by omega, hm', hn⟩, fun h => ⟨⟨by omega, by omega⟩, ⟨by omega, by omega, by omega⟩, by omega, ?_⟩, fun h => ⟨⟨by omega, by omega, by omega⟩, by omega, ?_⟩⟩
 ·unfold xk; rw [if_pos h]; exact dF (Nat.le_max_right _ _)
 ·unfold xk; rw [if_neg h]; exact dF (Nat.le_max_left _ _)
theorem abf (hn : n < 2 ^ 42) (hm' : m < 2 ^ 42) (K : Nat) : aB P xH K [.rat q n, .rat r m] [] (aH (.rat (w7 q r) (max n m)) []) := by
 refine bF hT qp hm NV rfl (of_decide_eq_true (by kernel_rfl)) rfl 60 YH (fun _ => ?_) K []
 simp only [aa.all, ax, decide_eq_true_eq, decide_eq_false_iff_not, DJ]
 refine ⟨⟨by omega, by omega, hm', hn⟩, fun h => ⟨⟨by omega, by omega⟩, ⟨by omega, by omega, by omega⟩, by omega, ?_⟩, fun h => ⟨⟨by omega, by omega, by omega⟩, by omega, ?_⟩⟩
 ·unfold w7; rw [if_pos h]; exact dF (Nat.le_max_right _ _)
 ·unfold w7; rw [if_neg h]; exact dF (Nat.le_max_left _ _)
theorem Z7 {n : Int} : sQ (decide (n < 0)) n.natAbs 1 = (n : Rat) := by
 unfold sQ
 have : eF (decide (n < 0)) n.natAbs = n := by unfold eF; by_cases h : n < 0 <;> simp [h] <;> omega
 rw [this, Rat.mkRat_one]
theorem AO {n : Int} : Sz (n : Rat) (max 1 (aV n.natAbs)) := by
 refine ⟨?_, ?_⟩
 ·rw [Rat.num_intCast]
  exact Nat.lt_of_lt_of_le (gj.1 (Nat.le_refl _)) (Nat.pow_le_pow_right (by omega) (Nat.le_max_right _ _))
 ·rw [Rat.den_intCast]
  exact Nat.lt_of_lt_of_le (show 1 < 2 ^ 1 by omega) (Nat.pow_le_pow_right (by omega) (Nat.le_max_left _ _))
theorem JX {n : Int} (h1 : -2 ^ 63 ≤ n) (h2 : n < 2 ^ 63) (K : Nat) : aB P mZ K [.int .i64 n] [] (aH (.rat (n : Rat) (max 1 (aV n.natAbs))) []) := by
 refine bF hT qp hm OE rfl (of_decide_eq_true (by kernel_rfl)) rfl 60 abe (fun _ => ?_) K []
 simp only [aa.all, ax, Z7]
 exact ⟨⟨h1, h2, gW (n := 64) (by omega) (by omega), by decide, by omega⟩, by omega, eA rfl AO⟩
theorem CT (hn : n < 2 ^ 42) (hm' : m < 2 ^ 42) (K : Nat) : aB P rR K [.rat q n, .rat r m] [] (aH (.rat (q * r) (n + m)) []) := by
 refine gl fun ⟨hq, hr, _⟩ => ?_
 have hq : Sz q n := hq
 have hr : Sz r m := hr
 obtain ⟨a1, a2, a3⟩ := Sz.gX hq (by omega)
 obtain ⟨b1, b2, b3⟩ := Sz.gX hr (by omega)
 have d1 := q.den_nz
 have d2 := r.den_nz
 have m1 : nl (q.num.natAbs * r.num.natAbs) < 2 ^ 40 := gW (n := n + m) (by rw [Nat.pow_add]; exact Nat.mul_lt_mul'' hq.1 hr.1) (by omega)
 have m2 : nl (q.den * r.den) < 2 ^ 40 := gW (n := n + m) (by rw [Nat.pow_add]; exact Nat.mul_lt_mul'' hq.2 hr.2) (by omega)
 have hz := hq.mul hr
 have hv : sQ (decide (q < 0) != decide (r < 0)) (q.num.natAbs * r.num.natAbs) (q.den * r.den) = q * r := by rw [← Ag, ir, ir]
 have hzero : q = 0 ∨ r = 0 → bD (.agg [.bool false, .mag 0, .mag 0]) (.rat (q * r) (n + m)) := by
  intro h
  have e : q * r = 0 := by rcases h with h | h <;> subst h <;> simp
  obtain ⟨k, hk⟩ : ∃ k, n + m = k + 1 := ⟨n + m - 1, by have := hq.pos; omega⟩
  rw [e, hk]; exact jh
 refine bF hT iJ hm R9 rfl (of_decide_eq_true (by kernel_rfl)) rfl 60 OR (fun _ => ?_) K []
 have hlong : (aa.af
         [(0 : Nat) < 1, (0 : Nat) < 1, (0 : Nat) < 1, (0 : Nat) < 1, nl q.num.natAbs < 2 ^ 40, nl r.num.natAbs < 2 ^ 40, (0 : Nat) < 1, (0 : Nat) < 1, nl q.den < 2 ^ 40, nl r.den < 2 ^ 40, nl (q.num.natAbs * r.num.natAbs) < 2 ^ 40, nl (q.den * r.den) < 2 ^ 40, (0 : Nat) < 1]
         (aa.af [(0 : Nat) < 1]
          (aa.leaf ah.ret
           [AV.rat (sQ (decide (q < (0 : Rat)) != decide (r < (0 : Rat))) (q.num.natAbs * r.num.natAbs) (q.den * r.den))
             (bW (sQ (decide (q < (0 : Rat)) != decide (r < (0 : Rat))) (q.num.natAbs * r.num.natAbs) (q.den * r.den)))]))).all fun _ us => dL us (.rat (q * r) (n + m)) := by
  simp only [aa.all, ax]
  exact ⟨⟨by omega, by omega, by omega, by omega, a1, b1, by omega, by omega, a2, b2, m1, m2, by omega⟩, by omega, eA hv hz⟩
 refine ⟨fun hb => ⟨⟨show 0 < 1 by omega, hb⟩, fun _ => ⟨show 0 < 1 by omega, show 0 < 1 by omega, hzero (.inl ?_)⟩, fun h => by simp at h⟩, fun hb => ⟨⟨show 0 < 1 by omega, hb, show 0 < 1 by omega⟩, fun hc => ⟨show 0 < 1 by omega, show 0 < 1 by omega, hzero (.inr ?_)⟩, fun hc => ⟨show 0 < 1 by omega, fun h1 => ⟨show 0 < 1 by omega, fun h2 => ?_, fun h2 => hlong⟩, fun h1 => hlong⟩⟩⟩
 ·have := eq_of_beq hb
  exact kT.1 (gU.1 (by omega))
 ·have := eq_of_beq (fG hc)
  exact kT.1 (gU.1 (by omega))
 ·obtain ⟨q1, q2⟩ := l5 h1
  obtain ⟨r1, r2⟩ := l5 h2
  obtain ⟨wx, bx⟩ := kG q1 r1
  obtain ⟨wd, bd⟩ := kG q2 r2
  have hd0 : q.den * r.den ≠ 0 := Nat.mul_ne_zero d1 d2
  rw [if_pos h1, if_pos h2, if_pos h1, if_pos h2, wx, wd]
  simp only [aa.all, ax, Int.toNat_natCast]
  exact ⟨⟨by omega, by omega, by omega, by omega, by omega⟩, by omega, eA hv hz⟩
theorem Cl (q r : Rat) (hr : r ≠ 0) : sQ (decide (q < 0) != decide (r < 0)) (q.num.natAbs * r.den) (q.den * r.num.natAbs) = q / r := by
 have hn : r.num ≠ 0 := fun h => hr (Rat.num_eq_zero.1 h)
 have hi : r⁻¹ = sQ (decide (r < 0)) r.den r.num.natAbs := by
  rw [← ir r⁻¹]
  have e1 : r⁻¹.num.natAbs = r.den := by rw [Rat.num_inv, Int.natAbs_mul, Int.natAbs_natCast, Int.natAbs_sign_of_ne_zero hn, Nat.one_mul]
  have e2 : r⁻¹.den = r.num.natAbs := by rw [Rat.den_inv, if_neg hn]
  have e3 : decide (r⁻¹ < 0) = decide (r < 0) := by
   rw [decide_eq_decide, fl, fl, Rat.num_inv]
   have hd := r.den_nz
   have hd' : (0 : Int) < (r.den : Int) := by omega
   rcases Int.lt_trichotomy r.num 0 with h | h | h
   ·rw [Int.sign_eq_neg_one_of_neg h]; omega
   ·exact absurd h hn
   ·rw [Int.sign_eq_one_of_pos h]; omega
  rw [e1, e2, e3]
 rw [Rat.div_def, hi]
 conv => rhs; rw [← ir q]
 rw [Ag]
theorem RJ (hn : n < 2 ^ 42) (hm' : m < 2 ^ 42) (K : Nat) : aB P xz K [.rat q n, .rat r m] [] (aH (.tuple [.rat (q / r) (n + m), .int .i64 (if r = 0 then 3 else 0)]) []) := by
 refine gl fun ⟨hq, hr, _⟩ => ?_
 have hq : Sz q n := hq
 have hr : Sz r m := hr
 obtain ⟨a1, a2, a3⟩ := Sz.gX hq (by omega)
 obtain ⟨b1, b2, b3⟩ := Sz.gX hr (by omega)
 have d1 := q.den_nz
 have d2 := r.den_nz
 have m1 : nl (q.num.natAbs * r.den) < 2 ^ 40 := gW (n := n + m) (by rw [Nat.pow_add]; exact Nat.mul_lt_mul'' hq.1 hr.2) (by omega)
 have m2 : nl (q.den * r.num.natAbs) < 2 ^ 40 := gW (n := n + m) (by rw [Nat.pow_add]; exact Nat.mul_lt_mul'' hq.2 hr.1) (by omega)
 have hz := hq.div hr
 have sg : ∀ {x : Rat}, dA x = 0 ↔ x = 0 := by intro x; unfold dA; grind
 refine bF hT iJ hm Nn rfl (of_decide_eq_true (by kernel_rfl)) rfl 60 ZR (fun _ => ?_) K []
 refine ⟨⟨show 0 < 1 by omega, show m < 2 ^ 44 by omega⟩, fun hb => ⟨show 0 < 1 by omega, show 0 < 1 by omega, ?_, ?_, trivial⟩, fun hb => ⟨show 0 < 1 by omega, ?_⟩⟩
 ·have h0 : r = 0 := sg.1 (eq_of_beq hb)
  have e : q / r = 0 := by rw [h0, Rat.div_def, Rat.inv_zero, Rat.mul_zero]
  obtain ⟨k, hk⟩ : ∃ k, n + m = k + 1 := ⟨n + m - 1, by have := hq.pos; omega⟩
  rw [e, hk]; exact jh
 ·have h0 : r = 0 := sg.1 (eq_of_beq hb)
  exact br (by rw [if_pos h0])
 have h0 : r ≠ 0 := fun h => by
  rw [h] at hb
  simp [dA] at hb
 have hv := Cl q r h0
 have he : bD (.int .i64 0) (.int .i64 (if r = 0 then 3 else 0)) := br (by rw [if_neg h0])
 have hlong : (aa.af
         [(0 : Nat) < 1, (0 : Nat) < 1, (0 : Nat) < 1, (0 : Nat) < 1, nl q.num.natAbs < 2 ^ 40, nl r.den < 2 ^ 40, (0 : Nat) < 1, (0 : Nat) < 1, nl q.den < 2 ^ 40, nl r.num.natAbs < 2 ^ 40, nl (q.num.natAbs * r.den) < 2 ^ 40, nl (q.den * r.num.natAbs) < 2 ^ 40, (0 : Nat) < 1]
         (aa.af [(0 : Nat) < 1]
          (aa.leaf ah.ret
           [AV.rat (sQ (decide (q < (0 : Rat)) != decide (r < (0 : Rat))) (q.num.natAbs * r.den) (q.den * r.num.natAbs))
             (bW (sQ (decide (q < (0 : Rat)) != decide (r < (0 : Rat))) (q.num.natAbs * r.den) (q.den * r.num.natAbs))), .int .i64 0]))).all fun _ us => dL us (.tuple [.rat (q / r) (n + m), .int .i64 (if r = 0 then 3 else 0)]) := by
  simp only [aa.all, ax]
  exact ⟨⟨by omega, by omega, by omega, by omega, a1, b2, by omega, by omega, a2, b1, m1, m2, by omega⟩, by omega, eA hv hz, he, trivial⟩
 refine ⟨fun h1 => ⟨show 0 < 1 by omega, fun h2 => ?_, fun h2 => hlong⟩, fun h1 => hlong⟩
 obtain ⟨q1, q2⟩ := l5 h1
 obtain ⟨r1, r2⟩ := l5 h2
 obtain ⟨wx, bx⟩ := kG q1 r2
 obtain ⟨wd, bd⟩ := kG q2 r1
 have hr0 : r.num.natAbs ≠ 0 := fun h => h0 (kT.1 h)
 have hd0 : q.den * r.num.natAbs ≠ 0 := Nat.mul_ne_zero d1 hr0
 rw [if_pos h1, if_pos h2, if_pos h1, if_pos h2, wx, wd]
 simp only [aa.all, ax, Int.toNat_natCast]
 exact ⟨⟨by omega, by omega, by omega, by omega, by omega⟩, by omega, eA hv hz, he, trivial⟩
end ops
def Cg : Spec := bt fun l => match l with
 | [.int .i64 n] => some (aH (.rat (n : Rat) (max 1 (aV n.natAbs))) [-2 ^ 63 ≤ n, n < 2 ^ 63])
 | _ => none
theorem Gb : ∀ K args pre r, Cg K args pre = some r → aB P mZ K args pre r := by
 refine bJ fun K args r hk hs _ => ?_
 split at hs
 ·simp only [Option.some.injEq] at hs
  subst hs
  exact fun need => JX need.1 need.2 K trivial
 ·simp at hs
end Go.Am.B
