/- rational.Add, Sub, Mul, Quo, Cmp, Min, Max, Int. -/
import Derived.Test.YtbghpkgbokbmlaaGreatB20
set_option linter.unusedVariables false
namespace Go.Am.B
open Go Go.Am.N AV
theorem Wg : aP P wM wH (au wH) := aL WT (by kernel_rfl) (by kernel_rfl) (by kernel_rfl)
theorem SM : aP P td sn (au sn) := aL ac8 (by kernel_rfl) (by kernel_rfl) (by kernel_rfl)
theorem Ns : aP P za wQ (au wQ) := aL MN (by kernel_rfl) (by kernel_rfl) (by kernel_rfl)
theorem Tz : aP P xm sw (au sw) := aL LP (by kernel_rfl) (by kernel_rfl) (by kernel_rfl)
theorem aa4 : aP P oI tX (au tX) := aL aat (by kernel_rfl) (by kernel_rfl) (by kernel_rfl)
def IE : Spec := bt fun l => match l with
 | [.rat q n, .rat r m, .bool s] => some (aF (.rat (q + sQ s r.num.natAbs r.den) (n + m + 1)) [n < 2 ^ 42, m < 2 ^ 42])
 | _ => none
def HL : Spec := bt fun l => match l with
 | [.rat q n, .rat r m] => some (aF (.int .i64 (eV q r)) [n < 2 ^ 42, m < 2 ^ 42])
 | _ => none
def GA : aQ := (rM, IE) :: (nU, HL) :: (uX, EL) :: (s6, Kf) :: (pV, CD) :: (o8, CX) :: []
theorem YU {q r : Rat} {n m : Nat} : bA T GA [] 60 wH (au wH) ⟨aM 0 [.rat q n, .rat r m], [], 0⟩ =
  some (aa.af [(0 : Nat) < 1, (0 : Nat) < 1, (0 : Nat) < 1, n < 2 ^ 42, m < 2 ^ 42, (0 : Nat) < 1] (aa.af [(0 : Nat) < 1] (aa.leaf ag.ret [rat (q + sQ (decide (r < 0)) r.num.natAbs r.den) (n + m + 1)]))) := by kernel_rfl
theorem ab3 {q r : Rat} {n m : Nat} : bA T GA [] 60 sn (au sn) ⟨aM 0 [.rat q n, .rat r m], [], 0⟩ =
  some (aa.af [(0 : Nat) < 1, (0 : Nat) < 1, (0 : Nat) < 1, n < 2 ^ 42, m < 2 ^ 42, (0 : Nat) < 1] (aa.af [(0 : Nat) < 1] (aa.leaf ag.ret [rat (q + sQ (!decide (r < 0)) r.num.natAbs r.den) (n + m + 1)]))) := by kernel_rfl
theorem Qi {q r : Rat} {n m : Nat} : bA T GA [8] 60 wQ (au wQ) ⟨aM 0 [.rat q n, .rat r m], [], 0⟩ =
  some (aa.af [(0 : Nat) < 1, (0 : Nat) < 1, m < 2 ^ 42, n < 2 ^ 42] (aa.fork (decide (eV r q < (0 : Int))) (aa.af [(0 : Nat) < 1, (0 : Nat) < 1] (aa.af [(0 : Nat) < 1, m < 2 ^ 44, (0 : Nat) < 1] (aa.af [(0 : Nat) < 1] (aa.leaf ag.ret [rat r m])))) (aa.af [(0 : Nat) < 1, n < 2 ^ 44, (0 : Nat) < 1] (aa.af [(0 : Nat) < 1] (aa.leaf ag.ret [rat q n]))))) := by kernel_rfl
theorem ac6 {q r : Rat} {n m : Nat} : bA T GA [8] 60 sw (au sw) ⟨aM 0 [.rat q n, .rat r m], [], 0⟩ =
  some (aa.af [(0 : Nat) < 1, (0 : Nat) < 1, m < 2 ^ 42, n < 2 ^ 42] (aa.fork (decide (eV r q > (0 : Int))) (aa.af [(0 : Nat) < 1, (0 : Nat) < 1] (aa.af [(0 : Nat) < 1, m < 2 ^ 44, (0 : Nat) < 1] (aa.af [(0 : Nat) < 1] (aa.leaf ag.ret [rat r m])))) (aa.af [(0 : Nat) < 1, n < 2 ^ 44, (0 : Nat) < 1] (aa.af [(0 : Nat) < 1] (aa.leaf ag.ret [rat q n]))))) := by kernel_rfl
theorem RA {n : Int} : bA T GA [] 60 tX (au tX) ⟨aM 0 [.int .i64 n], [], 0⟩ =
  some (aa.af [-(2 : Int) ^ 63 ≤ n, n < (2 : Int) ^ 63, nl n.natAbs < 2 ^ 40, nl 1 < 2 ^ 40, (0 : Nat) < 1] (aa.af [(0 : Nat) < 1] (aa.leaf ag.ret [rat (sQ (decide (n < (0 : Int))) n.natAbs 1) (bV (sQ (decide (n < (0 : Int))) n.natAbs 1))]))) := by kernel_rfl
theorem N4 {q r : Rat} {n m : Nat} : bA T GQ [20, 23, 34, 47, 49, 56, 63, 76] 60 sx (au sx) ⟨aM 0 [.rat q n, .rat r m], [], 0⟩ =
  some (aa.af [(0 : Nat) < 1, n < 2 ^ 44, (0 : Nat) < 1, m < 2 ^ 44] (aa.fork (dD q != dD r) (aa.fork (decide (dD q < dD r)) (aa.leaf ag.ret [int IntKind.i64 (-1 : Int)]) (aa.leaf ag.ret [int IntKind.i64 (1 : Int)])) (aa.af [(0 : Nat) < 1] (aa.af [(0 : Nat) < 1, (0 : Nat) < 1, nl (if q.den = 1 then 0 else q.den) < 2 ^ 40, nl (if r.den = 1 then 0 else r.den) < 2 ^ 40] (aa.fork (decide ((if q.den = 1 then 0 else q.den) = if r.den = 1 then 0 else r.den)) (aa.af [(0 : Nat) < 1, (0 : Nat) < 1, nl q.num.natAbs < 2 ^ 40, nl r.num.natAbs < 2 ^ 40] (aa.af [(0 : Nat) < 1] (aa.fork (decide (q < 0)) (aa.leaf ag.ret [int IntKind.i64 (IntKind.i64.wrap ((0 : Int) - bN q.num.natAbs r.num.natAbs))]) (aa.leaf ag.ret [int IntKind.i64 (bN q.num.natAbs r.num.natAbs)])))) (aa.af [(0 : Nat) < 1] (aa.fork (bg q) (aa.af [bg q = true] (aa.fork (bif true then bg r else false) (aa.fork (decide (IntKind.u64.wrap ((↑(if bg q = true then q.num.natAbs else 0) : Int) * (↑(if bg r = true then r.den else 0) : Int)) < IntKind.u64.wrap ((↑(if bg r = true then r.num.natAbs else 0) : Int) * (↑(if bg q = true then q.den else 0) : Int)))) (aa.af [(0 : Nat) < 1] (aa.fork (decide (q < 0)) (aa.leaf ag.ret [int IntKind.i64 (1 : Int)]) (aa.leaf ag.ret [int IntKind.i64 (-1 : Int)]))) (aa.fork (decide (IntKind.u64.wrap ((↑(if bg q = true then q.num.natAbs else 0) : Int) * (↑(if bg r = true then r.den else 0) : Int)) > IntKind.u64.wrap ((↑(if bg r = true then r.num.natAbs else 0) : Int) * (↑(if bg q = true then q.den else 0) : Int)))) (aa.af [(0 : Nat) < 1] (aa.fork (decide (q < 0)) (aa.leaf ag.ret [int IntKind.i64 (-1 : Int)]) (aa.leaf ag.ret [int IntKind.i64 (1 : Int)]))) (aa.af [(0 : Nat) < 1] (aa.fork (decide (q < 0)) (aa.leaf ag.ret [int IntKind.i64 (0 : Int)]) (aa.leaf ag.ret [int IntKind.i64 (0 : Int)]))))) (aa.af [(0 : Nat) < 1, (0 : Nat) < 1, nl q.num.natAbs < 2 ^ 40, nl r.den < 2 ^ 40, (0 : Nat) < 1, (0 : Nat) < 1, nl r.num.natAbs < 2 ^ 40, nl q.den < 2 ^ 40, nl (q.num.natAbs * r.den) < 2 ^ 40, nl (r.num.natAbs * q.den) < 2 ^ 40] (aa.af [(0 : Nat) < 1] (aa.fork (decide (q < 0)) (aa.leaf ag.ret [int IntKind.i64 (IntKind.i64.wrap ((0 : Int) - bN (q.num.natAbs * r.den) (r.num.natAbs * q.den)))]) (aa.leaf ag.ret [int IntKind.i64 (bN (q.num.natAbs * r.den) (r.num.natAbs * q.den))])))))) (aa.af [bg q = false] (aa.fork false (aa.fork (decide (IntKind.u64.wrap ((↑(if bg q = true then q.num.natAbs else 0) : Int) * (↑(if bg r = true then r.den else 0) : Int)) < IntKind.u64.wrap ((↑(if bg r = true then r.num.natAbs else 0) : Int) * (↑(if bg q = true then q.den else 0) : Int)))) (aa.af [(0 : Nat) < 1] (aa.fork (decide (q < 0)) (aa.leaf ag.ret [int IntKind.i64 (1 : Int)]) (aa.leaf ag.ret [int IntKind.i64 (-1 : Int)]))) (aa.fork (decide (IntKind.u64.wrap ((↑(if bg q = true then q.num.natAbs else 0) : Int) * (↑(if bg r = true then r.den else 0) : Int)) > IntKind.u64.wrap ((↑(if bg r = true then r.num.natAbs else 0) : Int) * (↑(if bg q = true then q.den else 0) : Int)))) (aa.af [(0 : Nat) < 1] (aa.fork (decide (q < 0)) (aa.leaf ag.ret [int IntKind.i64 (-1 : Int)]) (aa.leaf ag.ret [int IntKind.i64 (1 : Int)]))) (aa.af [(0 : Nat) < 1] (aa.fork (decide (q < 0)) (aa.leaf ag.ret [int IntKind.i64 (0 : Int)]) (aa.leaf ag.ret [int IntKind.i64 (0 : Int)]))))) (aa.af [(0 : Nat) < 1, (0 : Nat) < 1, nl q.num.natAbs < 2 ^ 40, nl r.den < 2 ^ 40, (0 : Nat) < 1, (0 : Nat) < 1, nl r.num.natAbs < 2 ^ 40, nl q.den < 2 ^ 40, nl (q.num.natAbs * r.den) < 2 ^ 40, nl (r.num.natAbs * q.den) < 2 ^ 40] (aa.af [(0 : Nat) < 1] (aa.fork (decide (q < 0)) (aa.leaf ag.ret [int IntKind.i64 (IntKind.i64.wrap ((0 : Int) - bN (q.num.natAbs * r.den) (r.num.natAbs * q.den)))]) (aa.leaf ag.ret [int IntKind.i64 (bN (q.num.natAbs * r.den) (r.num.natAbs * q.den))]))))))))))))) := by kernel_rfl
theorem ZE : ∀ K args pre r, IE K args pre = some r → az P rM K args pre r := by
 refine bH fun K args r hk hs _ => ?_
 split at hs
 ·simp only [Option.some.injEq] at hs
  subst hs
  exact fun need => Xx need.1 need.2 K [] trivial
 ·simp at hs
theorem z8 {q r : Rat} (h : dD q ≠ dD r) : eV q r = if dD q < dD r then -1 else 1 := by
 unfold dD eV at *
 grind
theorem Wb {a b : Nat} : -bN a b = bN b a := by unfold bN; split <;> split <;> omega
theorem Ed {a b k : Nat} (hk : 0 < k) : bN (a * k) (b * k) = bN a b := by
 unfold bN
 simp only [Nat.mul_lt_mul_right hk]
theorem yo {a b : Nat} : IntKind.i64.wrap (0 - bN a b) = -bN a b := by
 have : bN a b = -1 ∨ bN a b = 0 ∨ bN a b = 1 := by unfold bN; split; exact .inl rfl; split; exact .inr (.inr rfl); exact .inr (.inl rfl)
 rcases this with h | h | h <;> rw [h] <;> rfl
theorem k9 {q r : Rat} (h : dD q = dD r) : eV q r = if q < 0 then -bN (q.num.natAbs * r.den) (r.num.natAbs * q.den) else bN (q.num.natAbs * r.den) (r.num.natAbs * q.den) := by
 have h1 : q < 0 ↔ r < 0 := by unfold dD at h; grind
 have e1 : ∀ {a b : Nat}, (-(a : Int)) * (b : Int) = -((a * b : Nat) : Int) := fun {a b} => by simp [Int.neg_mul]
 have e2 : ∀ {a b : Nat}, (a : Int) * (b : Int) = ((a * b : Nat) : Int) := fun {a b} => by simp
 unfold eV
 by_cases hq : q < 0
 ·have hr := h1.1 hq
  have q1 : q.num = -(q.num.natAbs : Int) := by have := fy.1 hq; omega
  have r1 : r.num = -(r.num.natAbs : Int) := by have := fy.1 hr; omega
  have l1 : q < r ↔ r.num.natAbs * q.den < q.num.natAbs * r.den := by
   rw [Rat.lt_iff]
   conv => lhs; rw [q1, r1, e1, e1]
   omega
  have l2 : r < q ↔ q.num.natAbs * r.den < r.num.natAbs * q.den := by
   rw [Rat.lt_iff]
   conv => lhs; rw [q1, r1, e1, e1]
   omega
  rw [if_pos hq, Wb]
  unfold bN
  simp only [l1, l2]
 ·have hr : ¬ r < 0 := fun h => hq (h1.2 h)
  have q1 : q.num = (q.num.natAbs : Int) := by have : ¬ q.num < 0 := fun h => hq (fy.2 h); omega
  have r1 : r.num = (r.num.natAbs : Int) := by have : ¬ r.num < 0 := fun h => hr (fy.2 h); omega
  have l1 : q < r ↔ q.num.natAbs * r.den < r.num.natAbs * q.den := by
   rw [Rat.lt_iff]
   conv => lhs; rw [q1, r1, e2, e2]
   omega
  have l2 : r < q ↔ r.num.natAbs * q.den < q.num.natAbs * r.den := by
   rw [Rat.lt_iff]
   conv => lhs; rw [q1, r1, e2, e2]
   omega
  rw [if_neg hq]
  unfold bN
  simp only [l1, l2]
theorem Dz {q r : Rat} {n m : Nat} (hn : n < 2 ^ 42) (hm' : m < 2 ^ 42) (K : Nat) (pre : aD) : az P nU K [.rat q n, .rat r m] pre (aF (.int .i64 (eV q r)) []) := by
 refine gA fun ⟨hq, hr, _⟩ => ?_
 have hq : Sz q n := hq
 have hr : Sz r m := hr
 obtain ⟨a1, a2, a3⟩ := Sz.g8 hq (by omega)
 obtain ⟨b1, b2, b3⟩ := Sz.g8 hr (by omega)
 have d1 := q.den_nz
 have d2 := r.den_nz
 have m1 : nl (q.num.natAbs * r.den) < 2 ^ 40 := ir (n := n + m) (by rw [Nat.pow_add]; exact Nat.mul_lt_mul'' hq.1 hr.2) (by omega)
 have m2 : nl (r.num.natAbs * q.den) < 2 ^ 40 := ir (n := m + n) (by rw [Nat.pow_add]; exact Nat.mul_lt_mul'' hr.1 hq.2) (by omega)
 refine bD hT iZ hm ZL rfl (of_decide_eq_true (by kernel_rfl)) rfl 60 N4 (fun _ => ?_) K pre
 simp only [aa.all, ax, bne_iff_ne, ne_eq, bne_eq_false_iff_eq]
 refine ⟨⟨by omega, by omega, by omega, by omega⟩, fun hs => ⟨fun hl => bq ?_, fun hl => bq ?_⟩, fun hs => ⟨by omega, ⟨by omega, by omega, a3, b3⟩, fun hd => ⟨⟨by omega, by omega, a1, b1⟩, by omega, fun hc => bq ?_, fun hc => bq ?_⟩, fun hd => ⟨by omega, fun hp => ⟨hp, fun hp2 => ?_, fun hp2 => ⟨⟨by omega, by omega, a1, b2, by omega, by omega, b1, a2, m1, m2⟩, by omega, fun hc => bq ?_, fun hc => bq ?_⟩⟩, fun hp => ⟨hp, fun h => by simp at h, fun _ => ⟨⟨by omega, by omega, a1, b2, by omega, by omega, b1, a2, m1, m2⟩, by omega, fun hc => bq ?_, fun hc => bq ?_⟩⟩⟩⟩⟩
 ·rw [z8 hs, if_pos (of_decide_eq_true hl)]
 ·rw [z8 hs, if_neg (of_decide_eq_false hl)]
 ·have hd := of_decide_eq_true hd
  have e : q.den = r.den := by split at hd <;> split at hd <;> omega
  rw [k9 hs, if_pos (of_decide_eq_true hc), e, Ed (by omega), yo]
 ·have hd := of_decide_eq_true hd
  have e : q.den = r.den := by split at hd <;> split at hd <;> omega
  rw [k9 hs, if_neg (of_decide_eq_false hc), e, Ed (by omega)]
 ·have hp2 := gD hp2
  obtain ⟨q1, q2⟩ := m9 hp
  obtain ⟨r1, r2⟩ := m9 hp2
  rw [if_pos hp, if_pos hp2, if_pos hp2, if_pos hp, (lI q1 r2).1, (lI r1 q2).1]
  have hcs := k9 hs
  generalize q.num.natAbs * r.den = X at *
  generalize r.num.natAbs * q.den = Y at *
  unfold bN at hcs
  refine ⟨fun h1 => ⟨by omega, fun hc => bq ?_, fun hc => bq ?_⟩, fun h1 => ⟨fun h2 => ⟨by omega, fun hc => bq ?_, fun hc => bq ?_⟩, fun h2 => ⟨by omega, fun hc => bq ?_, fun hc => bq ?_⟩⟩⟩
  all_goals rw [hcs]
  ·rw [if_pos (of_decide_eq_true hc), if_pos (by have := of_decide_eq_true h1; omega)]; rfl
  ·rw [if_neg (of_decide_eq_false hc), if_pos (by have := of_decide_eq_true h1; omega)]
  ·rw [if_pos (of_decide_eq_true hc), if_neg (by have := of_decide_eq_false h1; omega), if_pos (by have := of_decide_eq_true h2; omega)]
  ·rw [if_neg (of_decide_eq_false hc), if_neg (by have := of_decide_eq_false h1; omega), if_pos (by have := of_decide_eq_true h2; omega)]
  ·rw [if_pos (of_decide_eq_true hc), if_neg (by have := of_decide_eq_false h1; omega), if_neg (by have := of_decide_eq_false h2; omega)]; rfl
  ·rw [if_neg (of_decide_eq_false hc), if_neg (by have := of_decide_eq_false h1; omega), if_neg (by have := of_decide_eq_false h2; omega)]
 ·rw [k9 hs, if_pos (of_decide_eq_true hc), yo]
 ·rw [k9 hs, if_neg (of_decide_eq_false hc)]
 ·rw [k9 hs, if_pos (of_decide_eq_true hc), yo]
 ·rw [k9 hs, if_neg (of_decide_eq_false hc)]
theorem PV : ∀ K args pre r, HL K args pre = some r → az P nU K args pre r := by
 refine bH fun K args r hk hs _ => ?_
 split at hs
 ·simp only [Option.some.injEq] at hs
  subst hs
  exact fun need => Dz need.1 need.2 K [] trivial
 ·simp at hs
theorem qc : aW P GA := aC ZE (aC PV (aC XS (aC Pu (aC FO (aC FA aT)))))
section ops
variable {q r : Rat} {n m : Nat}
theorem Iy (hn : n < 2 ^ 42) (hm' : m < 2 ^ 42) (K : Nat) : az P wM K [.rat q n, .rat r m] [] (aF (.rat (q + r) (n + m + 1)) []) := by
 refine bD hT qc hm Wg rfl (of_decide_eq_true (by kernel_rfl)) rfl 60 YU (fun _ => ?_) K []
 simp only [aa.all, ax, iK]
 exact ⟨⟨by omega, by omega, by omega, hn, hm', by omega⟩, by omega, .refl _⟩
theorem PN (r : Rat) : sQ (!decide (r < 0)) r.num.natAbs r.den = -r := by
 have h := iK r
 conv => rhs; rw [← h]
 unfold sQ
 rw [Rat.neg_mkRat]
 congr 1
 unfold eH
 by_cases h : r < 0 <;> simp [h]
theorem G5 (hn : n < 2 ^ 42) (hm' : m < 2 ^ 42) (K : Nat) : az P td K [.rat q n, .rat r m] [] (aF (.rat (q - r) (n + m + 1)) []) := by
 refine bD hT qc hm SM rfl (of_decide_eq_true (by kernel_rfl)) rfl 60 ab3 (fun _ => ?_) K []
 simp only [aa.all, ax, PN]
 exact ⟨⟨by omega, by omega, by omega, hn, hm', by omega⟩, by omega, cZ (by rw [Rat.sub_eq_add_neg])⟩
def mW (q r : Rat) : Rat := if r < q then r else q
def nc (q r : Rat) : Rat := if q < r then r else q
theorem zQ {q r : Rat} : eV q r < 0 ↔ q < r := by unfold eV; grind
theorem DG {q r : Rat} : eV q r > 0 ↔ r < q := by unfold eV; grind
theorem X3 (hn : n < 2 ^ 42) (hm' : m < 2 ^ 42) (K : Nat) : az P za K [.rat q n, .rat r m] [] (aF (.rat (mW q r) (max n m)) []) := by
 refine bD hT qc hm Ns rfl (of_decide_eq_true (by kernel_rfl)) rfl 60 Qi (fun _ => ?_) K []
 simp only [aa.all, ax, decide_eq_true_eq, decide_eq_false_iff_not, zQ]
 refine ⟨⟨by omega, by omega, hm', hn⟩, fun h => ⟨⟨by omega, by omega⟩, ⟨by omega, by omega, by omega⟩, by omega, ?_⟩, fun h => ⟨⟨by omega, by omega, by omega⟩, by omega, ?_⟩⟩
 ·unfold mW; rw [if_pos h]; exact dN (Nat.le_max_right _ _)
 ·unfold mW; rw [if_neg h]; exact dN (Nat.le_max_left _ _)
theorem Xw (hn : n < 2 ^ 42) (hm' : m < 2 ^ 42) (K : Nat) : az P xm K [.rat q n, .rat r m] [] (aF (.rat (nc q r) (max n m)) []) := by
 refine bD hT qc hm Tz rfl (of_decide_eq_true (by kernel_rfl)) rfl 60 ac6 (fun _ => ?_) K []
 simp only [aa.all, ax, decide_eq_true_eq, decide_eq_false_iff_not, DG]
 refine ⟨⟨by omega, by omega, hm', hn⟩, fun h => ⟨⟨by omega, by omega⟩, ⟨by omega, by omega, by omega⟩, by omega, ?_⟩, fun h => ⟨⟨by omega, by omega, by omega⟩, by omega, ?_⟩⟩
 ·unfold nc; rw [if_pos h]; exact dN (Nat.le_max_right _ _)
 ·unfold nc; rw [if_neg h]; exact dN (Nat.le_max_left _ _)
theorem adz {n : Int} : sQ (decide (n < 0)) n.natAbs 1 = (n : Rat) := by
 unfold sQ
 have : eH (decide (n < 0)) n.natAbs = n := by unfold eH; by_cases h : n < 0 <;> simp [h] <;> omega
 rw [this, Rat.mkRat_one]
theorem Af {n : Int} : Sz (n : Rat) (max 1 (aS n.natAbs)) := by
 refine ⟨?_, ?_⟩
 ·rw [Rat.num_intCast]
  exact Nat.lt_of_lt_of_le (fR.1 (Nat.le_refl _)) (Nat.pow_le_pow_right (by omega) (Nat.le_max_right _ _))
 ·rw [Rat.den_intCast]
  exact Nat.lt_of_lt_of_le (show 1 < 2 ^ 1 by omega) (Nat.pow_le_pow_right (by omega) (Nat.le_max_left _ _))
theorem Hv {n : Int} (h1 : -2 ^ 63 ≤ n) (h2 : n < 2 ^ 63) (K : Nat) : az P oI K [.int .i64 n] [] (aF (.rat (n : Rat) (max 1 (aS n.natAbs))) []) := by
 refine bD hT qc hm aa4 rfl (of_decide_eq_true (by kernel_rfl)) rfl 60 RA (fun _ => ?_) K []
 simp only [aa.all, ax, adz]
 exact ⟨⟨h1, h2, ir (n := 64) (by omega) (by omega), by decide, by omega⟩, by omega, eG rfl Af⟩
theorem Jg (hn : n < 2 ^ 42) (hm' : m < 2 ^ 42) (K : Nat) : az P uO K [.rat q n, .rat r m] [] (aF (.rat (q * r) (n + m)) []) := by
 refine gA fun ⟨hq, hr, _⟩ => ?_
 have hq : Sz q n := hq
 have hr : Sz r m := hr
 obtain ⟨a1, a2, a3⟩ := Sz.g8 hq (by omega)
 obtain ⟨b1, b2, b3⟩ := Sz.g8 hr (by omega)
 have d1 := q.den_nz
 have d2 := r.den_nz
 have m1 : nl (q.num.natAbs * r.num.natAbs) < 2 ^ 40 := ir (n := n + m) (by rw [Nat.pow_add]; exact Nat.mul_lt_mul'' hq.1 hr.1) (by omega)
 have m2 : nl (q.den * r.den) < 2 ^ 40 := ir (n := n + m) (by rw [Nat.pow_add]; exact Nat.mul_lt_mul'' hq.2 hr.2) (by omega)
 have hz := hq.mul hr
 have hv : sQ (decide (q < 0) != decide (r < 0)) (q.num.natAbs * r.num.natAbs) (q.den * r.den) = q * r := by rw [← Bw, iK, iK]
 have hzero : q = 0 ∨ r = 0 → bn (.agg [.bool false, .mag 0, .mag 0]) (.rat (q * r) (n + m)) := by
  intro h
  have e : q * r = 0 := by rcases h with h | h <;> subst h <;> simp
  obtain ⟨k, hk⟩ : ∃ k, n + m = k + 1 := ⟨n + m - 1, by have := hq.pos; omega⟩
  rw [e, hk]; exact jI
 refine bD hT iZ hm P9 rfl (of_decide_eq_true (by kernel_rfl)) rfl 60 N7 (fun _ => ?_) K []
 have hlong : (aa.af
         [(0 : Nat) < 1, (0 : Nat) < 1, (0 : Nat) < 1, (0 : Nat) < 1, nl q.num.natAbs < 2 ^ 40, nl r.num.natAbs < 2 ^ 40, (0 : Nat) < 1, (0 : Nat) < 1, nl q.den < 2 ^ 40, nl r.den < 2 ^ 40, nl (q.num.natAbs * r.num.natAbs) < 2 ^ 40, nl (q.den * r.den) < 2 ^ 40, (0 : Nat) < 1]
         (aa.af [(0 : Nat) < 1]
          (aa.leaf ag.ret
           [AV.rat (sQ (decide (q < (0 : Rat)) != decide (r < (0 : Rat))) (q.num.natAbs * r.num.natAbs) (q.den * r.den))
             (bV (sQ (decide (q < (0 : Rat)) != decide (r < (0 : Rat))) (q.num.natAbs * r.num.natAbs) (q.den * r.den)))]))).all fun _ us => ec us (.rat (q * r) (n + m)) := by
  simp only [aa.all, ax]
  exact ⟨⟨by omega, by omega, by omega, by omega, a1, b1, by omega, by omega, a2, b2, m1, m2, by omega⟩, by omega, eG hv hz⟩
 refine ⟨fun hb => ⟨⟨show 0 < 1 by omega, hb⟩, fun _ => ⟨show 0 < 1 by omega, show 0 < 1 by omega, hzero (.inl ?_)⟩, fun h => by simp at h⟩, fun hb => ⟨⟨show 0 < 1 by omega, hb, show 0 < 1 by omega⟩, fun hc => ⟨show 0 < 1 by omega, show 0 < 1 by omega, hzero (.inr ?_)⟩, fun hc => ⟨show 0 < 1 by omega, fun h1 => ⟨show 0 < 1 by omega, fun h2 => ?_, fun h2 => hlong⟩, fun h1 => hlong⟩⟩⟩
 ·have := eq_of_beq hb
  exact kZ.1 (iC.1 (by omega))
 ·have := eq_of_beq (fQ hc)
  exact kZ.1 (iC.1 (by omega))
 ·obtain ⟨q1, q2⟩ := m9 h1
  obtain ⟨r1, r2⟩ := m9 h2
  obtain ⟨wx, bx⟩ := lI q1 r1
  obtain ⟨wd, bd⟩ := lI q2 r2
  have hd0 : q.den * r.den ≠ 0 := Nat.mul_ne_zero d1 d2
  rw [if_pos h1, if_pos h2, if_pos h1, if_pos h2, wx, wd]
  simp only [aa.all, ax, Int.toNat_natCast]
  exact ⟨⟨by omega, by omega, by omega, by omega, by omega⟩, by omega, eG hv hz⟩
theorem Bx (q r : Rat) (hr : r ≠ 0) : sQ (decide (q < 0) != decide (r < 0)) (q.num.natAbs * r.den) (q.den * r.num.natAbs) = q / r := by
 have hn : r.num ≠ 0 := fun h => hr (Rat.num_eq_zero.1 h)
 have hi : r⁻¹ = sQ (decide (r < 0)) r.den r.num.natAbs := by
  rw [← iK r⁻¹]
  have e1 : r⁻¹.num.natAbs = r.den := by rw [Rat.num_inv, Int.natAbs_mul, Int.natAbs_natCast, Int.natAbs_sign_of_ne_zero hn, Nat.one_mul]
  have e2 : r⁻¹.den = r.num.natAbs := by rw [Rat.den_inv, if_neg hn]
  have e3 : decide (r⁻¹ < 0) = decide (r < 0) := by
   rw [decide_eq_decide, fy, fy, Rat.num_inv]
   have hd := r.den_nz
   have hd' : (0 : Int) < (r.den : Int) := by omega
   rcases Int.lt_trichotomy r.num 0 with h | h | h
   ·rw [Int.sign_eq_neg_one_of_neg h]; omega
   ·exact absurd h hn
   ·rw [Int.sign_eq_one_of_pos h]; omega
  rw [e1, e2, e3]
 rw [Rat.div_def, hi]
 conv => rhs; rw [← iK q]
 rw [Bw]
theorem SX (hn : n < 2 ^ 42) (hm' : m < 2 ^ 42) (K : Nat) : az P zD K [.rat q n, .rat r m] [] (aF (.tuple [.rat (q / r) (n + m), .int .i64 (if r = 0 then 3 else 0)]) []) := by
 refine gA fun ⟨hq, hr, _⟩ => ?_
 have hq : Sz q n := hq
 have hr : Sz r m := hr
 obtain ⟨a1, a2, a3⟩ := Sz.g8 hq (by omega)
 obtain ⟨b1, b2, b3⟩ := Sz.g8 hr (by omega)
 have d1 := q.den_nz
 have d2 := r.den_nz
 have m1 : nl (q.num.natAbs * r.den) < 2 ^ 40 := ir (n := n + m) (by rw [Nat.pow_add]; exact Nat.mul_lt_mul'' hq.1 hr.2) (by omega)
 have m2 : nl (q.den * r.num.natAbs) < 2 ^ 40 := ir (n := n + m) (by rw [Nat.pow_add]; exact Nat.mul_lt_mul'' hq.2 hr.1) (by omega)
 have hz := hq.div hr
 have sg : ∀ {x : Rat}, dD x = 0 ↔ x = 0 := by intro x; unfold dD; grind
 refine bD hT iZ hm ab5 rfl (of_decide_eq_true (by kernel_rfl)) rfl 60 abt (fun _ => ?_) K []
 refine ⟨⟨show 0 < 1 by omega, show m < 2 ^ 44 by omega⟩, fun hb => ⟨show 0 < 1 by omega, show 0 < 1 by omega, ?_, ?_, trivial⟩, fun hb => ⟨show 0 < 1 by omega, ?_⟩⟩
 ·have h0 : r = 0 := sg.1 (eq_of_beq hb)
  have e : q / r = 0 := by rw [h0, Rat.div_def, Rat.inv_zero, Rat.mul_zero]
  obtain ⟨k, hk⟩ : ∃ k, n + m = k + 1 := ⟨n + m - 1, by have := hq.pos; omega⟩
  rw [e, hk]; exact jI
 ·have h0 : r = 0 := sg.1 (eq_of_beq hb)
  exact bq (by rw [if_pos h0])
 have h0 : r ≠ 0 := fun h => by
  rw [h] at hb
  simp [dD] at hb
 have hv := Bx q r h0
 have he : bn (.int .i64 0) (.int .i64 (if r = 0 then 3 else 0)) := bq (by rw [if_neg h0])
 have hlong : (aa.af
         [(0 : Nat) < 1, (0 : Nat) < 1, (0 : Nat) < 1, (0 : Nat) < 1, nl q.num.natAbs < 2 ^ 40, nl r.den < 2 ^ 40, (0 : Nat) < 1, (0 : Nat) < 1, nl q.den < 2 ^ 40, nl r.num.natAbs < 2 ^ 40, nl (q.num.natAbs * r.den) < 2 ^ 40, nl (q.den * r.num.natAbs) < 2 ^ 40, (0 : Nat) < 1]
         (aa.af [(0 : Nat) < 1]
          (aa.leaf ag.ret
           [AV.rat (sQ (decide (q < (0 : Rat)) != decide (r < (0 : Rat))) (q.num.natAbs * r.den) (q.den * r.num.natAbs))
             (bV (sQ (decide (q < (0 : Rat)) != decide (r < (0 : Rat))) (q.num.natAbs * r.den) (q.den * r.num.natAbs))), .int .i64 0]))).all fun _ us => ec us (.tuple [.rat (q / r) (n + m), .int .i64 (if r = 0 then 3 else 0)]) := by
  simp only [aa.all, ax]
  exact ⟨⟨by omega, by omega, by omega, by omega, a1, b2, by omega, by omega, a2, b1, m1, m2, by omega⟩, by omega, eG hv hz, he, trivial⟩
 refine ⟨fun h1 => ⟨show 0 < 1 by omega, fun h2 => ?_, fun h2 => hlong⟩, fun h1 => hlong⟩
 obtain ⟨q1, q2⟩ := m9 h1
 obtain ⟨r1, r2⟩ := m9 h2
 obtain ⟨wx, bx⟩ := lI q1 r2
 obtain ⟨wd, bd⟩ := lI q2 r1
 have hr0 : r.num.natAbs ≠ 0 := fun h => h0 (kZ.1 h)
 have hd0 : q.den * r.num.natAbs ≠ 0 := Nat.mul_ne_zero d1 hr0
 rw [if_pos h1, if_pos h2, if_pos h1, if_pos h2, wx, wd]
 simp only [aa.all, ax, Int.toNat_natCast]
 exact ⟨⟨by omega, by omega, by omega, by omega, by omega⟩, by omega, eG hv hz, he, trivial⟩
end ops
def Al : Spec := bt fun l => match l with
 | [.int .i64 n] => some (aF (.rat (n : Rat) (max 1 (aS n.natAbs))) [-2 ^ 63 ≤ n, n < 2 ^ 63])
 | _ => none
theorem J0 : ∀ K args pre r, Al K args pre = some r → az P oI K args pre r := by
 refine bH fun K args r hk hs _ => ?_
 split at hs
 ·simp only [Option.some.injEq] at hs
  subst hs
  exact fun need => Hv need.1 need.2 K trivial
 ·simp at hs
end Go.Am.B
