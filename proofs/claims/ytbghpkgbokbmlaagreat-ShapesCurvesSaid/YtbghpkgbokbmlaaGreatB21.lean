/- rational.Add, Sub, Mul, Quo, Cmp, Min, Max, Int. -/
import Derived.Test.YtbghpkgbokbmlaaGreatB20
set_option linter.unusedVariables false
namespace Go.Am.B
open Go Go.Am.N AV
theorem Rc : aO P vg qu (au qu) := aL Gg (by kernel_rfl) (by kernel_rfl) (by kernel_rfl)
theorem IA : aO P tY pC (au pC) := aL Ok (by kernel_rfl) (by kernel_rfl) (by kernel_rfl)
theorem N8 : aO P tR rS (au rS) := aL R4 (by kernel_rfl) (by kernel_rfl) (by kernel_rfl)
theorem Vm : aO P uK sk (au sk) := aL PW (by kernel_rfl) (by kernel_rfl) (by kernel_rfl)
theorem QO : aO P lG rD (au rD) := aL Si (by kernel_rfl) (by kernel_rfl) (by kernel_rfl)
def z7 : Spec := bk fun l => match l with
 | [.rat q n, .rat r m, .bool s] => some (aG (.rat (q + sQ s r.num.natAbs r.den) (n + m + 1)) [n < 2 ^ 42, m < 2 ^ 42])
 | _ => none
def E9 : Spec := bk fun l => match l with
 | [.rat q n, .rat r m] => some (aG (.int .i64 (fy q r)) [n < 2 ^ 42, m < 2 ^ 42])
 | _ => none
def GA : aP := (sy, z7) :: (oA, E9) :: (pN, CT) :: (pg, BT) :: (oF, xC) :: (nF, ym) :: []
theorem UF {q r : Rat} {n m : Nat} : bw T GA [] 60 qu (au qu) ⟨aM 0 [.rat q n, .rat r m], [], 0⟩ =
  some (aa.af [(0 : Nat) < 1, (0 : Nat) < 1, (0 : Nat) < 1, n < 2 ^ 42, m < 2 ^ 42, (0 : Nat) < 1] (aa.af [(0 : Nat) < 1] (aa.leaf ah.ret [rat (q + sQ (decide (r < 0)) r.num.natAbs r.den) (n + m + 1)]))) := by kernel_rfl
theorem O7 {q r : Rat} {n m : Nat} : bw T GA [] 60 pC (au pC) ⟨aM 0 [.rat q n, .rat r m], [], 0⟩ =
  some (aa.af [(0 : Nat) < 1, (0 : Nat) < 1, (0 : Nat) < 1, n < 2 ^ 42, m < 2 ^ 42, (0 : Nat) < 1] (aa.af [(0 : Nat) < 1] (aa.leaf ah.ret [rat (q + sQ (!decide (r < 0)) r.num.natAbs r.den) (n + m + 1)]))) := by kernel_rfl
theorem Mx {q r : Rat} {n m : Nat} : bw T GA [8] 60 rS (au rS) ⟨aM 0 [.rat q n, .rat r m], [], 0⟩ =
  some (aa.af [(0 : Nat) < 1, (0 : Nat) < 1, m < 2 ^ 42, n < 2 ^ 42] (aa.fork (decide (fy r q < (0 : Int))) (aa.af [(0 : Nat) < 1, (0 : Nat) < 1] (aa.af [(0 : Nat) < 1, m < 2 ^ 44, (0 : Nat) < 1] (aa.af [(0 : Nat) < 1] (aa.leaf ah.ret [rat r m])))) (aa.af [(0 : Nat) < 1, n < 2 ^ 44, (0 : Nat) < 1] (aa.af [(0 : Nat) < 1] (aa.leaf ah.ret [rat q n]))))) := by kernel_rfl
theorem Tw {q r : Rat} {n m : Nat} : bw T GA [8] 60 sk (au sk) ⟨aM 0 [.rat q n, .rat r m], [], 0⟩ =
  some (aa.af [(0 : Nat) < 1, (0 : Nat) < 1, m < 2 ^ 42, n < 2 ^ 42] (aa.fork (decide (fy r q > (0 : Int))) (aa.af [(0 : Nat) < 1, (0 : Nat) < 1] (aa.af [(0 : Nat) < 1, m < 2 ^ 44, (0 : Nat) < 1] (aa.af [(0 : Nat) < 1] (aa.leaf ah.ret [rat r m])))) (aa.af [(0 : Nat) < 1, n < 2 ^ 44, (0 : Nat) < 1] (aa.af [(0 : Nat) < 1] (aa.leaf ah.ret [rat q n]))))) := by kernel_rfl
theorem Q0 {n : Int} : bw T GA [] 60 rD (au rD) ⟨aM 0 [.int .i64 n], [], 0⟩ =
  some (aa.af [-(2 : Int) ^ 63 ≤ n, n < (2 : Int) ^ 63, nl n.natAbs < 2 ^ 40, nl 1 < 2 ^ 40, (0 : Nat) < 1] (aa.af [(0 : Nat) < 1] (aa.leaf ah.ret [rat (sQ (decide (n < (0 : Int))) n.natAbs 1) (bH (sQ (decide (n < (0 : Int))) n.natAbs 1))]))) := by kernel_rfl
theorem TF {q r : Rat} {n m : Nat} : bw T GQ [20, 23, 34, 47, 49, 56, 63, 76] 60 p0 (au p0) ⟨aM 0 [.rat q n, .rat r m], [], 0⟩ =
  some (aa.af [(0 : Nat) < 1, n < 2 ^ 44, (0 : Nat) < 1, m < 2 ^ 44] (aa.fork (dc q != dc r) (aa.fork (decide (dc q < dc r)) (aa.leaf ah.ret [int IntKind.i64 (-1 : Int)]) (aa.leaf ah.ret [int IntKind.i64 (1 : Int)])) (aa.af [(0 : Nat) < 1] (aa.af [(0 : Nat) < 1, (0 : Nat) < 1, nl (if q.den = 1 then 0 else q.den) < 2 ^ 40, nl (if r.den = 1 then 0 else r.den) < 2 ^ 40] (aa.fork (decide ((if q.den = 1 then 0 else q.den) = if r.den = 1 then 0 else r.den)) (aa.af [(0 : Nat) < 1, (0 : Nat) < 1, nl q.num.natAbs < 2 ^ 40, nl r.num.natAbs < 2 ^ 40] (aa.af [(0 : Nat) < 1] (aa.fork (decide (q < 0)) (aa.leaf ah.ret [int IntKind.i64 (IntKind.i64.wrap ((0 : Int) - bB q.num.natAbs r.num.natAbs))]) (aa.leaf ah.ret [int IntKind.i64 (bB q.num.natAbs r.num.natAbs)])))) (aa.af [(0 : Nat) < 1] (aa.fork (aU q) (aa.af [aU q = true] (aa.fork (bif true then aU r else false) (aa.fork (decide (IntKind.u64.wrap ((↑(if aU q = true then q.num.natAbs else 0) : Int) * (↑(if aU r = true then r.den else 0) : Int)) < IntKind.u64.wrap ((↑(if aU r = true then r.num.natAbs else 0) : Int) * (↑(if aU q = true then q.den else 0) : Int)))) (aa.af [(0 : Nat) < 1] (aa.fork (decide (q < 0)) (aa.leaf ah.ret [int IntKind.i64 (1 : Int)]) (aa.leaf ah.ret [int IntKind.i64 (-1 : Int)]))) (aa.fork (decide (IntKind.u64.wrap ((↑(if aU q = true then q.num.natAbs else 0) : Int) * (↑(if aU r = true then r.den else 0) : Int)) > IntKind.u64.wrap ((↑(if aU r = true then r.num.natAbs else 0) : Int) * (↑(if aU q = true then q.den else 0) : Int)))) (aa.af [(0 : Nat) < 1] (aa.fork (decide (q < 0)) (aa.leaf ah.ret [int IntKind.i64 (-1 : Int)]) (aa.leaf ah.ret [int IntKind.i64 (1 : Int)]))) (aa.af [(0 : Nat) < 1] (aa.fork (decide (q < 0)) (aa.leaf ah.ret [int IntKind.i64 (0 : Int)]) (aa.leaf ah.ret [int IntKind.i64 (0 : Int)]))))) (aa.af [(0 : Nat) < 1, (0 : Nat) < 1, nl q.num.natAbs < 2 ^ 40, nl r.den < 2 ^ 40, (0 : Nat) < 1, (0 : Nat) < 1, nl r.num.natAbs < 2 ^ 40, nl q.den < 2 ^ 40, nl (q.num.natAbs * r.den) < 2 ^ 40, nl (r.num.natAbs * q.den) < 2 ^ 40] (aa.af [(0 : Nat) < 1] (aa.fork (decide (q < 0)) (aa.leaf ah.ret [int IntKind.i64 (IntKind.i64.wrap ((0 : Int) - bB (q.num.natAbs * r.den) (r.num.natAbs * q.den)))]) (aa.leaf ah.ret [int IntKind.i64 (bB (q.num.natAbs * r.den) (r.num.natAbs * q.den))])))))) (aa.af [aU q = false] (aa.fork false (aa.fork (decide (IntKind.u64.wrap ((↑(if aU q = true then q.num.natAbs else 0) : Int) * (↑(if aU r = true then r.den else 0) : Int)) < IntKind.u64.wrap ((↑(if aU r = true then r.num.natAbs else 0) : Int) * (↑(if aU q = true then q.den else 0) : Int)))) (aa.af [(0 : Nat) < 1] (aa.fork (decide (q < 0)) (aa.leaf ah.ret [int IntKind.i64 (1 : Int)]) (aa.leaf ah.ret [int IntKind.i64 (-1 : Int)]))) (aa.fork (decide (IntKind.u64.wrap ((↑(if aU q = true then q.num.natAbs else 0) : Int) * (↑(if aU r = true then r.den else 0) : Int)) > IntKind.u64.wrap ((↑(if aU r = true then r.num.natAbs else 0) : Int) * (↑(if aU q = true then q.den else 0) : Int)))) (aa.af [(0 : Nat) < 1] (aa.fork (decide (q < 0)) (aa.leaf ah.ret [int IntKind.i64 (-1 : Int)]) (aa.leaf ah.ret [int IntKind.i64 (1 : Int)]))) (aa.af [(0 : Nat) < 1] (aa.fork (decide (q < 0)) (aa.leaf ah.ret [int IntKind.i64 (0 : Int)]) (aa.leaf ah.ret [int IntKind.i64 (0 : Int)]))))) (aa.af [(0 : Nat) < 1, (0 : Nat) < 1, nl q.num.natAbs < 2 ^ 40, nl r.den < 2 ^ 40, (0 : Nat) < 1, (0 : Nat) < 1, nl r.num.natAbs < 2 ^ 40, nl q.den < 2 ^ 40, nl (q.num.natAbs * r.den) < 2 ^ 40, nl (r.num.natAbs * q.den) < 2 ^ 40] (aa.af [(0 : Nat) < 1] (aa.fork (decide (q < 0)) (aa.leaf ah.ret [int IntKind.i64 (IntKind.i64.wrap ((0 : Int) - bB (q.num.natAbs * r.den) (r.num.natAbs * q.den)))]) (aa.leaf ah.ret [int IntKind.i64 (bB (q.num.natAbs * r.den) (r.num.natAbs * q.den))]))))))))))))) := by kernel_rfl
theorem Ms : ∀ K args pre r, z7 K args pre = some r → az P sy K args pre r := by
 refine bD fun K args r hk hs _ => ?_
 split at hs
 ·simp only [Option.some.injEq] at hs
  subst hs
  exact fun need => Ka need.1 need.2 K [] trivial
 ·simp at hs
theorem uN {q r : Rat} (h : dc q ≠ dc r) : fy q r = if dc q < dc r then -1 else 1 := by
 unfold dc fy at *
 grind
theorem Pr {a b : Nat} : -bB a b = bB b a := by unfold bB; split <;> split <;> omega
theorem AQ {a b k : Nat} (hk : 0 < k) : bB (a * k) (b * k) = bB a b := by
 unfold bB
 simp only [Nat.mul_lt_mul_right hk]
theorem vD {a b : Nat} : IntKind.i64.wrap (0 - bB a b) = -bB a b := by
 have : bB a b = -1 ∨ bB a b = 0 ∨ bB a b = 1 := by unfold bB; split; exact .inl rfl; split; exact .inr (.inr rfl); exact .inr (.inl rfl)
 rcases this with h | h | h <;> rw [h] <;> rfl
theorem jv {q r : Rat} (h : dc q = dc r) : fy q r = if q < 0 then -bB (q.num.natAbs * r.den) (r.num.natAbs * q.den) else bB (q.num.natAbs * r.den) (r.num.natAbs * q.den) := by
 have h1 : q < 0 ↔ r < 0 := by unfold dc at h; grind
 have e1 : ∀ {a b : Nat}, (-(a : Int)) * (b : Int) = -((a * b : Nat) : Int) := fun {a b} => by simp [Int.neg_mul]
 have e2 : ∀ {a b : Nat}, (a : Int) * (b : Int) = ((a * b : Nat) : Int) := fun {a b} => by simp
 unfold fy
 by_cases hq : q < 0
 ·have hr := h1.1 hq
  have q1 : q.num = -(q.num.natAbs : Int) := by have := eE.1 hq; omega
  have r1 : r.num = -(r.num.natAbs : Int) := by have := eE.1 hr; omega
  have l1 : q < r ↔ r.num.natAbs * q.den < q.num.natAbs * r.den := by
   rw [Rat.lt_iff]
   conv => lhs; rw [q1, r1, e1, e1]
   omega
  have l2 : r < q ↔ q.num.natAbs * r.den < r.num.natAbs * q.den := by
   rw [Rat.lt_iff]
   conv => lhs; rw [q1, r1, e1, e1]
   omega
  rw [if_pos hq, Pr]
  unfold bB
  simp only [l1, l2]
 ·have hr : ¬ r < 0 := fun h => hq (h1.2 h)
  have q1 : q.num = (q.num.natAbs : Int) := by have : ¬ q.num < 0 := fun h => hq (eE.2 h); omega
  have r1 : r.num = (r.num.natAbs : Int) := by have : ¬ r.num < 0 := fun h => hr (eE.2 h); omega
  have l1 : q < r ↔ q.num.natAbs * r.den < r.num.natAbs * q.den := by
   rw [Rat.lt_iff]
   conv => lhs; rw [q1, r1, e2, e2]
   omega
  have l2 : r < q ↔ r.num.natAbs * q.den < q.num.natAbs * r.den := by
   rw [Rat.lt_iff]
   conv => lhs; rw [q1, r1, e2, e2]
   omega
  rw [if_neg hq]
  unfold bB
  simp only [l1, l2]
theorem CA {q r : Rat} {n m : Nat} (hn : n < 2 ^ 42) (hm' : m < 2 ^ 42) (K : Nat) (pre : aC) : az P oA K [.rat q n, .rat r m] pre (aG (.int .i64 (fy q r)) []) := by
 refine gk fun ⟨hq, hr, _⟩ => ?_
 have hq : Sz q n := hq
 have hr : Sz r m := hr
 obtain ⟨a1, a2, a3⟩ := Sz.gd hq (by omega)
 obtain ⟨b1, b2, b3⟩ := Sz.gd hr (by omega)
 have d1 := q.den_nz
 have d2 := r.den_nz
 have m1 : nl (q.num.natAbs * r.den) < 2 ^ 40 := gm (n := n + m) (by rw [Nat.pow_add]; exact Nat.mul_lt_mul'' hq.1 hr.2) (by omega)
 have m2 : nl (r.num.natAbs * q.den) < 2 ^ 40 := gm (n := m + n) (by rw [Nat.pow_add]; exact Nat.mul_lt_mul'' hr.1 hq.2) (by omega)
 refine bC hT gY hm Q5 rfl (of_decide_eq_true (by kernel_rfl)) rfl 60 TF (fun _ => ?_) K pre
 simp only [aa.all, ay, bne_iff_ne, ne_eq, bne_eq_false_iff_eq]
 refine ⟨⟨by omega, by omega, by omega, by omega⟩, fun hs => ⟨fun hl => bf ?_, fun hl => bf ?_⟩, fun hs => ⟨by omega, ⟨by omega, by omega, a3, b3⟩, fun hd => ⟨⟨by omega, by omega, a1, b1⟩, by omega, fun hc => bf ?_, fun hc => bf ?_⟩, fun hd => ⟨by omega, fun hp => ⟨hp, fun hp2 => ?_, fun hp2 => ⟨⟨by omega, by omega, a1, b2, by omega, by omega, b1, a2, m1, m2⟩, by omega, fun hc => bf ?_, fun hc => bf ?_⟩⟩, fun hp => ⟨hp, fun h => by simp at h, fun _ => ⟨⟨by omega, by omega, a1, b2, by omega, by omega, b1, a2, m1, m2⟩, by omega, fun hc => bf ?_, fun hc => bf ?_⟩⟩⟩⟩⟩
 ·rw [uN hs, if_pos (of_decide_eq_true hl)]
 ·rw [uN hs, if_neg (of_decide_eq_false hl)]
 ·have hd := of_decide_eq_true hd
  have e : q.den = r.den := by split at hd <;> split at hd <;> omega
  rw [jv hs, if_pos (of_decide_eq_true hc), e, AQ (by omega), vD]
 ·have hd := of_decide_eq_true hd
  have e : q.den = r.den := by split at hd <;> split at hd <;> omega
  rw [jv hs, if_neg (of_decide_eq_false hc), e, AQ (by omega)]
 ·have hp2 := fJ hp2
  obtain ⟨q1, q2⟩ := kK hp
  obtain ⟨r1, r2⟩ := kK hp2
  rw [if_pos hp, if_pos hp2, if_pos hp2, if_pos hp, (jm q1 r2).1, (jm r1 q2).1]
  have hcs := jv hs
  generalize q.num.natAbs * r.den = X at *
  generalize r.num.natAbs * q.den = Y at *
  unfold bB at hcs
  refine ⟨fun h1 => ⟨by omega, fun hc => bf ?_, fun hc => bf ?_⟩, fun h1 => ⟨fun h2 => ⟨by omega, fun hc => bf ?_, fun hc => bf ?_⟩, fun h2 => ⟨by omega, fun hc => bf ?_, fun hc => bf ?_⟩⟩⟩
  all_goals rw [hcs]
  ·rw [if_pos (of_decide_eq_true hc), if_pos (by have := of_decide_eq_true h1; omega)]; rfl
  ·rw [if_neg (of_decide_eq_false hc), if_pos (by have := of_decide_eq_true h1; omega)]
  ·rw [if_pos (of_decide_eq_true hc), if_neg (by have := of_decide_eq_false h1; omega), if_pos (by have := of_decide_eq_true h2; omega)]
  ·rw [if_neg (of_decide_eq_false hc), if_neg (by have := of_decide_eq_false h1; omega), if_pos (by have := of_decide_eq_true h2; omega)]
  ·rw [if_pos (of_decide_eq_true hc), if_neg (by have := of_decide_eq_false h1; omega), if_neg (by have := of_decide_eq_false h2; omega)]; rfl
  ·rw [if_neg (of_decide_eq_false hc), if_neg (by have := of_decide_eq_false h1; omega), if_neg (by have := of_decide_eq_false h2; omega)]
 ·rw [jv hs, if_pos (of_decide_eq_true hc), vD]
 ·rw [jv hs, if_neg (of_decide_eq_false hc)]
 ·rw [jv hs, if_pos (of_decide_eq_true hc), vD]
 ·rw [jv hs, if_neg (of_decide_eq_false hc)]
theorem NV : ∀ K args pre r, E9 K args pre = some r → az P oA K args pre r := by
 refine bD fun K args r hk hs _ => ?_
 split at hs
 ·simp only [Option.some.injEq] at hs
  subst hs
  exact fun need => CA need.1 need.2 K [] trivial
 ·simp at hs
theorem nE : aX P GA := aE Ms (aE NV (aE Th (aE TN (aE EX (aE FB aZ)))))
section ops
variable {q r : Rat} {n m : Nat}
theorem Ma (hn : n < 2 ^ 42) (hm' : m < 2 ^ 42) (K : Nat) : az P vg K [.rat q n, .rat r m] [] (aG (.rat (q + r) (n + m + 1)) []) := by
 refine bC hT nE hm Rc rfl (of_decide_eq_true (by kernel_rfl)) rfl 60 UF (fun _ => ?_) K []
 simp only [aa.all, ay, gH]
 exact ⟨⟨by omega, by omega, by omega, hn, hm', by omega⟩, by omega, .refl _⟩
theorem MK (r : Rat) : sQ (!decide (r < 0)) r.num.natAbs r.den = -r := by
 have h := gH r
 conv => rhs; rw [← h]
 unfold sQ
 rw [Rat.neg_mkRat]
 congr 1
 unfold dP
 by_cases h : r < 0 <;> simp [h]
theorem Nm (hn : n < 2 ^ 42) (hm' : m < 2 ^ 42) (K : Nat) : az P tY K [.rat q n, .rat r m] [] (aG (.rat (q - r) (n + m + 1)) []) := by
 refine bC hT nE hm IA rfl (of_decide_eq_true (by kernel_rfl)) rfl 60 O7 (fun _ => ?_) K []
 simp only [aa.all, ay, MK]
 exact ⟨⟨by omega, by omega, by omega, hn, hm', by omega⟩, by omega, cI (by rw [Rat.sub_eq_add_neg])⟩
def vq (q r : Rat) : Rat := if r < q then r else q
def tU (q r : Rat) : Rat := if q < r then r else q
theorem y3 {q r : Rat} : fy q r < 0 ↔ q < r := by unfold fy; grind
theorem Dw {q r : Rat} : fy q r > 0 ↔ r < q := by unfold fy; grind
theorem MW (hn : n < 2 ^ 42) (hm' : m < 2 ^ 42) (K : Nat) : az P tR K [.rat q n, .rat r m] [] (aG (.rat (vq q r) (max n m)) []) := by
 refine bC hT nE hm N8 rfl (of_decide_eq_true (by kernel_rfl)) rfl 60 Mx (fun _ => ?_) K []
 simp only [aa.all, ay, decide_eq_true_eq, decide_eq_false_iff_not, y3]
 refine ⟨⟨by omega, by omega, hm', hn⟩, fun h => ⟨⟨by omega, by omega⟩, ⟨by omega, by omega, by omega⟩, by omega, ?_⟩, fun h => ⟨⟨by omega, by omega, by omega⟩, by omega, ?_⟩⟩
 ·unfold vq; rw [if_pos h]; exact dZ (Nat.le_max_right _ _)
 ·unfold vq; rw [if_neg h]; exact dZ (Nat.le_max_left _ _)
theorem Ju (hn : n < 2 ^ 42) (hm' : m < 2 ^ 42) (K : Nat) : az P uK K [.rat q n, .rat r m] [] (aG (.rat (tU q r) (max n m)) []) := by
 refine bC hT nE hm Vm rfl (of_decide_eq_true (by kernel_rfl)) rfl 60 Tw (fun _ => ?_) K []
 simp only [aa.all, ay, decide_eq_true_eq, decide_eq_false_iff_not, Dw]
 refine ⟨⟨by omega, by omega, hm', hn⟩, fun h => ⟨⟨by omega, by omega⟩, ⟨by omega, by omega, by omega⟩, by omega, ?_⟩, fun h => ⟨⟨by omega, by omega, by omega⟩, by omega, ?_⟩⟩
 ·unfold tU; rw [if_pos h]; exact dZ (Nat.le_max_right _ _)
 ·unfold tU; rw [if_neg h]; exact dZ (Nat.le_max_left _ _)
theorem Nn {n : Int} : sQ (decide (n < 0)) n.natAbs 1 = (n : Rat) := by
 unfold sQ
 have : dP (decide (n < 0)) n.natAbs = n := by unfold dP; by_cases h : n < 0 <;> simp [h] <;> omega
 rw [this, Rat.mkRat_one]
theorem yH {n : Int} : Sz (n : Rat) (max 1 (aN n.natAbs)) := by
 refine ⟨?_, ?_⟩
 ·rw [Rat.num_intCast]
  exact Nat.lt_of_lt_of_le (fH.1 (Nat.le_refl _)) (Nat.pow_le_pow_right (by omega) (Nat.le_max_right _ _))
 ·rw [Rat.den_intCast]
  exact Nat.lt_of_lt_of_le (show 1 < 2 ^ 1 by omega) (Nat.pow_le_pow_right (by omega) (Nat.le_max_left _ _))
theorem C5 {n : Int} (h1 : -2 ^ 63 ≤ n) (h2 : n < 2 ^ 63) (K : Nat) : az P lG K [.int .i64 n] [] (aG (.rat (n : Rat) (max 1 (aN n.natAbs))) []) := by
 refine bC hT nE hm QO rfl (of_decide_eq_true (by kernel_rfl)) rfl 60 Q0 (fun _ => ?_) K []
 simp only [aa.all, ay, Nn]
 exact ⟨⟨h1, h2, gm (n := 64) (by omega) (by omega), by decide, by omega⟩, by omega, eG rfl yH⟩
theorem Gl (hn : n < 2 ^ 42) (hm' : m < 2 ^ 42) (K : Nat) : az P uf K [.rat q n, .rat r m] [] (aG (.rat (q * r) (n + m)) []) := by
 refine gk fun ⟨hq, hr, _⟩ => ?_
 have hq : Sz q n := hq
 have hr : Sz r m := hr
 obtain ⟨a1, a2, a3⟩ := Sz.gd hq (by omega)
 obtain ⟨b1, b2, b3⟩ := Sz.gd hr (by omega)
 have d1 := q.den_nz
 have d2 := r.den_nz
 have m1 : nl (q.num.natAbs * r.num.natAbs) < 2 ^ 40 := gm (n := n + m) (by rw [Nat.pow_add]; exact Nat.mul_lt_mul'' hq.1 hr.1) (by omega)
 have m2 : nl (q.den * r.den) < 2 ^ 40 := gm (n := n + m) (by rw [Nat.pow_add]; exact Nat.mul_lt_mul'' hq.2 hr.2) (by omega)
 have hz := hq.mul hr
 have hv : sQ (decide (q < 0) != decide (r < 0)) (q.num.natAbs * r.num.natAbs) (q.den * r.den) = q * r := by rw [← v8, gH, gH]
 have hzero : q = 0 ∨ r = 0 → bp (.agg [.bool false, .mag 0, .mag 0]) (.rat (q * r) (n + m)) := by
  intro h
  have e : q * r = 0 := by rcases h with h | h <;> subst h <;> simp
  obtain ⟨k, hk⟩ : ∃ k, n + m = k + 1 := ⟨n + m - 1, by have := hq.pos; omega⟩
  rw [e, hk]; exact hJ
 refine bC hT gY hm Nv rfl (of_decide_eq_true (by kernel_rfl)) rfl 60 OE (fun _ => ?_) K []
 have hlong : (aa.af
         [(0 : Nat) < 1, (0 : Nat) < 1, (0 : Nat) < 1, (0 : Nat) < 1, nl q.num.natAbs < 2 ^ 40, nl r.num.natAbs < 2 ^ 40, (0 : Nat) < 1, (0 : Nat) < 1, nl q.den < 2 ^ 40, nl r.den < 2 ^ 40, nl (q.num.natAbs * r.num.natAbs) < 2 ^ 40, nl (q.den * r.den) < 2 ^ 40, (0 : Nat) < 1]
         (aa.af [(0 : Nat) < 1]
          (aa.leaf ah.ret
           [AV.rat (sQ (decide (q < (0 : Rat)) != decide (r < (0 : Rat))) (q.num.natAbs * r.num.natAbs) (q.den * r.den))
             (bH (sQ (decide (q < (0 : Rat)) != decide (r < (0 : Rat))) (q.num.natAbs * r.num.natAbs) (q.den * r.den)))]))).all fun _ us => dL us (.rat (q * r) (n + m)) := by
  simp only [aa.all, ay]
  exact ⟨⟨by omega, by omega, by omega, by omega, a1, b1, by omega, by omega, a2, b2, m1, m2, by omega⟩, by omega, eG hv hz⟩
 refine ⟨fun hb => ⟨⟨show 0 < 1 by omega, hb⟩, fun _ => ⟨show 0 < 1 by omega, show 0 < 1 by omega, hzero (.inl ?_)⟩, fun h => by simp at h⟩, fun hb => ⟨⟨show 0 < 1 by omega, hb, show 0 < 1 by omega⟩, fun hc => ⟨show 0 < 1 by omega, show 0 < 1 by omega, hzero (.inr ?_)⟩, fun hc => ⟨show 0 < 1 by omega, fun h1 => ⟨show 0 < 1 by omega, fun h2 => ?_, fun h2 => hlong⟩, fun h1 => hlong⟩⟩⟩
 ·have := eq_of_beq hb
  exact jE.1 (gf.1 (by omega))
 ·have := eq_of_beq (eR hc)
  exact jE.1 (gf.1 (by omega))
 ·obtain ⟨q1, q2⟩ := kK h1
  obtain ⟨r1, r2⟩ := kK h2
  obtain ⟨wx, bx⟩ := jm q1 r1
  obtain ⟨wd, bd⟩ := jm q2 r2
  have hd0 : q.den * r.den ≠ 0 := Nat.mul_ne_zero d1 d2
  rw [if_pos h1, if_pos h2, if_pos h1, if_pos h2, wx, wd]
  simp only [aa.all, ay, Int.toNat_natCast]
  exact ⟨⟨by omega, by omega, by omega, by omega, by omega⟩, by omega, eG hv hz⟩
theorem w7 (q r : Rat) (hr : r ≠ 0) : sQ (decide (q < 0) != decide (r < 0)) (q.num.natAbs * r.den) (q.den * r.num.natAbs) = q / r := by
 have hn : r.num ≠ 0 := fun h => hr (Rat.num_eq_zero.1 h)
 have hi : r⁻¹ = sQ (decide (r < 0)) r.den r.num.natAbs := by
  rw [← gH r⁻¹]
  have e1 : r⁻¹.num.natAbs = r.den := by rw [Rat.num_inv, Int.natAbs_mul, Int.natAbs_natCast, Int.natAbs_sign_of_ne_zero hn, Nat.one_mul]
  have e2 : r⁻¹.den = r.num.natAbs := by rw [Rat.den_inv, if_neg hn]
  have e3 : decide (r⁻¹ < 0) = decide (r < 0) := by
   rw [decide_eq_decide, eE, eE, Rat.num_inv]
   have hd := r.den_nz
   have hd' : (0 : Int) < (r.den : Int) := by omega
   rcases Int.lt_trichotomy r.num 0 with h | h | h
   ·rw [Int.sign_eq_neg_one_of_neg h]; omega
   ·exact absurd h hn
   ·rw [Int.sign_eq_one_of_pos h]; omega
  rw [e1, e2, e3]
 rw [Rat.div_def, hi]
 conv => rhs; rw [← gH q]
 rw [v8]
theorem Pu (hn : n < 2 ^ 42) (hm' : m < 2 ^ 42) (K : Nat) : az P tZ K [.rat q n, .rat r m] [] (aG (.tuple [.rat (q / r) (n + m), .int .i64 (if r = 0 then 3 else 0)]) []) := by
 refine gk fun ⟨hq, hr, _⟩ => ?_
 have hq : Sz q n := hq
 have hr : Sz r m := hr
 obtain ⟨a1, a2, a3⟩ := Sz.gd hq (by omega)
 obtain ⟨b1, b2, b3⟩ := Sz.gd hr (by omega)
 have d1 := q.den_nz
 have d2 := r.den_nz
 have m1 : nl (q.num.natAbs * r.den) < 2 ^ 40 := gm (n := n + m) (by rw [Nat.pow_add]; exact Nat.mul_lt_mul'' hq.1 hr.2) (by omega)
 have m2 : nl (q.den * r.num.natAbs) < 2 ^ 40 := gm (n := n + m) (by rw [Nat.pow_add]; exact Nat.mul_lt_mul'' hq.2 hr.1) (by omega)
 have hz := hq.div hr
 have sg : ∀ {x : Rat}, dc x = 0 ↔ x = 0 := by intro x; unfold dc; grind
 refine bC hT gY hm GI rfl (of_decide_eq_true (by kernel_rfl)) rfl 60 Ig (fun _ => ?_) K []
 refine ⟨⟨show 0 < 1 by omega, show m < 2 ^ 44 by omega⟩, fun hb => ⟨show 0 < 1 by omega, show 0 < 1 by omega, ?_, ?_, trivial⟩, fun hb => ⟨show 0 < 1 by omega, ?_⟩⟩
 ·have h0 : r = 0 := sg.1 (eq_of_beq hb)
  have e : q / r = 0 := by rw [h0, Rat.div_def, Rat.inv_zero, Rat.mul_zero]
  obtain ⟨k, hk⟩ : ∃ k, n + m = k + 1 := ⟨n + m - 1, by have := hq.pos; omega⟩
  rw [e, hk]; exact hJ
 ·have h0 : r = 0 := sg.1 (eq_of_beq hb)
  exact bf (by rw [if_pos h0])
 have h0 : r ≠ 0 := fun h => by
  rw [h] at hb
  simp [dc] at hb
 have hv := w7 q r h0
 have he : bp (.int .i64 0) (.int .i64 (if r = 0 then 3 else 0)) := bf (by rw [if_neg h0])
 have hlong : (aa.af
         [(0 : Nat) < 1, (0 : Nat) < 1, (0 : Nat) < 1, (0 : Nat) < 1, nl q.num.natAbs < 2 ^ 40, nl r.den < 2 ^ 40, (0 : Nat) < 1, (0 : Nat) < 1, nl q.den < 2 ^ 40, nl r.num.natAbs < 2 ^ 40, nl (q.num.natAbs * r.den) < 2 ^ 40, nl (q.den * r.num.natAbs) < 2 ^ 40, (0 : Nat) < 1]
         (aa.af [(0 : Nat) < 1]
          (aa.leaf ah.ret
           [AV.rat (sQ (decide (q < (0 : Rat)) != decide (r < (0 : Rat))) (q.num.natAbs * r.den) (q.den * r.num.natAbs))
             (bH (sQ (decide (q < (0 : Rat)) != decide (r < (0 : Rat))) (q.num.natAbs * r.den) (q.den * r.num.natAbs))), .int .i64 0]))).all fun _ us => dL us (.tuple [.rat (q / r) (n + m), .int .i64 (if r = 0 then 3 else 0)]) := by
  simp only [aa.all, ay]
  exact ⟨⟨by omega, by omega, by omega, by omega, a1, b2, by omega, by omega, a2, b1, m1, m2, by omega⟩, by omega, eG hv hz, he, trivial⟩
 refine ⟨fun h1 => ⟨show 0 < 1 by omega, fun h2 => ?_, fun h2 => hlong⟩, fun h1 => hlong⟩
 obtain ⟨q1, q2⟩ := kK h1
 obtain ⟨r1, r2⟩ := kK h2
 obtain ⟨wx, bx⟩ := jm q1 r2
 obtain ⟨wd, bd⟩ := jm q2 r1
 have hr0 : r.num.natAbs ≠ 0 := fun h => h0 (jE.1 h)
 have hd0 : q.den * r.num.natAbs ≠ 0 := Nat.mul_ne_zero d1 hr0
 rw [if_pos h1, if_pos h2, if_pos h1, if_pos h2, wx, wd]
 simp only [aa.all, ay, Int.toNat_natCast]
 exact ⟨⟨by omega, by omega, by omega, by omega, by omega⟩, by omega, eG hv hz, he, trivial⟩
end ops
def xG : Spec := bk fun l => match l with
 | [.int .i64 n] => some (aG (.rat (n : Rat) (max 1 (aN n.natAbs))) [-2 ^ 63 ≤ n, n < 2 ^ 63])
 | _ => none
theorem Cl : ∀ K args pre r, xG K args pre = some r → az P lG K args pre r := by
 refine bD fun K args r hk hs _ => ?_
 split at hs
 ·simp only [Option.some.injEq] at hs
  subst hs
  exact fun need => C5 need.1 need.2 K trivial
 ·simp at hs
end Go.Am.B
