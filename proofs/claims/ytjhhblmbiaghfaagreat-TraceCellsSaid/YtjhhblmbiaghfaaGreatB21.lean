/- rational.Add, Sub, Mul, Quo, Cmp, Min, Max, Int. -/
import Derived.Test.YtjhhblmbiaghfaaGreatB20
set_option linter.unusedVariables false
namespace Go.Am.B
open Go Go.Am.N AV
theorem TQ : aO P x7 vF (ax vF) := aP Rv (by kernel_rfl) (by kernel_rfl) (by kernel_rfl)
theorem Jt : aO P y7 qU (ax qU) := aP KI (by kernel_rfl) (by kernel_rfl) (by kernel_rfl)
theorem Ug : aO P rE qT (ax qT) := aP JB (by kernel_rfl) (by kernel_rfl) (by kernel_rfl)
theorem Ua : aO P uZ ud (ax ud) := aP Sk (by kernel_rfl) (by kernel_rfl) (by kernel_rfl)
theorem M5 : aO P yw ru (ax ru) := aP Ut (by kernel_rfl) (by kernel_rfl) (by kernel_rfl)
def Ib : Spec := bu fun l => match l with
 | [.rat q n, .rat r m, .bool s] => some (aK (.rat (q + sQ s r.num.natAbs r.den) (n + m + 1)) [n < 2 ^ 42, m < 2 ^ 42])
 | _ => none
def CS : Spec := bu fun l => match l with
 | [.rat q n, .rat r m] => some (aK (.int .i64 (cB q r)) [n < 2 ^ 42, m < 2 ^ 42])
 | _ => none
def GA : aW := (tu, Ib) :: (oV, CS) :: (vO, CP) :: (wz, G6) :: (qk, B2) :: (qb, BQ) :: []
theorem XH {q r : Rat} {n m : Nat} : bF T GA [] 60 vF (ax vF) ⟨aN 0 [.rat q n, .rat r m], [], 0⟩ =
  some (af.ag [(0 : Nat) < 1, (0 : Nat) < 1, (0 : Nat) < 1, n < 2 ^ 42, m < 2 ^ 42, (0 : Nat) < 1] (af.ag [(0 : Nat) < 1] (af.leaf ak.ret [rat (q + sQ (decide (r < 0)) r.num.natAbs r.den) (n + m + 1)]))) := by kernel_rfl
theorem TJ {q r : Rat} {n m : Nat} : bF T GA [] 60 qU (ax qU) ⟨aN 0 [.rat q n, .rat r m], [], 0⟩ =
  some (af.ag [(0 : Nat) < 1, (0 : Nat) < 1, (0 : Nat) < 1, n < 2 ^ 42, m < 2 ^ 42, (0 : Nat) < 1] (af.ag [(0 : Nat) < 1] (af.leaf ak.ret [rat (q + sQ (!decide (r < 0)) r.num.natAbs r.den) (n + m + 1)]))) := by kernel_rfl
theorem KO {q r : Rat} {n m : Nat} : bF T GA [8] 60 qT (ax qT) ⟨aN 0 [.rat q n, .rat r m], [], 0⟩ =
  some (af.ag [(0 : Nat) < 1, (0 : Nat) < 1, m < 2 ^ 42, n < 2 ^ 42] (af.fork (decide (cB r q < (0 : Int))) (af.ag [(0 : Nat) < 1, (0 : Nat) < 1] (af.ag [(0 : Nat) < 1, m < 2 ^ 44, (0 : Nat) < 1] (af.ag [(0 : Nat) < 1] (af.leaf ak.ret [rat r m])))) (af.ag [(0 : Nat) < 1, n < 2 ^ 44, (0 : Nat) < 1] (af.ag [(0 : Nat) < 1] (af.leaf ak.ret [rat q n]))))) := by kernel_rfl
theorem Rs {q r : Rat} {n m : Nat} : bF T GA [8] 60 ud (ax ud) ⟨aN 0 [.rat q n, .rat r m], [], 0⟩ =
  some (af.ag [(0 : Nat) < 1, (0 : Nat) < 1, m < 2 ^ 42, n < 2 ^ 42] (af.fork (decide (cB r q > (0 : Int))) (af.ag [(0 : Nat) < 1, (0 : Nat) < 1] (af.ag [(0 : Nat) < 1, m < 2 ^ 44, (0 : Nat) < 1] (af.ag [(0 : Nat) < 1] (af.leaf ak.ret [rat r m])))) (af.ag [(0 : Nat) < 1, n < 2 ^ 44, (0 : Nat) < 1] (af.ag [(0 : Nat) < 1] (af.leaf ak.ret [rat q n]))))) := by kernel_rfl
theorem Yt {n : Int} : bF T GA [] 60 ru (ax ru) ⟨aN 0 [.int .i64 n], [], 0⟩ =
  some (af.ag [-(2 : Int) ^ 63 ≤ n, n < (2 : Int) ^ 63, nl n.natAbs < 2 ^ 40, nl 1 < 2 ^ 40, (0 : Nat) < 1] (af.ag [(0 : Nat) < 1] (af.leaf ak.ret [rat (sQ (decide (n < (0 : Int))) n.natAbs 1) (bW (sQ (decide (n < (0 : Int))) n.natAbs 1))]))) := by kernel_rfl
theorem Uo {q r : Rat} {n m : Nat} : bF T GQ [20, 23, 34, 47, 49, 56, 63, 76] 60 uc (ax uc) ⟨aN 0 [.rat q n, .rat r m], [], 0⟩ =
  some (af.ag [(0 : Nat) < 1, n < 2 ^ 44, (0 : Nat) < 1, m < 2 ^ 44] (af.fork (dO q != dO r) (af.fork (decide (dO q < dO r)) (af.leaf ak.ret [int IntKind.i64 (-1 : Int)]) (af.leaf ak.ret [int IntKind.i64 (1 : Int)])) (af.ag [(0 : Nat) < 1] (af.ag [(0 : Nat) < 1, (0 : Nat) < 1, nl (if q.den = 1 then 0 else q.den) < 2 ^ 40, nl (if r.den = 1 then 0 else r.den) < 2 ^ 40] (af.fork (decide ((if q.den = 1 then 0 else q.den) = if r.den = 1 then 0 else r.den)) (af.ag [(0 : Nat) < 1, (0 : Nat) < 1, nl q.num.natAbs < 2 ^ 40, nl r.num.natAbs < 2 ^ 40] (af.ag [(0 : Nat) < 1] (af.fork (decide (q < 0)) (af.leaf ak.ret [int IntKind.i64 (IntKind.i64.wrap ((0 : Int) - bO q.num.natAbs r.num.natAbs))]) (af.leaf ak.ret [int IntKind.i64 (bO q.num.natAbs r.num.natAbs)])))) (af.ag [(0 : Nat) < 1] (af.fork (bh q) (af.ag [bh q = true] (af.fork (bif true then bh r else false) (af.fork (decide (IntKind.u64.wrap ((↑(if bh q = true then q.num.natAbs else 0) : Int) * (↑(if bh r = true then r.den else 0) : Int)) < IntKind.u64.wrap ((↑(if bh r = true then r.num.natAbs else 0) : Int) * (↑(if bh q = true then q.den else 0) : Int)))) (af.ag [(0 : Nat) < 1] (af.fork (decide (q < 0)) (af.leaf ak.ret [int IntKind.i64 (1 : Int)]) (af.leaf ak.ret [int IntKind.i64 (-1 : Int)]))) (af.fork (decide (IntKind.u64.wrap ((↑(if bh q = true then q.num.natAbs else 0) : Int) * (↑(if bh r = true then r.den else 0) : Int)) > IntKind.u64.wrap ((↑(if bh r = true then r.num.natAbs else 0) : Int) * (↑(if bh q = true then q.den else 0) : Int)))) (af.ag [(0 : Nat) < 1] (af.fork (decide (q < 0)) (af.leaf ak.ret [int IntKind.i64 (-1 : Int)]) (af.leaf ak.ret [int IntKind.i64 (1 : Int)]))) (af.ag [(0 : Nat) < 1] (af.fork (decide (q < 0)) (af.leaf ak.ret [int IntKind.i64 (0 : Int)]) (af.leaf ak.ret [int IntKind.i64 (0 : Int)]))))) (af.ag [(0 : Nat) < 1, (0 : Nat) < 1, nl q.num.natAbs < 2 ^ 40, nl r.den < 2 ^ 40, (0 : Nat) < 1, (0 : Nat) < 1, nl r.num.natAbs < 2 ^ 40, nl q.den < 2 ^ 40, nl (q.num.natAbs * r.den) < 2 ^ 40, nl (r.num.natAbs * q.den) < 2 ^ 40] (af.ag [(0 : Nat) < 1] (af.fork (decide (q < 0)) (af.leaf ak.ret [int IntKind.i64 (IntKind.i64.wrap ((0 : Int) - bO (q.num.natAbs * r.den) (r.num.natAbs * q.den)))]) (af.leaf ak.ret [int IntKind.i64 (bO (q.num.natAbs * r.den) (r.num.natAbs * q.den))])))))) (af.ag [bh q = false] (af.fork false (af.fork (decide (IntKind.u64.wrap ((↑(if bh q = true then q.num.natAbs else 0) : Int) * (↑(if bh r = true then r.den else 0) : Int)) < IntKind.u64.wrap ((↑(if bh r = true then r.num.natAbs else 0) : Int) * (↑(if bh q = true then q.den else 0) : Int)))) (af.ag [(0 : Nat) < 1] (af.fork (decide (q < 0)) (af.leaf ak.ret [int IntKind.i64 (1 : Int)]) (af.leaf ak.ret [int IntKind.i64 (-1 : Int)]))) (af.fork (decide (IntKind.u64.wrap ((↑(if bh q = true then q.num.natAbs else 0) : Int) * (↑(if bh r = true then r.den else 0) : Int)) > IntKind.u64.wrap ((↑(if bh r = true then r.num.natAbs else 0) : Int) * (↑(if bh q = true then q.den else 0) : Int)))) (af.ag [(0 : Nat) < 1] (af.fork (decide (q < 0)) (af.leaf ak.ret [int IntKind.i64 (-1 : Int)]) (af.leaf ak.ret [int IntKind.i64 (1 : Int)]))) (af.ag [(0 : Nat) < 1] (af.fork (decide (q < 0)) (af.leaf ak.ret [int IntKind.i64 (0 : Int)]) (af.leaf ak.ret [int IntKind.i64 (0 : Int)]))))) (af.ag [(0 : Nat) < 1, (0 : Nat) < 1, nl q.num.natAbs < 2 ^ 40, nl r.den < 2 ^ 40, (0 : Nat) < 1, (0 : Nat) < 1, nl r.num.natAbs < 2 ^ 40, nl q.den < 2 ^ 40, nl (q.num.natAbs * r.den) < 2 ^ 40, nl (r.num.natAbs * q.den) < 2 ^ 40] (af.ag [(0 : Nat) < 1] (af.fork (decide (q < 0)) (af.leaf ak.ret [int IntKind.i64 (IntKind.i64.wrap ((0 : Int) - bO (q.num.natAbs * r.den) (r.num.natAbs * q.den)))]) (af.leaf ak.ret [int IntKind.i64 (bO (q.num.natAbs * r.den) (r.num.natAbs * q.den))]))))))))))))) := by kernel_rfl
theorem YR : ∀ K args pre r, Ib K args pre = some r → aC P tu K args pre r := by
 refine bQ fun K args r hk hs _ => ?_
 split at hs
 ·simp only [Option.some.injEq] at hs
  subst hs
  exact fun need => Qy need.1 need.2 K [] trivial
 ·simp at hs
theorem xe {q r : Rat} (h : dO q ≠ dO r) : cB q r = if dO q < dO r then -1 else 1 := by
 unfold dO cB at *
 grind
theorem Pu {a b : Nat} : -bO a b = bO b a := by unfold bO; split <;> split <;> omega
theorem IZ {a b k : Nat} (hk : 0 < k) : bO (a * k) (b * k) = bO a b := by
 unfold bO
 simp only [Nat.mul_lt_mul_right hk]
theorem wG {a b : Nat} : IntKind.i64.wrap (0 - bO a b) = -bO a b := by
 have : bO a b = -1 ∨ bO a b = 0 ∨ bO a b = 1 := by unfold bO; split; exact .inl rfl; split; exact .inr (.inr rfl); exact .inr (.inl rfl)
 rcases this with h | h | h <;> rw [h] <;> rfl
theorem kU {q r : Rat} (h : dO q = dO r) : cB q r = if q < 0 then -bO (q.num.natAbs * r.den) (r.num.natAbs * q.den) else bO (q.num.natAbs * r.den) (r.num.natAbs * q.den) := by
 have h1 : q < 0 ↔ r < 0 := by unfold dO at h; grind
 have e1 : ∀ {a b : Nat}, (-(a : Int)) * (b : Int) = -((a * b : Nat) : Int) := fun {a b} => by simp [Int.neg_mul]
 have e2 : ∀ {a b : Nat}, (a : Int) * (b : Int) = ((a * b : Nat) : Int) := fun {a b} => by simp
 unfold cB
 by_cases hq : q < 0
 ·have hr := h1.1 hq
  have q1 : q.num = -(q.num.natAbs : Int) := by have := gb.1 hq; omega
  have r1 : r.num = -(r.num.natAbs : Int) := by have := gb.1 hr; omega
  have l1 : q < r ↔ r.num.natAbs * q.den < q.num.natAbs * r.den := by
   rw [Rat.lt_iff]
   conv => lhs; rw [q1, r1, e1, e1]
   omega
  have l2 : r < q ↔ q.num.natAbs * r.den < r.num.natAbs * q.den := by
   rw [Rat.lt_iff]
   conv => lhs; rw [q1, r1, e1, e1]
   omega
  rw [if_pos hq, Pu]
  unfold bO
  simp only [l1, l2]
 ·have hr : ¬ r < 0 := fun h => hq (h1.2 h)
  have q1 : q.num = (q.num.natAbs : Int) := by have : ¬ q.num < 0 := fun h => hq (gb.2 h); omega
  have r1 : r.num = (r.num.natAbs : Int) := by have : ¬ r.num < 0 := fun h => hr (gb.2 h); omega
  have l1 : q < r ↔ q.num.natAbs * r.den < r.num.natAbs * q.den := by
   rw [Rat.lt_iff]
   conv => lhs; rw [q1, r1, e2, e2]
   omega
  have l2 : r < q ↔ r.num.natAbs * q.den < q.num.natAbs * r.den := by
   rw [Rat.lt_iff]
   conv => lhs; rw [q1, r1, e2, e2]
   omega
  rw [if_neg hq]
  unfold bO
  simp only [l1, l2]
theorem Ej {q r : Rat} {n m : Nat} (hn : n < 2 ^ 42) (hm' : m < 2 ^ 42) (K : Nat) (pre : aB) : aC P oV K [.rat q n, .rat r m] pre (aK (.int .i64 (cB q r)) []) := by
 refine iD fun ⟨hq, hr, _⟩ => ?_
 have hq : Sz q n := hq
 have hr : Sz r m := hr
 obtain ⟨a1, a2, a3⟩ := Sz.gJ hq (by omega)
 obtain ⟨b1, b2, b3⟩ := Sz.gJ hr (by omega)
 have d1 := q.den_nz
 have d2 := r.den_nz
 have m1 : nl (q.num.natAbs * r.den) < 2 ^ 40 := gR (n := n + m) (by rw [Nat.pow_add]; exact Nat.mul_lt_mul'' hq.1 hr.2) (by omega)
 have m2 : nl (r.num.natAbs * q.den) < 2 ^ 40 := gR (n := m + n) (by rw [Nat.pow_add]; exact Nat.mul_lt_mul'' hr.1 hq.2) (by omega)
 refine bH hT iF hm MT rfl (of_decide_eq_true (by kernel_rfl)) rfl 60 Uo (fun _ => ?_) K pre
 simp only [af.all, ay, bne_iff_ne, ne_eq, bne_eq_false_iff_eq]
 refine ⟨⟨by omega, by omega, by omega, by omega⟩, fun hs => ⟨fun hl => bm ?_, fun hl => bm ?_⟩, fun hs => ⟨by omega, ⟨by omega, by omega, a3, b3⟩, fun hd => ⟨⟨by omega, by omega, a1, b1⟩, by omega, fun hc => bm ?_, fun hc => bm ?_⟩, fun hd => ⟨by omega, fun hp => ⟨hp, fun hp2 => ?_, fun hp2 => ⟨⟨by omega, by omega, a1, b2, by omega, by omega, b1, a2, m1, m2⟩, by omega, fun hc => bm ?_, fun hc => bm ?_⟩⟩, fun hp => ⟨hp, fun h => by simp at h, fun _ => ⟨⟨by omega, by omega, a1, b2, by omega, by omega, b1, a2, m1, m2⟩, by omega, fun hc => bm ?_, fun hc => bm ?_⟩⟩⟩⟩⟩
 ·rw [xe hs, if_pos (of_decide_eq_true hl)]
 ·rw [xe hs, if_neg (of_decide_eq_false hl)]
 ·have hd := of_decide_eq_true hd
  have e : q.den = r.den := by split at hd <;> split at hd <;> omega
  rw [kU hs, if_pos (of_decide_eq_true hc), e, IZ (by omega), wG]
 ·have hd := of_decide_eq_true hd
  have e : q.den = r.den := by split at hd <;> split at hd <;> omega
  rw [kU hs, if_neg (of_decide_eq_false hc), e, IZ (by omega)]
 ·have hp2 := gk hp2
  obtain ⟨q1, q2⟩ := lR hp
  obtain ⟨r1, r2⟩ := lR hp2
  rw [if_pos hp, if_pos hp2, if_pos hp2, if_pos hp, (ki q1 r2).1, (ki r1 q2).1]
  have hcs := kU hs
  generalize q.num.natAbs * r.den = X at *
  generalize r.num.natAbs * q.den = Y at *
  unfold bO at hcs
  refine ⟨fun h1 => ⟨by omega, fun hc => bm ?_, fun hc => bm ?_⟩, fun h1 => ⟨fun h2 => ⟨by omega, fun hc => bm ?_, fun hc => bm ?_⟩, fun h2 => ⟨by omega, fun hc => bm ?_, fun hc => bm ?_⟩⟩⟩
  all_goals rw [hcs]
  ·rw [if_pos (of_decide_eq_true hc), if_pos (by have := of_decide_eq_true h1; omega)]; rfl
  ·rw [if_neg (of_decide_eq_false hc), if_pos (by have := of_decide_eq_true h1; omega)]
  ·rw [if_pos (of_decide_eq_true hc), if_neg (by have := of_decide_eq_false h1; omega), if_pos (by have := of_decide_eq_true h2; omega)]
  ·rw [if_neg (of_decide_eq_false hc), if_neg (by have := of_decide_eq_false h1; omega), if_pos (by have := of_decide_eq_true h2; omega)]
  ·rw [if_pos (of_decide_eq_true hc), if_neg (by have := of_decide_eq_false h1; omega), if_neg (by have := of_decide_eq_false h2; omega)]; rfl
  ·rw [if_neg (of_decide_eq_false hc), if_neg (by have := of_decide_eq_false h1; omega), if_neg (by have := of_decide_eq_false h2; omega)]
 ·rw [kU hs, if_pos (of_decide_eq_true hc), wG]
 ·rw [kU hs, if_neg (of_decide_eq_false hc)]
 ·rw [kU hs, if_pos (of_decide_eq_true hc), wG]
 ·rw [kU hs, if_neg (of_decide_eq_false hc)]
theorem Qn : ∀ K args pre r, CS K args pre = some r → aC P oV K args pre r := by
 refine bQ fun K args r hk hs _ => ?_
 split at hs
 ·simp only [Option.some.injEq] at hs
  subst hs
  exact fun need => Ej need.1 need.2 K [] trivial
 ·simp at hs
theorem tJ : br P GA := aJ YR (aJ Qn (aJ YA (aJ Nb (aJ HY (aJ GF aY)))))
section ops
variable {q r : Rat} {n m : Nat}
theorem LQ (hn : n < 2 ^ 42) (hm' : m < 2 ^ 42) (K : Nat) : aC P x7 K [.rat q n, .rat r m] [] (aK (.rat (q + r) (n + m + 1)) []) := by
 refine bH hT tJ hm TQ rfl (of_decide_eq_true (by kernel_rfl)) rfl 60 XH (fun _ => ?_) K []
 simp only [af.all, ay, iz]
 exact ⟨⟨by omega, by omega, by omega, hn, hm', by omega⟩, by omega, .refl _⟩
theorem Ub (r : Rat) : sQ (!decide (r < 0)) r.num.natAbs r.den = -r := by
 have h := iz r
 conv => rhs; rw [← h]
 unfold sQ
 rw [Rat.neg_mkRat]
 congr 1
 unfold eo
 by_cases h : r < 0 <;> simp [h]
theorem Uw (hn : n < 2 ^ 42) (hm' : m < 2 ^ 42) (K : Nat) : aC P y7 K [.rat q n, .rat r m] [] (aK (.rat (q - r) (n + m + 1)) []) := by
 refine bH hT tJ hm Jt rfl (of_decide_eq_true (by kernel_rfl)) rfl 60 TJ (fun _ => ?_) K []
 simp only [af.all, ay, Ub]
 exact ⟨⟨by omega, by omega, by omega, hn, hm', by omega⟩, by omega, cV (by rw [Rat.sub_eq_add_neg])⟩
def cR (q r : Rat) : Rat := if r < q then r else q
def cW (q r : Rat) : Rat := if q < r then r else q
theorem PI {q r : Rat} : cB q r < 0 ↔ q < r := by unfold cB; grind
theorem OI {q r : Rat} : cB q r > 0 ↔ r < q := by unfold cB; grind
theorem I9 (hn : n < 2 ^ 42) (hm' : m < 2 ^ 42) (K : Nat) : aC P rE K [.rat q n, .rat r m] [] (aK (.rat (cR q r) (max n m)) []) := by
 refine bH hT tJ hm Ug rfl (of_decide_eq_true (by kernel_rfl)) rfl 60 KO (fun _ => ?_) K []
 simp only [af.all, ay, decide_eq_true_eq, decide_eq_false_iff_not, PI]
 refine ⟨⟨by omega, by omega, hm', hn⟩, fun h => ⟨⟨by omega, by omega⟩, ⟨by omega, by omega, by omega⟩, by omega, ?_⟩, fun h => ⟨⟨by omega, by omega, by omega⟩, by omega, ?_⟩⟩
 ·unfold cR; rw [if_pos h]; exact jb (Nat.le_max_right _ _)
 ·unfold cR; rw [if_neg h]; exact jb (Nat.le_max_left _ _)
theorem Gi (hn : n < 2 ^ 42) (hm' : m < 2 ^ 42) (K : Nat) : aC P uZ K [.rat q n, .rat r m] [] (aK (.rat (cW q r) (max n m)) []) := by
 refine bH hT tJ hm Ua rfl (of_decide_eq_true (by kernel_rfl)) rfl 60 Rs (fun _ => ?_) K []
 simp only [af.all, ay, decide_eq_true_eq, decide_eq_false_iff_not, OI]
 refine ⟨⟨by omega, by omega, hm', hn⟩, fun h => ⟨⟨by omega, by omega⟩, ⟨by omega, by omega, by omega⟩, by omega, ?_⟩, fun h => ⟨⟨by omega, by omega, by omega⟩, by omega, ?_⟩⟩
 ·unfold cW; rw [if_pos h]; exact jb (Nat.le_max_right _ _)
 ·unfold cW; rw [if_neg h]; exact jb (Nat.le_max_left _ _)
theorem YG {n : Int} : sQ (decide (n < 0)) n.natAbs 1 = (n : Rat) := by
 unfold sQ
 have : eo (decide (n < 0)) n.natAbs = n := by unfold eo; by_cases h : n < 0 <;> simp [h] <;> omega
 rw [this, Rat.mkRat_one]
theorem zL {n : Int} : Sz (n : Rat) (max 1 (bf n.natAbs)) := by
 refine ⟨?_, ?_⟩
 ·rw [Rat.num_intCast]
  exact Nat.lt_of_lt_of_le (fX.1 (Nat.le_refl _)) (Nat.pow_le_pow_right (by omega) (Nat.le_max_right _ _))
 ·rw [Rat.den_intCast]
  exact Nat.lt_of_lt_of_le (show 1 < 2 ^ 1 by omega) (Nat.pow_le_pow_right (by omega) (Nat.le_max_left _ _))
theorem Ld {n : Int} (h1 : -2 ^ 63 ≤ n) (h2 : n < 2 ^ 63) (K : Nat) : aC P yw K [.int .i64 n] [] (aK (.rat (n : Rat) (max 1 (bf n.natAbs))) []) := by
 refine bH hT tJ hm M5 rfl (of_decide_eq_true (by kernel_rfl)) rfl 60 Yt (fun _ => ?_) K []
 simp only [af.all, ay, YG]
 exact ⟨⟨h1, h2, gR (n := 64) (by omega) (by omega), by decide, by omega⟩, by omega, ga rfl zL⟩
theorem N4 (hn : n < 2 ^ 42) (hm' : m < 2 ^ 42) (K : Nat) : aC P yP K [.rat q n, .rat r m] [] (aK (.rat (q * r) (n + m)) []) := by
 refine iD fun ⟨hq, hr, _⟩ => ?_
 have hq : Sz q n := hq
 have hr : Sz r m := hr
 obtain ⟨a1, a2, a3⟩ := Sz.gJ hq (by omega)
 obtain ⟨b1, b2, b3⟩ := Sz.gJ hr (by omega)
 have d1 := q.den_nz
 have d2 := r.den_nz
 have m1 : nl (q.num.natAbs * r.num.natAbs) < 2 ^ 40 := gR (n := n + m) (by rw [Nat.pow_add]; exact Nat.mul_lt_mul'' hq.1 hr.1) (by omega)
 have m2 : nl (q.den * r.den) < 2 ^ 40 := gR (n := n + m) (by rw [Nat.pow_add]; exact Nat.mul_lt_mul'' hq.2 hr.2) (by omega)
 have hz := hq.mul hr
 have hv : sQ (decide (q < 0) != decide (r < 0)) (q.num.natAbs * r.num.natAbs) (q.den * r.den) = q * r := by rw [← BU, iz, iz]
 have hzero : q = 0 ∨ r = 0 → bq (.agg [.bool false, .mag 0, .mag 0]) (.rat (q * r) (n + m)) := by
  intro h
  have e : q * r = 0 := by rcases h with h | h <;> subst h <;> simp
  obtain ⟨k, hk⟩ : ∃ k, n + m = k + 1 := ⟨n + m - 1, by have := hq.pos; omega⟩
  rw [e, hk]; exact mW
 refine bH hT iF hm Z2 rfl (of_decide_eq_true (by kernel_rfl)) rfl 60 Vv (fun _ => ?_) K []
 have hlong : (af.ag
         [(0 : Nat) < 1, (0 : Nat) < 1, (0 : Nat) < 1, (0 : Nat) < 1, nl q.num.natAbs < 2 ^ 40, nl r.num.natAbs < 2 ^ 40, (0 : Nat) < 1, (0 : Nat) < 1, nl q.den < 2 ^ 40, nl r.den < 2 ^ 40, nl (q.num.natAbs * r.num.natAbs) < 2 ^ 40, nl (q.den * r.den) < 2 ^ 40, (0 : Nat) < 1]
         (af.ag [(0 : Nat) < 1]
          (af.leaf ak.ret
           [AV.rat (sQ (decide (q < (0 : Rat)) != decide (r < (0 : Rat))) (q.num.natAbs * r.num.natAbs) (q.den * r.den))
             (bW (sQ (decide (q < (0 : Rat)) != decide (r < (0 : Rat))) (q.num.natAbs * r.num.natAbs) (q.den * r.den)))]))).all fun _ us => ef us (.rat (q * r) (n + m)) := by
  simp only [af.all, ay]
  exact ⟨⟨by omega, by omega, by omega, by omega, a1, b1, by omega, by omega, a2, b2, m1, m2, by omega⟩, by omega, ga hv hz⟩
 refine ⟨fun hb => ⟨⟨show 0 < 1 by omega, hb⟩, fun _ => ⟨show 0 < 1 by omega, show 0 < 1 by omega, hzero (.inl ?_)⟩, fun h => by simp at h⟩, fun hb => ⟨⟨show 0 < 1 by omega, hb, show 0 < 1 by omega⟩, fun hc => ⟨show 0 < 1 by omega, show 0 < 1 by omega, hzero (.inr ?_)⟩, fun hc => ⟨show 0 < 1 by omega, fun h1 => ⟨show 0 < 1 by omega, fun h2 => ?_, fun h2 => hlong⟩, fun h1 => hlong⟩⟩⟩
 ·have := eq_of_beq hb
  exact nU.1 (gP.1 (by omega))
 ·have := eq_of_beq (fL hc)
  exact nU.1 (gP.1 (by omega))
 ·obtain ⟨q1, q2⟩ := lR h1
  obtain ⟨r1, r2⟩ := lR h2
  obtain ⟨wx, bx⟩ := ki q1 r1
  obtain ⟨wd, bd⟩ := ki q2 r2
  have hd0 : q.den * r.den ≠ 0 := Nat.mul_ne_zero d1 d2
  rw [if_pos h1, if_pos h2, if_pos h1, if_pos h2, wx, wd]
  simp only [af.all, ay, Int.toNat_natCast]
  exact ⟨⟨by omega, by omega, by omega, by omega, by omega⟩, by omega, ga hv hz⟩
theorem C2 (q r : Rat) (hr : r ≠ 0) : sQ (decide (q < 0) != decide (r < 0)) (q.num.natAbs * r.den) (q.den * r.num.natAbs) = q / r := by
 have hn : r.num ≠ 0 := fun h => hr (Rat.num_eq_zero.1 h)
 have hi : r⁻¹ = sQ (decide (r < 0)) r.den r.num.natAbs := by
  rw [← iz r⁻¹]
  have e1 : r⁻¹.num.natAbs = r.den := by rw [Rat.num_inv, Int.natAbs_mul, Int.natAbs_natCast, Int.natAbs_sign_of_ne_zero hn, Nat.one_mul]
  have e2 : r⁻¹.den = r.num.natAbs := by rw [Rat.den_inv, if_neg hn]
  have e3 : decide (r⁻¹ < 0) = decide (r < 0) := by
   rw [decide_eq_decide, gb, gb, Rat.num_inv]
   have hd := r.den_nz
   have hd' : (0 : Int) < (r.den : Int) := by omega
   rcases Int.lt_trichotomy r.num 0 with h | h | h
   ·rw [Int.sign_eq_neg_one_of_neg h]; omega
   ·exact absurd h hn
   ·rw [Int.sign_eq_one_of_pos h]; omega
  rw [e1, e2, e3]
 rw [Rat.div_def, hi]
 conv => rhs; rw [← iz q]
 rw [BU]
theorem Sa (hn : n < 2 ^ 42) (hm' : m < 2 ^ 42) (K : Nat) : aC P yJ K [.rat q n, .rat r m] [] (aK (.tuple [.rat (q / r) (n + m), .int .i64 (if r = 0 then 3 else 0)]) []) := by
 refine iD fun ⟨hq, hr, _⟩ => ?_
 have hq : Sz q n := hq
 have hr : Sz r m := hr
 obtain ⟨a1, a2, a3⟩ := Sz.gJ hq (by omega)
 obtain ⟨b1, b2, b3⟩ := Sz.gJ hr (by omega)
 have d1 := q.den_nz
 have d2 := r.den_nz
 have m1 : nl (q.num.natAbs * r.den) < 2 ^ 40 := gR (n := n + m) (by rw [Nat.pow_add]; exact Nat.mul_lt_mul'' hq.1 hr.2) (by omega)
 have m2 : nl (q.den * r.num.natAbs) < 2 ^ 40 := gR (n := n + m) (by rw [Nat.pow_add]; exact Nat.mul_lt_mul'' hq.2 hr.1) (by omega)
 have hz := hq.div hr
 have sg : ∀ {x : Rat}, dO x = 0 ↔ x = 0 := by intro x; unfold dO; grind
 refine bH hT iF hm U6 rfl (of_decide_eq_true (by kernel_rfl)) rfl 60 MJ (fun _ => ?_) K []
 refine ⟨⟨show 0 < 1 by omega, show m < 2 ^ 44 by omega⟩, fun hb => ⟨show 0 < 1 by omega, show 0 < 1 by omega, ?_, ?_, trivial⟩, fun hb => ⟨show 0 < 1 by omega, ?_⟩⟩
 ·have h0 : r = 0 := sg.1 (eq_of_beq hb)
  have e : q / r = 0 := by rw [h0, Rat.div_def, Rat.inv_zero, Rat.mul_zero]
  obtain ⟨k, hk⟩ : ∃ k, n + m = k + 1 := ⟨n + m - 1, by have := hq.pos; omega⟩
  rw [e, hk]; exact mW
 ·have h0 : r = 0 := sg.1 (eq_of_beq hb)
  exact bm (by rw [if_pos h0])
 have h0 : r ≠ 0 := fun h => by
  rw [h] at hb
  simp [dO] at hb
 have hv := C2 q r h0
 have he : bq (.int .i64 0) (.int .i64 (if r = 0 then 3 else 0)) := bm (by rw [if_neg h0])
 have hlong : (af.ag
         [(0 : Nat) < 1, (0 : Nat) < 1, (0 : Nat) < 1, (0 : Nat) < 1, nl q.num.natAbs < 2 ^ 40, nl r.den < 2 ^ 40, (0 : Nat) < 1, (0 : Nat) < 1, nl q.den < 2 ^ 40, nl r.num.natAbs < 2 ^ 40, nl (q.num.natAbs * r.den) < 2 ^ 40, nl (q.den * r.num.natAbs) < 2 ^ 40, (0 : Nat) < 1]
         (af.ag [(0 : Nat) < 1]
          (af.leaf ak.ret
           [AV.rat (sQ (decide (q < (0 : Rat)) != decide (r < (0 : Rat))) (q.num.natAbs * r.den) (q.den * r.num.natAbs))
             (bW (sQ (decide (q < (0 : Rat)) != decide (r < (0 : Rat))) (q.num.natAbs * r.den) (q.den * r.num.natAbs))), .int .i64 0]))).all fun _ us => ef us (.tuple [.rat (q / r) (n + m), .int .i64 (if r = 0 then 3 else 0)]) := by
  simp only [af.all, ay]
  exact ⟨⟨by omega, by omega, by omega, by omega, a1, b2, by omega, by omega, a2, b1, m1, m2, by omega⟩, by omega, ga hv hz, he, trivial⟩
 refine ⟨fun h1 => ⟨show 0 < 1 by omega, fun h2 => ?_, fun h2 => hlong⟩, fun h1 => hlong⟩
 obtain ⟨q1, q2⟩ := lR h1
 obtain ⟨r1, r2⟩ := lR h2
 obtain ⟨wx, bx⟩ := ki q1 r2
 obtain ⟨wd, bd⟩ := ki q2 r1
 have hr0 : r.num.natAbs ≠ 0 := fun h => h0 (nU.1 h)
 have hd0 : q.den * r.num.natAbs ≠ 0 := Nat.mul_ne_zero d1 hr0
 rw [if_pos h1, if_pos h2, if_pos h1, if_pos h2, wx, wd]
 simp only [af.all, ay, Int.toNat_natCast]
 exact ⟨⟨by omega, by omega, by omega, by omega, by omega⟩, by omega, ga hv hz, he, trivial⟩
end ops
end Go.Am.B
