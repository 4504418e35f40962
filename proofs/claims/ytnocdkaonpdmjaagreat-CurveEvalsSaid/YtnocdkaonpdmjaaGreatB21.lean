/- rational.Add, Sub, Mul, Quo, Cmp, Min, Max, Int. -/
import Derived.Test.YtnocdkaonpdmjaaGreatB20
set_option linter.unusedVariables false
namespace Go.Am.B
open Go Go.Am.N AV
theorem adt : aN P tH xQ (au xQ) := aP aak (by kernel_rfl) (by kernel_rfl) (by kernel_rfl)
theorem Mg : aN P uF xN (au xN) := aP Zv (by kernel_rfl) (by kernel_rfl) (by kernel_rfl)
theorem LY : aN P AK r7 (au r7) := aP Po (by kernel_rfl) (by kernel_rfl) (by kernel_rfl)
theorem ac1 : aN P y7 uH (au uH) := aP Q2 (by kernel_rfl) (by kernel_rfl) (by kernel_rfl)
theorem aea : aN P oP tT (au tT) := aP XJ (by kernel_rfl) (by kernel_rfl) (by kernel_rfl)
def KS : Spec := bw fun l => match l with
 | [.rat q n, .rat r m, .bool s] => some (aG (.rat (q + sQ s r.num.natAbs r.den) (n + m + 1)) [n < 2 ^ 42, m < 2 ^ 42])
 | _ => none
def KI : Spec := bw fun l => match l with
 | [.rat q n, .rat r m] => some (aG (.int .i64 (dK q r)) [n < 2 ^ 42, m < 2 ^ 42])
 | _ => none
abbrev Cp : FuncId × Spec := (tN, I4)
def GA : aQ := (w8, KS) :: (iF, KI) :: Cp :: (yc, EE) :: (ql, Ew) :: (qJ, Et) :: []
theorem aaO {q r : Rat} {n m : Nat} : bu T GA [] 60 xQ (au xQ) ⟨aL 0 [.rat q n, .rat r m], [], 0⟩ =
  some (aa.ag [(0 : Nat) < 1, (0 : Nat) < 1, (0 : Nat) < 1, n < 2 ^ 42, m < 2 ^ 42, (0 : Nat) < 1] (aa.ag [(0 : Nat) < 1] (aa.leaf ah.ret [rat (q + sQ (decide (r < 0)) r.num.natAbs r.den) (n + m + 1)]))) := by kernel_rfl
theorem OQ {q r : Rat} {n m : Nat} : bu T GA [] 60 xN (au xN) ⟨aL 0 [.rat q n, .rat r m], [], 0⟩ =
  some (aa.ag [(0 : Nat) < 1, (0 : Nat) < 1, (0 : Nat) < 1, n < 2 ^ 42, m < 2 ^ 42, (0 : Nat) < 1] (aa.ag [(0 : Nat) < 1] (aa.leaf ah.ret [rat (q + sQ (!decide (r < 0)) r.num.natAbs r.den) (n + m + 1)]))) := by kernel_rfl
theorem QX {q r : Rat} {n m : Nat} : bu T GA [8] 60 r7 (au r7) ⟨aL 0 [.rat q n, .rat r m], [], 0⟩ =
  some (aa.ag [(0 : Nat) < 1, (0 : Nat) < 1, m < 2 ^ 42, n < 2 ^ 42] (aa.fork (decide (dK r q < (0 : Int))) (aa.ag [(0 : Nat) < 1, (0 : Nat) < 1] (aa.ag [(0 : Nat) < 1, m < 2 ^ 44, (0 : Nat) < 1] (aa.ag [(0 : Nat) < 1] (aa.leaf ah.ret [rat r m])))) (aa.ag [(0 : Nat) < 1, n < 2 ^ 44, (0 : Nat) < 1] (aa.ag [(0 : Nat) < 1] (aa.leaf ah.ret [rat q n]))))) := by kernel_rfl
theorem SU {q r : Rat} {n m : Nat} : bu T GA [8] 60 uH (au uH) ⟨aL 0 [.rat q n, .rat r m], [], 0⟩ =
  some (aa.ag [(0 : Nat) < 1, (0 : Nat) < 1, m < 2 ^ 42, n < 2 ^ 42] (aa.fork (decide (dK r q > (0 : Int))) (aa.ag [(0 : Nat) < 1, (0 : Nat) < 1] (aa.ag [(0 : Nat) < 1, m < 2 ^ 44, (0 : Nat) < 1] (aa.ag [(0 : Nat) < 1] (aa.leaf ah.ret [rat r m])))) (aa.ag [(0 : Nat) < 1, n < 2 ^ 44, (0 : Nat) < 1] (aa.ag [(0 : Nat) < 1] (aa.leaf ah.ret [rat q n]))))) := by kernel_rfl
theorem ab1 {n : Int} : bu T GA [] 60 tT (au tT) ⟨aL 0 [.int .i64 n], [], 0⟩ =
  some (aa.ag [-(2 : Int) ^ 63 ≤ n, n < (2 : Int) ^ 63, nl n.natAbs < 2 ^ 40, nl 1 < 2 ^ 40, (0 : Nat) < 1] (aa.ag [(0 : Nat) < 1] (aa.leaf ah.ret [rat (sQ (decide (n < (0 : Int))) n.natAbs 1) (bS (sQ (decide (n < (0 : Int))) n.natAbs 1))]))) := by kernel_rfl
theorem Qj {q r : Rat} {n m : Nat} : bu T GQ [20, 23, 34, 47, 49, 56, 63, 76] 60 xq (au xq) ⟨aL 0 [.rat q n, .rat r m], [], 0⟩ =
  some (aa.ag [(0 : Nat) < 1, n < 2 ^ 44, (0 : Nat) < 1, m < 2 ^ 44] (aa.fork (dO q != dO r) (aa.fork (decide (dO q < dO r)) (aa.leaf ah.ret [int IntKind.i64 (-1 : Int)]) (aa.leaf ah.ret [int IntKind.i64 (1 : Int)])) (aa.ag [(0 : Nat) < 1] (aa.ag [(0 : Nat) < 1, (0 : Nat) < 1, nl (if q.den = 1 then 0 else q.den) < 2 ^ 40, nl (if r.den = 1 then 0 else r.den) < 2 ^ 40] (aa.fork (decide ((if q.den = 1 then 0 else q.den) = if r.den = 1 then 0 else r.den)) (aa.ag [(0 : Nat) < 1, (0 : Nat) < 1, nl q.num.natAbs < 2 ^ 40, nl r.num.natAbs < 2 ^ 40] (aa.ag [(0 : Nat) < 1] (aa.fork (decide (q < 0)) (aa.leaf ah.ret [int IntKind.i64 (IntKind.i64.wrap ((0 : Int) - bT q.num.natAbs r.num.natAbs))]) (aa.leaf ah.ret [int IntKind.i64 (bT q.num.natAbs r.num.natAbs)])))) (aa.ag [(0 : Nat) < 1] (aa.fork (bp q) (aa.ag [bp q = true] (aa.fork (bif true then bp r else false) (aa.fork (decide (IntKind.u64.wrap ((↑(if bp q = true then q.num.natAbs else 0) : Int) * (↑(if bp r = true then r.den else 0) : Int)) < IntKind.u64.wrap ((↑(if bp r = true then r.num.natAbs else 0) : Int) * (↑(if bp q = true then q.den else 0) : Int)))) (aa.ag [(0 : Nat) < 1] (aa.fork (decide (q < 0)) (aa.leaf ah.ret [int IntKind.i64 (1 : Int)]) (aa.leaf ah.ret [int IntKind.i64 (-1 : Int)]))) (aa.fork (decide (IntKind.u64.wrap ((↑(if bp q = true then q.num.natAbs else 0) : Int) * (↑(if bp r = true then r.den else 0) : Int)) > IntKind.u64.wrap ((↑(if bp r = true then r.num.natAbs else 0) : Int) * (↑(if bp q = true then q.den else 0) : Int)))) (aa.ag [(0 : Nat) < 1] (aa.fork (decide (q < 0)) (aa.leaf ah.ret [int IntKind.i64 (-1 : Int)]) (aa.leaf ah.ret [int IntKind.i64 (1 : Int)]))) (aa.ag [(0 : Nat) < 1] (aa.fork (decide (q < 0)) (aa.leaf ah.ret [int IntKind.i64 (0 : Int)]) (aa.leaf ah.ret [int IntKind.i64 (0 : Int)]))))) (aa.ag [(0 : Nat) < 1, (0 : Nat) < 1, nl q.num.natAbs < 2 ^ 40, nl r.den < 2 ^ 40, (0 : Nat) < 1, (0 : Nat) < 1, nl r.num.natAbs < 2 ^ 40, nl q.den < 2 ^ 40, nl (q.num.natAbs * r.den) < 2 ^ 40, nl (r.num.natAbs * q.den) < 2 ^ 40] (aa.ag [(0 : Nat) < 1] (aa.fork (decide (q < 0)) (aa.leaf ah.ret [int IntKind.i64 (IntKind.i64.wrap ((0 : Int) - bT (q.num.natAbs * r.den) (r.num.natAbs * q.den)))]) (aa.leaf ah.ret [int IntKind.i64 (bT (q.num.natAbs * r.den) (r.num.natAbs * q.den))])))))) (aa.ag [bp q = false] (aa.fork false (aa.fork (decide (IntKind.u64.wrap ((↑(if bp q = true then q.num.natAbs else 0) : Int) * (↑(if bp r = true then r.den else 0) : Int)) < IntKind.u64.wrap ((↑(if bp r = true then r.num.natAbs else 0) : Int) * (↑(if bp q = true then q.den else 0) : Int)))) (aa.ag [(0 : Nat) < 1] (aa.fork (decide (q < 0)) (aa.leaf ah.ret [int IntKind.i64 (1 : Int)]) (aa.leaf ah.ret [int IntKind.i64 (-1 : Int)]))) (aa.fork (decide (IntKind.u64.wrap ((↑(if bp q = true then q.num.natAbs else 0) : Int) * (↑(if bp r = true then r.den else 0) : Int)) > IntKind.u64.wrap ((↑(if bp r = true then r.num.natAbs else 0) : Int) * (↑(if bp q = true then q.den else 0) : Int)))) (aa.ag [(0 : Nat) < 1] (aa.fork (decide (q < 0)) (aa.leaf ah.ret [int IntKind.i64 (-1 : Int)]) (aa.leaf ah.ret [int IntKind.i64 (1 : Int)]))) (aa.ag [(0 : Nat) < 1] (aa.fork (decide (q < 0)) (aa.leaf ah.ret [int IntKind.i64 (0 : Int)]) (aa.leaf ah.ret [int IntKind.i64 (0 : Int)]))))) (aa.ag [(0 : Nat) < 1, (0 : Nat) < 1, nl q.num.natAbs < 2 ^ 40, nl r.den < 2 ^ 40, (0 : Nat) < 1, (0 : Nat) < 1, nl r.num.natAbs < 2 ^ 40, nl q.den < 2 ^ 40, nl (q.num.natAbs * r.den) < 2 ^ 40, nl (r.num.natAbs * q.den) < 2 ^ 40] (aa.ag [(0 : Nat) < 1] (aa.fork (decide (q < 0)) (aa.leaf ah.ret [int IntKind.i64 (IntKind.i64.wrap ((0 : Int) - bT (q.num.natAbs * r.den) (r.num.natAbs * q.den)))]) (aa.leaf ah.ret [int IntKind.i64 (bT (q.num.natAbs * r.den) (r.num.natAbs * q.den))]))))))))))))) := by kernel_rfl
theorem Uq : ∀ K args pre r, KS K args pre = some r → aA P w8 K args pre r := by
 refine bI fun K args r hk hs _ => ?_
 split at hs
 ·simp only [Option.some.injEq] at hs
  subst hs
  exact fun need => Q9 need.1 need.2 K [] trivial
 ·simp at hs
theorem Ac {q r : Rat} (h : dO q ≠ dO r) : dK q r = if dO q < dO r then -1 else 1 := by
 unfold dO dK at *
 grind
theorem abx {a b : Nat} : -bT a b = bT b a := by unfold bT; split <;> split <;> omega
theorem HM {a b k : Nat} (hk : 0 < k) : bT (a * k) (b * k) = bT a b := by
 unfold bT
 simp only [Nat.mul_lt_mul_right hk]
theorem AM {a b : Nat} : IntKind.i64.wrap (0 - bT a b) = -bT a b := by
 have : bT a b = -1 ∨ bT a b = 0 ∨ bT a b = 1 := by unfold bT; split; exact .inl rfl; split; exact .inr (.inr rfl); exact .inr (.inl rfl)
 rcases this with h | h | h <;> rw [h] <;> rfl
theorem k9 {q r : Rat} (h : dO q = dO r) : dK q r = if q < 0 then -bT (q.num.natAbs * r.den) (r.num.natAbs * q.den) else bT (q.num.natAbs * r.den) (r.num.natAbs * q.den) := by
 have h1 : q < 0 ↔ r < 0 := by unfold dO at h; grind
 have e1 : ∀ {a b : Nat}, (-(a : Int)) * (b : Int) = -((a * b : Nat) : Int) := fun {a b} => by simp [Int.neg_mul]
 have e2 : ∀ {a b : Nat}, (a : Int) * (b : Int) = ((a * b : Nat) : Int) := fun {a b} => by simp
 unfold dK
 by_cases hq : q < 0
 ·have hr := h1.1 hq
  have q1 : q.num = -(q.num.natAbs : Int) := by have := gk.1 hq; omega
  have r1 : r.num = -(r.num.natAbs : Int) := by have := gk.1 hr; omega
  have l1 : q < r ↔ r.num.natAbs * q.den < q.num.natAbs * r.den := by
   rw [Rat.lt_iff]
   conv => lhs; rw [q1, r1, e1, e1]
   omega
  have l2 : r < q ↔ q.num.natAbs * r.den < r.num.natAbs * q.den := by
   rw [Rat.lt_iff]
   conv => lhs; rw [q1, r1, e1, e1]
   omega
  rw [if_pos hq, abx]
  unfold bT
  simp only [l1, l2]
 ·have hr : ¬ r < 0 := fun h => hq (h1.2 h)
  have q1 : q.num = (q.num.natAbs : Int) := by have : ¬ q.num < 0 := fun h => hq (gk.2 h); omega
  have r1 : r.num = (r.num.natAbs : Int) := by have : ¬ r.num < 0 := fun h => hr (gk.2 h); omega
  have l1 : q < r ↔ q.num.natAbs * r.den < r.num.natAbs * q.den := by
   rw [Rat.lt_iff]
   conv => lhs; rw [q1, r1, e2, e2]
   omega
  have l2 : r < q ↔ r.num.natAbs * q.den < q.num.natAbs * r.den := by
   rw [Rat.lt_iff]
   conv => lhs; rw [q1, r1, e2, e2]
   omega
  rw [if_neg hq]
  unfold bT
  simp only [l1, l2]
theorem B3 {q r : Rat} {n m : Nat} (hn : n < 2 ^ 42) (hm' : m < 2 ^ 42) (K : Nat) (pre : aD) : aA P iF K [.rat q n, .rat r m] pre (aG (.int .i64 (dK q r)) []) := by
 refine gF fun ⟨hq, hr, _⟩ => ?_
 have hq : Sz q n := hq
 have hr : Sz r m := hr
 obtain ⟨a1, a2, a3⟩ := Sz.gJ hq (by omega)
 obtain ⟨b1, b2, b3⟩ := Sz.gJ hr (by omega)
 have d1 := q.den_nz
 have d2 := r.den_nz
 have m1 : nl (q.num.natAbs * r.den) < 2 ^ 40 := iI (n := n + m) (by rw [Nat.pow_add]; exact Nat.mul_lt_mul'' hq.1 hr.2) (by omega)
 have m2 : nl (r.num.natAbs * q.den) < 2 ^ 40 := iI (n := m + n) (by rw [Nat.pow_add]; exact Nat.mul_lt_mul'' hr.1 hq.2) (by omega)
 refine bC hT jk hm aae rfl (of_decide_eq_true (by kernel_rfl)) rfl 60 Qj (fun _ => ?_) K pre
 simp only [aa.all, ay, bne_iff_ne, ne_eq, bne_eq_false_iff_eq]
 refine ⟨⟨by omega, by omega, by omega, by omega⟩, fun hs => ⟨fun hl => bq ?_, fun hl => bq ?_⟩, fun hs => ⟨by omega, ⟨by omega, by omega, a3, b3⟩, fun hd => ⟨⟨by omega, by omega, a1, b1⟩, by omega, fun hc => bq ?_, fun hc => bq ?_⟩, fun hd => ⟨by omega, fun hp => ⟨hp, fun hp2 => ?_, fun hp2 => ⟨⟨by omega, by omega, a1, b2, by omega, by omega, b1, a2, m1, m2⟩, by omega, fun hc => bq ?_, fun hc => bq ?_⟩⟩, fun hp => ⟨hp, fun h => by simp at h, fun _ => ⟨⟨by omega, by omega, a1, b2, by omega, by omega, b1, a2, m1, m2⟩, by omega, fun hc => bq ?_, fun hc => bq ?_⟩⟩⟩⟩⟩
 ·rw [Ac hs, if_pos (of_decide_eq_true hl)]
 ·rw [Ac hs, if_neg (of_decide_eq_false hl)]
 ·have hd := of_decide_eq_true hd
  have e : q.den = r.den := by split at hd <;> split at hd <;> omega
  rw [k9 hs, if_pos (of_decide_eq_true hc), e, HM (by omega), AM]
 ·have hd := of_decide_eq_true hd
  have e : q.den = r.den := by split at hd <;> split at hd <;> omega
  rw [k9 hs, if_neg (of_decide_eq_false hc), e, HM (by omega)]
 ·have hp2 := gG hp2
  obtain ⟨q1, q2⟩ := mS hp
  obtain ⟨r1, r2⟩ := mS hp2
  rw [if_pos hp, if_pos hp2, if_pos hp2, if_pos hp, (lf q1 r2).1, (lf r1 q2).1]
  have hcs := k9 hs
  generalize q.num.natAbs * r.den = X at *
  generalize r.num.natAbs * q.den = Y at *
  unfold bT at hcs
  refine ⟨fun h1 => ⟨by omega, fun hc => bq ?_, fun hc => bq ?_⟩, fun h1 => ⟨fun h2 => ⟨by omega, fun hc => bq ?_, fun hc => bq ?_⟩, fun h2 => ⟨by omega, fun hc => bq ?_, fun hc => bq ?_⟩⟩⟩
  all_goals rw [hcs]
  ·rw [if_pos (of_decide_eq_true hc), if_pos (by have := of_decide_eq_true h1; omega)]; rfl
  ·rw [if_neg (of_decide_eq_false hc), if_pos (by have := of_decide_eq_true h1; omega)]
  ·rw [if_pos (of_decide_eq_true hc), if_neg (by have := of_decide_eq_false h1; omega), if_pos (by have := of_decide_eq_true h2; omega)]
  ·rw [if_neg (of_decide_eq_false hc), if_neg (by have := of_decide_eq_false h1; omega), if_pos (by have := of_decide_eq_true h2; omega)]
  ·rw [if_pos (of_decide_eq_true hc), if_neg (by have := of_decide_eq_false h1; omega), if_neg (by have := of_decide_eq_false h2; omega)]; rfl
  ·rw [if_neg (of_decide_eq_false hc), if_neg (by have := of_decide_eq_false h1; omega), if_neg (by have := of_decide_eq_false h2; omega)]
 ·rw [k9 hs, if_pos (of_decide_eq_true hc), AM]
 ·rw [k9 hs, if_neg (of_decide_eq_false hc)]
 ·rw [k9 hs, if_pos (of_decide_eq_true hc), AM]
 ·rw [k9 hs, if_neg (of_decide_eq_false hc)]
theorem Tg : ∀ K args pre r, KI K args pre = some r → aA P iF K args pre r := by
 refine bI fun K args r hk hs _ => ?_
 split at hs
 ·simp only [Option.some.injEq] at hs
  subst hs
  exact fun need => B3 need.1 need.2 K [] trivial
 ·simp at hs
theorem Tf : ∀ K args pre r, Cp.2 K args pre = some r → aA P Cp.1 K args pre r := ZT
theorem vE : aY P GA := aF Uq (aF Tg (aF Tf (aF Nb (aF Je (aF Kb bk)))))
section ops
variable {q r : Rat} {n m : Nat}
theorem Gx (hn : n < 2 ^ 42) (hm' : m < 2 ^ 42) (K : Nat) : aA P tH K [.rat q n, .rat r m] [] (aG (.rat (q + r) (n + m + 1)) []) := by
 refine bC hT vE hm adt rfl (of_decide_eq_true (by kernel_rfl)) rfl 60 aaO (fun _ => ?_) K []
 simp only [aa.all, ay, iO]
 exact ⟨⟨by omega, by omega, by omega, hn, hm', by omega⟩, by omega, .refl _⟩
theorem acJ (r : Rat) : sQ (!decide (r < 0)) r.num.natAbs r.den = -r := by
 have h := iO r
 conv => rhs; rw [← h]
 unfold sQ
 rw [Rat.neg_mkRat]
 congr 1
 unfold ew
 by_cases h : r < 0 <;> simp [h]
theorem Jb (hn : n < 2 ^ 42) (hm' : m < 2 ^ 42) (K : Nat) : aA P uF K [.rat q n, .rat r m] [] (aG (.rat (q - r) (n + m + 1)) []) := by
 refine bC hT vE hm Mg rfl (of_decide_eq_true (by kernel_rfl)) rfl 60 OQ (fun _ => ?_) K []
 simp only [aa.all, ay, acJ]
 exact ⟨⟨by omega, by omega, by omega, hn, hm', by omega⟩, by omega, cI (by rw [Rat.sub_eq_add_neg])⟩
def oq (q r : Rat) : Rat := if r < q then r else q
def oG (q r : Rat) : Rat := if q < r then r else q
theorem kB {q r : Rat} : dK q r < 0 ↔ q < r := by unfold dK; grind
theorem qD {q r : Rat} : dK q r > 0 ↔ r < q := by unfold dK; grind
theorem acn (hn : n < 2 ^ 42) (hm' : m < 2 ^ 42) (K : Nat) : aA P AK K [.rat q n, .rat r m] [] (aG (.rat (oq q r) (max n m)) []) := by
 refine bC hT vE hm LY rfl (of_decide_eq_true (by kernel_rfl)) rfl 60 QX (fun _ => ?_) K []
 simp only [aa.all, ay, decide_eq_true_eq, decide_eq_false_iff_not, kB]
 refine ⟨⟨by omega, by omega, hm', hn⟩, fun h => ⟨⟨by omega, by omega⟩, ⟨by omega, by omega, by omega⟩, by omega, ?_⟩, fun h => ⟨⟨by omega, by omega, by omega⟩, by omega, ?_⟩⟩
 ·unfold oq; rw [if_pos h]; exact dm (Nat.le_max_right _ _)
 ·unfold oq; rw [if_neg h]; exact dm (Nat.le_max_left _ _)
theorem PN (hn : n < 2 ^ 42) (hm' : m < 2 ^ 42) (K : Nat) : aA P y7 K [.rat q n, .rat r m] [] (aG (.rat (oG q r) (max n m)) []) := by
 refine bC hT vE hm ac1 rfl (of_decide_eq_true (by kernel_rfl)) rfl 60 SU (fun _ => ?_) K []
 simp only [aa.all, ay, decide_eq_true_eq, decide_eq_false_iff_not, qD]
 refine ⟨⟨by omega, by omega, hm', hn⟩, fun h => ⟨⟨by omega, by omega⟩, ⟨by omega, by omega, by omega⟩, by omega, ?_⟩, fun h => ⟨⟨by omega, by omega, by omega⟩, by omega, ?_⟩⟩
 ·unfold oG; rw [if_pos h]; exact dm (Nat.le_max_right _ _)
 ·unfold oG; rw [if_neg h]; exact dm (Nat.le_max_left _ _)
theorem Zc {n : Int} : sQ (decide (n < 0)) n.natAbs 1 = (n : Rat) := by
 unfold sQ
 have : ew (decide (n < 0)) n.natAbs = n := by unfold ew; by_cases h : n < 0 <;> simp [h] <;> omega
 rw [this, Rat.mkRat_one]
theorem Ce {n : Int} : Sz (n : Rat) (max 1 (bg n.natAbs)) := by
 refine ⟨?_, ?_⟩
 ·rw [Rat.num_intCast]
  exact Nat.lt_of_lt_of_le (gN.1 (Nat.le_refl _)) (Nat.pow_le_pow_right (by omega) (Nat.le_max_right _ _))
 ·rw [Rat.den_intCast]
  exact Nat.lt_of_lt_of_le (show 1 < 2 ^ 1 by omega) (Nat.pow_le_pow_right (by omega) (Nat.le_max_left _ _))
theorem CM {n : Int} (h1 : -2 ^ 63 ≤ n) (h2 : n < 2 ^ 63) (K : Nat) : aA P oP K [.int .i64 n] [] (aG (.rat (n : Rat) (max 1 (bg n.natAbs))) []) := by
 refine bC hT vE hm aea rfl (of_decide_eq_true (by kernel_rfl)) rfl 60 ab1 (fun _ => ?_) K []
 simp only [aa.all, ay, Zc]
 exact ⟨⟨h1, h2, iI (n := 64) (by omega) (by omega), by decide, by omega⟩, by omega, eM rfl Ce⟩
theorem E3 (hn : n < 2 ^ 42) (hm' : m < 2 ^ 42) (K : Nat) : aA P uw K [.rat q n, .rat r m] [] (aG (.rat (q * r) (n + m)) []) := by
 refine gF fun ⟨hq, hr, _⟩ => ?_
 have hq : Sz q n := hq
 have hr : Sz r m := hr
 obtain ⟨a1, a2, a3⟩ := Sz.gJ hq (by omega)
 obtain ⟨b1, b2, b3⟩ := Sz.gJ hr (by omega)
 have d1 := q.den_nz
 have d2 := r.den_nz
 have m1 : nl (q.num.natAbs * r.num.natAbs) < 2 ^ 40 := iI (n := n + m) (by rw [Nat.pow_add]; exact Nat.mul_lt_mul'' hq.1 hr.1) (by omega)
 have m2 : nl (q.den * r.den) < 2 ^ 40 := iI (n := n + m) (by rw [Nat.pow_add]; exact Nat.mul_lt_mul'' hq.2 hr.2) (by omega)
 have hz := hq.mul hr
 have hv : sQ (decide (q < 0) != decide (r < 0)) (q.num.natAbs * r.num.natAbs) (q.den * r.den) = q * r := by rw [← Eg, iO, iO]
 have hzero : q = 0 ∨ r = 0 → bB (.agg [.bool false, .mag 0, .mag 0]) (.rat (q * r) (n + m)) := by
  intro h
  have e : q * r = 0 := by rcases h with h | h <;> subst h <;> simp
  obtain ⟨k, hk⟩ : ∃ k, n + m = k + 1 := ⟨n + m - 1, by have := hq.pos; omega⟩
  rw [e, hk]; exact iu
 refine bC hT jk hm OT rfl (of_decide_eq_true (by kernel_rfl)) rfl 60 VY (fun _ => ?_) K []
 have hlong : (aa.ag
         [(0 : Nat) < 1, (0 : Nat) < 1, (0 : Nat) < 1, (0 : Nat) < 1, nl q.num.natAbs < 2 ^ 40, nl r.num.natAbs < 2 ^ 40, (0 : Nat) < 1, (0 : Nat) < 1, nl q.den < 2 ^ 40, nl r.den < 2 ^ 40, nl (q.num.natAbs * r.num.natAbs) < 2 ^ 40, nl (q.den * r.den) < 2 ^ 40, (0 : Nat) < 1]
         (aa.ag [(0 : Nat) < 1]
          (aa.leaf ah.ret
           [AV.rat (sQ (decide (q < (0 : Rat)) != decide (r < (0 : Rat))) (q.num.natAbs * r.num.natAbs) (q.den * r.den))
             (bS (sQ (decide (q < (0 : Rat)) != decide (r < (0 : Rat))) (q.num.natAbs * r.num.natAbs) (q.den * r.den)))]))).all fun _ us => dn us (.rat (q * r) (n + m)) := by
  simp only [aa.all, ay]
  exact ⟨⟨by omega, by omega, by omega, by omega, a1, b1, by omega, by omega, a2, b2, m1, m2, by omega⟩, by omega, eM hv hz⟩
 refine ⟨fun hb => ⟨⟨show 0 < 1 by omega, hb⟩, fun _ => ⟨show 0 < 1 by omega, show 0 < 1 by omega, hzero (.inl ?_)⟩, fun h => by simp at h⟩, fun hb => ⟨⟨show 0 < 1 by omega, hb, show 0 < 1 by omega⟩, fun hc => ⟨show 0 < 1 by omega, show 0 < 1 by omega, hzero (.inr ?_)⟩, fun hc => ⟨show 0 < 1 by omega, fun h1 => ⟨show 0 < 1 by omega, fun h2 => ?_, fun h2 => hlong⟩, fun h1 => hlong⟩⟩⟩
 ·have := eq_of_beq hb
  exact j8.1 (gP.1 (by omega))
 ·have := eq_of_beq (fD hc)
  exact j8.1 (gP.1 (by omega))
 ·obtain ⟨q1, q2⟩ := mS h1
  obtain ⟨r1, r2⟩ := mS h2
  obtain ⟨wx, bx⟩ := lf q1 r1
  obtain ⟨wd, bd⟩ := lf q2 r2
  have hd0 : q.den * r.den ≠ 0 := Nat.mul_ne_zero d1 d2
  rw [if_pos h1, if_pos h2, if_pos h1, if_pos h2, wx, wd]
  simp only [aa.all, ay, Int.toNat_natCast]
  exact ⟨⟨by omega, by omega, by omega, by omega, by omega⟩, by omega, eM hv hz⟩
theorem CI (q r : Rat) (hr : r ≠ 0) : sQ (decide (q < 0) != decide (r < 0)) (q.num.natAbs * r.den) (q.den * r.num.natAbs) = q / r := by
 have hn : r.num ≠ 0 := fun h => hr (Rat.num_eq_zero.1 h)
 have hi : r⁻¹ = sQ (decide (r < 0)) r.den r.num.natAbs := by
  rw [← iO r⁻¹]
  have e1 : r⁻¹.num.natAbs = r.den := by rw [Rat.num_inv, Int.natAbs_mul, Int.natAbs_natCast, Int.natAbs_sign_of_ne_zero hn, Nat.one_mul]
  have e2 : r⁻¹.den = r.num.natAbs := by rw [Rat.den_inv, if_neg hn]
  have e3 : decide (r⁻¹ < 0) = decide (r < 0) := by
   rw [decide_eq_decide, gk, gk, Rat.num_inv]
   have hd := r.den_nz
   have hd' : (0 : Int) < (r.den : Int) := by omega
   rcases Int.lt_trichotomy r.num 0 with h | h | h
   ·rw [Int.sign_eq_neg_one_of_neg h]; omega
   ·exact absurd h hn
   ·rw [Int.sign_eq_one_of_pos h]; omega
  rw [e1, e2, e3]
 rw [Rat.div_def, hi]
 conv => rhs; rw [← iO q]
 rw [Eg]
theorem CN (hn : n < 2 ^ 42) (hm' : m < 2 ^ 42) (K : Nat) : aA P rV K [.rat q n, .rat r m] [] (aG (.tuple [.rat (q / r) (n + m), .int .i64 (if r = 0 then 3 else 0)]) []) := by
 refine gF fun ⟨hq, hr, _⟩ => ?_
 have hq : Sz q n := hq
 have hr : Sz r m := hr
 obtain ⟨a1, a2, a3⟩ := Sz.gJ hq (by omega)
 obtain ⟨b1, b2, b3⟩ := Sz.gJ hr (by omega)
 have d1 := q.den_nz
 have d2 := r.den_nz
 have m1 : nl (q.num.natAbs * r.den) < 2 ^ 40 := iI (n := n + m) (by rw [Nat.pow_add]; exact Nat.mul_lt_mul'' hq.1 hr.2) (by omega)
 have m2 : nl (q.den * r.num.natAbs) < 2 ^ 40 := iI (n := n + m) (by rw [Nat.pow_add]; exact Nat.mul_lt_mul'' hq.2 hr.1) (by omega)
 have hz := hq.div hr
 have sg : ∀ {x : Rat}, dO x = 0 ↔ x = 0 := by intro x; unfold dO; grind
 refine bC hT jk hm Mv rfl (of_decide_eq_true (by kernel_rfl)) rfl 60 Yw (fun _ => ?_) K []
 refine ⟨⟨show 0 < 1 by omega, show m < 2 ^ 44 by omega⟩, fun hb => ⟨show 0 < 1 by omega, show 0 < 1 by omega, ?_, ?_, trivial⟩, fun hb => ⟨show 0 < 1 by omega, ?_⟩⟩
 ·have h0 : r = 0 := sg.1 (eq_of_beq hb)
  have e : q / r = 0 := by rw [h0, Rat.div_def, Rat.inv_zero, Rat.mul_zero]
  obtain ⟨k, hk⟩ : ∃ k, n + m = k + 1 := ⟨n + m - 1, by have := hq.pos; omega⟩
  rw [e, hk]; exact iu
 ·have h0 : r = 0 := sg.1 (eq_of_beq hb)
  exact bq (by rw [if_pos h0])
 have h0 : r ≠ 0 := fun h => by
  rw [h] at hb
  simp [dO] at hb
 have hv := CI q r h0
 have he : bB (.int .i64 0) (.int .i64 (if r = 0 then 3 else 0)) := bq (by rw [if_neg h0])
 have hlong : (aa.ag
         [(0 : Nat) < 1, (0 : Nat) < 1, (0 : Nat) < 1, (0 : Nat) < 1, nl q.num.natAbs < 2 ^ 40, nl r.den < 2 ^ 40, (0 : Nat) < 1, (0 : Nat) < 1, nl q.den < 2 ^ 40, nl r.num.natAbs < 2 ^ 40, nl (q.num.natAbs * r.den) < 2 ^ 40, nl (q.den * r.num.natAbs) < 2 ^ 40, (0 : Nat) < 1]
         (aa.ag [(0 : Nat) < 1]
          (aa.leaf ah.ret
           [AV.rat (sQ (decide (q < (0 : Rat)) != decide (r < (0 : Rat))) (q.num.natAbs * r.den) (q.den * r.num.natAbs))
             (bS (sQ (decide (q < (0 : Rat)) != decide (r < (0 : Rat))) (q.num.natAbs * r.den) (q.den * r.num.natAbs))), .int .i64 0]))).all fun _ us => dn us (.tuple [.rat (q / r) (n + m), .int .i64 (if r = 0 then 3 else 0)]) := by
  simp only [aa.all, ay]
  exact ⟨⟨by omega, by omega, by omega, by omega, a1, b2, by omega, by omega, a2, b1, m1, m2, by omega⟩, by omega, eM hv hz, he, trivial⟩
 refine ⟨fun h1 => ⟨show 0 < 1 by omega, fun h2 => ?_, fun h2 => hlong⟩, fun h1 => hlong⟩
 obtain ⟨q1, q2⟩ := mS h1
 obtain ⟨r1, r2⟩ := mS h2
 obtain ⟨wx, bx⟩ := lf q1 r2
 obtain ⟨wd, bd⟩ := lf q2 r1
 have hr0 : r.num.natAbs ≠ 0 := fun h => h0 (j8.1 h)
 have hd0 : q.den * r.num.natAbs ≠ 0 := Nat.mul_ne_zero d1 hr0
 rw [if_pos h1, if_pos h2, if_pos h1, if_pos h2, wx, wd]
 simp only [aa.all, ay, Int.toNat_natCast]
 exact ⟨⟨by omega, by omega, by omega, by omega, by omega⟩, by omega, eM hv hz, he, trivial⟩
end ops
def Jv : Spec := bw fun l => match l with
 | [.int .i64 n] => some (aG (.rat (n : Rat) (max 1 (bg n.natAbs))) [-2 ^ 63 ≤ n, n < 2 ^ 63])
 | _ => none
theorem WV : ∀ K args pre r, Jv K args pre = some r → aA P oP K args pre r := by
 refine bI fun K args r hk hs _ => ?_
 split at hs
 ·simp only [Option.some.injEq] at hs
  subst hs
  exact fun need => CM need.1 need.2 K trivial
 ·simp at hs
end Go.Am.B
