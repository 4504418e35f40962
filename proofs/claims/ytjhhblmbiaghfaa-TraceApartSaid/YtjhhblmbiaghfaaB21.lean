/- rational.Add, Sub, Mul, Quo, Cmp, Min, Max, Int. -/
import Derived.Test.YtjhhblmbiaghfaaB20
set_option linter.unusedVariables false
namespace Go.Am.B
open Go Go.Am.N AV
theorem QT : aO P tO qQ (ax qQ) := aS Lh (by kernel_rfl) (by kernel_rfl) (by kernel_rfl)
theorem LK : aO P vC qJ (ax qJ) := aS LY (by kernel_rfl) (by kernel_rfl) (by kernel_rfl)
theorem R9 : aO P s9 qu (ax qu) := aS Rp (by kernel_rfl) (by kernel_rfl) (by kernel_rfl)
theorem RJ : aO P ri sE (ax sE) := aS GF (by kernel_rfl) (by kernel_rfl) (by kernel_rfl)
def A7 : Spec := bp fun l => match l with
 | [.rat q n, .rat r m, .bool s] => some (aJ (.rat (q + sQ s r.num.natAbs r.den) (n + m + 1)) [n < 2 ^ 42, m < 2 ^ 42])
 | _ => none
def EX : Spec := bp fun l => match l with
 | [.rat q n, .rat r m] => some (aJ (.int .i64 (dJ q r)) [n < 2 ^ 42, m < 2 ^ 42])
 | _ => none
def GA : bf := (qv, A7) :: (oV, EX) :: (tJ, DV) :: (pI, EK) :: (pg, yY) :: (oP, zf) :: []
theorem Ko {q r : Rat} {n m : Nat} : bA T GA [] 60 qQ (ax qQ) ⟨aM 0 [.rat q n, .rat r m], [], 0⟩ =
  some (aa.af [(0 : Nat) < 1, (0 : Nat) < 1, (0 : Nat) < 1, n < 2 ^ 42, m < 2 ^ 42, (0 : Nat) < 1] (aa.af [(0 : Nat) < 1] (aa.leaf aj.ret [rat (q + sQ (decide (r < 0)) r.num.natAbs r.den) (n + m + 1)]))) := by kernel_rfl
theorem Iu {q r : Rat} {n m : Nat} : bA T GA [] 60 qJ (ax qJ) ⟨aM 0 [.rat q n, .rat r m], [], 0⟩ =
  some (aa.af [(0 : Nat) < 1, (0 : Nat) < 1, (0 : Nat) < 1, n < 2 ^ 42, m < 2 ^ 42, (0 : Nat) < 1] (aa.af [(0 : Nat) < 1] (aa.leaf aj.ret [rat (q + sQ (!decide (r < 0)) r.num.natAbs r.den) (n + m + 1)]))) := by kernel_rfl
theorem KT {q r : Rat} {n m : Nat} : bA T GA [8] 60 qu (ax qu) ⟨aM 0 [.rat q n, .rat r m], [], 0⟩ =
  some (aa.af [(0 : Nat) < 1, (0 : Nat) < 1, m < 2 ^ 42, n < 2 ^ 42] (aa.fork (decide (dJ r q < (0 : Int))) (aa.af [(0 : Nat) < 1, (0 : Nat) < 1] (aa.af [(0 : Nat) < 1, m < 2 ^ 44, (0 : Nat) < 1] (aa.af [(0 : Nat) < 1] (aa.leaf aj.ret [rat r m])))) (aa.af [(0 : Nat) < 1, n < 2 ^ 44, (0 : Nat) < 1] (aa.af [(0 : Nat) < 1] (aa.leaf aj.ret [rat q n]))))) := by kernel_rfl
theorem Qo {q r : Rat} {n m : Nat} : bA T GA [8] 60 sE (ax sE) ⟨aM 0 [.rat q n, .rat r m], [], 0⟩ =
  some (aa.af [(0 : Nat) < 1, (0 : Nat) < 1, m < 2 ^ 42, n < 2 ^ 42] (aa.fork (decide (dJ r q > (0 : Int))) (aa.af [(0 : Nat) < 1, (0 : Nat) < 1] (aa.af [(0 : Nat) < 1, m < 2 ^ 44, (0 : Nat) < 1] (aa.af [(0 : Nat) < 1] (aa.leaf aj.ret [rat r m])))) (aa.af [(0 : Nat) < 1, n < 2 ^ 44, (0 : Nat) < 1] (aa.af [(0 : Nat) < 1] (aa.leaf aj.ret [rat q n]))))) := by kernel_rfl
theorem RN {q r : Rat} {n m : Nat} : bA T GQ [20, 23, 34, 47, 49, 56, 63, 76] 60 sI (ax sI) ⟨aM 0 [.rat q n, .rat r m], [], 0⟩ =
  some (aa.af [(0 : Nat) < 1, n < 2 ^ 44, (0 : Nat) < 1, m < 2 ^ 44] (aa.fork (dG q != dG r) (aa.fork (decide (dG q < dG r)) (aa.leaf aj.ret [int IntKind.i64 (-1 : Int)]) (aa.leaf aj.ret [int IntKind.i64 (1 : Int)])) (aa.af [(0 : Nat) < 1] (aa.af [(0 : Nat) < 1, (0 : Nat) < 1, nl (if q.den = 1 then 0 else q.den) < 2 ^ 40, nl (if r.den = 1 then 0 else r.den) < 2 ^ 40] (aa.fork (decide ((if q.den = 1 then 0 else q.den) = if r.den = 1 then 0 else r.den)) (aa.af [(0 : Nat) < 1, (0 : Nat) < 1, nl q.num.natAbs < 2 ^ 40, nl r.num.natAbs < 2 ^ 40] (aa.af [(0 : Nat) < 1] (aa.fork (decide (q < 0)) (aa.leaf aj.ret [int IntKind.i64 (IntKind.i64.wrap ((0 : Int) - bI q.num.natAbs r.num.natAbs))]) (aa.leaf aj.ret [int IntKind.i64 (bI q.num.natAbs r.num.natAbs)])))) (aa.af [(0 : Nat) < 1] (aa.fork (aX q) (aa.af [aX q = true] (aa.fork (bif true then aX r else false) (aa.fork (decide (IntKind.u64.wrap ((↑(if aX q = true then q.num.natAbs else 0) : Int) * (↑(if aX r = true then r.den else 0) : Int)) < IntKind.u64.wrap ((↑(if aX r = true then r.num.natAbs else 0) : Int) * (↑(if aX q = true then q.den else 0) : Int)))) (aa.af [(0 : Nat) < 1] (aa.fork (decide (q < 0)) (aa.leaf aj.ret [int IntKind.i64 (1 : Int)]) (aa.leaf aj.ret [int IntKind.i64 (-1 : Int)]))) (aa.fork (decide (IntKind.u64.wrap ((↑(if aX q = true then q.num.natAbs else 0) : Int) * (↑(if aX r = true then r.den else 0) : Int)) > IntKind.u64.wrap ((↑(if aX r = true then r.num.natAbs else 0) : Int) * (↑(if aX q = true then q.den else 0) : Int)))) (aa.af [(0 : Nat) < 1] (aa.fork (decide (q < 0)) (aa.leaf aj.ret [int IntKind.i64 (-1 : Int)]) (aa.leaf aj.ret [int IntKind.i64 (1 : Int)]))) (aa.af [(0 : Nat) < 1] (aa.fork (decide (q < 0)) (aa.leaf aj.ret [int IntKind.i64 (0 : Int)]) (aa.leaf aj.ret [int IntKind.i64 (0 : Int)]))))) (aa.af [(0 : Nat) < 1, (0 : Nat) < 1, nl q.num.natAbs < 2 ^ 40, nl r.den < 2 ^ 40, (0 : Nat) < 1, (0 : Nat) < 1, nl r.num.natAbs < 2 ^ 40, nl q.den < 2 ^ 40, nl (q.num.natAbs * r.den) < 2 ^ 40, nl (r.num.natAbs * q.den) < 2 ^ 40] (aa.af [(0 : Nat) < 1] (aa.fork (decide (q < 0)) (aa.leaf aj.ret [int IntKind.i64 (IntKind.i64.wrap ((0 : Int) - bI (q.num.natAbs * r.den) (r.num.natAbs * q.den)))]) (aa.leaf aj.ret [int IntKind.i64 (bI (q.num.natAbs * r.den) (r.num.natAbs * q.den))])))))) (aa.af [aX q = false] (aa.fork false (aa.fork (decide (IntKind.u64.wrap ((↑(if aX q = true then q.num.natAbs else 0) : Int) * (↑(if aX r = true then r.den else 0) : Int)) < IntKind.u64.wrap ((↑(if aX r = true then r.num.natAbs else 0) : Int) * (↑(if aX q = true then q.den else 0) : Int)))) (aa.af [(0 : Nat) < 1] (aa.fork (decide (q < 0)) (aa.leaf aj.ret [int IntKind.i64 (1 : Int)]) (aa.leaf aj.ret [int IntKind.i64 (-1 : Int)]))) (aa.fork (decide (IntKind.u64.wrap ((↑(if aX q = true then q.num.natAbs else 0) : Int) * (↑(if aX r = true then r.den else 0) : Int)) > IntKind.u64.wrap ((↑(if aX r = true then r.num.natAbs else 0) : Int) * (↑(if aX q = true then q.den else 0) : Int)))) (aa.af [(0 : Nat) < 1] (aa.fork (decide (q < 0)) (aa.leaf aj.ret [int IntKind.i64 (-1 : Int)]) (aa.leaf aj.ret [int IntKind.i64 (1 : Int)]))) (aa.af [(0 : Nat) < 1] (aa.fork (decide (q < 0)) (aa.leaf aj.ret [int IntKind.i64 (0 : Int)]) (aa.leaf aj.ret [int IntKind.i64 (0 : Int)]))))) (aa.af [(0 : Nat) < 1, (0 : Nat) < 1, nl q.num.natAbs < 2 ^ 40, nl r.den < 2 ^ 40, (0 : Nat) < 1, (0 : Nat) < 1, nl r.num.natAbs < 2 ^ 40, nl q.den < 2 ^ 40, nl (q.num.natAbs * r.den) < 2 ^ 40, nl (r.num.natAbs * q.den) < 2 ^ 40] (aa.af [(0 : Nat) < 1] (aa.fork (decide (q < 0)) (aa.leaf aj.ret [int IntKind.i64 (IntKind.i64.wrap ((0 : Int) - bI (q.num.natAbs * r.den) (r.num.natAbs * q.den)))]) (aa.leaf aj.ret [int IntKind.i64 (bI (q.num.natAbs * r.den) (r.num.natAbs * q.den))]))))))))))))) := by kernel_rfl
theorem Sm : ∀ K args pre r, A7 K args pre = some r → aC P qv K args pre r := by
 refine bK fun K args r hk hs _ => ?_
 split at hs
 ·simp only [Option.some.injEq] at hs
  subst hs
  exact fun need => Ic need.1 need.2 K [] trivial
 ·simp at hs
theorem tR {q r : Rat} (h : dG q ≠ dG r) : dJ q r = if dG q < dG r then -1 else 1 := by
 unfold dG dJ at *
 grind
theorem Pc {a b : Nat} : -bI a b = bI b a := by unfold bI; split <;> split <;> omega
theorem CL {a b k : Nat} (hk : 0 < k) : bI (a * k) (b * k) = bI a b := by
 unfold bI
 simp only [Nat.mul_lt_mul_right hk]
theorem vk {a b : Nat} : IntKind.i64.wrap (0 - bI a b) = -bI a b := by
 have : bI a b = -1 ∨ bI a b = 0 ∨ bI a b = 1 := by unfold bI; split; exact .inl rfl; split; exact .inr (.inr rfl); exact .inr (.inl rfl)
 rcases this with h | h | h <;> rw [h] <;> rfl
theorem jH {q r : Rat} (h : dG q = dG r) : dJ q r = if q < 0 then -bI (q.num.natAbs * r.den) (r.num.natAbs * q.den) else bI (q.num.natAbs * r.den) (r.num.natAbs * q.den) := by
 have h1 : q < 0 ↔ r < 0 := by unfold dG at h; grind
 have e1 : ∀ {a b : Nat}, (-(a : Int)) * (b : Int) = -((a * b : Nat) : Int) := fun {a b} => by simp [Int.neg_mul]
 have e2 : ∀ {a b : Nat}, (a : Int) * (b : Int) = ((a * b : Nat) : Int) := fun {a b} => by simp
 unfold dJ
 by_cases hq : q < 0
 ·have hr := h1.1 hq
  have q1 : q.num = -(q.num.natAbs : Int) := by have := fG.1 hq; omega
  have r1 : r.num = -(r.num.natAbs : Int) := by have := fG.1 hr; omega
  have l1 : q < r ↔ r.num.natAbs * q.den < q.num.natAbs * r.den := by
   rw [Rat.lt_iff]
   conv => lhs; rw [q1, r1, e1, e1]
   omega
  have l2 : r < q ↔ q.num.natAbs * r.den < r.num.natAbs * q.den := by
   rw [Rat.lt_iff]
   conv => lhs; rw [q1, r1, e1, e1]
   omega
  rw [if_pos hq, Pc]
  unfold bI
  simp only [l1, l2]
 ·have hr : ¬ r < 0 := fun h => hq (h1.2 h)
  have q1 : q.num = (q.num.natAbs : Int) := by have : ¬ q.num < 0 := fun h => hq (fG.2 h); omega
  have r1 : r.num = (r.num.natAbs : Int) := by have : ¬ r.num < 0 := fun h => hr (fG.2 h); omega
  have l1 : q < r ↔ q.num.natAbs * r.den < r.num.natAbs * q.den := by
   rw [Rat.lt_iff]
   conv => lhs; rw [q1, r1, e2, e2]
   omega
  have l2 : r < q ↔ r.num.natAbs * q.den < q.num.natAbs * r.den := by
   rw [Rat.lt_iff]
   conv => lhs; rw [q1, r1, e2, e2]
   omega
  rw [if_neg hq]
  unfold bI
  simp only [l1, l2]
theorem Dl {q r : Rat} {n m : Nat} (hn : n < 2 ^ 42) (hm' : m < 2 ^ 42) (K : Nat) (pre : aA) : aC P oV K [.rat q n, .rat r m] pre (aJ (.int .i64 (dJ q r)) []) := by
 refine iA fun ⟨hq, hr, _⟩ => ?_
 have hq : Sz q n := hq
 have hr : Sz r m := hr
 obtain ⟨a1, a2, a3⟩ := Sz.gv hq (by omega)
 obtain ⟨b1, b2, b3⟩ := Sz.gv hr (by omega)
 have d1 := q.den_nz
 have d2 := r.den_nz
 have m1 : nl (q.num.natAbs * r.den) < 2 ^ 40 := gJ (n := n + m) (by rw [Nat.pow_add]; exact Nat.mul_lt_mul'' hq.1 hr.2) (by omega)
 have m2 : nl (r.num.natAbs * q.den) < 2 ^ 40 := gJ (n := m + n) (by rw [Nat.pow_add]; exact Nat.mul_lt_mul'' hr.1 hq.2) (by omega)
 refine bE hT iw hm SP rfl (of_decide_eq_true (by kernel_rfl)) rfl 60 RN (fun _ => ?_) K pre
 simp only [aa.all, az, bne_iff_ne, ne_eq, bne_eq_false_iff_eq]
 refine ⟨⟨by omega, by omega, by omega, by omega⟩, fun hs => ⟨fun hl => bm ?_, fun hl => bm ?_⟩, fun hs => ⟨by omega, ⟨by omega, by omega, a3, b3⟩, fun hd => ⟨⟨by omega, by omega, a1, b1⟩, by omega, fun hc => bm ?_, fun hc => bm ?_⟩, fun hd => ⟨by omega, fun hp => ⟨hp, fun hp2 => ?_, fun hp2 => ⟨⟨by omega, by omega, a1, b2, by omega, by omega, b1, a2, m1, m2⟩, by omega, fun hc => bm ?_, fun hc => bm ?_⟩⟩, fun hp => ⟨hp, fun h => by simp at h, fun _ => ⟨⟨by omega, by omega, a1, b2, by omega, by omega, b1, a2, m1, m2⟩, by omega, fun hc => bm ?_, fun hc => bm ?_⟩⟩⟩⟩⟩
 ·rw [tR hs, if_pos (of_decide_eq_true hl)]
 ·rw [tR hs, if_neg (of_decide_eq_false hl)]
 ·have hd := of_decide_eq_true hd
  have e : q.den = r.den := by split at hd <;> split at hd <;> omega
  rw [jH hs, if_pos (of_decide_eq_true hc), e, CL (by omega), vk]
 ·have hd := of_decide_eq_true hd
  have e : q.den = r.den := by split at hd <;> split at hd <;> omega
  rw [jH hs, if_neg (of_decide_eq_false hc), e, CL (by omega)]
 ·have hp2 := fS hp2
  obtain ⟨q1, q2⟩ := lz hp
  obtain ⟨r1, r2⟩ := lz hp2
  rw [if_pos hp, if_pos hp2, if_pos hp2, if_pos hp, (jW q1 r2).1, (jW r1 q2).1]
  have hcs := jH hs
  generalize q.num.natAbs * r.den = X at *
  generalize r.num.natAbs * q.den = Y at *
  unfold bI at hcs
  refine ⟨fun h1 => ⟨by omega, fun hc => bm ?_, fun hc => bm ?_⟩, fun h1 => ⟨fun h2 => ⟨by omega, fun hc => bm ?_, fun hc => bm ?_⟩, fun h2 => ⟨by omega, fun hc => bm ?_, fun hc => bm ?_⟩⟩⟩
  all_goals rw [hcs]
  ·rw [if_pos (of_decide_eq_true hc), if_pos (by have := of_decide_eq_true h1; omega)]; rfl
  ·rw [if_neg (of_decide_eq_false hc), if_pos (by have := of_decide_eq_true h1; omega)]
  ·rw [if_pos (of_decide_eq_true hc), if_neg (by have := of_decide_eq_false h1; omega), if_pos (by have := of_decide_eq_true h2; omega)]
  ·rw [if_neg (of_decide_eq_false hc), if_neg (by have := of_decide_eq_false h1; omega), if_pos (by have := of_decide_eq_true h2; omega)]
  ·rw [if_pos (of_decide_eq_true hc), if_neg (by have := of_decide_eq_false h1; omega), if_neg (by have := of_decide_eq_false h2; omega)]; rfl
  ·rw [if_neg (of_decide_eq_false hc), if_neg (by have := of_decide_eq_false h1; omega), if_neg (by have := of_decide_eq_false h2; omega)]
 ·rw [jH hs, if_pos (of_decide_eq_true hc), vk]
 ·rw [jH hs, if_neg (of_decide_eq_false hc)]
 ·rw [jH hs, if_pos (of_decide_eq_true hc), vk]
 ·rw [jH hs, if_neg (of_decide_eq_false hc)]
theorem KB : ∀ K args pre r, EX K args pre = some r → aC P oV K args pre r := by
 refine bK fun K args r hk hs _ => ?_
 split at hs
 ·simp only [Option.some.injEq] at hs
  subst hs
  exact fun need => Dl need.1 need.2 K [] trivial
 ·simp at hs
theorem wC : bC P GA := aK Sm (aK KB (aK UT (aK Ix (aK Bn (aK EH aZ)))))
section ops
variable {q r : Rat} {n m : Nat}
theorem IU (hn : n < 2 ^ 42) (hm' : m < 2 ^ 42) (K : Nat) : aC P tO K [.rat q n, .rat r m] [] (aJ (.rat (q + r) (n + m + 1)) []) := by
 refine bE hT wC hm QT rfl (of_decide_eq_true (by kernel_rfl)) rfl 60 Ko (fun _ => ?_) K []
 simp only [aa.all, az, gR]
 exact ⟨⟨by omega, by omega, by omega, hn, hm', by omega⟩, by omega, .refl _⟩
theorem G0 (r : Rat) : sQ (!decide (r < 0)) r.num.natAbs r.den = -r := by
 have h := gR r
 conv => rhs; rw [← h]
 unfold sQ
 rw [Rat.neg_mkRat]
 congr 1
 unfold en
 by_cases h : r < 0 <;> simp [h]
theorem OE (hn : n < 2 ^ 42) (hm' : m < 2 ^ 42) (K : Nat) : aC P vC K [.rat q n, .rat r m] [] (aJ (.rat (q - r) (n + m + 1)) []) := by
 refine bE hT wC hm LK rfl (of_decide_eq_true (by kernel_rfl)) rfl 60 Iu (fun _ => ?_) K []
 simp only [aa.all, az, G0]
 exact ⟨⟨by omega, by omega, by omega, hn, hm', by omega⟩, by omega, cF (by rw [Rat.sub_eq_add_neg])⟩
def cO (q r : Rat) : Rat := if r < q then r else q
def cQ (q r : Rat) : Rat := if q < r then r else q
theorem Rc {q r : Rat} : dJ q r < 0 ↔ q < r := by unfold dJ; grind
theorem OX {q r : Rat} : dJ q r > 0 ↔ r < q := by unfold dJ; grind
theorem C9 (hn : n < 2 ^ 42) (hm' : m < 2 ^ 42) (K : Nat) : aC P s9 K [.rat q n, .rat r m] [] (aJ (.rat (cO q r) (max n m)) []) := by
 refine bE hT wC hm R9 rfl (of_decide_eq_true (by kernel_rfl)) rfl 60 KT (fun _ => ?_) K []
 simp only [aa.all, az, decide_eq_true_eq, decide_eq_false_iff_not, Rc]
 refine ⟨⟨by omega, by omega, hm', hn⟩, fun h => ⟨⟨by omega, by omega⟩, ⟨by omega, by omega, by omega⟩, by omega, ?_⟩, fun h => ⟨⟨by omega, by omega, by omega⟩, by omega, ?_⟩⟩
 ·unfold cO; rw [if_pos h]; exact iB (Nat.le_max_right _ _)
 ·unfold cO; rw [if_neg h]; exact iB (Nat.le_max_left _ _)
theorem A6 (hn : n < 2 ^ 42) (hm' : m < 2 ^ 42) (K : Nat) : aC P ri K [.rat q n, .rat r m] [] (aJ (.rat (cQ q r) (max n m)) []) := by
 refine bE hT wC hm RJ rfl (of_decide_eq_true (by kernel_rfl)) rfl 60 Qo (fun _ => ?_) K []
 simp only [aa.all, az, decide_eq_true_eq, decide_eq_false_iff_not, OX]
 refine ⟨⟨by omega, by omega, hm', hn⟩, fun h => ⟨⟨by omega, by omega⟩, ⟨by omega, by omega, by omega⟩, by omega, ?_⟩, fun h => ⟨⟨by omega, by omega, by omega⟩, by omega, ?_⟩⟩
 ·unfold cQ; rw [if_pos h]; exact iB (Nat.le_max_right _ _)
 ·unfold cQ; rw [if_neg h]; exact iB (Nat.le_max_left _ _)
theorem CW {n : Int} : Sz (n : Rat) (max 1 (aY n.natAbs)) := by
 refine ⟨?_, ?_⟩
 ·rw [Rat.num_intCast]
  exact Nat.lt_of_lt_of_le (fJ.1 (Nat.le_refl _)) (Nat.pow_le_pow_right (by omega) (Nat.le_max_right _ _))
 ·rw [Rat.den_intCast]
  exact Nat.lt_of_lt_of_le (show 1 < 2 ^ 1 by omega) (Nat.pow_le_pow_right (by omega) (Nat.le_max_left _ _))
theorem Ss (hn : n < 2 ^ 42) (hm' : m < 2 ^ 42) (K : Nat) : aC P wB K [.rat q n, .rat r m] [] (aJ (.rat (q * r) (n + m)) []) := by
 refine iA fun ⟨hq, hr, _⟩ => ?_
 have hq : Sz q n := hq
 have hr : Sz r m := hr
 obtain ⟨a1, a2, a3⟩ := Sz.gv hq (by omega)
 obtain ⟨b1, b2, b3⟩ := Sz.gv hr (by omega)
 have d1 := q.den_nz
 have d2 := r.den_nz
 have m1 : nl (q.num.natAbs * r.num.natAbs) < 2 ^ 40 := gJ (n := n + m) (by rw [Nat.pow_add]; exact Nat.mul_lt_mul'' hq.1 hr.1) (by omega)
 have m2 : nl (q.den * r.den) < 2 ^ 40 := gJ (n := n + m) (by rw [Nat.pow_add]; exact Nat.mul_lt_mul'' hq.2 hr.2) (by omega)
 have hz := hq.mul hr
 have hv : sQ (decide (q < 0) != decide (r < 0)) (q.num.natAbs * r.num.natAbs) (q.den * r.den) = q * r := by rw [← yR, gR, gR]
 have hzero : q = 0 ∨ r = 0 → bn (.agg [.bool false, .mag 0, .mag 0]) (.rat (q * r) (n + m)) := by
  intro h
  have e : q * r = 0 := by rcases h with h | h <;> subst h <;> simp
  obtain ⟨k, hk⟩ : ∃ k, n + m = k + 1 := ⟨n + m - 1, by have := hq.pos; omega⟩
  rw [e, hk]; exact lZ
 refine bE hT iw hm S7 rfl (of_decide_eq_true (by kernel_rfl)) rfl 60 T5 (fun _ => ?_) K []
 have hlong : (aa.af
         [(0 : Nat) < 1, (0 : Nat) < 1, (0 : Nat) < 1, (0 : Nat) < 1, nl q.num.natAbs < 2 ^ 40, nl r.num.natAbs < 2 ^ 40, (0 : Nat) < 1, (0 : Nat) < 1, nl q.den < 2 ^ 40, nl r.den < 2 ^ 40, nl (q.num.natAbs * r.num.natAbs) < 2 ^ 40, nl (q.den * r.den) < 2 ^ 40, (0 : Nat) < 1]
         (aa.af [(0 : Nat) < 1]
          (aa.leaf aj.ret
           [AV.rat (sQ (decide (q < (0 : Rat)) != decide (r < (0 : Rat))) (q.num.natAbs * r.num.natAbs) (q.den * r.den))
             (bT (sQ (decide (q < (0 : Rat)) != decide (r < (0 : Rat))) (q.num.natAbs * r.num.natAbs) (q.den * r.den)))]))).all fun _ us => dQ us (.rat (q * r) (n + m)) := by
  simp only [aa.all, az]
  exact ⟨⟨by omega, by omega, by omega, by omega, a1, b1, by omega, by omega, a2, b2, m1, m2, by omega⟩, by omega, fZ hv hz⟩
 refine ⟨fun hb => ⟨⟨show 0 < 1 by omega, hb⟩, fun _ => ⟨show 0 < 1 by omega, show 0 < 1 by omega, hzero (.inl ?_)⟩, fun h => by simp at h⟩, fun hb => ⟨⟨show 0 < 1 by omega, hb, show 0 < 1 by omega⟩, fun hc => ⟨show 0 < 1 by omega, show 0 < 1 by omega, hzero (.inr ?_)⟩, fun hc => ⟨show 0 < 1 by omega, fun h1 => ⟨show 0 < 1 by omega, fun h2 => ?_, fun h2 => hlong⟩, fun h1 => hlong⟩⟩⟩
 ·have := eq_of_beq hb
  exact mG.1 (gz.1 (by omega))
 ·have := eq_of_beq (eW hc)
  exact mG.1 (gz.1 (by omega))
 ·obtain ⟨q1, q2⟩ := lz h1
  obtain ⟨r1, r2⟩ := lz h2
  obtain ⟨wx, bx⟩ := jW q1 r1
  obtain ⟨wd, bd⟩ := jW q2 r2
  have hd0 : q.den * r.den ≠ 0 := Nat.mul_ne_zero d1 d2
  rw [if_pos h1, if_pos h2, if_pos h1, if_pos h2, wx, wd]
  simp only [aa.all, az, Int.toNat_natCast]
  exact ⟨⟨by omega, by omega, by omega, by omega, by omega⟩, by omega, fZ hv hz⟩
theorem Au (q r : Rat) (hr : r ≠ 0) : sQ (decide (q < 0) != decide (r < 0)) (q.num.natAbs * r.den) (q.den * r.num.natAbs) = q / r := by
 have hn : r.num ≠ 0 := fun h => hr (Rat.num_eq_zero.1 h)
 have hi : r⁻¹ = sQ (decide (r < 0)) r.den r.num.natAbs := by
  rw [← gR r⁻¹]
  have e1 : r⁻¹.num.natAbs = r.den := by rw [Rat.num_inv, Int.natAbs_mul, Int.natAbs_natCast, Int.natAbs_sign_of_ne_zero hn, Nat.one_mul]
  have e2 : r⁻¹.den = r.num.natAbs := by rw [Rat.den_inv, if_neg hn]
  have e3 : decide (r⁻¹ < 0) = decide (r < 0) := by
   rw [decide_eq_decide, fG, fG, Rat.num_inv]
   have hd := r.den_nz
   have hd' : (0 : Int) < (r.den : Int) := by omega
   rcases Int.lt_trichotomy r.num 0 with h | h | h
   ·rw [Int.sign_eq_neg_one_of_neg h]; omega
   ·exact absurd h hn
   ·rw [Int.sign_eq_one_of_pos h]; omega
  rw [e1, e2, e3]
 rw [Rat.div_def, hi]
 conv => rhs; rw [← gR q]
 rw [yR]
theorem Jx (hn : n < 2 ^ 42) (hm' : m < 2 ^ 42) (K : Nat) : aC P vW K [.rat q n, .rat r m] [] (aJ (.tuple [.rat (q / r) (n + m), .int .i64 (if r = 0 then 3 else 0)]) []) := by
 refine iA fun ⟨hq, hr, _⟩ => ?_
 have hq : Sz q n := hq
 have hr : Sz r m := hr
 obtain ⟨a1, a2, a3⟩ := Sz.gv hq (by omega)
 obtain ⟨b1, b2, b3⟩ := Sz.gv hr (by omega)
 have d1 := q.den_nz
 have d2 := r.den_nz
 have m1 : nl (q.num.natAbs * r.den) < 2 ^ 40 := gJ (n := n + m) (by rw [Nat.pow_add]; exact Nat.mul_lt_mul'' hq.1 hr.2) (by omega)
 have m2 : nl (q.den * r.num.natAbs) < 2 ^ 40 := gJ (n := n + m) (by rw [Nat.pow_add]; exact Nat.mul_lt_mul'' hq.2 hr.1) (by omega)
 have hz := hq.div hr
 have sg : ∀ {x : Rat}, dG x = 0 ↔ x = 0 := by intro x; unfold dG; grind
 refine bE hT iw hm FZ rfl (of_decide_eq_true (by kernel_rfl)) rfl 60 IN (fun _ => ?_) K []
 refine ⟨⟨show 0 < 1 by omega, show m < 2 ^ 44 by omega⟩, fun hb => ⟨show 0 < 1 by omega, show 0 < 1 by omega, ?_, ?_, trivial⟩, fun hb => ⟨show 0 < 1 by omega, ?_⟩⟩
 ·have h0 : r = 0 := sg.1 (eq_of_beq hb)
  have e : q / r = 0 := by rw [h0, Rat.div_def, Rat.inv_zero, Rat.mul_zero]
  obtain ⟨k, hk⟩ : ∃ k, n + m = k + 1 := ⟨n + m - 1, by have := hq.pos; omega⟩
  rw [e, hk]; exact lZ
 ·have h0 : r = 0 := sg.1 (eq_of_beq hb)
  exact bm (by rw [if_pos h0])
 have h0 : r ≠ 0 := fun h => by
  rw [h] at hb
  simp [dG] at hb
 have hv := Au q r h0
 have he : bn (.int .i64 0) (.int .i64 (if r = 0 then 3 else 0)) := bm (by rw [if_neg h0])
 have hlong : (aa.af
         [(0 : Nat) < 1, (0 : Nat) < 1, (0 : Nat) < 1, (0 : Nat) < 1, nl q.num.natAbs < 2 ^ 40, nl r.den < 2 ^ 40, (0 : Nat) < 1, (0 : Nat) < 1, nl q.den < 2 ^ 40, nl r.num.natAbs < 2 ^ 40, nl (q.num.natAbs * r.den) < 2 ^ 40, nl (q.den * r.num.natAbs) < 2 ^ 40, (0 : Nat) < 1]
         (aa.af [(0 : Nat) < 1]
          (aa.leaf aj.ret
           [AV.rat (sQ (decide (q < (0 : Rat)) != decide (r < (0 : Rat))) (q.num.natAbs * r.den) (q.den * r.num.natAbs))
             (bT (sQ (decide (q < (0 : Rat)) != decide (r < (0 : Rat))) (q.num.natAbs * r.den) (q.den * r.num.natAbs))), .int .i64 0]))).all fun _ us => dQ us (.tuple [.rat (q / r) (n + m), .int .i64 (if r = 0 then 3 else 0)]) := by
  simp only [aa.all, az]
  exact ⟨⟨by omega, by omega, by omega, by omega, a1, b2, by omega, by omega, a2, b1, m1, m2, by omega⟩, by omega, fZ hv hz, he, trivial⟩
 refine ⟨fun h1 => ⟨show 0 < 1 by omega, fun h2 => ?_, fun h2 => hlong⟩, fun h1 => hlong⟩
 obtain ⟨q1, q2⟩ := lz h1
 obtain ⟨r1, r2⟩ := lz h2
 obtain ⟨wx, bx⟩ := jW q1 r2
 obtain ⟨wd, bd⟩ := jW q2 r1
 have hr0 : r.num.natAbs ≠ 0 := fun h => h0 (mG.1 h)
 have hd0 : q.den * r.num.natAbs ≠ 0 := Nat.mul_ne_zero d1 hr0
 rw [if_pos h1, if_pos h2, if_pos h1, if_pos h2, wx, wd]
 simp only [aa.all, az, Int.toNat_natCast]
 exact ⟨⟨by omega, by omega, by omega, by omega, by omega⟩, by omega, fZ hv hz, he, trivial⟩
end ops
end Go.Am.B
