/- rational.Add, Sub, Mul, Quo, Cmp, Min, Max, Int. -/
import Derived.Test.YtnocdkaonpdmjaaGreatB20
set_option linter.unusedVariables false
namespace Go.Am.B
open Go Go.Am.N AV
theorem ZW : aO P vk sj (ax sj) := aP QY (by kernel_rfl) (by kernel_rfl) (by kernel_rfl)
theorem Sn : aO P r7 wB (ax wB) := aP MQ (by kernel_rfl) (by kernel_rfl) (by kernel_rfl)
theorem Mc : aO P ym wU (ax wU) := aP RE (by kernel_rfl) (by kernel_rfl) (by kernel_rfl)
theorem Vt : aO P yh rV (ax rV) := aP QX (by kernel_rfl) (by kernel_rfl) (by kernel_rfl)
theorem Rv : aO P nO tR (ax tR) := aP Rs (by kernel_rfl) (by kernel_rfl) (by kernel_rfl)
def Eu : Spec := bu fun l => match l with
 | [.rat q n, .rat r m, .bool s] => some (aG (.rat (q + sQ s r.num.natAbs r.den) (n + m + 1)) [n < 2 ^ 42, m < 2 ^ 42])
 | _ => none
def GJ : Spec := bu fun l => match l with
 | [.rat q n, .rat r m] => some (aG (.int .i64 (ef q r)) [n < 2 ^ 42, m < 2 ^ 42])
 | _ => none
abbrev Cr : FuncId × Spec := (vD, Kr)
def GA : aQ := (rY, Eu) :: (iy, GJ) :: Cr :: (wG, Fe) :: (pq, BE) :: (qK, Dd) :: []
theorem WJ {q r : Rat} {n m : Nat} : bB T GA [] 60 sj (ax sj) ⟨aL 0 [.rat q n, .rat r m], [], 0⟩ =
  some (aa.ag [(0 : Nat) < 1, (0 : Nat) < 1, (0 : Nat) < 1, n < 2 ^ 42, m < 2 ^ 42, (0 : Nat) < 1] (aa.ag [(0 : Nat) < 1] (aa.leaf aj.ret [rat (q + sQ (decide (r < 0)) r.num.natAbs r.den) (n + m + 1)]))) := by kernel_rfl
theorem Vq {q r : Rat} {n m : Nat} : bB T GA [] 60 wB (ax wB) ⟨aL 0 [.rat q n, .rat r m], [], 0⟩ =
  some (aa.ag [(0 : Nat) < 1, (0 : Nat) < 1, (0 : Nat) < 1, n < 2 ^ 42, m < 2 ^ 42, (0 : Nat) < 1] (aa.ag [(0 : Nat) < 1] (aa.leaf aj.ret [rat (q + sQ (!decide (r < 0)) r.num.natAbs r.den) (n + m + 1)]))) := by kernel_rfl
theorem OZ {q r : Rat} {n m : Nat} : bB T GA [8] 60 wU (ax wU) ⟨aL 0 [.rat q n, .rat r m], [], 0⟩ =
  some (aa.ag [(0 : Nat) < 1, (0 : Nat) < 1, m < 2 ^ 42, n < 2 ^ 42] (aa.fork (decide (ef r q < (0 : Int))) (aa.ag [(0 : Nat) < 1, (0 : Nat) < 1] (aa.ag [(0 : Nat) < 1, m < 2 ^ 44, (0 : Nat) < 1] (aa.ag [(0 : Nat) < 1] (aa.leaf aj.ret [rat r m])))) (aa.ag [(0 : Nat) < 1, n < 2 ^ 44, (0 : Nat) < 1] (aa.ag [(0 : Nat) < 1] (aa.leaf aj.ret [rat q n]))))) := by kernel_rfl
theorem acd {q r : Rat} {n m : Nat} : bB T GA [8] 60 rV (ax rV) ⟨aL 0 [.rat q n, .rat r m], [], 0⟩ =
  some (aa.ag [(0 : Nat) < 1, (0 : Nat) < 1, m < 2 ^ 42, n < 2 ^ 42] (aa.fork (decide (ef r q > (0 : Int))) (aa.ag [(0 : Nat) < 1, (0 : Nat) < 1] (aa.ag [(0 : Nat) < 1, m < 2 ^ 44, (0 : Nat) < 1] (aa.ag [(0 : Nat) < 1] (aa.leaf aj.ret [rat r m])))) (aa.ag [(0 : Nat) < 1, n < 2 ^ 44, (0 : Nat) < 1] (aa.ag [(0 : Nat) < 1] (aa.leaf aj.ret [rat q n]))))) := by kernel_rfl
theorem Pt {n : Int} : bB T GA [] 60 tR (ax tR) ⟨aL 0 [.int .i64 n], [], 0⟩ =
  some (aa.ag [-(2 : Int) ^ 63 ≤ n, n < (2 : Int) ^ 63, nl n.natAbs < 2 ^ 40, nl 1 < 2 ^ 40, (0 : Nat) < 1] (aa.ag [(0 : Nat) < 1] (aa.leaf aj.ret [rat (sQ (decide (n < (0 : Int))) n.natAbs 1) (bS (sQ (decide (n < (0 : Int))) n.natAbs 1))]))) := by kernel_rfl
theorem Pj {q r : Rat} {n m : Nat} : bB T GQ [20, 23, 34, 47, 49, 56, 63, 76] 60 xl (ax xl) ⟨aL 0 [.rat q n, .rat r m], [], 0⟩ =
  some (aa.ag [(0 : Nat) < 1, n < 2 ^ 44, (0 : Nat) < 1, m < 2 ^ 44] (aa.fork (bK q != bK r) (aa.fork (decide (bK q < bK r)) (aa.leaf aj.ret [int IntKind.i64 (-1 : Int)]) (aa.leaf aj.ret [int IntKind.i64 (1 : Int)])) (aa.ag [(0 : Nat) < 1] (aa.ag [(0 : Nat) < 1, (0 : Nat) < 1, nl (if q.den = 1 then 0 else q.den) < 2 ^ 40, nl (if r.den = 1 then 0 else r.den) < 2 ^ 40] (aa.fork (decide ((if q.den = 1 then 0 else q.den) = if r.den = 1 then 0 else r.den)) (aa.ag [(0 : Nat) < 1, (0 : Nat) < 1, nl q.num.natAbs < 2 ^ 40, nl r.num.natAbs < 2 ^ 40] (aa.ag [(0 : Nat) < 1] (aa.fork (decide (q < 0)) (aa.leaf aj.ret [int IntKind.i64 (IntKind.i64.wrap ((0 : Int) - bT q.num.natAbs r.num.natAbs))]) (aa.leaf aj.ret [int IntKind.i64 (bT q.num.natAbs r.num.natAbs)])))) (aa.ag [(0 : Nat) < 1] (aa.fork (bk q) (aa.ag [bk q = true] (aa.fork (bif true then bk r else false) (aa.fork (decide (IntKind.u64.wrap ((↑(if bk q = true then q.num.natAbs else 0) : Int) * (↑(if bk r = true then r.den else 0) : Int)) < IntKind.u64.wrap ((↑(if bk r = true then r.num.natAbs else 0) : Int) * (↑(if bk q = true then q.den else 0) : Int)))) (aa.ag [(0 : Nat) < 1] (aa.fork (decide (q < 0)) (aa.leaf aj.ret [int IntKind.i64 (1 : Int)]) (aa.leaf aj.ret [int IntKind.i64 (-1 : Int)]))) (aa.fork (decide (IntKind.u64.wrap ((↑(if bk q = true then q.num.natAbs else 0) : Int) * (↑(if bk r = true then r.den else 0) : Int)) > IntKind.u64.wrap ((↑(if bk r = true then r.num.natAbs else 0) : Int) * (↑(if bk q = true then q.den else 0) : Int)))) (aa.ag [(0 : Nat) < 1] (aa.fork (decide (q < 0)) (aa.leaf aj.ret [int IntKind.i64 (-1 : Int)]) (aa.leaf aj.ret [int IntKind.i64 (1 : Int)]))) (aa.ag [(0 : Nat) < 1] (aa.fork (decide (q < 0)) (aa.leaf aj.ret [int IntKind.i64 (0 : Int)]) (aa.leaf aj.ret [int IntKind.i64 (0 : Int)]))))) (aa.ag [(0 : Nat) < 1, (0 : Nat) < 1, nl q.num.natAbs < 2 ^ 40, nl r.den < 2 ^ 40, (0 : Nat) < 1, (0 : Nat) < 1, nl r.num.natAbs < 2 ^ 40, nl q.den < 2 ^ 40, nl (q.num.natAbs * r.den) < 2 ^ 40, nl (r.num.natAbs * q.den) < 2 ^ 40] (aa.ag [(0 : Nat) < 1] (aa.fork (decide (q < 0)) (aa.leaf aj.ret [int IntKind.i64 (IntKind.i64.wrap ((0 : Int) - bT (q.num.natAbs * r.den) (r.num.natAbs * q.den)))]) (aa.leaf aj.ret [int IntKind.i64 (bT (q.num.natAbs * r.den) (r.num.natAbs * q.den))])))))) (aa.ag [bk q = false] (aa.fork false (aa.fork (decide (IntKind.u64.wrap ((↑(if bk q = true then q.num.natAbs else 0) : Int) * (↑(if bk r = true then r.den else 0) : Int)) < IntKind.u64.wrap ((↑(if bk r = true then r.num.natAbs else 0) : Int) * (↑(if bk q = true then q.den else 0) : Int)))) (aa.ag [(0 : Nat) < 1] (aa.fork (decide (q < 0)) (aa.leaf aj.ret [int IntKind.i64 (1 : Int)]) (aa.leaf aj.ret [int IntKind.i64 (-1 : Int)]))) (aa.fork (decide (IntKind.u64.wrap ((↑(if bk q = true then q.num.natAbs else 0) : Int) * (↑(if bk r = true then r.den else 0) : Int)) > IntKind.u64.wrap ((↑(if bk r = true then r.num.natAbs else 0) : Int) * (↑(if bk q = true then q.den else 0) : Int)))) (aa.ag [(0 : Nat) < 1] (aa.fork (decide (q < 0)) (aa.leaf aj.ret [int IntKind.i64 (-1 : Int)]) (aa.leaf aj.ret [int IntKind.i64 (1 : Int)]))) (aa.ag [(0 : Nat) < 1] (aa.fork (decide (q < 0)) (aa.leaf aj.ret [int IntKind.i64 (0 : Int)]) (aa.leaf aj.ret [int IntKind.i64 (0 : Int)]))))) (aa.ag [(0 : Nat) < 1, (0 : Nat) < 1, nl q.num.natAbs < 2 ^ 40, nl r.den < 2 ^ 40, (0 : Nat) < 1, (0 : Nat) < 1, nl r.num.natAbs < 2 ^ 40, nl q.den < 2 ^ 40, nl (q.num.natAbs * r.den) < 2 ^ 40, nl (r.num.natAbs * q.den) < 2 ^ 40] (aa.ag [(0 : Nat) < 1] (aa.fork (decide (q < 0)) (aa.leaf aj.ret [int IntKind.i64 (IntKind.i64.wrap ((0 : Int) - bT (q.num.natAbs * r.den) (r.num.natAbs * q.den)))]) (aa.leaf aj.ret [int IntKind.i64 (bT (q.num.natAbs * r.den) (r.num.natAbs * q.den))]))))))))))))) := by kernel_rfl
theorem Ti : ∀ K args pre r, Eu K args pre = some r → aA P rY K args pre r := by
 refine bN fun K args r hk hs _ => ?_
 split at hs
 ·simp only [Option.some.injEq] at hs
  subst hs
  exact fun need => L5 need.1 need.2 K [] trivial
 ·simp at hs
theorem xW {q r : Rat} (h : bK q ≠ bK r) : ef q r = if bK q < bK r then -1 else 1 := by
 unfold bK ef at *
 grind
theorem aaK {a b : Nat} : -bT a b = bT b a := by unfold bT; split <;> split <;> omega
theorem Fm {a b k : Nat} (hk : 0 < k) : bT (a * k) (b * k) = bT a b := by
 unfold bT
 simp only [Nat.mul_lt_mul_right hk]
theorem zw {a b : Nat} : IntKind.i64.wrap (0 - bT a b) = -bT a b := by
 have : bT a b = -1 ∨ bT a b = 0 ∨ bT a b = 1 := by unfold bT; split; exact .inl rfl; split; exact .inr (.inr rfl); exact .inr (.inl rfl)
 rcases this with h | h | h <;> rw [h] <;> rfl
theorem lE {q r : Rat} (h : bK q = bK r) : ef q r = if q < 0 then -bT (q.num.natAbs * r.den) (r.num.natAbs * q.den) else bT (q.num.natAbs * r.den) (r.num.natAbs * q.den) := by
 have h1 : q < 0 ↔ r < 0 := by unfold bK at h; grind
 have e1 : ∀ {a b : Nat}, (-(a : Int)) * (b : Int) = -((a * b : Nat) : Int) := fun {a b} => by simp [Int.neg_mul]
 have e2 : ∀ {a b : Nat}, (a : Int) * (b : Int) = ((a * b : Nat) : Int) := fun {a b} => by simp
 unfold ef
 by_cases hq : q < 0
 ·have hr := h1.1 hq
  have q1 : q.num = -(q.num.natAbs : Int) := by have := gq.1 hq; omega
  have r1 : r.num = -(r.num.natAbs : Int) := by have := gq.1 hr; omega
  have l1 : q < r ↔ r.num.natAbs * q.den < q.num.natAbs * r.den := by
   rw [Rat.lt_iff]
   conv => lhs; rw [q1, r1, e1, e1]
   omega
  have l2 : r < q ↔ q.num.natAbs * r.den < r.num.natAbs * q.den := by
   rw [Rat.lt_iff]
   conv => lhs; rw [q1, r1, e1, e1]
   omega
  rw [if_pos hq, aaK]
  unfold bT
  simp only [l1, l2]
 ·have hr : ¬ r < 0 := fun h => hq (h1.2 h)
  have q1 : q.num = (q.num.natAbs : Int) := by have : ¬ q.num < 0 := fun h => hq (gq.2 h); omega
  have r1 : r.num = (r.num.natAbs : Int) := by have : ¬ r.num < 0 := fun h => hr (gq.2 h); omega
  have l1 : q < r ↔ q.num.natAbs * r.den < r.num.natAbs * q.den := by
   rw [Rat.lt_iff]
   conv => lhs; rw [q1, r1, e2, e2]
   omega
  have l2 : r < q ↔ r.num.natAbs * q.den < q.num.natAbs * r.den := by
   rw [Rat.lt_iff]
   conv => lhs; rw [q1, r1, e2, e2]
   omega
  rw [if_neg hq]
  unfold bT
  simp only [l1, l2]
theorem DM {q r : Rat} {n m : Nat} (hn : n < 2 ^ 42) (hm' : m < 2 ^ 42) (K : Nat) (pre : aD) : aA P iy K [.rat q n, .rat r m] pre (aG (.int .i64 (ef q r)) []) := by
 refine gL fun ⟨hq, hr, _⟩ => ?_
 have hq : Sz q n := hq
 have hr : Sz r m := hr
 obtain ⟨a1, a2, a3⟩ := Sz.gr hq (by omega)
 obtain ⟨b1, b2, b3⟩ := Sz.gr hr (by omega)
 have d1 := q.den_nz
 have d2 := r.den_nz
 have m1 : nl (q.num.natAbs * r.den) < 2 ^ 40 := iw (n := n + m) (by rw [Nat.pow_add]; exact Nat.mul_lt_mul'' hq.1 hr.2) (by omega)
 have m2 : nl (r.num.natAbs * q.den) < 2 ^ 40 := iw (n := m + n) (by rw [Nat.pow_add]; exact Nat.mul_lt_mul'' hr.1 hq.2) (by omega)
 refine bH hT iX hm Nn rfl (of_decide_eq_true (by kernel_rfl)) rfl 60 Pj (fun _ => ?_) K pre
 simp only [aa.all, ay, bne_iff_ne, ne_eq, bne_eq_false_iff_eq]
 refine ⟨⟨by omega, by omega, by omega, by omega⟩, fun hs => ⟨fun hl => bq ?_, fun hl => bq ?_⟩, fun hs => ⟨by omega, ⟨by omega, by omega, a3, b3⟩, fun hd => ⟨⟨by omega, by omega, a1, b1⟩, by omega, fun hc => bq ?_, fun hc => bq ?_⟩, fun hd => ⟨by omega, fun hp => ⟨hp, fun hp2 => ?_, fun hp2 => ⟨⟨by omega, by omega, a1, b2, by omega, by omega, b1, a2, m1, m2⟩, by omega, fun hc => bq ?_, fun hc => bq ?_⟩⟩, fun hp => ⟨hp, fun h => by simp at h, fun _ => ⟨⟨by omega, by omega, a1, b2, by omega, by omega, b1, a2, m1, m2⟩, by omega, fun hc => bq ?_, fun hc => bq ?_⟩⟩⟩⟩⟩
 ·rw [xW hs, if_pos (of_decide_eq_true hl)]
 ·rw [xW hs, if_neg (of_decide_eq_false hl)]
 ·have hd := of_decide_eq_true hd
  have e : q.den = r.den := by split at hd <;> split at hd <;> omega
  rw [lE hs, if_pos (of_decide_eq_true hc), e, Fm (by omega), zw]
 ·have hd := of_decide_eq_true hd
  have e : q.den = r.den := by split at hd <;> split at hd <;> omega
  rw [lE hs, if_neg (of_decide_eq_false hc), e, Fm (by omega)]
 ·have hp2 := gu hp2
  obtain ⟨q1, q2⟩ := mD hp
  obtain ⟨r1, r2⟩ := mD hp2
  rw [if_pos hp, if_pos hp2, if_pos hp2, if_pos hp, (kX q1 r2).1, (kX r1 q2).1]
  have hcs := lE hs
  generalize q.num.natAbs * r.den = X at *
  generalize r.num.natAbs * q.den = Y at *
  unfold bT at hcs
  refine ⟨fun h1 => ⟨by omega, fun hc => bq ?_, fun hc => bq ?_⟩, fun h1 => ⟨fun h2 => ⟨by omega, fun hc => bq ?_, fun hc => bq ?_⟩, fun h2 => ⟨by omega, fun hc => bq ?_, fun hc => bq ?_⟩⟩⟩
  all_goals rw [hcs]
  ·rw [if_pos (of_decide_eq_true hc), if_pos (by have := of_decide_eq_true h1; omega)]; rfl
  ·rw [if_neg (of_decide_eq_false hc), if_pos (by have := of_decide_eq_true h1; omega)]
  ·rw [if_pos (of_decide_eq_true hc), if_neg (by have := of_decide_eq_false h1; omega), if_pos (by have := of_decide_eq_true h2; omega)]
  ·rw [if_neg (of_decide_eq_false hc), if_neg (by have := of_decide_eq_false h1; omega), if_pos (by have := of_decide_eq_true h2; omega)]
  ·rw [if_pos (of_decide_eq_true hc), if_neg (by have := of_decide_eq_false h1; omega), if_neg (by have := of_decide_eq_false h2; omega)]; rfl
  ·rw [if_neg (of_decide_eq_false hc), if_neg (by have := of_decide_eq_false h1; omega), if_neg (by have := of_decide_eq_false h2; omega)]
 ·rw [lE hs, if_pos (of_decide_eq_true hc), zw]
 ·rw [lE hs, if_neg (of_decide_eq_false hc)]
 ·rw [lE hs, if_pos (of_decide_eq_true hc), zw]
 ·rw [lE hs, if_neg (of_decide_eq_false hc)]
theorem Oe : ∀ K args pre r, GJ K args pre = some r → aA P iy K args pre r := by
 refine bN fun K args r hk hs _ => ?_
 split at hs
 ·simp only [Option.some.injEq] at hs
  subst hs
  exact fun need => DM need.1 need.2 K [] trivial
 ·simp at hs
theorem TC : ∀ K args pre r, Cr.2 K args pre = some r → aA P Cr.1 K args pre r := RC
theorem uS : bg P GA := aH Ti (aH Oe (aH TC (aH Wt (aH Kz (aH HE bn)))))
section ops
variable {q r : Rat} {n m : Nat}
theorem F7 (hn : n < 2 ^ 42) (hm' : m < 2 ^ 42) (K : Nat) : aA P vk K [.rat q n, .rat r m] [] (aG (.rat (q + r) (n + m + 1)) []) := by
 refine bH hT uS hm ZW rfl (of_decide_eq_true (by kernel_rfl)) rfl 60 WJ (fun _ => ?_) K []
 simp only [aa.all, ay, iL]
 exact ⟨⟨by omega, by omega, by omega, hn, hm', by omega⟩, by omega, .refl _⟩
theorem XB (r : Rat) : sQ (!decide (r < 0)) r.num.natAbs r.den = -r := by
 have h := iL r
 conv => rhs; rw [← h]
 unfold sQ
 rw [Rat.neg_mkRat]
 congr 1
 unfold er
 by_cases h : r < 0 <;> simp [h]
theorem FU (hn : n < 2 ^ 42) (hm' : m < 2 ^ 42) (K : Nat) : aA P r7 K [.rat q n, .rat r m] [] (aG (.rat (q - r) (n + m + 1)) []) := by
 refine bH hT uS hm Sn rfl (of_decide_eq_true (by kernel_rfl)) rfl 60 Vq (fun _ => ?_) K []
 simp only [aa.all, ay, XB]
 exact ⟨⟨by omega, by omega, by omega, hn, hm', by omega⟩, by omega, cI (by rw [Rat.sub_eq_add_neg])⟩
def ou (q r : Rat) : Rat := if r < q then r else q
def nB (q r : Rat) : Rat := if q < r then r else q
theorem lX {q r : Rat} : ef q r < 0 ↔ q < r := by unfold ef; grind
theorem v5 {q r : Rat} : ef q r > 0 ↔ r < q := by unfold ef; grind
theorem Ur (hn : n < 2 ^ 42) (hm' : m < 2 ^ 42) (K : Nat) : aA P ym K [.rat q n, .rat r m] [] (aG (.rat (ou q r) (max n m)) []) := by
 refine bH hT uS hm Mc rfl (of_decide_eq_true (by kernel_rfl)) rfl 60 OZ (fun _ => ?_) K []
 simp only [aa.all, ay, decide_eq_true_eq, decide_eq_false_iff_not, lX]
 refine ⟨⟨by omega, by omega, hm', hn⟩, fun h => ⟨⟨by omega, by omega⟩, ⟨by omega, by omega, by omega⟩, by omega, ?_⟩, fun h => ⟨⟨by omega, by omega, by omega⟩, by omega, ?_⟩⟩
 ·unfold ou; rw [if_pos h]; exact ew (Nat.le_max_right _ _)
 ·unfold ou; rw [if_neg h]; exact ew (Nat.le_max_left _ _)
theorem acF (hn : n < 2 ^ 42) (hm' : m < 2 ^ 42) (K : Nat) : aA P yh K [.rat q n, .rat r m] [] (aG (.rat (nB q r) (max n m)) []) := by
 refine bH hT uS hm Vt rfl (of_decide_eq_true (by kernel_rfl)) rfl 60 acd (fun _ => ?_) K []
 simp only [aa.all, ay, decide_eq_true_eq, decide_eq_false_iff_not, v5]
 refine ⟨⟨by omega, by omega, hm', hn⟩, fun h => ⟨⟨by omega, by omega⟩, ⟨by omega, by omega, by omega⟩, by omega, ?_⟩, fun h => ⟨⟨by omega, by omega, by omega⟩, by omega, ?_⟩⟩
 ·unfold nB; rw [if_pos h]; exact ew (Nat.le_max_right _ _)
 ·unfold nB; rw [if_neg h]; exact ew (Nat.le_max_left _ _)
theorem aa4 {n : Int} : sQ (decide (n < 0)) n.natAbs 1 = (n : Rat) := by
 unfold sQ
 have : er (decide (n < 0)) n.natAbs = n := by unfold er; by_cases h : n < 0 <;> simp [h] <;> omega
 rw [this, Rat.mkRat_one]
theorem CB {n : Int} : Sz (n : Rat) (max 1 (aZ n.natAbs)) := by
 refine ⟨?_, ?_⟩
 ·rw [Rat.num_intCast]
  exact Nat.lt_of_lt_of_le (gy.1 (Nat.le_refl _)) (Nat.pow_le_pow_right (by omega) (Nat.le_max_right _ _))
 ·rw [Rat.den_intCast]
  exact Nat.lt_of_lt_of_le (show 1 < 2 ^ 1 by omega) (Nat.pow_le_pow_right (by omega) (Nat.le_max_left _ _))
theorem DP {n : Int} (h1 : -2 ^ 63 ≤ n) (h2 : n < 2 ^ 63) (K : Nat) : aA P nO K [.int .i64 n] [] (aG (.rat (n : Rat) (max 1 (aZ n.natAbs))) []) := by
 refine bH hT uS hm Rv rfl (of_decide_eq_true (by kernel_rfl)) rfl 60 Pt (fun _ => ?_) K []
 simp only [aa.all, ay, aa4]
 exact ⟨⟨h1, h2, iw (n := 64) (by omega) (by omega), by decide, by omega⟩, by omega, eU rfl CB⟩
theorem Ii (hn : n < 2 ^ 42) (hm' : m < 2 ^ 42) (K : Nat) : aA P uW K [.rat q n, .rat r m] [] (aG (.rat (q * r) (n + m)) []) := by
 refine gL fun ⟨hq, hr, _⟩ => ?_
 have hq : Sz q n := hq
 have hr : Sz r m := hr
 obtain ⟨a1, a2, a3⟩ := Sz.gr hq (by omega)
 obtain ⟨b1, b2, b3⟩ := Sz.gr hr (by omega)
 have d1 := q.den_nz
 have d2 := r.den_nz
 have m1 : nl (q.num.natAbs * r.num.natAbs) < 2 ^ 40 := iw (n := n + m) (by rw [Nat.pow_add]; exact Nat.mul_lt_mul'' hq.1 hr.1) (by omega)
 have m2 : nl (q.den * r.den) < 2 ^ 40 := iw (n := n + m) (by rw [Nat.pow_add]; exact Nat.mul_lt_mul'' hq.2 hr.2) (by omega)
 have hz := hq.mul hr
 have hv : sQ (decide (q < 0) != decide (r < 0)) (q.num.natAbs * r.num.natAbs) (q.den * r.den) = q * r := by rw [← BW, iL, iL]
 have hzero : q = 0 ∨ r = 0 → bA (.agg [.bool false, .mag 0, .mag 0]) (.rat (q * r) (n + m)) := by
  intro h
  have e : q * r = 0 := by rcases h with h | h <;> subst h <;> simp
  obtain ⟨k, hk⟩ : ∃ k, n + m = k + 1 := ⟨n + m - 1, by have := hq.pos; omega⟩
  rw [e, hk]; exact kz
 refine bH hT iX hm NZ rfl (of_decide_eq_true (by kernel_rfl)) rfl 60 W8 (fun _ => ?_) K []
 have hlong : (aa.ag
         [(0 : Nat) < 1, (0 : Nat) < 1, (0 : Nat) < 1, (0 : Nat) < 1, nl q.num.natAbs < 2 ^ 40, nl r.num.natAbs < 2 ^ 40, (0 : Nat) < 1, (0 : Nat) < 1, nl q.den < 2 ^ 40, nl r.den < 2 ^ 40, nl (q.num.natAbs * r.num.natAbs) < 2 ^ 40, nl (q.den * r.den) < 2 ^ 40, (0 : Nat) < 1]
         (aa.ag [(0 : Nat) < 1]
          (aa.leaf aj.ret
           [AV.rat (sQ (decide (q < (0 : Rat)) != decide (r < (0 : Rat))) (q.num.natAbs * r.num.natAbs) (q.den * r.den))
             (bS (sQ (decide (q < (0 : Rat)) != decide (r < (0 : Rat))) (q.num.natAbs * r.num.natAbs) (q.den * r.den)))]))).all fun _ us => dg us (.rat (q * r) (n + m)) := by
  simp only [aa.all, ay]
  exact ⟨⟨by omega, by omega, by omega, by omega, a1, b1, by omega, by omega, a2, b2, m1, m2, by omega⟩, by omega, eU hv hz⟩
 refine ⟨fun hb => ⟨⟨show 0 < 1 by omega, hb⟩, fun _ => ⟨show 0 < 1 by omega, show 0 < 1 by omega, hzero (.inl ?_)⟩, fun h => by simp at h⟩, fun hb => ⟨⟨show 0 < 1 by omega, hb, show 0 < 1 by omega⟩, fun hc => ⟨show 0 < 1 by omega, show 0 < 1 by omega, hzero (.inr ?_)⟩, fun hc => ⟨show 0 < 1 by omega, fun h1 => ⟨show 0 < 1 by omega, fun h2 => ?_, fun h2 => hlong⟩, fun h1 => hlong⟩⟩⟩
 ·have := eq_of_beq hb
  exact mB.1 (gH.1 (by omega))
 ·have := eq_of_beq (fJ hc)
  exact mB.1 (gH.1 (by omega))
 ·obtain ⟨q1, q2⟩ := mD h1
  obtain ⟨r1, r2⟩ := mD h2
  obtain ⟨wx, bx⟩ := kX q1 r1
  obtain ⟨wd, bd⟩ := kX q2 r2
  have hd0 : q.den * r.den ≠ 0 := Nat.mul_ne_zero d1 d2
  rw [if_pos h1, if_pos h2, if_pos h1, if_pos h2, wx, wd]
  simp only [aa.all, ay, Int.toNat_natCast]
  exact ⟨⟨by omega, by omega, by omega, by omega, by omega⟩, by omega, eU hv hz⟩
theorem E8 (q r : Rat) (hr : r ≠ 0) : sQ (decide (q < 0) != decide (r < 0)) (q.num.natAbs * r.den) (q.den * r.num.natAbs) = q / r := by
 have hn : r.num ≠ 0 := fun h => hr (Rat.num_eq_zero.1 h)
 have hi : r⁻¹ = sQ (decide (r < 0)) r.den r.num.natAbs := by
  rw [← iL r⁻¹]
  have e1 : r⁻¹.num.natAbs = r.den := by rw [Rat.num_inv, Int.natAbs_mul, Int.natAbs_natCast, Int.natAbs_sign_of_ne_zero hn, Nat.one_mul]
  have e2 : r⁻¹.den = r.num.natAbs := by rw [Rat.den_inv, if_neg hn]
  have e3 : decide (r⁻¹ < 0) = decide (r < 0) := by
   rw [decide_eq_decide, gq, gq, Rat.num_inv]
   have hd := r.den_nz
   have hd' : (0 : Int) < (r.den : Int) := by omega
   rcases Int.lt_trichotomy r.num 0 with h | h | h
   ·rw [Int.sign_eq_neg_one_of_neg h]; omega
   ·exact absurd h hn
   ·rw [Int.sign_eq_one_of_pos h]; omega
  rw [e1, e2, e3]
 rw [Rat.div_def, hi]
 conv => rhs; rw [← iL q]
 rw [BW]
theorem CL (hn : n < 2 ^ 42) (hm' : m < 2 ^ 42) (K : Nat) : aA P pW K [.rat q n, .rat r m] [] (aG (.tuple [.rat (q / r) (n + m), .int .i64 (if r = 0 then 3 else 0)]) []) := by
 refine gL fun ⟨hq, hr, _⟩ => ?_
 have hq : Sz q n := hq
 have hr : Sz r m := hr
 obtain ⟨a1, a2, a3⟩ := Sz.gr hq (by omega)
 obtain ⟨b1, b2, b3⟩ := Sz.gr hr (by omega)
 have d1 := q.den_nz
 have d2 := r.den_nz
 have m1 : nl (q.num.natAbs * r.den) < 2 ^ 40 := iw (n := n + m) (by rw [Nat.pow_add]; exact Nat.mul_lt_mul'' hq.1 hr.2) (by omega)
 have m2 : nl (q.den * r.num.natAbs) < 2 ^ 40 := iw (n := n + m) (by rw [Nat.pow_add]; exact Nat.mul_lt_mul'' hq.2 hr.1) (by omega)
 have hz := hq.div hr
 have sg : ∀ {x : Rat}, bK x = 0 ↔ x = 0 := by intro x; unfold bK; grind
 refine bH hT iX hm P3 rfl (of_decide_eq_true (by kernel_rfl)) rfl 60 XS (fun _ => ?_) K []
 refine ⟨⟨show 0 < 1 by omega, show m < 2 ^ 44 by omega⟩, fun hb => ⟨show 0 < 1 by omega, show 0 < 1 by omega, ?_, ?_, trivial⟩, fun hb => ⟨show 0 < 1 by omega, ?_⟩⟩
 ·have h0 : r = 0 := sg.1 (eq_of_beq hb)
  have e : q / r = 0 := by rw [h0, Rat.div_def, Rat.inv_zero, Rat.mul_zero]
  obtain ⟨k, hk⟩ : ∃ k, n + m = k + 1 := ⟨n + m - 1, by have := hq.pos; omega⟩
  rw [e, hk]; exact kz
 ·have h0 : r = 0 := sg.1 (eq_of_beq hb)
  exact bq (by rw [if_pos h0])
 have h0 : r ≠ 0 := fun h => by
  rw [h] at hb
  simp [bK] at hb
 have hv := E8 q r h0
 have he : bA (.int .i64 0) (.int .i64 (if r = 0 then 3 else 0)) := bq (by rw [if_neg h0])
 have hlong : (aa.ag
         [(0 : Nat) < 1, (0 : Nat) < 1, (0 : Nat) < 1, (0 : Nat) < 1, nl q.num.natAbs < 2 ^ 40, nl r.den < 2 ^ 40, (0 : Nat) < 1, (0 : Nat) < 1, nl q.den < 2 ^ 40, nl r.num.natAbs < 2 ^ 40, nl (q.num.natAbs * r.den) < 2 ^ 40, nl (q.den * r.num.natAbs) < 2 ^ 40, (0 : Nat) < 1]
         (aa.ag [(0 : Nat) < 1]
          (aa.leaf aj.ret
           [AV.rat (sQ (decide (q < (0 : Rat)) != decide (r < (0 : Rat))) (q.num.natAbs * r.den) (q.den * r.num.natAbs))
             (bS (sQ (decide (q < (0 : Rat)) != decide (r < (0 : Rat))) (q.num.natAbs * r.den) (q.den * r.num.natAbs))), .int .i64 0]))).all fun _ us => dg us (.tuple [.rat (q / r) (n + m), .int .i64 (if r = 0 then 3 else 0)]) := by
  simp only [aa.all, ay]
  exact ⟨⟨by omega, by omega, by omega, by omega, a1, b2, by omega, by omega, a2, b1, m1, m2, by omega⟩, by omega, eU hv hz, he, trivial⟩
 refine ⟨fun h1 => ⟨show 0 < 1 by omega, fun h2 => ?_, fun h2 => hlong⟩, fun h1 => hlong⟩
 obtain ⟨q1, q2⟩ := mD h1
 obtain ⟨r1, r2⟩ := mD h2
 obtain ⟨wx, bx⟩ := kX q1 r2
 obtain ⟨wd, bd⟩ := kX q2 r1
 have hr0 : r.num.natAbs ≠ 0 := fun h => h0 (mB.1 h)
 have hd0 : q.den * r.num.natAbs ≠ 0 := Nat.mul_ne_zero d1 hr0
 rw [if_pos h1, if_pos h2, if_pos h1, if_pos h2, wx, wd]
 simp only [aa.all, ay, Int.toNat_natCast]
 exact ⟨⟨by omega, by omega, by omega, by omega, by omega⟩, by omega, eU hv hz, he, trivial⟩
end ops
def KA : Spec := bu fun l => match l with
 | [.int .i64 n] => some (aG (.rat (n : Rat) (max 1 (aZ n.natAbs))) [-2 ^ 63 ≤ n, n < 2 ^ 63])
 | _ => none
theorem Mx : ∀ K args pre r, KA K args pre = some r → aA P nO K args pre r := by
 refine bN fun K args r hk hs _ => ?_
 split at hs
 ·simp only [Option.some.injEq] at hs
  subst hs
  exact fun need => DP need.1 need.2 K trivial
 ·simp at hs
end Go.Am.B
