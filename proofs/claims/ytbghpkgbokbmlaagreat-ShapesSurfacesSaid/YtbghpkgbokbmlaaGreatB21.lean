/- rational.Add, Sub, Mul, Quo, Cmp, Min, Max, Int. -/
import Derived.Test.YtbghpkgbokbmlaaGreatB20
set_option linter.unusedVariables false
namespace Go.Am.B
open Go Go.Am.N AV
theorem NO : aP P vt vW (au vW) := aL KN (by kernel_rfl) (by kernel_rfl) (by kernel_rfl)
theorem Wu : aP P rE tE (au tE) := aL Xm (by kernel_rfl) (by kernel_rfl) (by kernel_rfl)
theorem Lu : aP P xG sR (au sR) := aL Q6 (by kernel_rfl) (by kernel_rfl) (by kernel_rfl)
theorem Nx : aP P xF vT (au vT) := aL Pm (by kernel_rfl) (by kernel_rfl) (by kernel_rfl)
theorem Ts : aP P mU vU (au vU) := aL Qv (by kernel_rfl) (by kernel_rfl) (by kernel_rfl)
def Jt : Spec := bA fun l => match l with
 | [.rat q n, .rat r m, .bool s] => some (aF (.rat (q + sQ s r.num.natAbs r.den) (n + m + 1)) [n < 2 ^ 42, m < 2 ^ 42])
 | _ => none
def IY : Spec := bA fun l => match l with
 | [.rat q n, .rat r m] => some (aF (.int .i64 (gl q r)) [n < 2 ^ 42, m < 2 ^ 42])
 | _ => none
def GA : aO := (tS, Jt) :: (nN, IY) :: (rH, Hh) :: (tT, Gt) :: (o5, zA) :: (pe, AL) :: []
theorem Mc {q r : Rat} {n m : Nat} : bq T GA [] 60 vW (au vW) ⟨aK 0 [.rat q n, .rat r m], [], 0⟩ =
  some (aa.af [(0 : Nat) < 1, (0 : Nat) < 1, (0 : Nat) < 1, n < 2 ^ 42, m < 2 ^ 42, (0 : Nat) < 1] (aa.af [(0 : Nat) < 1] (aa.leaf ah.ret [rat (q + sQ (decide (r < 0)) r.num.natAbs r.den) (n + m + 1)]))) := by kernel_rfl
theorem YK {q r : Rat} {n m : Nat} : bq T GA [] 60 tE (au tE) ⟨aK 0 [.rat q n, .rat r m], [], 0⟩ =
  some (aa.af [(0 : Nat) < 1, (0 : Nat) < 1, (0 : Nat) < 1, n < 2 ^ 42, m < 2 ^ 42, (0 : Nat) < 1] (aa.af [(0 : Nat) < 1] (aa.leaf ah.ret [rat (q + sQ (!decide (r < 0)) r.num.natAbs r.den) (n + m + 1)]))) := by kernel_rfl
theorem Yt {q r : Rat} {n m : Nat} : bq T GA [8] 60 sR (au sR) ⟨aK 0 [.rat q n, .rat r m], [], 0⟩ =
  some (aa.af [(0 : Nat) < 1, (0 : Nat) < 1, m < 2 ^ 42, n < 2 ^ 42] (aa.fork (decide (gl r q < (0 : Int))) (aa.af [(0 : Nat) < 1, (0 : Nat) < 1] (aa.af [(0 : Nat) < 1, m < 2 ^ 44, (0 : Nat) < 1] (aa.af [(0 : Nat) < 1] (aa.leaf ah.ret [rat r m])))) (aa.af [(0 : Nat) < 1, n < 2 ^ 44, (0 : Nat) < 1] (aa.af [(0 : Nat) < 1] (aa.leaf ah.ret [rat q n]))))) := by kernel_rfl
theorem TX {q r : Rat} {n m : Nat} : bq T GA [8] 60 vT (au vT) ⟨aK 0 [.rat q n, .rat r m], [], 0⟩ =
  some (aa.af [(0 : Nat) < 1, (0 : Nat) < 1, m < 2 ^ 42, n < 2 ^ 42] (aa.fork (decide (gl r q > (0 : Int))) (aa.af [(0 : Nat) < 1, (0 : Nat) < 1] (aa.af [(0 : Nat) < 1, m < 2 ^ 44, (0 : Nat) < 1] (aa.af [(0 : Nat) < 1] (aa.leaf ah.ret [rat r m])))) (aa.af [(0 : Nat) < 1, n < 2 ^ 44, (0 : Nat) < 1] (aa.af [(0 : Nat) < 1] (aa.leaf ah.ret [rat q n]))))) := by kernel_rfl
theorem Ro {n : Int} : bq T GA [] 60 vU (au vU) ⟨aK 0 [.int .i64 n], [], 0⟩ =
  some (aa.af [-(2 : Int) ^ 63 ≤ n, n < (2 : Int) ^ 63, nl n.natAbs < 2 ^ 40, nl 1 < 2 ^ 40, (0 : Nat) < 1] (aa.af [(0 : Nat) < 1] (aa.leaf ah.ret [rat (sQ (decide (n < (0 : Int))) n.natAbs 1) (bX (sQ (decide (n < (0 : Int))) n.natAbs 1))]))) := by kernel_rfl
theorem RT {q r : Rat} {n m : Nat} : bq T GQ [20, 23, 34, 47, 49, 56, 63, 76] 60 qH (au qH) ⟨aK 0 [.rat q n, .rat r m], [], 0⟩ =
  some (aa.af [(0 : Nat) < 1, n < 2 ^ 44, (0 : Nat) < 1, m < 2 ^ 44] (aa.fork (ej q != ej r) (aa.fork (decide (ej q < ej r)) (aa.leaf ah.ret [int IntKind.i64 (-1 : Int)]) (aa.leaf ah.ret [int IntKind.i64 (1 : Int)])) (aa.af [(0 : Nat) < 1] (aa.af [(0 : Nat) < 1, (0 : Nat) < 1, nl (if q.den = 1 then 0 else q.den) < 2 ^ 40, nl (if r.den = 1 then 0 else r.den) < 2 ^ 40] (aa.fork (decide ((if q.den = 1 then 0 else q.den) = if r.den = 1 then 0 else r.den)) (aa.af [(0 : Nat) < 1, (0 : Nat) < 1, nl q.num.natAbs < 2 ^ 40, nl r.num.natAbs < 2 ^ 40] (aa.af [(0 : Nat) < 1] (aa.fork (decide (q < 0)) (aa.leaf ah.ret [int IntKind.i64 (IntKind.i64.wrap ((0 : Int) - bS q.num.natAbs r.num.natAbs))]) (aa.leaf ah.ret [int IntKind.i64 (bS q.num.natAbs r.num.natAbs)])))) (aa.af [(0 : Nat) < 1] (aa.fork (bn q) (aa.af [bn q = true] (aa.fork (bif true then bn r else false) (aa.fork (decide (IntKind.u64.wrap ((↑(if bn q = true then q.num.natAbs else 0) : Int) * (↑(if bn r = true then r.den else 0) : Int)) < IntKind.u64.wrap ((↑(if bn r = true then r.num.natAbs else 0) : Int) * (↑(if bn q = true then q.den else 0) : Int)))) (aa.af [(0 : Nat) < 1] (aa.fork (decide (q < 0)) (aa.leaf ah.ret [int IntKind.i64 (1 : Int)]) (aa.leaf ah.ret [int IntKind.i64 (-1 : Int)]))) (aa.fork (decide (IntKind.u64.wrap ((↑(if bn q = true then q.num.natAbs else 0) : Int) * (↑(if bn r = true then r.den else 0) : Int)) > IntKind.u64.wrap ((↑(if bn r = true then r.num.natAbs else 0) : Int) * (↑(if bn q = true then q.den else 0) : Int)))) (aa.af [(0 : Nat) < 1] (aa.fork (decide (q < 0)) (aa.leaf ah.ret [int IntKind.i64 (-1 : Int)]) (aa.leaf ah.ret [int IntKind.i64 (1 : Int)]))) (aa.af [(0 : Nat) < 1] (aa.fork (decide (q < 0)) (aa.leaf ah.ret [int IntKind.i64 (0 : Int)]) (aa.leaf ah.ret [int IntKind.i64 (0 : Int)]))))) (aa.af [(0 : Nat) < 1, (0 : Nat) < 1, nl q.num.natAbs < 2 ^ 40, nl r.den < 2 ^ 40, (0 : Nat) < 1, (0 : Nat) < 1, nl r.num.natAbs < 2 ^ 40, nl q.den < 2 ^ 40, nl (q.num.natAbs * r.den) < 2 ^ 40, nl (r.num.natAbs * q.den) < 2 ^ 40] (aa.af [(0 : Nat) < 1] (aa.fork (decide (q < 0)) (aa.leaf ah.ret [int IntKind.i64 (IntKind.i64.wrap ((0 : Int) - bS (q.num.natAbs * r.den) (r.num.natAbs * q.den)))]) (aa.leaf ah.ret [int IntKind.i64 (bS (q.num.natAbs * r.den) (r.num.natAbs * q.den))])))))) (aa.af [bn q = false] (aa.fork false (aa.fork (decide (IntKind.u64.wrap ((↑(if bn q = true then q.num.natAbs else 0) : Int) * (↑(if bn r = true then r.den else 0) : Int)) < IntKind.u64.wrap ((↑(if bn r = true then r.num.natAbs else 0) : Int) * (↑(if bn q = true then q.den else 0) : Int)))) (aa.af [(0 : Nat) < 1] (aa.fork (decide (q < 0)) (aa.leaf ah.ret [int IntKind.i64 (1 : Int)]) (aa.leaf ah.ret [int IntKind.i64 (-1 : Int)]))) (aa.fork (decide (IntKind.u64.wrap ((↑(if bn q = true then q.num.natAbs else 0) : Int) * (↑(if bn r = true then r.den else 0) : Int)) > IntKind.u64.wrap ((↑(if bn r = true then r.num.natAbs else 0) : Int) * (↑(if bn q = true then q.den else 0) : Int)))) (aa.af [(0 : Nat) < 1] (aa.fork (decide (q < 0)) (aa.leaf ah.ret [int IntKind.i64 (-1 : Int)]) (aa.leaf ah.ret [int IntKind.i64 (1 : Int)]))) (aa.af [(0 : Nat) < 1] (aa.fork (decide (q < 0)) (aa.leaf ah.ret [int IntKind.i64 (0 : Int)]) (aa.leaf ah.ret [int IntKind.i64 (0 : Int)]))))) (aa.af [(0 : Nat) < 1, (0 : Nat) < 1, nl q.num.natAbs < 2 ^ 40, nl r.den < 2 ^ 40, (0 : Nat) < 1, (0 : Nat) < 1, nl r.num.natAbs < 2 ^ 40, nl q.den < 2 ^ 40, nl (q.num.natAbs * r.den) < 2 ^ 40, nl (r.num.natAbs * q.den) < 2 ^ 40] (aa.af [(0 : Nat) < 1] (aa.fork (decide (q < 0)) (aa.leaf ah.ret [int IntKind.i64 (IntKind.i64.wrap ((0 : Int) - bS (q.num.natAbs * r.den) (r.num.natAbs * q.den)))]) (aa.leaf ah.ret [int IntKind.i64 (bS (q.num.natAbs * r.den) (r.num.natAbs * q.den))]))))))))))))) := by kernel_rfl
theorem Se : ∀ K args pre r, Jt K args pre = some r → ay P tS K args pre r := by
 refine bQ fun K args r hk hs _ => ?_
 split at hs
 ·simp only [Option.some.injEq] at hs
  subst hs
  exact fun need => J7 need.1 need.2 K [] trivial
 ·simp at hs
theorem xX {q r : Rat} (h : ej q ≠ ej r) : gl q r = if ej q < ej r then -1 else 1 := by
 unfold ej gl at *
 grind
theorem RC {a b : Nat} : -bS a b = bS b a := by unfold bS; split <;> split <;> omega
theorem Ge {a b k : Nat} (hk : 0 < k) : bS (a * k) (b * k) = bS a b := by
 unfold bS
 simp only [Nat.mul_lt_mul_right hk]
theorem wo {a b : Nat} : IntKind.i64.wrap (0 - bS a b) = -bS a b := by
 have : bS a b = -1 ∨ bS a b = 0 ∨ bS a b = 1 := by unfold bS; split; exact .inl rfl; split; exact .inr (.inr rfl); exact .inr (.inl rfl)
 rcases this with h | h | h <;> rw [h] <;> rfl
theorem kB {q r : Rat} (h : ej q = ej r) : gl q r = if q < 0 then -bS (q.num.natAbs * r.den) (r.num.natAbs * q.den) else bS (q.num.natAbs * r.den) (r.num.natAbs * q.den) := by
 have h1 : q < 0 ↔ r < 0 := by unfold ej at h; grind
 have e1 : ∀ {a b : Nat}, (-(a : Int)) * (b : Int) = -((a * b : Nat) : Int) := fun {a b} => by simp [Int.neg_mul]
 have e2 : ∀ {a b : Nat}, (a : Int) * (b : Int) = ((a * b : Nat) : Int) := fun {a b} => by simp
 unfold gl
 by_cases hq : q < 0
 ·have hr := h1.1 hq
  have q1 : q.num = -(q.num.natAbs : Int) := by have := fc.1 hq; omega
  have r1 : r.num = -(r.num.natAbs : Int) := by have := fc.1 hr; omega
  have l1 : q < r ↔ r.num.natAbs * q.den < q.num.natAbs * r.den := by
   rw [Rat.lt_iff]
   conv => lhs; rw [q1, r1, e1, e1]
   omega
  have l2 : r < q ↔ q.num.natAbs * r.den < r.num.natAbs * q.den := by
   rw [Rat.lt_iff]
   conv => lhs; rw [q1, r1, e1, e1]
   omega
  rw [if_pos hq, RC]
  unfold bS
  simp only [l1, l2]
 ·have hr : ¬ r < 0 := fun h => hq (h1.2 h)
  have q1 : q.num = (q.num.natAbs : Int) := by have : ¬ q.num < 0 := fun h => hq (fc.2 h); omega
  have r1 : r.num = (r.num.natAbs : Int) := by have : ¬ r.num < 0 := fun h => hr (fc.2 h); omega
  have l1 : q < r ↔ q.num.natAbs * r.den < r.num.natAbs * q.den := by
   rw [Rat.lt_iff]
   conv => lhs; rw [q1, r1, e2, e2]
   omega
  have l2 : r < q ↔ r.num.natAbs * q.den < q.num.natAbs * r.den := by
   rw [Rat.lt_iff]
   conv => lhs; rw [q1, r1, e2, e2]
   omega
  rw [if_neg hq]
  unfold bS
  simp only [l1, l2]
theorem zU {q r : Rat} {n m : Nat} (hn : n < 2 ^ 42) (hm' : m < 2 ^ 42) (K : Nat) (pre : aC) : ay P nN K [.rat q n, .rat r m] pre (aF (.int .i64 (gl q r)) []) := by
 refine gT fun ⟨hq, hr, _⟩ => ?_
 have hq : Sz q n := hq
 have hr : Sz r m := hr
 obtain ⟨a1, a2, a3⟩ := Sz.gP hq (by omega)
 obtain ⟨b1, b2, b3⟩ := Sz.gP hr (by omega)
 have d1 := q.den_nz
 have d2 := r.den_nz
 have m1 : nl (q.num.natAbs * r.den) < 2 ^ 40 := hH (n := n + m) (by rw [Nat.pow_add]; exact Nat.mul_lt_mul'' hq.1 hr.2) (by omega)
 have m2 : nl (r.num.natAbs * q.den) < 2 ^ 40 := hH (n := m + n) (by rw [Nat.pow_add]; exact Nat.mul_lt_mul'' hr.1 hq.2) (by omega)
 refine bt hT iI hm Rq rfl (of_decide_eq_true (by kernel_rfl)) rfl 60 RT (fun _ => ?_) K pre
 simp only [aa.all, ax, bne_iff_ne, ne_eq, bne_eq_false_iff_eq]
 refine ⟨⟨by omega, by omega, by omega, by omega⟩, fun hs => ⟨fun hl => bB ?_, fun hl => bB ?_⟩, fun hs => ⟨by omega, ⟨by omega, by omega, a3, b3⟩, fun hd => ⟨⟨by omega, by omega, a1, b1⟩, by omega, fun hc => bB ?_, fun hc => bB ?_⟩, fun hd => ⟨by omega, fun hp => ⟨hp, fun hp2 => ?_, fun hp2 => ⟨⟨by omega, by omega, a1, b2, by omega, by omega, b1, a2, m1, m2⟩, by omega, fun hc => bB ?_, fun hc => bB ?_⟩⟩, fun hp => ⟨hp, fun h => by simp at h, fun _ => ⟨⟨by omega, by omega, a1, b2, by omega, by omega, b1, a2, m1, m2⟩, by omega, fun hc => bB ?_, fun hc => bB ?_⟩⟩⟩⟩⟩
 ·rw [xX hs, if_pos (of_decide_eq_true hl)]
 ·rw [xX hs, if_neg (of_decide_eq_false hl)]
 ·have hd := of_decide_eq_true hd
  have e : q.den = r.den := by split at hd <;> split at hd <;> omega
  rw [kB hs, if_pos (of_decide_eq_true hc), e, Ge (by omega), wo]
 ·have hd := of_decide_eq_true hd
  have e : q.den = r.den := by split at hd <;> split at hd <;> omega
  rw [kB hs, if_neg (of_decide_eq_false hc), e, Ge (by omega)]
 ·have hp2 := gr hp2
  obtain ⟨q1, q2⟩ := mA hp
  obtain ⟨r1, r2⟩ := mA hp2
  rw [if_pos hp, if_pos hp2, if_pos hp2, if_pos hp, (kq q1 r2).1, (kq r1 q2).1]
  have hcs := kB hs
  generalize q.num.natAbs * r.den = X at *
  generalize r.num.natAbs * q.den = Y at *
  unfold bS at hcs
  refine ⟨fun h1 => ⟨by omega, fun hc => bB ?_, fun hc => bB ?_⟩, fun h1 => ⟨fun h2 => ⟨by omega, fun hc => bB ?_, fun hc => bB ?_⟩, fun h2 => ⟨by omega, fun hc => bB ?_, fun hc => bB ?_⟩⟩⟩
  all_goals rw [hcs]
  ·rw [if_pos (of_decide_eq_true hc), if_pos (by have := of_decide_eq_true h1; omega)]; rfl
  ·rw [if_neg (of_decide_eq_false hc), if_pos (by have := of_decide_eq_true h1; omega)]
  ·rw [if_pos (of_decide_eq_true hc), if_neg (by have := of_decide_eq_false h1; omega), if_pos (by have := of_decide_eq_true h2; omega)]
  ·rw [if_neg (of_decide_eq_false hc), if_neg (by have := of_decide_eq_false h1; omega), if_pos (by have := of_decide_eq_true h2; omega)]
  ·rw [if_pos (of_decide_eq_true hc), if_neg (by have := of_decide_eq_false h1; omega), if_neg (by have := of_decide_eq_false h2; omega)]; rfl
  ·rw [if_neg (of_decide_eq_false hc), if_neg (by have := of_decide_eq_false h1; omega), if_neg (by have := of_decide_eq_false h2; omega)]
 ·rw [kB hs, if_pos (of_decide_eq_true hc), wo]
 ·rw [kB hs, if_neg (of_decide_eq_false hc)]
 ·rw [kB hs, if_pos (of_decide_eq_true hc), wo]
 ·rw [kB hs, if_neg (of_decide_eq_false hc)]
theorem PY : ∀ K args pre r, IY K args pre = some r → ay P nN K args pre r := by
 refine bQ fun K args r hk hs _ => ?_
 split at hs
 ·simp only [Option.some.injEq] at hs
  subst hs
  exact fun need => zU need.1 need.2 K [] trivial
 ·simp at hs
theorem oZ : aW P GA := aD Se (aD PY (aD Pk (aD U8 (aD Ho (aD DZ bg)))))
section ops
variable {q r : Rat} {n m : Nat}
theorem EO (hn : n < 2 ^ 42) (hm' : m < 2 ^ 42) (K : Nat) : ay P vt K [.rat q n, .rat r m] [] (aF (.rat (q + r) (n + m + 1)) []) := by
 refine bt hT oZ hm NO rfl (of_decide_eq_true (by kernel_rfl)) rfl 60 Mc (fun _ => ?_) K []
 simp only [aa.all, ax, iz]
 exact ⟨⟨by omega, by omega, by omega, hn, hm', by omega⟩, by omega, .refl _⟩
theorem Vq (r : Rat) : sQ (!decide (r < 0)) r.num.natAbs r.den = -r := by
 have h := iz r
 conv => rhs; rw [← h]
 unfold sQ
 rw [Rat.neg_mkRat]
 congr 1
 unfold eC
 by_cases h : r < 0 <;> simp [h]
theorem JA (hn : n < 2 ^ 42) (hm' : m < 2 ^ 42) (K : Nat) : ay P rE K [.rat q n, .rat r m] [] (aF (.rat (q - r) (n + m + 1)) []) := by
 refine bt hT oZ hm Wu rfl (of_decide_eq_true (by kernel_rfl)) rfl 60 YK (fun _ => ?_) K []
 simp only [aa.all, ax, Vq]
 exact ⟨⟨by omega, by omega, by omega, hn, hm', by omega⟩, by omega, de (by rw [Rat.sub_eq_add_neg])⟩
def yO (q r : Rat) : Rat := if r < q then r else q
def yH (q r : Rat) : Rat := if q < r then r else q
theorem B1 {q r : Rat} : gl q r < 0 ↔ q < r := by unfold gl; grind
theorem EZ {q r : Rat} : gl q r > 0 ↔ r < q := by unfold gl; grind
theorem N8 (hn : n < 2 ^ 42) (hm' : m < 2 ^ 42) (K : Nat) : ay P xG K [.rat q n, .rat r m] [] (aF (.rat (yO q r) (max n m)) []) := by
 refine bt hT oZ hm Lu rfl (of_decide_eq_true (by kernel_rfl)) rfl 60 Yt (fun _ => ?_) K []
 simp only [aa.all, ax, decide_eq_true_eq, decide_eq_false_iff_not, B1]
 refine ⟨⟨by omega, by omega, hm', hn⟩, fun h => ⟨⟨by omega, by omega⟩, ⟨by omega, by omega, by omega⟩, by omega, ?_⟩, fun h => ⟨⟨by omega, by omega, by omega⟩, by omega, ?_⟩⟩
 ·unfold yO; rw [if_pos h]; exact dF (Nat.le_max_right _ _)
 ·unfold yO; rw [if_neg h]; exact dF (Nat.le_max_left _ _)
theorem S2 (hn : n < 2 ^ 42) (hm' : m < 2 ^ 42) (K : Nat) : ay P xF K [.rat q n, .rat r m] [] (aF (.rat (yH q r) (max n m)) []) := by
 refine bt hT oZ hm Nx rfl (of_decide_eq_true (by kernel_rfl)) rfl 60 TX (fun _ => ?_) K []
 simp only [aa.all, ax, decide_eq_true_eq, decide_eq_false_iff_not, EZ]
 refine ⟨⟨by omega, by omega, hm', hn⟩, fun h => ⟨⟨by omega, by omega⟩, ⟨by omega, by omega, by omega⟩, by omega, ?_⟩, fun h => ⟨⟨by omega, by omega, by omega⟩, by omega, ?_⟩⟩
 ·unfold yH; rw [if_pos h]; exact dF (Nat.le_max_right _ _)
 ·unfold yH; rw [if_neg h]; exact dF (Nat.le_max_left _ _)
theorem M7 {n : Int} : sQ (decide (n < 0)) n.natAbs 1 = (n : Rat) := by
 unfold sQ
 have : eC (decide (n < 0)) n.natAbs = n := by unfold eC; by_cases h : n < 0 <;> simp [h] <;> omega
 rw [this, Rat.mkRat_one]
theorem zK {n : Int} : Sz (n : Rat) (max 1 (aQ n.natAbs)) := by
 refine ⟨?_, ?_⟩
 ·rw [Rat.num_intCast]
  exact Nat.lt_of_lt_of_le (gY.1 (Nat.le_refl _)) (Nat.pow_le_pow_right (by omega) (Nat.le_max_right _ _))
 ·rw [Rat.den_intCast]
  exact Nat.lt_of_lt_of_le (show 1 < 2 ^ 1 by omega) (Nat.pow_le_pow_right (by omega) (Nat.le_max_left _ _))
theorem Fk {n : Int} (h1 : -2 ^ 63 ≤ n) (h2 : n < 2 ^ 63) (K : Nat) : ay P mU K [.int .i64 n] [] (aF (.rat (n : Rat) (max 1 (aQ n.natAbs))) []) := by
 refine bt hT oZ hm Ts rfl (of_decide_eq_true (by kernel_rfl)) rfl 60 Ro (fun _ => ?_) K []
 simp only [aa.all, ax, M7]
 exact ⟨⟨h1, h2, hH (n := 64) (by omega) (by omega), by decide, by omega⟩, by omega, eE rfl zK⟩
theorem CP (hn : n < 2 ^ 42) (hm' : m < 2 ^ 42) (K : Nat) : ay P sP K [.rat q n, .rat r m] [] (aF (.rat (q * r) (n + m)) []) := by
 refine gT fun ⟨hq, hr, _⟩ => ?_
 have hq : Sz q n := hq
 have hr : Sz r m := hr
 obtain ⟨a1, a2, a3⟩ := Sz.gP hq (by omega)
 obtain ⟨b1, b2, b3⟩ := Sz.gP hr (by omega)
 have d1 := q.den_nz
 have d2 := r.den_nz
 have m1 : nl (q.num.natAbs * r.num.natAbs) < 2 ^ 40 := hH (n := n + m) (by rw [Nat.pow_add]; exact Nat.mul_lt_mul'' hq.1 hr.1) (by omega)
 have m2 : nl (q.den * r.den) < 2 ^ 40 := hH (n := n + m) (by rw [Nat.pow_add]; exact Nat.mul_lt_mul'' hq.2 hr.2) (by omega)
 have hz := hq.mul hr
 have hv : sQ (decide (q < 0) != decide (r < 0)) (q.num.natAbs * r.num.natAbs) (q.den * r.den) = q * r := by rw [← Ba, iz, iz]
 have hzero : q = 0 ∨ r = 0 → bu (.agg [.bool false, .mag 0, .mag 0]) (.rat (q * r) (n + m)) := by
  intro h
  have e : q * r = 0 := by rcases h with h | h <;> subst h <;> simp
  obtain ⟨k, hk⟩ : ∃ k, n + m = k + 1 := ⟨n + m - 1, by have := hq.pos; omega⟩
  rw [e, hk]; exact ji
 refine bt hT iI hm KF rfl (of_decide_eq_true (by kernel_rfl)) rfl 60 O4 (fun _ => ?_) K []
 have hlong : (aa.af
         [(0 : Nat) < 1, (0 : Nat) < 1, (0 : Nat) < 1, (0 : Nat) < 1, nl q.num.natAbs < 2 ^ 40, nl r.num.natAbs < 2 ^ 40, (0 : Nat) < 1, (0 : Nat) < 1, nl q.den < 2 ^ 40, nl r.den < 2 ^ 40, nl (q.num.natAbs * r.num.natAbs) < 2 ^ 40, nl (q.den * r.den) < 2 ^ 40, (0 : Nat) < 1]
         (aa.af [(0 : Nat) < 1]
          (aa.leaf ah.ret
           [AV.rat (sQ (decide (q < (0 : Rat)) != decide (r < (0 : Rat))) (q.num.natAbs * r.num.natAbs) (q.den * r.den))
             (bX (sQ (decide (q < (0 : Rat)) != decide (r < (0 : Rat))) (q.num.natAbs * r.num.natAbs) (q.den * r.den)))]))).all fun _ us => dN us (.rat (q * r) (n + m)) := by
  simp only [aa.all, ax]
  exact ⟨⟨by omega, by omega, by omega, by omega, a1, b1, by omega, by omega, a2, b2, m1, m2, by omega⟩, by omega, eE hv hz⟩
 refine ⟨fun hb => ⟨⟨show 0 < 1 by omega, hb⟩, fun _ => ⟨show 0 < 1 by omega, show 0 < 1 by omega, hzero (.inl ?_)⟩, fun h => by simp at h⟩, fun hb => ⟨⟨show 0 < 1 by omega, hb, show 0 < 1 by omega⟩, fun hc => ⟨show 0 < 1 by omega, show 0 < 1 by omega, hzero (.inr ?_)⟩, fun hc => ⟨show 0 < 1 by omega, fun h1 => ⟨show 0 < 1 by omega, fun h2 => ?_, fun h2 => hlong⟩, fun h1 => hlong⟩⟩⟩
 ·have := eq_of_beq hb
  exact kD.1 (gI.1 (by omega))
 ·have := eq_of_beq (fH hc)
  exact kD.1 (gI.1 (by omega))
 ·obtain ⟨q1, q2⟩ := mA h1
  obtain ⟨r1, r2⟩ := mA h2
  obtain ⟨wx, bx⟩ := kq q1 r1
  obtain ⟨wd, bd⟩ := kq q2 r2
  have hd0 : q.den * r.den ≠ 0 := Nat.mul_ne_zero d1 d2
  rw [if_pos h1, if_pos h2, if_pos h1, if_pos h2, wx, wd]
  simp only [aa.all, ax, Int.toNat_natCast]
  exact ⟨⟨by omega, by omega, by omega, by omega, by omega⟩, by omega, eE hv hz⟩
theorem Bd (q r : Rat) (hr : r ≠ 0) : sQ (decide (q < 0) != decide (r < 0)) (q.num.natAbs * r.den) (q.den * r.num.natAbs) = q / r := by
 have hn : r.num ≠ 0 := fun h => hr (Rat.num_eq_zero.1 h)
 have hi : r⁻¹ = sQ (decide (r < 0)) r.den r.num.natAbs := by
  rw [← iz r⁻¹]
  have e1 : r⁻¹.num.natAbs = r.den := by rw [Rat.num_inv, Int.natAbs_mul, Int.natAbs_natCast, Int.natAbs_sign_of_ne_zero hn, Nat.one_mul]
  have e2 : r⁻¹.den = r.num.natAbs := by rw [Rat.den_inv, if_neg hn]
  have e3 : decide (r⁻¹ < 0) = decide (r < 0) := by
   rw [decide_eq_decide, fc, fc, Rat.num_inv]
   have hd := r.den_nz
   have hd' : (0 : Int) < (r.den : Int) := by omega
   rcases Int.lt_trichotomy r.num 0 with h | h | h
   ·rw [Int.sign_eq_neg_one_of_neg h]; omega
   ·exact absurd h hn
   ·rw [Int.sign_eq_one_of_pos h]; omega
  rw [e1, e2, e3]
 rw [Rat.div_def, hi]
 conv => rhs; rw [← iz q]
 rw [Ba]
theorem W9 (hn : n < 2 ^ 42) (hm' : m < 2 ^ 42) (K : Nat) : ay P xJ K [.rat q n, .rat r m] [] (aF (.tuple [.rat (q / r) (n + m), .int .i64 (if r = 0 then 3 else 0)]) []) := by
 refine gT fun ⟨hq, hr, _⟩ => ?_
 have hq : Sz q n := hq
 have hr : Sz r m := hr
 obtain ⟨a1, a2, a3⟩ := Sz.gP hq (by omega)
 obtain ⟨b1, b2, b3⟩ := Sz.gP hr (by omega)
 have d1 := q.den_nz
 have d2 := r.den_nz
 have m1 : nl (q.num.natAbs * r.den) < 2 ^ 40 := hH (n := n + m) (by rw [Nat.pow_add]; exact Nat.mul_lt_mul'' hq.1 hr.2) (by omega)
 have m2 : nl (q.den * r.num.natAbs) < 2 ^ 40 := hH (n := n + m) (by rw [Nat.pow_add]; exact Nat.mul_lt_mul'' hq.2 hr.1) (by omega)
 have hz := hq.div hr
 have sg : ∀ {x : Rat}, ej x = 0 ↔ x = 0 := by intro x; unfold ej; grind
 refine bt hT iI hm RA rfl (of_decide_eq_true (by kernel_rfl)) rfl 60 Rk (fun _ => ?_) K []
 refine ⟨⟨show 0 < 1 by omega, show m < 2 ^ 44 by omega⟩, fun hb => ⟨show 0 < 1 by omega, show 0 < 1 by omega, ?_, ?_, trivial⟩, fun hb => ⟨show 0 < 1 by omega, ?_⟩⟩
 ·have h0 : r = 0 := sg.1 (eq_of_beq hb)
  have e : q / r = 0 := by rw [h0, Rat.div_def, Rat.inv_zero, Rat.mul_zero]
  obtain ⟨k, hk⟩ : ∃ k, n + m = k + 1 := ⟨n + m - 1, by have := hq.pos; omega⟩
  rw [e, hk]; exact ji
 ·have h0 : r = 0 := sg.1 (eq_of_beq hb)
  exact bB (by rw [if_pos h0])
 have h0 : r ≠ 0 := fun h => by
  rw [h] at hb
  simp [ej] at hb
 have hv := Bd q r h0
 have he : bu (.int .i64 0) (.int .i64 (if r = 0 then 3 else 0)) := bB (by rw [if_neg h0])
 have hlong : (aa.af
         [(0 : Nat) < 1, (0 : Nat) < 1, (0 : Nat) < 1, (0 : Nat) < 1, nl q.num.natAbs < 2 ^ 40, nl r.den < 2 ^ 40, (0 : Nat) < 1, (0 : Nat) < 1, nl q.den < 2 ^ 40, nl r.num.natAbs < 2 ^ 40, nl (q.num.natAbs * r.den) < 2 ^ 40, nl (q.den * r.num.natAbs) < 2 ^ 40, (0 : Nat) < 1]
         (aa.af [(0 : Nat) < 1]
          (aa.leaf ah.ret
           [AV.rat (sQ (decide (q < (0 : Rat)) != decide (r < (0 : Rat))) (q.num.natAbs * r.den) (q.den * r.num.natAbs))
             (bX (sQ (decide (q < (0 : Rat)) != decide (r < (0 : Rat))) (q.num.natAbs * r.den) (q.den * r.num.natAbs))), .int .i64 0]))).all fun _ us => dN us (.tuple [.rat (q / r) (n + m), .int .i64 (if r = 0 then 3 else 0)]) := by
  simp only [aa.all, ax]
  exact ⟨⟨by omega, by omega, by omega, by omega, a1, b2, by omega, by omega, a2, b1, m1, m2, by omega⟩, by omega, eE hv hz, he, trivial⟩
 refine ⟨fun h1 => ⟨show 0 < 1 by omega, fun h2 => ?_, fun h2 => hlong⟩, fun h1 => hlong⟩
 obtain ⟨q1, q2⟩ := mA h1
 obtain ⟨r1, r2⟩ := mA h2
 obtain ⟨wx, bx⟩ := kq q1 r2
 obtain ⟨wd, bd⟩ := kq q2 r1
 have hr0 : r.num.natAbs ≠ 0 := fun h => h0 (kD.1 h)
 have hd0 : q.den * r.num.natAbs ≠ 0 := Nat.mul_ne_zero d1 hr0
 rw [if_pos h1, if_pos h2, if_pos h1, if_pos h2, wx, wd]
 simp only [aa.all, ax, Int.toNat_natCast]
 exact ⟨⟨by omega, by omega, by omega, by omega, by omega⟩, by omega, eE hv hz, he, trivial⟩
end ops
def AK : Spec := bA fun l => match l with
 | [.int .i64 n] => some (aF (.rat (n : Rat) (max 1 (aQ n.natAbs))) [-2 ^ 63 ≤ n, n < 2 ^ 63])
 | _ => none
theorem CG : ∀ K args pre r, AK K args pre = some r → ay P mU K args pre r := by
 refine bQ fun K args r hk hs _ => ?_
 split at hs
 ·simp only [Option.some.injEq] at hs
  subst hs
  exact fun need => Fk need.1 need.2 K trivial
 ·simp at hs
end Go.Am.B
