/- ref02: Den, reduce, size, Make, Frac, Int, Same, Sign, Neg. -/
import Derived.Test.YtjhhblmbiaghfaaGreatB29
set_option linter.unusedVariables false
namespace Go.Am.B
open Go Go.Am.N AV
theorem Xq : aO P wj v7 (ax v7) := aP QM (by kernel_rfl) (by kernel_rfl) (by kernel_rfl)
theorem OB : aO P um rY (ax rY) := aP Xd (by kernel_rfl) (by kernel_rfl) (by kernel_rfl)
theorem XJ : aO P sL uS (ax uS) := aP Kr (by kernel_rfl) (by kernel_rfl) (by kernel_rfl)
theorem RW : aO P wQ tY (ax tY) := aP RM (by kernel_rfl) (by kernel_rfl) (by kernel_rfl)
theorem Uh : aO P oK vk (ax vk) := aP MC (by kernel_rfl) (by kernel_rfl) (by kernel_rfl)
theorem TG : aO P qh vK (ax vK) := aP S2 (by kernel_rfl) (by kernel_rfl) (by kernel_rfl)
def GE : aW := [(kQ, pC), (uM, D8), (p7, Ix), (mA, qZ), (mK, vr)]
theorem qj : br P GE := aJ tZ (aJ Vb (aJ Ic (aJ yN (aJ xE aY))))
theorem ZD {q : Rat} {n : Nat} : bF T GE [6] 60 v7 (ax v7) ⟨aN 0 [.rat q n], [], 0⟩ =
  some (af.ag [(0 : Nat) < 1] (af.fork ((↑(nl (if q.den = 1 then 0 else q.den)) : Int) == (0 : Int)) (af.ag [(1 : Nat) * 1 ≤ 2 ^ 24] (af.leaf ak.ret [ah 1 1 fun (i : Nat) ↦ nth [int IntKind.u32 (1 : Int)] (int IntKind.u32 (0 : Int)) (i + 0)])) (af.ag [(0 : Nat) < 1] (af.leaf ak.ret [mag (if q.den = 1 then 0 else q.den)])))) := by kernel_rfl
theorem O8 {b : Bool} {N D : Nat} : bF T GE [14, 22, 27, 45, 50] 60 rY (ax rY) ⟨aN 0 [.bool b, .mag N, .mag D], [], 0⟩ =
  some (af.ag [nl N < 2 ^ 40, nl D < 2 ^ 40] (af.fork ((↑(nl N) : Int) == (0 : Int)) (af.ag [(0 : Nat) < 1] (af.ag [(0 : Nat) < 1] (af.leaf ak.ret [agg [AV.bool false, mag 0, mag 0]]))) (af.ag [nl N < 2 ^ 38, nl D < 2 ^ 38] (af.fork ((↑(nl (N.gcd D)) : Int) != (1 : Int)) (af.ag [((↑(nl (N.gcd D)) : Int) != (1 : Int)) = true] (af.fork true (af.ag [nl N < 2 ^ 38, nl (N.gcd D) < 2 ^ 38] (af.ag [nl D < 2 ^ 38, nl (N.gcd D) < 2 ^ 38] (af.fork ((↑(nl (D / N.gcd D)) : Int) == (1 : Int)) (af.ag [((↑(nl (D / N.gcd D)) : Int) == (1 : Int)) = true, (0 : Int) ≤ (0 : Int) ∧ Int.toNat (0 : Int) < nl (D / N.gcd D)] (af.fork (bif true then (↑(au (D / N.gcd D) (Int.toNat (0 : Int))) : Int) == (1 : Int) else false) (af.ag [(0 : Nat) < 1] (af.ag [(0 : Nat) < 1] (af.leaf ak.ret [agg [AV.bool b, mag (N / N.gcd D), nil]]))) (af.ag [(0 : Nat) < 1] (af.ag [(0 : Nat) < 1] (af.leaf ak.ret [agg [AV.bool b, mag (N / N.gcd D), mag (D / N.gcd D)]]))))) (af.ag [((↑(nl (D / N.gcd D)) : Int) == (1 : Int)) = false] (af.fork false (af.ag [(0 : Nat) < 1] (af.ag [(0 : Nat) < 1] (af.leaf ak.ret [agg [AV.bool b, mag (N / N.gcd D), nil]]))) (af.ag [(0 : Nat) < 1] (af.ag [(0 : Nat) < 1] (af.leaf ak.ret [agg [AV.bool b, mag (N / N.gcd D), mag (D / N.gcd D)]])))))))) (af.fork ((↑(nl D) : Int) == (1 : Int)) (af.ag [((↑(nl D) : Int) == (1 : Int)) = true, (0 : Int) ≤ (0 : Int) ∧ Int.toNat (0 : Int) < nl D] (af.fork (bif true then (↑(au D (Int.toNat (0 : Int))) : Int) == (1 : Int) else false) (af.ag [(0 : Nat) < 1] (af.ag [(0 : Nat) < 1] (af.leaf ak.ret [agg [AV.bool b, mag N, nil]]))) (af.ag [(0 : Nat) < 1] (af.ag [(0 : Nat) < 1] (af.leaf ak.ret [agg [AV.bool b, mag N, mag D]]))))) (af.ag [((↑(nl D) : Int) == (1 : Int)) = false] (af.fork false (af.ag [(0 : Nat) < 1] (af.ag [(0 : Nat) < 1] (af.leaf ak.ret [agg [AV.bool b, mag N, nil]]))) (af.ag [(0 : Nat) < 1] (af.ag [(0 : Nat) < 1] (af.leaf ak.ret [agg [AV.bool b, mag N, mag D]])))))))) (af.ag [((↑(nl (N.gcd D)) : Int) != (1 : Int)) = false, (0 : Int) ≤ (0 : Int) ∧ Int.toNat (0 : Int) < nl (N.gcd D)] (af.fork (bif false then true else (↑(au (N.gcd D) (Int.toNat (0 : Int))) : Int) != (1 : Int)) (af.ag [nl N < 2 ^ 38, nl (N.gcd D) < 2 ^ 38] (af.ag [nl D < 2 ^ 38, nl (N.gcd D) < 2 ^ 38] (af.fork ((↑(nl (D / N.gcd D)) : Int) == (1 : Int)) (af.ag [((↑(nl (D / N.gcd D)) : Int) == (1 : Int)) = true, (0 : Int) ≤ (0 : Int) ∧ Int.toNat (0 : Int) < nl (D / N.gcd D)] (af.fork (bif true then (↑(au (D / N.gcd D) (Int.toNat (0 : Int))) : Int) == (1 : Int) else false) (af.ag [(0 : Nat) < 1] (af.ag [(0 : Nat) < 1] (af.leaf ak.ret [agg [AV.bool b, mag (N / N.gcd D), nil]]))) (af.ag [(0 : Nat) < 1] (af.ag [(0 : Nat) < 1] (af.leaf ak.ret [agg [AV.bool b, mag (N / N.gcd D), mag (D / N.gcd D)]]))))) (af.ag [((↑(nl (D / N.gcd D)) : Int) == (1 : Int)) = false] (af.fork false (af.ag [(0 : Nat) < 1] (af.ag [(0 : Nat) < 1] (af.leaf ak.ret [agg [AV.bool b, mag (N / N.gcd D), nil]]))) (af.ag [(0 : Nat) < 1] (af.ag [(0 : Nat) < 1] (af.leaf ak.ret [agg [AV.bool b, mag (N / N.gcd D), mag (D / N.gcd D)]])))))))) (af.fork ((↑(nl D) : Int) == (1 : Int)) (af.ag [((↑(nl D) : Int) == (1 : Int)) = true, (0 : Int) ≤ (0 : Int) ∧ Int.toNat (0 : Int) < nl D] (af.fork (bif true then (↑(au D (Int.toNat (0 : Int))) : Int) == (1 : Int) else false) (af.ag [(0 : Nat) < 1] (af.ag [(0 : Nat) < 1] (af.leaf ak.ret [agg [AV.bool b, mag N, nil]]))) (af.ag [(0 : Nat) < 1] (af.ag [(0 : Nat) < 1] (af.leaf ak.ret [agg [AV.bool b, mag N, mag D]]))))) (af.ag [((↑(nl D) : Int) == (1 : Int)) = false] (af.fork false (af.ag [(0 : Nat) < 1] (af.ag [(0 : Nat) < 1] (af.leaf ak.ret [agg [AV.bool b, mag N, nil]]))) (af.ag [(0 : Nat) < 1] (af.ag [(0 : Nat) < 1] (af.leaf ak.ret [agg [AV.bool b, mag N, mag D]])))))))))))) := by kernel_rfl
theorem Uk {n : Int} : bF T GE [5] 60 uS (ax uS) ⟨aN 0 [.int .i64 n], [], 0⟩ =
  some (af.fork (decide (n < (0 : Int))) (af.ag [(0 : Int) ≤ IntKind.u64.wrap (IntKind.u64.wrap (IntKind.i64.wrap ((0 : Int) - IntKind.i64.wrap (n + (1 : Int)))) + (1 : Int)) ∧ IntKind.u64.wrap (IntKind.u64.wrap (IntKind.i64.wrap ((0 : Int) - IntKind.i64.wrap (n + (1 : Int)))) + (1 : Int)) < (2 : Int) ^ 64] (af.leaf ak.ret [mag (IntKind.u64.wrap (IntKind.u64.wrap (IntKind.i64.wrap ((0 : Int) - IntKind.i64.wrap (n + (1 : Int)))) + (1 : Int))).toNat, AV.bool true])) (af.ag [(0 : Int) ≤ IntKind.u64.wrap n ∧ IntKind.u64.wrap n < (2 : Int) ^ 64] (af.leaf ak.ret [mag (IntKind.u64.wrap n).toNat, AV.bool false]))) := by kernel_rfl
theorem OT {q r : Rat} {n m : Nat} : bF T GE [10, 18] 60 tY (ax tY) ⟨aN 0 [.rat q n, .rat r m], [], 0⟩ =
  some (af.fork (decide (q < 0) == decide (r < 0)) (af.fork (bif true then bO q.num.natAbs r.num.natAbs == (0 : Int) else false) (af.ag [(0 : Nat) < 1, (0 : Nat) < 1, (decide (q < 0) == decide (r < 0)) = true, (0 : Nat) < 1, (0 : Nat) < 1, nl q.num.natAbs < 2 ^ 40, nl r.num.natAbs < 2 ^ 40, (bif true then bO q.num.natAbs r.num.natAbs == (0 : Int) else false) = true, (0 : Nat) < 1, (0 : Nat) < 1, nl (if q.den = 1 then 0 else q.den) < 2 ^ 40, nl (if r.den = 1 then 0 else r.den) < 2 ^ 40] (af.leaf ak.ret [AV.bool (bif true then bO (if q.den = 1 then 0 else q.den) (if r.den = 1 then 0 else r.den) == (0 : Int) else false)])) (af.ag [(0 : Nat) < 1, (0 : Nat) < 1, (decide (q < 0) == decide (r < 0)) = true, (0 : Nat) < 1, (0 : Nat) < 1, nl q.num.natAbs < 2 ^ 40, nl r.num.natAbs < 2 ^ 40, (bif true then bO q.num.natAbs r.num.natAbs == (0 : Int) else false) = false] (af.leaf ak.ret [AV.bool false]))) (af.fork false (af.ag [(0 : Nat) < 1, (0 : Nat) < 1, (decide (q < 0) == decide (r < 0)) = false, false = true, (0 : Nat) < 1, (0 : Nat) < 1, nl (if q.den = 1 then 0 else q.den) < 2 ^ 40, nl (if r.den = 1 then 0 else r.den) < 2 ^ 40] (af.leaf ak.ret [AV.bool (bif true then bO (if q.den = 1 then 0 else q.den) (if r.den = 1 then 0 else r.den) == (0 : Int) else false)])) (af.ag [(0 : Nat) < 1, (0 : Nat) < 1, (decide (q < 0) == decide (r < 0)) = false, false = false] (af.leaf ak.ret [AV.bool false])))) := by kernel_rfl
theorem Rh {q : Rat} {n : Nat} : bF T GE [6, 8] 60 vk (ax vk) ⟨aN 0 [.rat q n], [], 0⟩ =
  some (af.ag [(0 : Nat) < 1] (af.fork ((↑(nl q.num.natAbs) : Int) == (0 : Int)) (af.leaf ak.ret [int IntKind.i64 (0 : Int)]) (af.ag [(0 : Nat) < 1] (af.fork (decide (q < 0)) (af.leaf ak.ret [int IntKind.i64 (-1 : Int)]) (af.leaf ak.ret [int IntKind.i64 (1 : Int)]))))) := by kernel_rfl
theorem KH {q : Rat} {n : Nat} : bF T GE [6] 60 vK (ax vK) ⟨aN 0 [.rat q n], [], 0⟩ =
  some (af.fork (!decide (q < 0)) (af.ag [(0 : Nat) < 1, (!decide (q < 0)) = true, (0 : Nat) < 1, (0 : Nat) < 1] (af.ag [(0 : Nat) < 1, (0 : Nat) < 1] (af.ag [(0 : Nat) < 1] (af.leaf ak.ret [agg [AV.bool (bif true then decide ((↑(nl q.num.natAbs) : Int) > (0 : Int)) else false), mag q.num.natAbs, mag (if q.den = 1 then 0 else q.den)]])))) (af.ag [(0 : Nat) < 1, (!decide (q < 0)) = false, (0 : Nat) < 1] (af.ag [(0 : Nat) < 1, (0 : Nat) < 1] (af.ag [(0 : Nat) < 1] (af.leaf ak.ret [agg [AV.bool false, mag q.num.natAbs, mag (if q.den = 1 then 0 else q.den)]]))))) := by kernel_rfl
theorem WT {q : Rat} {n : Nat} (K : Nat) (pre : aB) : aC P wj K [.rat q n] pre (aK (.mag q.den) []) := by
 refine bH hT qj hm Xq rfl (of_decide_eq_true (by kernel_rfl)) rfl 60 ZD (fun _ => ?_) K pre
 simp only [af.all, ay, beq_iff_eq, beq_eq_false_iff_ne, ne_eq]
 refine ⟨by omega, fun hb => ⟨by omega, ?_⟩, fun hb => ⟨by omega, cV ?_⟩⟩
 ·have h0 := q.den_nz
  have : (if q.den = 1 then 0 else q.den) = 0 := gP.1 (by omega)
  have h1 : q.den = 1 := by split at this; assumption; exact absurd this h0
  rw [h1]
  exact iM (by decide) fun i hi => by rw [show i = 0 by omega]; exact congrArg (AV.int IntKind.u32) (show (1 : Int) = ((au 1 0 : Nat) : Int) by decide)
 ·have : q.den ≠ 1 := fun h => hb (by rw [if_pos h]; rfl)
  rw [if_neg this]
theorem Se {b : Bool} {N D : Nat} (hN : nl N < 2 ^ 38) (hD : nl D < 2 ^ 38) (hD0 : D ≠ 0) (K : Nat) (pre : aB) : aC P um K [.bool b, .mag N, .mag D] pre (aK (.rat (sQ b N D) (bW (sQ b N D))) []) := by
 refine bH hT qj hm OB rfl (of_decide_eq_true (by kernel_rfl)) rfl 60 O8 (fun _ => ?_) K pre
 have hz : sQ b N D = 0 → bq (.agg [.bool false, .mag 0, .mag 0]) (.rat (sQ b N D) (bW (sQ b N D))) := fun h => by
  rw [h]; exact mW
 simp only [af.all, ay, beq_iff_eq, beq_eq_false_iff_ne, ne_eq, bne_iff_ne, bne_eq_false_iff_eq, Int.toNat_zero]
 refine ⟨⟨by omega, by omega⟩, fun hb => ⟨by omega, by omega, hz ?_⟩, fun hb => ?_⟩
 ·rw [gP.1 (show nl N = 0 by omega), Ax]
 have hN0 : N ≠ 0 := fun h => hb (by rw [gP.2 h]; rfl)
 have hg : nl (Nat.gcd N D) < 2 ^ 38 := Nat.lt_of_le_of_lt (fo (Nat.gcd_le_left _ (by omega))) hN
 have hg0 : 0 < Nat.gcd N D := Nat.gcd_pos_of_pos_left _ (by omega)
 have hl : ∀ {Y : Nat}, nl Y = 1 → au Y 0 = Y := fun {Y} h => by
  have := ew (N := Y)
  rw [h, val, val] at this
  simpa using this
 have h1 : ∀ {X Y : Nat}, X = N / Nat.gcd N D → Y = D / Nat.gcd N D → Y ≠ 1 → bq (.agg [.bool b, .mag X, .mag Y]) (.rat (sQ b N D) (bW (sQ b N D))) := fun eX eY h => pU hN0 hD0 eX (by rw [← eY, if_neg h]) uQ
 have h2 : ∀ {X Y : Nat}, X = N / Nat.gcd N D → Y = D / Nat.gcd N D → Y = 1 → bq (.agg [.bool b, .mag X, .nil]) (.rat (sQ b N D) (bW (sQ b N D))) := fun eX eY h => Il.trans (pU hN0 hD0 eX (by rw [← eY, if_pos h]) uQ)
 have i1 : ∀ {Y : Nat}, (nl Y : Int) = 1 → (bif true then ((au Y 0 : Nat) : Int) == (1 : Int) else false) = true → Y = 1 := fun {Y} h hc => by
  have := gk hc
  rw [hl (by omega)] at this
  have := eq_of_beq this
  omega
 have i2 : ∀ {Y : Nat}, (nl Y : Int) = 1 → (bif true then ((au Y 0 : Nat) : Int) == (1 : Int) else false) = false → Y ≠ 1 := fun {Y} h hc h1 => by
  have := gk hc
  rw [hl (by omega), h1] at this
  simp at this
 have i3 : ∀ {Y : Nat}, ¬ (nl Y : Int) = 1 → Y ≠ 1 := fun {Y} h h1 => h (by rw [h1]; decide)
 have g1 : (nl (Nat.gcd N D) : Int) = 1 → (bif false then true else ((au (Nat.gcd N D) 0 : Nat) : Int) != (1 : Int)) = false → Nat.gcd N D = 1 := fun h hc => by
  have := fL hc
  rw [hl (by omega)] at this
  simp at this
  omega
 refine ⟨⟨hN, hD⟩, fun hb => ⟨hb, fun _ => ⟨⟨hN, hg⟩, ⟨hD, hg⟩, ?_⟩, fun h => by simp at h⟩, fun hb => ⟨⟨hb, by omega, by omega⟩, fun hc => ⟨⟨hN, hg⟩, ⟨hD, hg⟩, ?_⟩, fun hc => ?_⟩⟩
 ·exact ⟨fun hb => ⟨⟨hb, by omega, by omega⟩, fun hc => ⟨by omega, by omega, h2 rfl rfl (i1 hb hc)⟩, fun hc => ⟨by omega, by omega, h1 rfl rfl (i2 hb hc)⟩⟩, fun hb => ⟨hb, fun h => by simp at h, fun _ => ⟨by omega, by omega, h1 rfl rfl (i3 hb)⟩⟩⟩
 ·exact ⟨fun hb => ⟨⟨hb, by omega, by omega⟩, fun hc => ⟨by omega, by omega, h2 rfl rfl (i1 hb hc)⟩, fun hc => ⟨by omega, by omega, h1 rfl rfl (i2 hb hc)⟩⟩, fun hb => ⟨hb, fun h => by simp at h, fun _ => ⟨by omega, by omega, h1 rfl rfl (i3 hb)⟩⟩⟩
 ·have e := g1 hb hc
  have eN : N = N / Nat.gcd N D := by rw [e, Nat.div_one]
  have eD : D = D / Nat.gcd N D := by rw [e, Nat.div_one]
  exact ⟨fun hb => ⟨⟨hb, by omega, by omega⟩, fun hc => ⟨by omega, by omega, h2 eN eD (i1 hb hc)⟩, fun hc => ⟨by omega, by omega, h1 eN eD (i2 hb hc)⟩⟩, fun hb => ⟨hb, fun h => by simp at h, fun _ => ⟨by omega, by omega, h1 eN eD (i3 hb)⟩⟩⟩
theorem O3 {n : Int} (h1 : -2 ^ 63 ≤ n) (h2 : n < 2 ^ 63) (K : Nat) (pre : aB) : aC P sL K [.int .i64 n] pre (aK (.tuple [.mag n.natAbs, .bool (decide (n < 0))]) []) := by
 refine bH hT qj hm XJ rfl (of_decide_eq_true (by kernel_rfl)) rfl 60 Uk (fun _ => ?_) K pre
 simp only [af.all, ay, decide_eq_true_eq, decide_eq_false_iff_not]
 refine ⟨fun hb => ?_, fun hb => ?_⟩
 ·have e : IntKind.i64.wrap (n + 1) = n + 1 := wrap_i64 (by omega) (by omega)
  have e1 : IntKind.i64.wrap (0 - (n + 1)) = -n - 1 := by rw [wrap_i64 (by omega) (by omega)]; omega
  have e2 : IntKind.u64.wrap (-n - 1) = -n - 1 := bA (by omega) (by omega)
  have e3 : IntKind.u64.wrap (-n - 1 + 1) = ((n.natAbs : Nat) : Int) := by rw [bA (by omega) (by omega)]; omega
  rw [e, e1, e2, e3]
  exact ⟨by omega, cV (by rw [Int.toNat_natCast]), cZ (by simp [hb]), trivial⟩
 ·have e3 : IntKind.u64.wrap n = ((n.natAbs : Nat) : Int) := by rw [bA (by omega) (by omega)]; omega
  rw [e3]
  exact ⟨by omega, cV (by rw [Int.toNat_natCast]), cZ (by simp [hb]), trivial⟩
theorem y9 {a b : Nat} : bO a b = 0 ↔ a = b := by unfold bO; split <;> (try split) <;> omega
theorem Md {q r : Rat} {n m : Nat} (hn : n < 2 ^ 44) (hm' : m < 2 ^ 44) (K : Nat) (pre : aB) : aC P wQ K [.rat q n, .rat r m] pre (aK (.bool (decide (q = r))) []) := by
 refine iD fun ⟨hs1, hs2, _⟩ => ?_
 obtain ⟨a1, a2, a3⟩ := Sz.gJ hs1 hn
 obtain ⟨b1, b2, b3⟩ := Sz.gJ hs2 hm'
 refine bH hT qj hm RW rfl (of_decide_eq_true (by kernel_rfl)) rfl 60 OT (fun _ => ?_) K pre
 simp only [af.all, ay]
 refine ⟨fun hb => ⟨fun hc => ⟨⟨by omega, by omega, hb, by omega, by omega, a1, b1, hc, by omega, by omega, a3, b3⟩, cZ ?_⟩, fun hc => ⟨⟨by omega, by omega, hb, by omega, by omega, a1, b1, hc⟩, cZ ?_⟩⟩, fun hb => ⟨fun h => by simp at h, fun _ => ⟨⟨by omega, by omega, hb, trivial⟩, cZ ?_⟩⟩⟩
 ·have h1 := eq_of_beq hb
  have h2 := y9.1 (eq_of_beq (gk hc))
  rw [cond_true]
  exact (decide_eq_decide (p := _ = (0 : Int)) (q := q = r)).2 ⟨fun h => kY.2 ⟨h1, h2, y9.1 h⟩, fun h => y9.2 (kY.1 h).2.2⟩
 ·have h2 := gk hc
  refine (decide_eq_false fun h => ?_).symm
  rw [y9.2 (kY.1 h).2.1] at h2
  simp at h2
 ·refine (decide_eq_false fun h => ?_).symm
  rw [(kY.1 h).1] at hb
  simp at hb
theorem Ew {q : Rat} {n : Nat} (K : Nat) (pre : aB) : aC P oK K [.rat q n] pre (aK (.int .i64 (dO q)) []) := by
 refine bH hT qj hm Uh rfl (of_decide_eq_true (by kernel_rfl)) rfl 60 Rh (fun _ => ?_) K pre
 simp only [af.all, ay, beq_iff_eq, beq_eq_false_iff_ne, ne_eq]
 refine ⟨by omega, fun hb => bm ?_, fun hb => ⟨by omega, fun hc => bm ?_, fun hc => bm ?_⟩⟩
 ·have h0 : q = 0 := nU.1 (gP.1 (by omega))
  subst h0
  rfl
 ·have := of_decide_eq_true hc
  unfold dO; rw [if_pos this]
 ·have h1 := of_decide_eq_false hc
  have h0 : q ≠ 0 := fun h => hb (by rw [h]; rfl)
  unfold dO; rw [if_neg h1, if_pos (FM h0 h1)]
theorem S8 {q : Rat} {n : Nat} (K : Nat) (pre : aB) : aC P qh K [.rat q n] pre (aK (.rat (-q) n) []) := by
 refine iD fun ⟨hs1, _⟩ => ?_
 have hs1 : Sz q n := hs1
 have hs2 := hs1.neg
 have e1 : (-q).num.natAbs = q.num.natAbs := by rw [Rat.neg_num, Int.natAbs_neg]
 have e2 : (-q).den = q.den := Rat.neg_den q
 refine bH hT qj hm TG rfl (of_decide_eq_true (by kernel_rfl)) rfl 60 KH (fun _ => ?_) K pre
 simp only [af.all, ay]
 refine ⟨fun hb => ⟨⟨by omega, hb, by omega, by omega⟩, ⟨by omega, by omega⟩, by omega, qx hs2 ?_ e1.symm (by rw [e2])⟩, fun hb => ⟨⟨by omega, hb, by omega⟩, ⟨by omega, by omega⟩, by omega, qx hs2 ?_ e1.symm (by rw [e2])⟩⟩
 ·have hq : ¬ q < 0 := by simpa using hb
  rw [cond_true]
  have h1 : ¬ q.num < 0 := fun h => hq (gb.2 h)
  exact ((decide_eq_decide (p := -q < 0) (q := (nl q.num.natAbs : Int) > 0)).2 (by
   rw [gb, Rat.neg_num]
   have := eH (N := q.num.natAbs)
   omega)).symm
 ·have hq : q < 0 := by simpa using hb
  have := gb.1 hq
  exact (decide_eq_false (p := -q < 0) (by rw [gb, Rat.neg_num]; omega)).symm
def wF (g : Rat → Nat → cC) : Spec := bu fun l => match l with
 | [.rat q n] => some (g q n)
 | _ => none
theorem Bo {f : FuncId} {g : Rat → Nat → cC} (h : ∀ {q : Rat} {n : Nat} K, aC P f K [.rat q n] [] (g q n)) : ∀ K args pre r, wF g K args pre = some r → aC P f K args pre r := by
 refine bQ fun K args r hk hs _ => ?_
 split at hs
 ·simp only [Option.some.injEq] at hs
  subst hs
  exact h K
 ·simp at hs
def GY : Spec := wF fun q _ => aK (.mag q.den) []
theorem Td : ∀ K args pre r, GY K args pre = some r → aC P wj K args pre r := Bo fun K => WT K []
def CX : Spec := wF fun q _ => aK (.int .i64 (dO q)) []
theorem OA : ∀ K args pre r, CX K args pre = some r → aC P oK K args pre r := Bo fun K => Ew K []
def CG : Spec := wF fun q n => aK (.rat (-q) n) []
theorem FF : ∀ K args pre r, CG K args pre = some r → aC P qh K args pre r := Bo fun K => S8 K []
def ER : Spec := bu fun l => match l with
 | [.int .i64 n] => some (aK (.tuple [.mag n.natAbs, .bool (decide (n < 0))]) [-2 ^ 63 ≤ n, n < 2 ^ 63])
 | _ => none
theorem TH : ∀ K args pre r, ER K args pre = some r → aC P sL K args pre r := by
 refine bQ fun K args r hk hs _ => ?_
 split at hs
 ·simp only [Option.some.injEq] at hs
  subst hs
  exact fun need => O3 need.1 need.2 K [] trivial
 ·simp at hs
def HD : Spec := bu fun l => match l with
 | [.bool b, x, y] => match gh x, gh y with
  | some N, some D => some (aK (.rat (sQ b N D) (bW (sQ b N D))) [nl N < 2 ^ 38, nl D < 2 ^ 38, D ≠ 0])
  | _, _ => none
 | _ => none
theorem NF : ∀ K args pre r, HD K args pre = some r → aC P um K args pre r := by
 refine bQ fun K args r hk hs _ => ?_
 split at hs
 ·split at hs
  ·rename_i N D h1 h2
   simp only [Option.some.injEq] at hs
   subst hs
   exact fun need => fm (Se need.1 need.2.1 need.2.2 K []) hk ⟨.refl _, iZ h1, iZ h2, trivial⟩ [] trivial
  ·simp at hs
 ·simp at hs
end Go.Am.B
