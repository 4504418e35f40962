/- ref02: Den, reduce, size, Make, Frac, Int, Same, Sign, Neg. -/
import Derived.Test.YtbghpkgbokbmlaaGreatB29
set_option linter.unusedVariables false
namespace Go.Am.B
open Go Go.Am.N AV
theorem Lr : aS P mW wj (au wj) := aN NL (by kernel_rfl) (by kernel_rfl) (by kernel_rfl)
theorem MW : aS P r7 vD (au vD) := aN Wj (by kernel_rfl) (by kernel_rfl) (by kernel_rfl)
theorem Ng : aS P sn qW (au qW) := aN Ra (by kernel_rfl) (by kernel_rfl) (by kernel_rfl)
theorem Wy : aS P ry rM (au rM) := aN N7 (by kernel_rfl) (by kernel_rfl) (by kernel_rfl)
theorem YK : aS P nY tf (au tf) := aN Xf (by kernel_rfl) (by kernel_rfl) (by kernel_rfl)
theorem V7 : aS P nh vj (au vj) := aN Mz (by kernel_rfl) (by kernel_rfl) (by kernel_rfl)
def GE : aT := [(j9, p7), (oX, A3), (pO, Iv), (lF, qS), (mh, uy)]
theorem oK : bh P GE := aE uJ (aE Ex (aE HU (aE xZ (aE yE aY))))
theorem aaB {q : Rat} {n : Nat} : bB T GE [6] 60 wj (au wj) ⟨aO 0 [.rat q n], [], 0⟩ =
  some (aa.af [(0 : Nat) < 1] (aa.fork ((↑(nl (if q.den = 1 then 0 else q.den)) : Int) == (0 : Int)) (aa.af [(1 : Nat) * 1 ≤ 2 ^ 24] (aa.leaf ah.ret [aj 1 1 fun (i : Nat) ↦ nth [int IntKind.u32 (1 : Int)] (int IntKind.u32 (0 : Int)) (i + 0)])) (aa.af [(0 : Nat) < 1] (aa.leaf ah.ret [mag (if q.den = 1 then 0 else q.den)])))) := by kernel_rfl
theorem RF {b : Bool} {N D : Nat} : bB T GE [14, 22, 27, 45, 50] 60 vD (au vD) ⟨aO 0 [.bool b, .mag N, .mag D], [], 0⟩ =
  some (aa.af [nl N < 2 ^ 40, nl D < 2 ^ 40] (aa.fork ((↑(nl N) : Int) == (0 : Int)) (aa.af [(0 : Nat) < 1] (aa.af [(0 : Nat) < 1] (aa.leaf ah.ret [agg [AV.bool false, mag 0, mag 0]]))) (aa.af [nl N < 2 ^ 38, nl D < 2 ^ 38] (aa.fork ((↑(nl (N.gcd D)) : Int) != (1 : Int)) (aa.af [((↑(nl (N.gcd D)) : Int) != (1 : Int)) = true] (aa.fork true (aa.af [nl N < 2 ^ 38, nl (N.gcd D) < 2 ^ 38] (aa.af [nl D < 2 ^ 38, nl (N.gcd D) < 2 ^ 38] (aa.fork ((↑(nl (D / N.gcd D)) : Int) == (1 : Int)) (aa.af [((↑(nl (D / N.gcd D)) : Int) == (1 : Int)) = true, (0 : Int) ≤ (0 : Int) ∧ Int.toNat (0 : Int) < nl (D / N.gcd D)] (aa.fork (bif true then (↑(aq (D / N.gcd D) (Int.toNat (0 : Int))) : Int) == (1 : Int) else false) (aa.af [(0 : Nat) < 1] (aa.af [(0 : Nat) < 1] (aa.leaf ah.ret [agg [AV.bool b, mag (N / N.gcd D), nil]]))) (aa.af [(0 : Nat) < 1] (aa.af [(0 : Nat) < 1] (aa.leaf ah.ret [agg [AV.bool b, mag (N / N.gcd D), mag (D / N.gcd D)]]))))) (aa.af [((↑(nl (D / N.gcd D)) : Int) == (1 : Int)) = false] (aa.fork false (aa.af [(0 : Nat) < 1] (aa.af [(0 : Nat) < 1] (aa.leaf ah.ret [agg [AV.bool b, mag (N / N.gcd D), nil]]))) (aa.af [(0 : Nat) < 1] (aa.af [(0 : Nat) < 1] (aa.leaf ah.ret [agg [AV.bool b, mag (N / N.gcd D), mag (D / N.gcd D)]])))))))) (aa.fork ((↑(nl D) : Int) == (1 : Int)) (aa.af [((↑(nl D) : Int) == (1 : Int)) = true, (0 : Int) ≤ (0 : Int) ∧ Int.toNat (0 : Int) < nl D] (aa.fork (bif true then (↑(aq D (Int.toNat (0 : Int))) : Int) == (1 : Int) else false) (aa.af [(0 : Nat) < 1] (aa.af [(0 : Nat) < 1] (aa.leaf ah.ret [agg [AV.bool b, mag N, nil]]))) (aa.af [(0 : Nat) < 1] (aa.af [(0 : Nat) < 1] (aa.leaf ah.ret [agg [AV.bool b, mag N, mag D]]))))) (aa.af [((↑(nl D) : Int) == (1 : Int)) = false] (aa.fork false (aa.af [(0 : Nat) < 1] (aa.af [(0 : Nat) < 1] (aa.leaf ah.ret [agg [AV.bool b, mag N, nil]]))) (aa.af [(0 : Nat) < 1] (aa.af [(0 : Nat) < 1] (aa.leaf ah.ret [agg [AV.bool b, mag N, mag D]])))))))) (aa.af [((↑(nl (N.gcd D)) : Int) != (1 : Int)) = false, (0 : Int) ≤ (0 : Int) ∧ Int.toNat (0 : Int) < nl (N.gcd D)] (aa.fork (bif false then true else (↑(aq (N.gcd D) (Int.toNat (0 : Int))) : Int) != (1 : Int)) (aa.af [nl N < 2 ^ 38, nl (N.gcd D) < 2 ^ 38] (aa.af [nl D < 2 ^ 38, nl (N.gcd D) < 2 ^ 38] (aa.fork ((↑(nl (D / N.gcd D)) : Int) == (1 : Int)) (aa.af [((↑(nl (D / N.gcd D)) : Int) == (1 : Int)) = true, (0 : Int) ≤ (0 : Int) ∧ Int.toNat (0 : Int) < nl (D / N.gcd D)] (aa.fork (bif true then (↑(aq (D / N.gcd D) (Int.toNat (0 : Int))) : Int) == (1 : Int) else false) (aa.af [(0 : Nat) < 1] (aa.af [(0 : Nat) < 1] (aa.leaf ah.ret [agg [AV.bool b, mag (N / N.gcd D), nil]]))) (aa.af [(0 : Nat) < 1] (aa.af [(0 : Nat) < 1] (aa.leaf ah.ret [agg [AV.bool b, mag (N / N.gcd D), mag (D / N.gcd D)]]))))) (aa.af [((↑(nl (D / N.gcd D)) : Int) == (1 : Int)) = false] (aa.fork false (aa.af [(0 : Nat) < 1] (aa.af [(0 : Nat) < 1] (aa.leaf ah.ret [agg [AV.bool b, mag (N / N.gcd D), nil]]))) (aa.af [(0 : Nat) < 1] (aa.af [(0 : Nat) < 1] (aa.leaf ah.ret [agg [AV.bool b, mag (N / N.gcd D), mag (D / N.gcd D)]])))))))) (aa.fork ((↑(nl D) : Int) == (1 : Int)) (aa.af [((↑(nl D) : Int) == (1 : Int)) = true, (0 : Int) ≤ (0 : Int) ∧ Int.toNat (0 : Int) < nl D] (aa.fork (bif true then (↑(aq D (Int.toNat (0 : Int))) : Int) == (1 : Int) else false) (aa.af [(0 : Nat) < 1] (aa.af [(0 : Nat) < 1] (aa.leaf ah.ret [agg [AV.bool b, mag N, nil]]))) (aa.af [(0 : Nat) < 1] (aa.af [(0 : Nat) < 1] (aa.leaf ah.ret [agg [AV.bool b, mag N, mag D]]))))) (aa.af [((↑(nl D) : Int) == (1 : Int)) = false] (aa.fork false (aa.af [(0 : Nat) < 1] (aa.af [(0 : Nat) < 1] (aa.leaf ah.ret [agg [AV.bool b, mag N, nil]]))) (aa.af [(0 : Nat) < 1] (aa.af [(0 : Nat) < 1] (aa.leaf ah.ret [agg [AV.bool b, mag N, mag D]])))))))))))) := by kernel_rfl
theorem Xc {n : Int} : bB T GE [5] 60 qW (au qW) ⟨aO 0 [.int .i64 n], [], 0⟩ =
  some (aa.fork (decide (n < (0 : Int))) (aa.af [(0 : Int) ≤ IntKind.u64.wrap (IntKind.u64.wrap (IntKind.i64.wrap ((0 : Int) - IntKind.i64.wrap (n + (1 : Int)))) + (1 : Int)) ∧ IntKind.u64.wrap (IntKind.u64.wrap (IntKind.i64.wrap ((0 : Int) - IntKind.i64.wrap (n + (1 : Int)))) + (1 : Int)) < (2 : Int) ^ 64] (aa.leaf ah.ret [mag (IntKind.u64.wrap (IntKind.u64.wrap (IntKind.i64.wrap ((0 : Int) - IntKind.i64.wrap (n + (1 : Int)))) + (1 : Int))).toNat, AV.bool true])) (aa.af [(0 : Int) ≤ IntKind.u64.wrap n ∧ IntKind.u64.wrap n < (2 : Int) ^ 64] (aa.leaf ah.ret [mag (IntKind.u64.wrap n).toNat, AV.bool false]))) := by kernel_rfl
theorem P8 {q r : Rat} {n m : Nat} : bB T GE [10, 18] 60 rM (au rM) ⟨aO 0 [.rat q n, .rat r m], [], 0⟩ =
  some (aa.fork (decide (q < 0) == decide (r < 0)) (aa.fork (bif true then bO q.num.natAbs r.num.natAbs == (0 : Int) else false) (aa.af [(0 : Nat) < 1, (0 : Nat) < 1, (decide (q < 0) == decide (r < 0)) = true, (0 : Nat) < 1, (0 : Nat) < 1, nl q.num.natAbs < 2 ^ 40, nl r.num.natAbs < 2 ^ 40, (bif true then bO q.num.natAbs r.num.natAbs == (0 : Int) else false) = true, (0 : Nat) < 1, (0 : Nat) < 1, nl (if q.den = 1 then 0 else q.den) < 2 ^ 40, nl (if r.den = 1 then 0 else r.den) < 2 ^ 40] (aa.leaf ah.ret [AV.bool (bif true then bO (if q.den = 1 then 0 else q.den) (if r.den = 1 then 0 else r.den) == (0 : Int) else false)])) (aa.af [(0 : Nat) < 1, (0 : Nat) < 1, (decide (q < 0) == decide (r < 0)) = true, (0 : Nat) < 1, (0 : Nat) < 1, nl q.num.natAbs < 2 ^ 40, nl r.num.natAbs < 2 ^ 40, (bif true then bO q.num.natAbs r.num.natAbs == (0 : Int) else false) = false] (aa.leaf ah.ret [AV.bool false]))) (aa.fork false (aa.af [(0 : Nat) < 1, (0 : Nat) < 1, (decide (q < 0) == decide (r < 0)) = false, false = true, (0 : Nat) < 1, (0 : Nat) < 1, nl (if q.den = 1 then 0 else q.den) < 2 ^ 40, nl (if r.den = 1 then 0 else r.den) < 2 ^ 40] (aa.leaf ah.ret [AV.bool (bif true then bO (if q.den = 1 then 0 else q.den) (if r.den = 1 then 0 else r.den) == (0 : Int) else false)])) (aa.af [(0 : Nat) < 1, (0 : Nat) < 1, (decide (q < 0) == decide (r < 0)) = false, false = false] (aa.leaf ah.ret [AV.bool false])))) := by kernel_rfl
theorem Vz {q : Rat} {n : Nat} : bB T GE [6, 8] 60 tf (au tf) ⟨aO 0 [.rat q n], [], 0⟩ =
  some (aa.af [(0 : Nat) < 1] (aa.fork ((↑(nl q.num.natAbs) : Int) == (0 : Int)) (aa.leaf ah.ret [int IntKind.i64 (0 : Int)]) (aa.af [(0 : Nat) < 1] (aa.fork (decide (q < 0)) (aa.leaf ah.ret [int IntKind.i64 (-1 : Int)]) (aa.leaf ah.ret [int IntKind.i64 (1 : Int)]))))) := by kernel_rfl
theorem Zw {q : Rat} {n : Nat} : bB T GE [6] 60 vj (au vj) ⟨aO 0 [.rat q n], [], 0⟩ =
  some (aa.fork (!decide (q < 0)) (aa.af [(0 : Nat) < 1, (!decide (q < 0)) = true, (0 : Nat) < 1, (0 : Nat) < 1] (aa.af [(0 : Nat) < 1, (0 : Nat) < 1] (aa.af [(0 : Nat) < 1] (aa.leaf ah.ret [agg [AV.bool (bif true then decide ((↑(nl q.num.natAbs) : Int) > (0 : Int)) else false), mag q.num.natAbs, mag (if q.den = 1 then 0 else q.den)]])))) (aa.af [(0 : Nat) < 1, (!decide (q < 0)) = false, (0 : Nat) < 1] (aa.af [(0 : Nat) < 1, (0 : Nat) < 1] (aa.af [(0 : Nat) < 1] (aa.leaf ah.ret [agg [AV.bool false, mag q.num.natAbs, mag (if q.den = 1 then 0 else q.den)]]))))) := by kernel_rfl
theorem Zx {q : Rat} {n : Nat} (K : Nat) (pre : aD) : aB P mW K [.rat q n] pre (aH (.mag q.den) []) := by
 refine bF hT oK hm Lr rfl (of_decide_eq_true (by kernel_rfl)) rfl 60 aaB (fun _ => ?_) K pre
 simp only [aa.all, ax, beq_iff_eq, beq_eq_false_iff_ne, ne_eq]
 refine ⟨by omega, fun hb => ⟨by omega, ?_⟩, fun hb => ⟨by omega, cR ?_⟩⟩
 ·have h0 := q.den_nz
  have : (if q.den = 1 then 0 else q.den) = 0 := gU.1 (by omega)
  have h1 : q.den = 1 := by split at this; assumption; exact absurd this h0
  rw [h1]
  exact iQ (by decide) fun i hi => by rw [show i = 0 by omega]; exact congrArg (AV.int IntKind.u32) (show (1 : Int) = ((aq 1 0 : Nat) : Int) by decide)
 ·have : q.den ≠ 1 := fun h => hb (by rw [if_pos h]; rfl)
  rw [if_neg this]
theorem VJ {b : Bool} {N D : Nat} (hN : nl N < 2 ^ 38) (hD : nl D < 2 ^ 38) (hD0 : D ≠ 0) (K : Nat) (pre : aD) : aB P r7 K [.bool b, .mag N, .mag D] pre (aH (.rat (sQ b N D) (bW (sQ b N D))) []) := by
 refine bF hT oK hm MW rfl (of_decide_eq_true (by kernel_rfl)) rfl 60 RF (fun _ => ?_) K pre
 have hz : sQ b N D = 0 → bD (.agg [.bool false, .mag 0, .mag 0]) (.rat (sQ b N D) (bW (sQ b N D))) := fun h => by
  rw [h]; exact jh
 simp only [aa.all, ax, beq_iff_eq, beq_eq_false_iff_ne, ne_eq, bne_iff_ne, bne_eq_false_iff_eq, Int.toNat_zero]
 refine ⟨⟨by omega, by omega⟩, fun hb => ⟨by omega, by omega, hz ?_⟩, fun hb => ?_⟩
 ·rw [gU.1 (show nl N = 0 by omega), A7]
 have hN0 : N ≠ 0 := fun h => hb (by rw [gU.2 h]; rfl)
 have hg : nl (Nat.gcd N D) < 2 ^ 38 := Nat.lt_of_le_of_lt (ff (Nat.gcd_le_left _ (by omega))) hN
 have hg0 : 0 < Nat.gcd N D := Nat.gcd_pos_of_pos_left _ (by omega)
 have hl : ∀ {Y : Nat}, nl Y = 1 → aq Y 0 = Y := fun {Y} h => by
  have := eJ (N := Y)
  rw [h, val, val] at this
  simpa using this
 have h1 : ∀ {X Y : Nat}, X = N / Nat.gcd N D → Y = D / Nat.gcd N D → Y ≠ 1 → bD (.agg [.bool b, .mag X, .mag Y]) (.rat (sQ b N D) (bW (sQ b N D))) := fun eX eY h => pE hN0 hD0 eX (by rw [← eY, if_neg h]) tG
 have h2 : ∀ {X Y : Nat}, X = N / Nat.gcd N D → Y = D / Nat.gcd N D → Y = 1 → bD (.agg [.bool b, .mag X, .nil]) (.rat (sQ b N D) (bW (sQ b N D))) := fun eX eY h => D8.trans (pE hN0 hD0 eX (by rw [← eY, if_pos h]) tG)
 have i1 : ∀ {Y : Nat}, (nl Y : Int) = 1 → (bif true then ((aq Y 0 : Nat) : Int) == (1 : Int) else false) = true → Y = 1 := fun {Y} h hc => by
  have := gr hc
  rw [hl (by omega)] at this
  have := eq_of_beq this
  omega
 have i2 : ∀ {Y : Nat}, (nl Y : Int) = 1 → (bif true then ((aq Y 0 : Nat) : Int) == (1 : Int) else false) = false → Y ≠ 1 := fun {Y} h hc h1 => by
  have := gr hc
  rw [hl (by omega), h1] at this
  simp at this
 have i3 : ∀ {Y : Nat}, ¬ (nl Y : Int) = 1 → Y ≠ 1 := fun {Y} h h1 => h (by rw [h1]; decide)
 have g1 : (nl (Nat.gcd N D) : Int) = 1 → (bif false then true else ((aq (Nat.gcd N D) 0 : Nat) : Int) != (1 : Int)) = false → Nat.gcd N D = 1 := fun h hc => by
  have := fG hc
  rw [hl (by omega)] at this
  simp at this
  omega
 refine ⟨⟨hN, hD⟩, fun hb => ⟨hb, fun _ => ⟨⟨hN, hg⟩, ⟨hD, hg⟩, ?_⟩, fun h => by simp at h⟩, fun hb => ⟨⟨hb, by omega, by omega⟩, fun hc => ⟨⟨hN, hg⟩, ⟨hD, hg⟩, ?_⟩, fun hc => ?_⟩⟩
 ·exact ⟨fun hb => ⟨⟨hb, by omega, by omega⟩, fun hc => ⟨by omega, by omega, h2 rfl rfl (i1 hb hc)⟩, fun hc => ⟨by omega, by omega, h1 rfl rfl (i2 hb hc)⟩⟩, fun hb => ⟨hb, fun h => by simp at h, fun _ => ⟨by omega, by omega, h1 rfl rfl (i3 hb)⟩⟩⟩
 ·exact ⟨fun hb => ⟨⟨hb, by omega, by omega⟩, fun hc => ⟨by omega, by omega, h2 rfl rfl (i1 hb hc)⟩, fun hc => ⟨by omega, by omega, h1 rfl rfl (i2 hb hc)⟩⟩, fun hb => ⟨hb, fun h => by simp at h, fun _ => ⟨by omega, by omega, h1 rfl rfl (i3 hb)⟩⟩⟩
 ·have e := g1 hb hc
  have eN : N = N / Nat.gcd N D := by rw [e, Nat.div_one]
  have eD : D = D / Nat.gcd N D := by rw [e, Nat.div_one]
  exact ⟨fun hb => ⟨⟨hb, by omega, by omega⟩, fun hc => ⟨by omega, by omega, h2 eN eD (i1 hb hc)⟩, fun hc => ⟨by omega, by omega, h1 eN eD (i2 hb hc)⟩⟩, fun hb => ⟨hb, fun h => by simp at h, fun _ => ⟨by omega, by omega, h1 eN eD (i3 hb)⟩⟩⟩
theorem K2 {n : Int} (h1 : -2 ^ 63 ≤ n) (h2 : n < 2 ^ 63) (K : Nat) (pre : aD) : aB P sn K [.int .i64 n] pre (aH (.tuple [.mag n.natAbs, .bool (decide (n < 0))]) []) := by
 refine bF hT oK hm Ng rfl (of_decide_eq_true (by kernel_rfl)) rfl 60 Xc (fun _ => ?_) K pre
 simp only [aa.all, ax, decide_eq_true_eq, decide_eq_false_iff_not]
 refine ⟨fun hb => ?_, fun hb => ?_⟩
 ·have e : IntKind.i64.wrap (n + 1) = n + 1 := wrap_i64 (by omega) (by omega)
  have e1 : IntKind.i64.wrap (0 - (n + 1)) = -n - 1 := by rw [wrap_i64 (by omega) (by omega)]; omega
  have e2 : IntKind.u64.wrap (-n - 1) = -n - 1 := bC (by omega) (by omega)
  have e3 : IntKind.u64.wrap (-n - 1 + 1) = ((n.natAbs : Nat) : Int) := by rw [bC (by omega) (by omega)]; omega
  rw [e, e1, e2, e3]
  exact ⟨by omega, cR (by rw [Int.toNat_natCast]), gu (by simp [hb]), trivial⟩
 ·have e3 : IntKind.u64.wrap n = ((n.natAbs : Nat) : Int) := by rw [bC (by omega) (by omega)]; omega
  rw [e3]
  exact ⟨by omega, cR (by rw [Int.toNat_natCast]), gu (by simp [hb]), trivial⟩
theorem wV {a b : Nat} : bO a b = 0 ↔ a = b := by unfold bO; split <;> (try split) <;> omega
theorem Ie {q r : Rat} {n m : Nat} (hn : n < 2 ^ 44) (hm' : m < 2 ^ 44) (K : Nat) (pre : aD) : aB P ry K [.rat q n, .rat r m] pre (aH (.bool (decide (q = r))) []) := by
 refine gl fun ⟨hs1, hs2, _⟩ => ?_
 obtain ⟨a1, a2, a3⟩ := Sz.gX hs1 hn
 obtain ⟨b1, b2, b3⟩ := Sz.gX hs2 hm'
 refine bF hT oK hm Wy rfl (of_decide_eq_true (by kernel_rfl)) rfl 60 P8 (fun _ => ?_) K pre
 simp only [aa.all, ax]
 refine ⟨fun hb => ⟨fun hc => ⟨⟨by omega, by omega, hb, by omega, by omega, a1, b1, hc, by omega, by omega, a3, b3⟩, gu ?_⟩, fun hc => ⟨⟨by omega, by omega, hb, by omega, by omega, a1, b1, hc⟩, gu ?_⟩⟩, fun hb => ⟨fun h => by simp at h, fun _ => ⟨⟨by omega, by omega, hb, trivial⟩, gu ?_⟩⟩⟩
 ·have h1 := eq_of_beq hb
  have h2 := wV.1 (eq_of_beq (gr hc))
  rw [cond_true]
  exact (decide_eq_decide (p := _ = (0 : Int)) (q := q = r)).2 ⟨fun h => lK.2 ⟨h1, h2, wV.1 h⟩, fun h => wV.2 (lK.1 h).2.2⟩
 ·have h2 := gr hc
  refine (decide_eq_false fun h => ?_).symm
  rw [wV.2 (lK.1 h).2.1] at h2
  simp at h2
 ·refine (decide_eq_false fun h => ?_).symm
  rw [(lK.1 h).1] at hb
  simp at hb
theorem Aj {q : Rat} {n : Nat} (K : Nat) (pre : aD) : aB P nY K [.rat q n] pre (aH (.int .i64 (dA q)) []) := by
 refine bF hT oK hm YK rfl (of_decide_eq_true (by kernel_rfl)) rfl 60 Vz (fun _ => ?_) K pre
 simp only [aa.all, ax, beq_iff_eq, beq_eq_false_iff_ne, ne_eq]
 refine ⟨by omega, fun hb => br ?_, fun hb => ⟨by omega, fun hc => br ?_, fun hc => br ?_⟩⟩
 ·have h0 : q = 0 := kT.1 (gU.1 (by omega))
  subst h0
  rfl
 ·have := of_decide_eq_true hc
  unfold dA; rw [if_pos this]
 ·have h1 := of_decide_eq_false hc
  have h0 : q ≠ 0 := fun h => hb (by rw [h]; rfl)
  unfold dA; rw [if_neg h1, if_pos (HE h0 h1)]
theorem Ma {q : Rat} {n : Nat} (K : Nat) (pre : aD) : aB P nh K [.rat q n] pre (aH (.rat (-q) n) []) := by
 refine gl fun ⟨hs1, _⟩ => ?_
 have hs1 : Sz q n := hs1
 have hs2 := hs1.neg
 have e1 : (-q).num.natAbs = q.num.natAbs := by rw [Rat.neg_num, Int.natAbs_neg]
 have e2 : (-q).den = q.den := Rat.neg_den q
 refine bF hT oK hm V7 rfl (of_decide_eq_true (by kernel_rfl)) rfl 60 Zw (fun _ => ?_) K pre
 simp only [aa.all, ax]
 refine ⟨fun hb => ⟨⟨by omega, hb, by omega, by omega⟩, ⟨by omega, by omega⟩, by omega, kz hs2 ?_ e1.symm (by rw [e2])⟩, fun hb => ⟨⟨by omega, hb, by omega⟩, ⟨by omega, by omega⟩, by omega, kz hs2 ?_ e1.symm (by rw [e2])⟩⟩
 ·have hq : ¬ q < 0 := by simpa using hb
  rw [cond_true]
  have h1 : ¬ q.num < 0 := fun h => hq (fl.2 h)
  exact ((decide_eq_decide (p := -q < 0) (q := (nl q.num.natAbs : Int) > 0)).2 (by
   rw [fl, Rat.neg_num]
   have := eH (N := q.num.natAbs)
   omega)).symm
 ·have hq : q < 0 := by simpa using hb
  have := fl.1 hq
  exact (decide_eq_false (p := -q < 0) (by rw [fl, Rat.neg_num]; omega)).symm
def xL (g : Rat → Nat → cD) : Spec := bt fun l => match l with
 | [.rat q n] => some (g q n)
 | _ => none
theorem zC {f : FuncId} {g : Rat → Nat → cD} (h : ∀ {q : Rat} {n : Nat} K, aB P f K [.rat q n] [] (g q n)) : ∀ K args pre r, xL g K args pre = some r → aB P f K args pre r := by
 refine bJ fun K args r hk hs _ => ?_
 split at hs
 ·simp only [Option.some.injEq] at hs
  subst hs
  exact h K
 ·simp at hs
def yP : Spec := xL fun q _ => aH (.mag q.den) []
theorem Bt : ∀ K args pre r, yP K args pre = some r → aB P mW K args pre r := zC fun K => Zx K []
def IC : Spec := xL fun q _ => aH (.int .i64 (dA q)) []
theorem VP : ∀ K args pre r, IC K args pre = some r → aB P nY K args pre r := zC fun K => Aj K []
def yq : Spec := xL fun q n => aH (.rat (-q) n) []
theorem zJ : ∀ K args pre r, yq K args pre = some r → aB P nh K args pre r := zC fun K => Ma K []
def CL : Spec := bt fun l => match l with
 | [.int .i64 n] => some (aH (.tuple [.mag n.natAbs, .bool (decide (n < 0))]) [-2 ^ 63 ≤ n, n < 2 ^ 63])
 | _ => none
theorem RS : ∀ K args pre r, CL K args pre = some r → aB P sn K args pre r := by
 refine bJ fun K args r hk hs _ => ?_
 split at hs
 ·simp only [Option.some.injEq] at hs
  subst hs
  exact fun need => K2 need.1 need.2 K [] trivial
 ·simp at hs
def Fz : Spec := bt fun l => match l with
 | [.bool b, x, y] => match fZ x, fZ y with
  | some N, some D => some (aH (.rat (sQ b N D) (bW (sQ b N D))) [nl N < 2 ^ 38, nl D < 2 ^ 38, D ≠ 0])
  | _, _ => none
 | _ => none
theorem YZ : ∀ K args pre r, Fz K args pre = some r → aB P r7 K args pre r := by
 refine bJ fun K args r hk hs _ => ?_
 split at hs
 ·split at hs
  ·rename_i N D h1 h2
   simp only [Option.some.injEq] at hs
   subst hs
   exact fun need => fu (VJ need.1 need.2.1 need.2.2 K []) hk ⟨.refl _, iI h1, iI h2, trivial⟩ [] trivial
  ·simp at hs
 ·simp at hs
end Go.Am.B
