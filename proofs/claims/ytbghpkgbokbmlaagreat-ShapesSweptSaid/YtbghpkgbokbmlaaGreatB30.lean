/- ref02: Den, reduce, size, Make, Frac, Int, Same, Sign, Neg. -/
import Derived.Test.YtbghpkgbokbmlaaGreatB29
set_option linter.unusedVariables false
namespace Go.Am.B
open Go Go.Am.N AV
theorem aax : aP P ow tf (au tf) := aL XM (by kernel_rfl) (by kernel_rfl) (by kernel_rfl)
theorem TM : aP P ug vi (au vi) := aL V9 (by kernel_rfl) (by kernel_rfl) (by kernel_rfl)
theorem abx : aP P tY q9 (au q9) := aL Oz (by kernel_rfl) (by kernel_rfl) (by kernel_rfl)
theorem Mq : aP P tE uU (au uU) := aL Rp (by kernel_rfl) (by kernel_rfl) (by kernel_rfl)
theorem Yu : aP P oq u5 (au u5) := aL SE (by kernel_rfl) (by kernel_rfl) (by kernel_rfl)
theorem VG : aP P qn tA (au tA) := aL acQ (by kernel_rfl) (by kernel_rfl) (by kernel_rfl)
def GE : aQ := [(lF, pM), (pI, AS), (qE, Fb), (mh, uB), (lW, w7)]
theorem pN : aW P GE := aC vO (aC Gj (aC Gz (aC yH (aC xX aT))))
theorem YS {q : Rat} {n : Nat} : bA T GE [6] 60 tf (au tf) ⟨aM 0 [.rat q n], [], 0⟩ =
  some (aa.af [(0 : Nat) < 1] (aa.fork ((↑(nl (if q.den = 1 then 0 else q.den)) : Int) == (0 : Int)) (aa.af [(1 : Nat) * 1 ≤ 2 ^ 24] (aa.leaf ag.ret [aj 1 1 fun (i : Nat) ↦ nth [int IntKind.u32 (1 : Int)] (int IntKind.u32 (0 : Int)) (i + 0)])) (aa.af [(0 : Nat) < 1] (aa.leaf ag.ret [mag (if q.den = 1 then 0 else q.den)])))) := by kernel_rfl
theorem aaq {b : Bool} {N D : Nat} : bA T GE [14, 22, 27, 45, 50] 60 vi (au vi) ⟨aM 0 [.bool b, .mag N, .mag D], [], 0⟩ =
  some (aa.af [nl N < 2 ^ 40, nl D < 2 ^ 40] (aa.fork ((↑(nl N) : Int) == (0 : Int)) (aa.af [(0 : Nat) < 1] (aa.af [(0 : Nat) < 1] (aa.leaf ag.ret [agg [AV.bool false, mag 0, mag 0]]))) (aa.af [nl N < 2 ^ 38, nl D < 2 ^ 38] (aa.fork ((↑(nl (N.gcd D)) : Int) != (1 : Int)) (aa.af [((↑(nl (N.gcd D)) : Int) != (1 : Int)) = true] (aa.fork true (aa.af [nl N < 2 ^ 38, nl (N.gcd D) < 2 ^ 38] (aa.af [nl D < 2 ^ 38, nl (N.gcd D) < 2 ^ 38] (aa.fork ((↑(nl (D / N.gcd D)) : Int) == (1 : Int)) (aa.af [((↑(nl (D / N.gcd D)) : Int) == (1 : Int)) = true, (0 : Int) ≤ (0 : Int) ∧ Int.toNat (0 : Int) < nl (D / N.gcd D)] (aa.fork (bif true then (↑(ak (D / N.gcd D) (Int.toNat (0 : Int))) : Int) == (1 : Int) else false) (aa.af [(0 : Nat) < 1] (aa.af [(0 : Nat) < 1] (aa.leaf ag.ret [agg [AV.bool b, mag (N / N.gcd D), nil]]))) (aa.af [(0 : Nat) < 1] (aa.af [(0 : Nat) < 1] (aa.leaf ag.ret [agg [AV.bool b, mag (N / N.gcd D), mag (D / N.gcd D)]]))))) (aa.af [((↑(nl (D / N.gcd D)) : Int) == (1 : Int)) = false] (aa.fork false (aa.af [(0 : Nat) < 1] (aa.af [(0 : Nat) < 1] (aa.leaf ag.ret [agg [AV.bool b, mag (N / N.gcd D), nil]]))) (aa.af [(0 : Nat) < 1] (aa.af [(0 : Nat) < 1] (aa.leaf ag.ret [agg [AV.bool b, mag (N / N.gcd D), mag (D / N.gcd D)]])))))))) (aa.fork ((↑(nl D) : Int) == (1 : Int)) (aa.af [((↑(nl D) : Int) == (1 : Int)) = true, (0 : Int) ≤ (0 : Int) ∧ Int.toNat (0 : Int) < nl D] (aa.fork (bif true then (↑(ak D (Int.toNat (0 : Int))) : Int) == (1 : Int) else false) (aa.af [(0 : Nat) < 1] (aa.af [(0 : Nat) < 1] (aa.leaf ag.ret [agg [AV.bool b, mag N, nil]]))) (aa.af [(0 : Nat) < 1] (aa.af [(0 : Nat) < 1] (aa.leaf ag.ret [agg [AV.bool b, mag N, mag D]]))))) (aa.af [((↑(nl D) : Int) == (1 : Int)) = false] (aa.fork false (aa.af [(0 : Nat) < 1] (aa.af [(0 : Nat) < 1] (aa.leaf ag.ret [agg [AV.bool b, mag N, nil]]))) (aa.af [(0 : Nat) < 1] (aa.af [(0 : Nat) < 1] (aa.leaf ag.ret [agg [AV.bool b, mag N, mag D]])))))))) (aa.af [((↑(nl (N.gcd D)) : Int) != (1 : Int)) = false, (0 : Int) ≤ (0 : Int) ∧ Int.toNat (0 : Int) < nl (N.gcd D)] (aa.fork (bif false then true else (↑(ak (N.gcd D) (Int.toNat (0 : Int))) : Int) != (1 : Int)) (aa.af [nl N < 2 ^ 38, nl (N.gcd D) < 2 ^ 38] (aa.af [nl D < 2 ^ 38, nl (N.gcd D) < 2 ^ 38] (aa.fork ((↑(nl (D / N.gcd D)) : Int) == (1 : Int)) (aa.af [((↑(nl (D / N.gcd D)) : Int) == (1 : Int)) = true, (0 : Int) ≤ (0 : Int) ∧ Int.toNat (0 : Int) < nl (D / N.gcd D)] (aa.fork (bif true then (↑(ak (D / N.gcd D) (Int.toNat (0 : Int))) : Int) == (1 : Int) else false) (aa.af [(0 : Nat) < 1] (aa.af [(0 : Nat) < 1] (aa.leaf ag.ret [agg [AV.bool b, mag (N / N.gcd D), nil]]))) (aa.af [(0 : Nat) < 1] (aa.af [(0 : Nat) < 1] (aa.leaf ag.ret [agg [AV.bool b, mag (N / N.gcd D), mag (D / N.gcd D)]]))))) (aa.af [((↑(nl (D / N.gcd D)) : Int) == (1 : Int)) = false] (aa.fork false (aa.af [(0 : Nat) < 1] (aa.af [(0 : Nat) < 1] (aa.leaf ag.ret [agg [AV.bool b, mag (N / N.gcd D), nil]]))) (aa.af [(0 : Nat) < 1] (aa.af [(0 : Nat) < 1] (aa.leaf ag.ret [agg [AV.bool b, mag (N / N.gcd D), mag (D / N.gcd D)]])))))))) (aa.fork ((↑(nl D) : Int) == (1 : Int)) (aa.af [((↑(nl D) : Int) == (1 : Int)) = true, (0 : Int) ≤ (0 : Int) ∧ Int.toNat (0 : Int) < nl D] (aa.fork (bif true then (↑(ak D (Int.toNat (0 : Int))) : Int) == (1 : Int) else false) (aa.af [(0 : Nat) < 1] (aa.af [(0 : Nat) < 1] (aa.leaf ag.ret [agg [AV.bool b, mag N, nil]]))) (aa.af [(0 : Nat) < 1] (aa.af [(0 : Nat) < 1] (aa.leaf ag.ret [agg [AV.bool b, mag N, mag D]]))))) (aa.af [((↑(nl D) : Int) == (1 : Int)) = false] (aa.fork false (aa.af [(0 : Nat) < 1] (aa.af [(0 : Nat) < 1] (aa.leaf ag.ret [agg [AV.bool b, mag N, nil]]))) (aa.af [(0 : Nat) < 1] (aa.af [(0 : Nat) < 1] (aa.leaf ag.ret [agg [AV.bool b, mag N, mag D]])))))))))))) := by kernel_rfl
theorem U1 {n : Int} : bA T GE [5] 60 q9 (au q9) ⟨aM 0 [.int .i64 n], [], 0⟩ =
  some (aa.fork (decide (n < (0 : Int))) (aa.af [(0 : Int) ≤ IntKind.u64.wrap (IntKind.u64.wrap (IntKind.i64.wrap ((0 : Int) - IntKind.i64.wrap (n + (1 : Int)))) + (1 : Int)) ∧ IntKind.u64.wrap (IntKind.u64.wrap (IntKind.i64.wrap ((0 : Int) - IntKind.i64.wrap (n + (1 : Int)))) + (1 : Int)) < (2 : Int) ^ 64] (aa.leaf ag.ret [mag (IntKind.u64.wrap (IntKind.u64.wrap (IntKind.i64.wrap ((0 : Int) - IntKind.i64.wrap (n + (1 : Int)))) + (1 : Int))).toNat, AV.bool true])) (aa.af [(0 : Int) ≤ IntKind.u64.wrap n ∧ IntKind.u64.wrap n < (2 : Int) ^ 64] (aa.leaf ag.ret [mag (IntKind.u64.wrap n).toNat, AV.bool false]))) := by kernel_rfl
theorem M6 {q r : Rat} {n m : Nat} : bA T GE [10, 18] 60 uU (au uU) ⟨aM 0 [.rat q n, .rat r m], [], 0⟩ =
  some (aa.fork (decide (q < 0) == decide (r < 0)) (aa.fork (bif true then bN q.num.natAbs r.num.natAbs == (0 : Int) else false) (aa.af [(0 : Nat) < 1, (0 : Nat) < 1, (decide (q < 0) == decide (r < 0)) = true, (0 : Nat) < 1, (0 : Nat) < 1, nl q.num.natAbs < 2 ^ 40, nl r.num.natAbs < 2 ^ 40, (bif true then bN q.num.natAbs r.num.natAbs == (0 : Int) else false) = true, (0 : Nat) < 1, (0 : Nat) < 1, nl (if q.den = 1 then 0 else q.den) < 2 ^ 40, nl (if r.den = 1 then 0 else r.den) < 2 ^ 40] (aa.leaf ag.ret [AV.bool (bif true then bN (if q.den = 1 then 0 else q.den) (if r.den = 1 then 0 else r.den) == (0 : Int) else false)])) (aa.af [(0 : Nat) < 1, (0 : Nat) < 1, (decide (q < 0) == decide (r < 0)) = true, (0 : Nat) < 1, (0 : Nat) < 1, nl q.num.natAbs < 2 ^ 40, nl r.num.natAbs < 2 ^ 40, (bif true then bN q.num.natAbs r.num.natAbs == (0 : Int) else false) = false] (aa.leaf ag.ret [AV.bool false]))) (aa.fork false (aa.af [(0 : Nat) < 1, (0 : Nat) < 1, (decide (q < 0) == decide (r < 0)) = false, false = true, (0 : Nat) < 1, (0 : Nat) < 1, nl (if q.den = 1 then 0 else q.den) < 2 ^ 40, nl (if r.den = 1 then 0 else r.den) < 2 ^ 40] (aa.leaf ag.ret [AV.bool (bif true then bN (if q.den = 1 then 0 else q.den) (if r.den = 1 then 0 else r.den) == (0 : Int) else false)])) (aa.af [(0 : Nat) < 1, (0 : Nat) < 1, (decide (q < 0) == decide (r < 0)) = false, false = false] (aa.leaf ag.ret [AV.bool false])))) := by kernel_rfl
theorem Nf {q : Rat} {n : Nat} : bA T GE [6, 8] 60 u5 (au u5) ⟨aM 0 [.rat q n], [], 0⟩ =
  some (aa.af [(0 : Nat) < 1] (aa.fork ((↑(nl q.num.natAbs) : Int) == (0 : Int)) (aa.leaf ag.ret [int IntKind.i64 (0 : Int)]) (aa.af [(0 : Nat) < 1] (aa.fork (decide (q < 0)) (aa.leaf ag.ret [int IntKind.i64 (-1 : Int)]) (aa.leaf ag.ret [int IntKind.i64 (1 : Int)]))))) := by kernel_rfl
theorem Oc {q : Rat} {n : Nat} : bA T GE [6] 60 tA (au tA) ⟨aM 0 [.rat q n], [], 0⟩ =
  some (aa.fork (!decide (q < 0)) (aa.af [(0 : Nat) < 1, (!decide (q < 0)) = true, (0 : Nat) < 1, (0 : Nat) < 1] (aa.af [(0 : Nat) < 1, (0 : Nat) < 1] (aa.af [(0 : Nat) < 1] (aa.leaf ag.ret [agg [AV.bool (bif true then decide ((↑(nl q.num.natAbs) : Int) > (0 : Int)) else false), mag q.num.natAbs, mag (if q.den = 1 then 0 else q.den)]])))) (aa.af [(0 : Nat) < 1, (!decide (q < 0)) = false, (0 : Nat) < 1] (aa.af [(0 : Nat) < 1, (0 : Nat) < 1] (aa.af [(0 : Nat) < 1] (aa.leaf ag.ret [agg [AV.bool false, mag q.num.natAbs, mag (if q.den = 1 then 0 else q.den)]]))))) := by kernel_rfl
theorem NN {q : Rat} {n : Nat} (K : Nat) (pre : aD) : az P ow K [.rat q n] pre (aF (.mag q.den) []) := by
 refine bD hT pN hm aax rfl (of_decide_eq_true (by kernel_rfl)) rfl 60 YS (fun _ => ?_) K pre
 simp only [aa.all, ax, beq_iff_eq, beq_eq_false_iff_ne, ne_eq]
 refine ⟨by omega, fun hb => ⟨by omega, ?_⟩, fun hb => ⟨by omega, cZ ?_⟩⟩
 ·have h0 := q.den_nz
  have : (if q.den = 1 then 0 else q.den) = 0 := iC.1 (by omega)
  have h1 : q.den = 1 := by split at this; assumption; exact absurd this h0
  rw [h1]
  exact jj (by decide) fun i hi => by rw [show i = 0 by omega]; exact congrArg (AV.int IntKind.u32) (show (1 : Int) = ((ak 1 0 : Nat) : Int) by decide)
 ·have : q.den ≠ 1 := fun h => hb (by rw [if_pos h]; rfl)
  rw [if_neg this]
theorem Wp {b : Bool} {N D : Nat} (hN : nl N < 2 ^ 38) (hD : nl D < 2 ^ 38) (hD0 : D ≠ 0) (K : Nat) (pre : aD) : az P ug K [.bool b, .mag N, .mag D] pre (aF (.rat (sQ b N D) (bV (sQ b N D))) []) := by
 refine bD hT pN hm TM rfl (of_decide_eq_true (by kernel_rfl)) rfl 60 aaq (fun _ => ?_) K pre
 have hz : sQ b N D = 0 → bn (.agg [.bool false, .mag 0, .mag 0]) (.rat (sQ b N D) (bV (sQ b N D))) := fun h => by
  rw [h]; exact jI
 simp only [aa.all, ax, beq_iff_eq, beq_eq_false_iff_ne, ne_eq, bne_iff_ne, bne_eq_false_iff_eq, Int.toNat_zero]
 refine ⟨⟨by omega, by omega⟩, fun hb => ⟨by omega, by omega, hz ?_⟩, fun hb => ?_⟩
 ·rw [iC.1 (show nl N = 0 by omega), Di]
 have hN0 : N ≠ 0 := fun h => hb (by rw [iC.2 h]; rfl)
 have hg : nl (Nat.gcd N D) < 2 ^ 38 := Nat.lt_of_le_of_lt (fu (Nat.gcd_le_left _ (by omega))) hN
 have hg0 : 0 < Nat.gcd N D := Nat.gcd_pos_of_pos_left _ (by omega)
 have hl : ∀ {Y : Nat}, nl Y = 1 → ak Y 0 = Y := fun {Y} h => by
  have := eM (N := Y)
  rw [h, val, val] at this
  simpa using this
 have h1 : ∀ {X Y : Nat}, X = N / Nat.gcd N D → Y = D / Nat.gcd N D → Y ≠ 1 → bn (.agg [.bool b, .mag X, .mag Y]) (.rat (sQ b N D) (bV (sQ b N D))) := fun eX eY h => pR hN0 hD0 eX (by rw [← eY, if_neg h]) rT
 have h2 : ∀ {X Y : Nat}, X = N / Nat.gcd N D → Y = D / Nat.gcd N D → Y = 1 → bn (.agg [.bool b, .mag X, .nil]) (.rat (sQ b N D) (bV (sQ b N D))) := fun eX eY h => I4.trans (pR hN0 hD0 eX (by rw [← eY, if_pos h]) rT)
 have i1 : ∀ {Y : Nat}, (nl Y : Int) = 1 → (bif true then ((ak Y 0 : Nat) : Int) == (1 : Int) else false) = true → Y = 1 := fun {Y} h hc => by
  have := gD hc
  rw [hl (by omega)] at this
  have := eq_of_beq this
  omega
 have i2 : ∀ {Y : Nat}, (nl Y : Int) = 1 → (bif true then ((ak Y 0 : Nat) : Int) == (1 : Int) else false) = false → Y ≠ 1 := fun {Y} h hc h1 => by
  have := gD hc
  rw [hl (by omega), h1] at this
  simp at this
 have i3 : ∀ {Y : Nat}, ¬ (nl Y : Int) = 1 → Y ≠ 1 := fun {Y} h h1 => h (by rw [h1]; decide)
 have g1 : (nl (Nat.gcd N D) : Int) = 1 → (bif false then true else ((ak (Nat.gcd N D) 0 : Nat) : Int) != (1 : Int)) = false → Nat.gcd N D = 1 := fun h hc => by
  have := fQ hc
  rw [hl (by omega)] at this
  simp at this
  omega
 refine ⟨⟨hN, hD⟩, fun hb => ⟨hb, fun _ => ⟨⟨hN, hg⟩, ⟨hD, hg⟩, ?_⟩, fun h => by simp at h⟩, fun hb => ⟨⟨hb, by omega, by omega⟩, fun hc => ⟨⟨hN, hg⟩, ⟨hD, hg⟩, ?_⟩, fun hc => ?_⟩⟩
 ·exact ⟨fun hb => ⟨⟨hb, by omega, by omega⟩, fun hc => ⟨by omega, by omega, h2 rfl rfl (i1 hb hc)⟩, fun hc => ⟨by omega, by omega, h1 rfl rfl (i2 hb hc)⟩⟩, fun hb => ⟨hb, fun h => by simp at h, fun _ => ⟨by omega, by omega, h1 rfl rfl (i3 hb)⟩⟩⟩
 ·exact ⟨fun hb => ⟨⟨hb, by omega, by omega⟩, fun hc => ⟨by omega, by omega, h2 rfl rfl (i1 hb hc)⟩, fun hc => ⟨by omega, by omega, h1 rfl rfl (i2 hb hc)⟩⟩, fun hb => ⟨hb, fun h => by simp at h, fun _ => ⟨by omega, by omega, h1 rfl rfl (i3 hb)⟩⟩⟩
 ·have e := g1 hb hc
  have eN : N = N / Nat.gcd N D := by rw [e, Nat.div_one]
  have eD : D = D / Nat.gcd N D := by rw [e, Nat.div_one]
  exact ⟨fun hb => ⟨⟨hb, by omega, by omega⟩, fun hc => ⟨by omega, by omega, h2 eN eD (i1 hb hc)⟩, fun hc => ⟨by omega, by omega, h1 eN eD (i2 hb hc)⟩⟩, fun hb => ⟨hb, fun h => by simp at h, fun _ => ⟨by omega, by omega, h1 eN eD (i3 hb)⟩⟩⟩
theorem Xk {n : Int} (h1 : -2 ^ 63 ≤ n) (h2 : n < 2 ^ 63) (K : Nat) (pre : aD) : az P tY K [.int .i64 n] pre (aF (.tuple [.mag n.natAbs, .bool (decide (n < 0))]) []) := by
 refine bD hT pN hm abx rfl (of_decide_eq_true (by kernel_rfl)) rfl 60 U1 (fun _ => ?_) K pre
 simp only [aa.all, ax, decide_eq_true_eq, decide_eq_false_iff_not]
 refine ⟨fun hb => ?_, fun hb => ?_⟩
 ·have e : IntKind.i64.wrap (n + 1) = n + 1 := wrap_i64 (by omega) (by omega)
  have e1 : IntKind.i64.wrap (0 - (n + 1)) = -n - 1 := by rw [wrap_i64 (by omega) (by omega)]; omega
  have e2 : IntKind.u64.wrap (-n - 1) = -n - 1 := bC (by omega) (by omega)
  have e3 : IntKind.u64.wrap (-n - 1 + 1) = ((n.natAbs : Nat) : Int) := by rw [bC (by omega) (by omega)]; omega
  rw [e, e1, e2, e3]
  exact ⟨by omega, cZ (by rw [Int.toNat_natCast]), fO (by simp [hb]), trivial⟩
 ·have e3 : IntKind.u64.wrap n = ((n.natAbs : Nat) : Int) := by rw [bC (by omega) (by omega)]; omega
  rw [e3]
  exact ⟨by omega, cZ (by rw [Int.toNat_natCast]), fO (by simp [hb]), trivial⟩
theorem zg {a b : Nat} : bN a b = 0 ↔ a = b := by unfold bN; split <;> (try split) <;> omega
theorem JB {q r : Rat} {n m : Nat} (hn : n < 2 ^ 44) (hm' : m < 2 ^ 44) (K : Nat) (pre : aD) : az P tE K [.rat q n, .rat r m] pre (aF (.bool (decide (q = r))) []) := by
 refine gA fun ⟨hs1, hs2, _⟩ => ?_
 obtain ⟨a1, a2, a3⟩ := Sz.g8 hs1 hn
 obtain ⟨b1, b2, b3⟩ := Sz.g8 hs2 hm'
 refine bD hT pN hm Mq rfl (of_decide_eq_true (by kernel_rfl)) rfl 60 M6 (fun _ => ?_) K pre
 simp only [aa.all, ax]
 refine ⟨fun hb => ⟨fun hc => ⟨⟨by omega, by omega, hb, by omega, by omega, a1, b1, hc, by omega, by omega, a3, b3⟩, fO ?_⟩, fun hc => ⟨⟨by omega, by omega, hb, by omega, by omega, a1, b1, hc⟩, fO ?_⟩⟩, fun hb => ⟨fun h => by simp at h, fun _ => ⟨⟨by omega, by omega, hb, trivial⟩, fO ?_⟩⟩⟩
 ·have h1 := eq_of_beq hb
  have h2 := zg.1 (eq_of_beq (gD hc))
  rw [cond_true]
  exact (decide_eq_decide (p := _ = (0 : Int)) (q := q = r)).2 ⟨fun h => mu.2 ⟨h1, h2, zg.1 h⟩, fun h => zg.2 (mu.1 h).2.2⟩
 ·have h2 := gD hc
  refine (decide_eq_false fun h => ?_).symm
  rw [zg.2 (mu.1 h).2.1] at h2
  simp at h2
 ·refine (decide_eq_false fun h => ?_).symm
  rw [(mu.1 h).1] at hb
  simp at hb
theorem Dt {q : Rat} {n : Nat} (K : Nat) (pre : aD) : az P oq K [.rat q n] pre (aF (.int .i64 (dD q)) []) := by
 refine bD hT pN hm Yu rfl (of_decide_eq_true (by kernel_rfl)) rfl 60 Nf (fun _ => ?_) K pre
 simp only [aa.all, ax, beq_iff_eq, beq_eq_false_iff_ne, ne_eq]
 refine ⟨by omega, fun hb => bq ?_, fun hb => ⟨by omega, fun hc => bq ?_, fun hc => bq ?_⟩⟩
 ·have h0 : q = 0 := kZ.1 (iC.1 (by omega))
  subst h0
  rfl
 ·have := of_decide_eq_true hc
  unfold dD; rw [if_pos this]
 ·have h1 := of_decide_eq_false hc
  have h0 : q ≠ 0 := fun h => hb (by rw [h]; rfl)
  unfold dD; rw [if_neg h1, if_pos (Kw h0 h1)]
theorem aaG {q : Rat} {n : Nat} (K : Nat) (pre : aD) : az P qn K [.rat q n] pre (aF (.rat (-q) n) []) := by
 refine gA fun ⟨hs1, _⟩ => ?_
 have hs1 : Sz q n := hs1
 have hs2 := hs1.neg
 have e1 : (-q).num.natAbs = q.num.natAbs := by rw [Rat.neg_num, Int.natAbs_neg]
 have e2 : (-q).den = q.den := Rat.neg_den q
 refine bD hT pN hm VG rfl (of_decide_eq_true (by kernel_rfl)) rfl 60 Oc (fun _ => ?_) K pre
 simp only [aa.all, ax]
 refine ⟨fun hb => ⟨⟨by omega, hb, by omega, by omega⟩, ⟨by omega, by omega⟩, by omega, lH hs2 ?_ e1.symm (by rw [e2])⟩, fun hb => ⟨⟨by omega, hb, by omega⟩, ⟨by omega, by omega⟩, by omega, lH hs2 ?_ e1.symm (by rw [e2])⟩⟩
 ·have hq : ¬ q < 0 := by simpa using hb
  rw [cond_true]
  have h1 : ¬ q.num < 0 := fun h => hq (fy.2 h)
  exact ((decide_eq_decide (p := -q < 0) (q := (nl q.num.natAbs : Int) > 0)).2 (by
   rw [fy, Rat.neg_num]
   have := eO (N := q.num.natAbs)
   omega)).symm
 ·have hq : q < 0 := by simpa using hb
  have := fy.1 hq
  exact (decide_eq_false (p := -q < 0) (by rw [fy, Rat.neg_num]; omega)).symm
def xY (g : Rat → Nat → cB) : Spec := bt fun l => match l with
 | [.rat q n] => some (g q n)
 | _ => none
theorem CA {f : FuncId} {g : Rat → Nat → cB} (h : ∀ {q : Rat} {n : Nat} K, az P f K [.rat q n] [] (g q n)) : ∀ K args pre r, xY g K args pre = some r → az P f K args pre r := by
 refine bH fun K args r hk hs _ => ?_
 split at hs
 ·simp only [Option.some.injEq] at hs
  subst hs
  exact h K
 ·simp at hs
def xI : Spec := xY fun q _ => aF (.mag q.den) []
theorem Df : ∀ K args pre r, xI K args pre = some r → az P ow K args pre r := CA fun K => NN K []
def Fs : Spec := xY fun q _ => aF (.int .i64 (dD q)) []
theorem Tp : ∀ K args pre r, Fs K args pre = some r → az P oq K args pre r := CA fun K => Dt K []
def Dc : Spec := xY fun q n => aF (.rat (-q) n) []
theorem LH : ∀ K args pre r, Dc K args pre = some r → az P qn K args pre r := CA fun K => aaG K []
def FD : Spec := bt fun l => match l with
 | [.int .i64 n] => some (aF (.tuple [.mag n.natAbs, .bool (decide (n < 0))]) [-2 ^ 63 ≤ n, n < 2 ^ 63])
 | _ => none
theorem YM : ∀ K args pre r, FD K args pre = some r → az P tY K args pre r := by
 refine bH fun K args r hk hs _ => ?_
 split at hs
 ·simp only [Option.some.injEq] at hs
  subst hs
  exact fun need => Xk need.1 need.2 K [] trivial
 ·simp at hs
def Es : Spec := bt fun l => match l with
 | [.bool b, x, y] => match gm x, gm y with
  | some N, some D => some (aF (.rat (sQ b N D) (bV (sQ b N D))) [nl N < 2 ^ 38, nl D < 2 ^ 38, D ≠ 0])
  | _, _ => none
 | _ => none
theorem Sl : ∀ K args pre r, Es K args pre = some r → az P ug K args pre r := by
 refine bH fun K args r hk hs _ => ?_
 split at hs
 ·split at hs
  ·rename_i N D h1 h2
   simp only [Option.some.injEq] at hs
   subst hs
   exact fun need => fk (Wp need.1 need.2.1 need.2.2 K []) hk ⟨.refl _, jd h1, jd h2, trivial⟩ [] trivial
  ·simp at hs
 ·simp at hs
end Go.Am.B
