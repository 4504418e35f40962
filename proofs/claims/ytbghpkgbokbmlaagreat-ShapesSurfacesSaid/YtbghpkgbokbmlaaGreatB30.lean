/- ref02: Den, reduce, size, Make, Frac, Int, Same, Sign, Neg. -/
import Derived.Test.YtbghpkgbokbmlaaGreatB29
set_option linter.unusedVariables false
namespace Go.Am.B
open Go Go.Am.N AV
theorem Zc : aP P vY uk (au uk) := aL ZN (by kernel_rfl) (by kernel_rfl) (by kernel_rfl)
theorem My : aP P uY r4 (au r4) := aL WE (by kernel_rfl) (by kernel_rfl) (by kernel_rfl)
theorem V7 : aP P uP uf (au uf) := aL V8 (by kernel_rfl) (by kernel_rfl) (by kernel_rfl)
theorem OC : aP P qU uN (au uN) := aL Qk (by kernel_rfl) (by kernel_rfl) (by kernel_rfl)
theorem YZ : aP P ot su (au su) := aL WB (by kernel_rfl) (by kernel_rfl) (by kernel_rfl)
theorem Vu : aP P mQ vJ (au vJ) := aL Vs (by kernel_rfl) (by kernel_rfl) (by kernel_rfl)
def GE : aO := [(k8, qp), (qC, D4), (oV, GO), (lN, tC), (lK, tg)]
theorem pA : aW P GE := aD vP (aD ZM (aD Hg (aD xD (aD xu bg))))
theorem Xl {q : Rat} {n : Nat} : bq T GE [6] 60 uk (au uk) ⟨aK 0 [.rat q n], [], 0⟩ =
  some (aa.af [(0 : Nat) < 1] (aa.fork ((↑(nl (if q.den = 1 then 0 else q.den)) : Int) == (0 : Int)) (aa.af [(1 : Nat) * 1 ≤ 2 ^ 24] (aa.leaf ah.ret [aj 1 1 fun (i : Nat) ↦ nth [int IntKind.u32 (1 : Int)] (int IntKind.u32 (0 : Int)) (i + 0)])) (aa.af [(0 : Nat) < 1] (aa.leaf ah.ret [mag (if q.den = 1 then 0 else q.den)])))) := by kernel_rfl
theorem Lj {b : Bool} {N D : Nat} : bq T GE [14, 22, 27, 45, 50] 60 r4 (au r4) ⟨aK 0 [.bool b, .mag N, .mag D], [], 0⟩ =
  some (aa.af [nl N < 2 ^ 40, nl D < 2 ^ 40] (aa.fork ((↑(nl N) : Int) == (0 : Int)) (aa.af [(0 : Nat) < 1] (aa.af [(0 : Nat) < 1] (aa.leaf ah.ret [agg [AV.bool false, mag 0, mag 0]]))) (aa.af [nl N < 2 ^ 38, nl D < 2 ^ 38] (aa.fork ((↑(nl (N.gcd D)) : Int) != (1 : Int)) (aa.af [((↑(nl (N.gcd D)) : Int) != (1 : Int)) = true] (aa.fork true (aa.af [nl N < 2 ^ 38, nl (N.gcd D) < 2 ^ 38] (aa.af [nl D < 2 ^ 38, nl (N.gcd D) < 2 ^ 38] (aa.fork ((↑(nl (D / N.gcd D)) : Int) == (1 : Int)) (aa.af [((↑(nl (D / N.gcd D)) : Int) == (1 : Int)) = true, (0 : Int) ≤ (0 : Int) ∧ Int.toNat (0 : Int) < nl (D / N.gcd D)] (aa.fork (bif true then (↑(aq (D / N.gcd D) (Int.toNat (0 : Int))) : Int) == (1 : Int) else false) (aa.af [(0 : Nat) < 1] (aa.af [(0 : Nat) < 1] (aa.leaf ah.ret [agg [AV.bool b, mag (N / N.gcd D), nil]]))) (aa.af [(0 : Nat) < 1] (aa.af [(0 : Nat) < 1] (aa.leaf ah.ret [agg [AV.bool b, mag (N / N.gcd D), mag (D / N.gcd D)]]))))) (aa.af [((↑(nl (D / N.gcd D)) : Int) == (1 : Int)) = false] (aa.fork false (aa.af [(0 : Nat) < 1] (aa.af [(0 : Nat) < 1] (aa.leaf ah.ret [agg [AV.bool b, mag (N / N.gcd D), nil]]))) (aa.af [(0 : Nat) < 1] (aa.af [(0 : Nat) < 1] (aa.leaf ah.ret [agg [AV.bool b, mag (N / N.gcd D), mag (D / N.gcd D)]])))))))) (aa.fork ((↑(nl D) : Int) == (1 : Int)) (aa.af [((↑(nl D) : Int) == (1 : Int)) = true, (0 : Int) ≤ (0 : Int) ∧ Int.toNat (0 : Int) < nl D] (aa.fork (bif true then (↑(aq D (Int.toNat (0 : Int))) : Int) == (1 : Int) else false) (aa.af [(0 : Nat) < 1] (aa.af [(0 : Nat) < 1] (aa.leaf ah.ret [agg [AV.bool b, mag N, nil]]))) (aa.af [(0 : Nat) < 1] (aa.af [(0 : Nat) < 1] (aa.leaf ah.ret [agg [AV.bool b, mag N, mag D]]))))) (aa.af [((↑(nl D) : Int) == (1 : Int)) = false] (aa.fork false (aa.af [(0 : Nat) < 1] (aa.af [(0 : Nat) < 1] (aa.leaf ah.ret [agg [AV.bool b, mag N, nil]]))) (aa.af [(0 : Nat) < 1] (aa.af [(0 : Nat) < 1] (aa.leaf ah.ret [agg [AV.bool b, mag N, mag D]])))))))) (aa.af [((↑(nl (N.gcd D)) : Int) != (1 : Int)) = false, (0 : Int) ≤ (0 : Int) ∧ Int.toNat (0 : Int) < nl (N.gcd D)] (aa.fork (bif false then true else (↑(aq (N.gcd D) (Int.toNat (0 : Int))) : Int) != (1 : Int)) (aa.af [nl N < 2 ^ 38, nl (N.gcd D) < 2 ^ 38] (aa.af [nl D < 2 ^ 38, nl (N.gcd D) < 2 ^ 38] (aa.fork ((↑(nl (D / N.gcd D)) : Int) == (1 : Int)) (aa.af [((↑(nl (D / N.gcd D)) : Int) == (1 : Int)) = true, (0 : Int) ≤ (0 : Int) ∧ Int.toNat (0 : Int) < nl (D / N.gcd D)] (aa.fork (bif true then (↑(aq (D / N.gcd D) (Int.toNat (0 : Int))) : Int) == (1 : Int) else false) (aa.af [(0 : Nat) < 1] (aa.af [(0 : Nat) < 1] (aa.leaf ah.ret [agg [AV.bool b, mag (N / N.gcd D), nil]]))) (aa.af [(0 : Nat) < 1] (aa.af [(0 : Nat) < 1] (aa.leaf ah.ret [agg [AV.bool b, mag (N / N.gcd D), mag (D / N.gcd D)]]))))) (aa.af [((↑(nl (D / N.gcd D)) : Int) == (1 : Int)) = false] (aa.fork false (aa.af [(0 : Nat) < 1] (aa.af [(0 : Nat) < 1] (aa.leaf ah.ret [agg [AV.bool b, mag (N / N.gcd D), nil]]))) (aa.af [(0 : Nat) < 1] (aa.af [(0 : Nat) < 1] (aa.leaf ah.ret [agg [AV.bool b, mag (N / N.gcd D), mag (D / N.gcd D)]])))))))) (aa.fork ((↑(nl D) : Int) == (1 : Int)) (aa.af [((↑(nl D) : Int) == (1 : Int)) = true, (0 : Int) ≤ (0 : Int) ∧ Int.toNat (0 : Int) < nl D] (aa.fork (bif true then (↑(aq D (Int.toNat (0 : Int))) : Int) == (1 : Int) else false) (aa.af [(0 : Nat) < 1] (aa.af [(0 : Nat) < 1] (aa.leaf ah.ret [agg [AV.bool b, mag N, nil]]))) (aa.af [(0 : Nat) < 1] (aa.af [(0 : Nat) < 1] (aa.leaf ah.ret [agg [AV.bool b, mag N, mag D]]))))) (aa.af [((↑(nl D) : Int) == (1 : Int)) = false] (aa.fork false (aa.af [(0 : Nat) < 1] (aa.af [(0 : Nat) < 1] (aa.leaf ah.ret [agg [AV.bool b, mag N, nil]]))) (aa.af [(0 : Nat) < 1] (aa.af [(0 : Nat) < 1] (aa.leaf ah.ret [agg [AV.bool b, mag N, mag D]])))))))))))) := by kernel_rfl
theorem S8 {n : Int} : bq T GE [5] 60 uf (au uf) ⟨aK 0 [.int .i64 n], [], 0⟩ =
  some (aa.fork (decide (n < (0 : Int))) (aa.af [(0 : Int) ≤ IntKind.u64.wrap (IntKind.u64.wrap (IntKind.i64.wrap ((0 : Int) - IntKind.i64.wrap (n + (1 : Int)))) + (1 : Int)) ∧ IntKind.u64.wrap (IntKind.u64.wrap (IntKind.i64.wrap ((0 : Int) - IntKind.i64.wrap (n + (1 : Int)))) + (1 : Int)) < (2 : Int) ^ 64] (aa.leaf ah.ret [mag (IntKind.u64.wrap (IntKind.u64.wrap (IntKind.i64.wrap ((0 : Int) - IntKind.i64.wrap (n + (1 : Int)))) + (1 : Int))).toNat, AV.bool true])) (aa.af [(0 : Int) ≤ IntKind.u64.wrap n ∧ IntKind.u64.wrap n < (2 : Int) ^ 64] (aa.leaf ah.ret [mag (IntKind.u64.wrap n).toNat, AV.bool false]))) := by kernel_rfl
theorem O0 {q r : Rat} {n m : Nat} : bq T GE [10, 18] 60 uN (au uN) ⟨aK 0 [.rat q n, .rat r m], [], 0⟩ =
  some (aa.fork (decide (q < 0) == decide (r < 0)) (aa.fork (bif true then bS q.num.natAbs r.num.natAbs == (0 : Int) else false) (aa.af [(0 : Nat) < 1, (0 : Nat) < 1, (decide (q < 0) == decide (r < 0)) = true, (0 : Nat) < 1, (0 : Nat) < 1, nl q.num.natAbs < 2 ^ 40, nl r.num.natAbs < 2 ^ 40, (bif true then bS q.num.natAbs r.num.natAbs == (0 : Int) else false) = true, (0 : Nat) < 1, (0 : Nat) < 1, nl (if q.den = 1 then 0 else q.den) < 2 ^ 40, nl (if r.den = 1 then 0 else r.den) < 2 ^ 40] (aa.leaf ah.ret [AV.bool (bif true then bS (if q.den = 1 then 0 else q.den) (if r.den = 1 then 0 else r.den) == (0 : Int) else false)])) (aa.af [(0 : Nat) < 1, (0 : Nat) < 1, (decide (q < 0) == decide (r < 0)) = true, (0 : Nat) < 1, (0 : Nat) < 1, nl q.num.natAbs < 2 ^ 40, nl r.num.natAbs < 2 ^ 40, (bif true then bS q.num.natAbs r.num.natAbs == (0 : Int) else false) = false] (aa.leaf ah.ret [AV.bool false]))) (aa.fork false (aa.af [(0 : Nat) < 1, (0 : Nat) < 1, (decide (q < 0) == decide (r < 0)) = false, false = true, (0 : Nat) < 1, (0 : Nat) < 1, nl (if q.den = 1 then 0 else q.den) < 2 ^ 40, nl (if r.den = 1 then 0 else r.den) < 2 ^ 40] (aa.leaf ah.ret [AV.bool (bif true then bS (if q.den = 1 then 0 else q.den) (if r.den = 1 then 0 else r.den) == (0 : Int) else false)])) (aa.af [(0 : Nat) < 1, (0 : Nat) < 1, (decide (q < 0) == decide (r < 0)) = false, false = false] (aa.leaf ah.ret [AV.bool false])))) := by kernel_rfl
theorem WJ {q : Rat} {n : Nat} : bq T GE [6, 8] 60 su (au su) ⟨aK 0 [.rat q n], [], 0⟩ =
  some (aa.af [(0 : Nat) < 1] (aa.fork ((↑(nl q.num.natAbs) : Int) == (0 : Int)) (aa.leaf ah.ret [int IntKind.i64 (0 : Int)]) (aa.af [(0 : Nat) < 1] (aa.fork (decide (q < 0)) (aa.leaf ah.ret [int IntKind.i64 (-1 : Int)]) (aa.leaf ah.ret [int IntKind.i64 (1 : Int)]))))) := by kernel_rfl
theorem PS {q : Rat} {n : Nat} : bq T GE [6] 60 vJ (au vJ) ⟨aK 0 [.rat q n], [], 0⟩ =
  some (aa.fork (!decide (q < 0)) (aa.af [(0 : Nat) < 1, (!decide (q < 0)) = true, (0 : Nat) < 1, (0 : Nat) < 1] (aa.af [(0 : Nat) < 1, (0 : Nat) < 1] (aa.af [(0 : Nat) < 1] (aa.leaf ah.ret [agg [AV.bool (bif true then decide ((↑(nl q.num.natAbs) : Int) > (0 : Int)) else false), mag q.num.natAbs, mag (if q.den = 1 then 0 else q.den)]])))) (aa.af [(0 : Nat) < 1, (!decide (q < 0)) = false, (0 : Nat) < 1] (aa.af [(0 : Nat) < 1, (0 : Nat) < 1] (aa.af [(0 : Nat) < 1] (aa.leaf ah.ret [agg [AV.bool false, mag q.num.natAbs, mag (if q.den = 1 then 0 else q.den)]]))))) := by kernel_rfl
theorem Oz {q : Rat} {n : Nat} (K : Nat) (pre : aC) : ay P vY K [.rat q n] pre (aF (.mag q.den) []) := by
 refine bt hT pA hm Zc rfl (of_decide_eq_true (by kernel_rfl)) rfl 60 Xl (fun _ => ?_) K pre
 simp only [aa.all, ax, beq_iff_eq, beq_eq_false_iff_ne, ne_eq]
 refine ⟨by omega, fun hb => ⟨by omega, ?_⟩, fun hb => ⟨by omega, de ?_⟩⟩
 ·have h0 := q.den_nz
  have : (if q.den = 1 then 0 else q.den) = 0 := gI.1 (by omega)
  have h1 : q.den = 1 := by split at this; assumption; exact absurd this h0
  rw [h1]
  exact iW (by decide) fun i hi => by rw [show i = 0 by omega]; exact congrArg (AV.int IntKind.u32) (show (1 : Int) = ((aq 1 0 : Nat) : Int) by decide)
 ·have : q.den ≠ 1 := fun h => hb (by rw [if_pos h]; rfl)
  rw [if_neg this]
theorem YA {b : Bool} {N D : Nat} (hN : nl N < 2 ^ 38) (hD : nl D < 2 ^ 38) (hD0 : D ≠ 0) (K : Nat) (pre : aC) : ay P uY K [.bool b, .mag N, .mag D] pre (aF (.rat (sQ b N D) (bX (sQ b N D))) []) := by
 refine bt hT pA hm My rfl (of_decide_eq_true (by kernel_rfl)) rfl 60 Lj (fun _ => ?_) K pre
 have hz : sQ b N D = 0 → bu (.agg [.bool false, .mag 0, .mag 0]) (.rat (sQ b N D) (bX (sQ b N D))) := fun h => by
  rw [h]; exact ji
 simp only [aa.all, ax, beq_iff_eq, beq_eq_false_iff_ne, ne_eq, bne_iff_ne, bne_eq_false_iff_eq, Int.toNat_zero]
 refine ⟨⟨by omega, by omega⟩, fun hb => ⟨by omega, by omega, hz ?_⟩, fun hb => ?_⟩
 ·rw [gI.1 (show nl N = 0 by omega), AF]
 have hN0 : N ≠ 0 := fun h => hb (by rw [gI.2 h]; rfl)
 have hg : nl (Nat.gcd N D) < 2 ^ 38 := Nat.lt_of_le_of_lt (fA (Nat.gcd_le_left _ (by omega))) hN
 have hg0 : 0 < Nat.gcd N D := Nat.gcd_pos_of_pos_left _ (by omega)
 have hl : ∀ {Y : Nat}, nl Y = 1 → aq Y 0 = Y := fun {Y} h => by
  have := eI (N := Y)
  rw [h, val, val] at this
  simpa using this
 have h1 : ∀ {X Y : Nat}, X = N / Nat.gcd N D → Y = D / Nat.gcd N D → Y ≠ 1 → bu (.agg [.bool b, .mag X, .mag Y]) (.rat (sQ b N D) (bX (sQ b N D))) := fun eX eY h => o8 hN0 hD0 eX (by rw [← eY, if_neg h]) tw
 have h2 : ∀ {X Y : Nat}, X = N / Nat.gcd N D → Y = D / Nat.gcd N D → Y = 1 → bu (.agg [.bool b, .mag X, .nil]) (.rat (sQ b N D) (bX (sQ b N D))) := fun eX eY h => Cq.trans (o8 hN0 hD0 eX (by rw [← eY, if_pos h]) tw)
 have i1 : ∀ {Y : Nat}, (nl Y : Int) = 1 → (bif true then ((aq Y 0 : Nat) : Int) == (1 : Int) else false) = true → Y = 1 := fun {Y} h hc => by
  have := gr hc
  rw [hl (by omega)] at this
  have := eq_of_beq this
  omega
 have i2 : ∀ {Y : Nat}, (nl Y : Int) = 1 → (bif true then ((aq Y 0 : Nat) : Int) == (1 : Int) else false) = false → Y ≠ 1 := fun {Y} h hc h1 => by
  have := gr hc
  rw [hl (by omega), h1] at this
  simp at this
 have i3 : ∀ {Y : Nat}, ¬ (nl Y : Int) = 1 → Y ≠ 1 := fun {Y} h h1 => h (by rw [h1]; decide)
 have g1 : (nl (Nat.gcd N D) : Int) = 1 → (bif false then true else ((aq (Nat.gcd N D) 0 : Nat) : Int) != (1 : Int)) = false → Nat.gcd N D = 1 := fun h hc => by
  have := fH hc
  rw [hl (by omega)] at this
  simp at this
  omega
 refine ⟨⟨hN, hD⟩, fun hb => ⟨hb, fun _ => ⟨⟨hN, hg⟩, ⟨hD, hg⟩, ?_⟩, fun h => by simp at h⟩, fun hb => ⟨⟨hb, by omega, by omega⟩, fun hc => ⟨⟨hN, hg⟩, ⟨hD, hg⟩, ?_⟩, fun hc => ?_⟩⟩
 ·exact ⟨fun hb => ⟨⟨hb, by omega, by omega⟩, fun hc => ⟨by omega, by omega, h2 rfl rfl (i1 hb hc)⟩, fun hc => ⟨by omega, by omega, h1 rfl rfl (i2 hb hc)⟩⟩, fun hb => ⟨hb, fun h => by simp at h, fun _ => ⟨by omega, by omega, h1 rfl rfl (i3 hb)⟩⟩⟩
 ·exact ⟨fun hb => ⟨⟨hb, by omega, by omega⟩, fun hc => ⟨by omega, by omega, h2 rfl rfl (i1 hb hc)⟩, fun hc => ⟨by omega, by omega, h1 rfl rfl (i2 hb hc)⟩⟩, fun hb => ⟨hb, fun h => by simp at h, fun _ => ⟨by omega, by omega, h1 rfl rfl (i3 hb)⟩⟩⟩
 ·have e := g1 hb hc
  have eN : N = N / Nat.gcd N D := by rw [e, Nat.div_one]
  have eD : D = D / Nat.gcd N D := by rw [e, Nat.div_one]
  exact ⟨fun hb => ⟨⟨hb, by omega, by omega⟩, fun hc => ⟨by omega, by omega, h2 eN eD (i1 hb hc)⟩, fun hc => ⟨by omega, by omega, h1 eN eD (i2 hb hc)⟩⟩, fun hb => ⟨hb, fun h => by simp at h, fun _ => ⟨by omega, by omega, h1 eN eD (i3 hb)⟩⟩⟩
theorem N9 {n : Int} (h1 : -2 ^ 63 ≤ n) (h2 : n < 2 ^ 63) (K : Nat) (pre : aC) : ay P uP K [.int .i64 n] pre (aF (.tuple [.mag n.natAbs, .bool (decide (n < 0))]) []) := by
 refine bt hT pA hm V7 rfl (of_decide_eq_true (by kernel_rfl)) rfl 60 S8 (fun _ => ?_) K pre
 simp only [aa.all, ax, decide_eq_true_eq, decide_eq_false_iff_not]
 refine ⟨fun hb => ?_, fun hb => ?_⟩
 ·have e : IntKind.i64.wrap (n + 1) = n + 1 := wrap_i64 (by omega) (by omega)
  have e1 : IntKind.i64.wrap (0 - (n + 1)) = -n - 1 := by rw [wrap_i64 (by omega) (by omega)]; omega
  have e2 : IntKind.u64.wrap (-n - 1) = -n - 1 := bE (by omega) (by omega)
  have e3 : IntKind.u64.wrap (-n - 1 + 1) = ((n.natAbs : Nat) : Int) := by rw [bE (by omega) (by omega)]; omega
  rw [e, e1, e2, e3]
  exact ⟨by omega, de (by rw [Int.toNat_natCast]), fQ (by simp [hb]), trivial⟩
 ·have e3 : IntKind.u64.wrap n = ((n.natAbs : Nat) : Int) := by rw [bE (by omega) (by omega)]; omega
  rw [e3]
  exact ⟨by omega, de (by rw [Int.toNat_natCast]), fQ (by simp [hb]), trivial⟩
theorem x4 {a b : Nat} : bS a b = 0 ↔ a = b := by unfold bS; split <;> (try split) <;> omega
theorem Ew {q r : Rat} {n m : Nat} (hn : n < 2 ^ 44) (hm' : m < 2 ^ 44) (K : Nat) (pre : aC) : ay P qU K [.rat q n, .rat r m] pre (aF (.bool (decide (q = r))) []) := by
 refine gT fun ⟨hs1, hs2, _⟩ => ?_
 obtain ⟨a1, a2, a3⟩ := Sz.gP hs1 hn
 obtain ⟨b1, b2, b3⟩ := Sz.gP hs2 hm'
 refine bt hT pA hm OC rfl (of_decide_eq_true (by kernel_rfl)) rfl 60 O0 (fun _ => ?_) K pre
 simp only [aa.all, ax]
 refine ⟨fun hb => ⟨fun hc => ⟨⟨by omega, by omega, hb, by omega, by omega, a1, b1, hc, by omega, by omega, a3, b3⟩, fQ ?_⟩, fun hc => ⟨⟨by omega, by omega, hb, by omega, by omega, a1, b1, hc⟩, fQ ?_⟩⟩, fun hb => ⟨fun h => by simp at h, fun _ => ⟨⟨by omega, by omega, hb, trivial⟩, fQ ?_⟩⟩⟩
 ·have h1 := eq_of_beq hb
  have h2 := x4.1 (eq_of_beq (gr hc))
  rw [cond_true]
  exact (decide_eq_decide (p := _ = (0 : Int)) (q := q = r)).2 ⟨fun h => mP.2 ⟨h1, h2, x4.1 h⟩, fun h => x4.2 (mP.1 h).2.2⟩
 ·have h2 := gr hc
  refine (decide_eq_false fun h => ?_).symm
  rw [x4.2 (mP.1 h).2.1] at h2
  simp at h2
 ·refine (decide_eq_false fun h => ?_).symm
  rw [(mP.1 h).1] at hb
  simp at hb
theorem B9 {q : Rat} {n : Nat} (K : Nat) (pre : aC) : ay P ot K [.rat q n] pre (aF (.int .i64 (ej q)) []) := by
 refine bt hT pA hm YZ rfl (of_decide_eq_true (by kernel_rfl)) rfl 60 WJ (fun _ => ?_) K pre
 simp only [aa.all, ax, beq_iff_eq, beq_eq_false_iff_ne, ne_eq]
 refine ⟨by omega, fun hb => bB ?_, fun hb => ⟨by omega, fun hc => bB ?_, fun hc => bB ?_⟩⟩
 ·have h0 : q = 0 := kD.1 (gI.1 (by omega))
  subst h0
  rfl
 ·have := of_decide_eq_true hc
  unfold ej; rw [if_pos this]
 ·have h1 := of_decide_eq_false hc
  have h0 : q ≠ 0 := fun h => hb (by rw [h]; rfl)
  unfold ej; rw [if_neg h1, if_pos (IJ h0 h1)]
theorem aaR {q : Rat} {n : Nat} (K : Nat) (pre : aC) : ay P mQ K [.rat q n] pre (aF (.rat (-q) n) []) := by
 refine gT fun ⟨hs1, _⟩ => ?_
 have hs1 : Sz q n := hs1
 have hs2 := hs1.neg
 have e1 : (-q).num.natAbs = q.num.natAbs := by rw [Rat.neg_num, Int.natAbs_neg]
 have e2 : (-q).den = q.den := Rat.neg_den q
 refine bt hT pA hm Vu rfl (of_decide_eq_true (by kernel_rfl)) rfl 60 PS (fun _ => ?_) K pre
 simp only [aa.all, ax]
 refine ⟨fun hb => ⟨⟨by omega, hb, by omega, by omega⟩, ⟨by omega, by omega⟩, by omega, j6 hs2 ?_ e1.symm (by rw [e2])⟩, fun hb => ⟨⟨by omega, hb, by omega⟩, ⟨by omega, by omega⟩, by omega, j6 hs2 ?_ e1.symm (by rw [e2])⟩⟩
 ·have hq : ¬ q < 0 := by simpa using hb
  rw [cond_true]
  have h1 : ¬ q.num < 0 := fun h => hq (fc.2 h)
  exact ((decide_eq_decide (p := -q < 0) (q := (nl q.num.natAbs : Int) > 0)).2 (by
   rw [fc, Rat.neg_num]
   have := eL (N := q.num.natAbs)
   omega)).symm
 ·have hq : q < 0 := by simpa using hb
  have := fc.1 hq
  exact (decide_eq_false (p := -q < 0) (by rw [fc, Rat.neg_num]; omega)).symm
def xH (g : Rat → Nat → cF) : Spec := bA fun l => match l with
 | [.rat q n] => some (g q n)
 | _ => none
theorem Cl {f : FuncId} {g : Rat → Nat → cF} (h : ∀ {q : Rat} {n : Nat} K, ay P f K [.rat q n] [] (g q n)) : ∀ K args pre r, xH g K args pre = some r → ay P f K args pre r := by
 refine bQ fun K args r hk hs _ => ?_
 split at hs
 ·simp only [Option.some.injEq] at hs
  subst hs
  exact h K
 ·simp at hs
def DO : Spec := xH fun q _ => aF (.mag q.den) []
theorem YB : ∀ K args pre r, DO K args pre = some r → ay P vY K args pre r := Cl fun K => Oz K []
def Jb : Spec := xH fun q _ => aF (.int .i64 (ej q)) []
theorem ZL : ∀ K args pre r, Jb K args pre = some r → ay P ot K args pre r := Cl fun K => B9 K []
def wS : Spec := xH fun q n => aF (.rat (-q) n) []
theorem Cg : ∀ K args pre r, wS K args pre = some r → ay P mQ K args pre r := Cl fun K => aaR K []
def HR : Spec := bA fun l => match l with
 | [.int .i64 n] => some (aF (.tuple [.mag n.natAbs, .bool (decide (n < 0))]) [-2 ^ 63 ≤ n, n < 2 ^ 63])
 | _ => none
theorem UN : ∀ K args pre r, HR K args pre = some r → ay P uP K args pre r := by
 refine bQ fun K args r hk hs _ => ?_
 split at hs
 ·simp only [Option.some.injEq] at hs
  subst hs
  exact fun need => N9 need.1 need.2 K [] trivial
 ·simp at hs
def EW : Spec := bA fun l => match l with
 | [.bool b, x, y] => match gi x, gi y with
  | some N, some D => some (aF (.rat (sQ b N D) (bX (sQ b N D))) [nl N < 2 ^ 38, nl D < 2 ^ 38, D ≠ 0])
  | _, _ => none
 | _ => none
theorem Ok : ∀ K args pre r, EW K args pre = some r → ay P uY K args pre r := by
 refine bQ fun K args r hk hs _ => ?_
 split at hs
 ·split at hs
  ·rename_i N D h1 h2
   simp only [Option.some.injEq] at hs
   subst hs
   exact fun need => fk (YA need.1 need.2.1 need.2.2 K []) hk ⟨.refl _, iY h1, iY h2, trivial⟩ [] trivial
  ·simp at hs
 ·simp at hs
end Go.Am.B
