/- ref02: Den, reduce, size, Make, Frac, Int, Same, Sign, Neg. -/
import Derived.Test.YtbghpkgbokbmlaaGreatB29
set_option linter.unusedVariables false
namespace Go.Am.B
open Go Go.Am.N AV
theorem Pn : aO P rV qX (au qX) := aL RR (by kernel_rfl) (by kernel_rfl) (by kernel_rfl)
theorem Gz : aO P qe pO (au pO) := aL RJ (by kernel_rfl) (by kernel_rfl) (by kernel_rfl)
theorem Hv : aO P rm qF (au qF) := aL J2 (by kernel_rfl) (by kernel_rfl) (by kernel_rfl)
theorem Lf : aO P p9 qv (au qv) := aL Qt (by kernel_rfl) (by kernel_rfl) (by kernel_rfl)
theorem M7 : aO P lH qO (au qO) := aL MY (by kernel_rfl) (by kernel_rfl) (by kernel_rfl)
theorem Hl : aO P kk rF (au rF) := aL JX (by kernel_rfl) (by kernel_rfl) (by kernel_rfl)
def GE : aP := [(jz, ov), (sL, C8), (nq, Di), (kE, oM), (kg, pR)]
theorem m9 : aX P GE := aE pT (aE P8 (aE AE (aE ug (aE vp aZ))))
theorem Jp {q : Rat} {n : Nat} : bw T GE [6] 60 qX (au qX) ⟨aM 0 [.rat q n], [], 0⟩ =
  some (aa.af [(0 : Nat) < 1] (aa.fork ((↑(nl (if q.den = 1 then 0 else q.den)) : Int) == (0 : Int)) (aa.af [(1 : Nat) * 1 ≤ 2 ^ 24] (aa.leaf ah.ret [ak 1 1 fun (i : Nat) ↦ nth [int IntKind.u32 (1 : Int)] (int IntKind.u32 (0 : Int)) (i + 0)])) (aa.af [(0 : Nat) < 1] (aa.leaf ah.ret [mag (if q.den = 1 then 0 else q.den)])))) := by kernel_rfl
theorem Ny {b : Bool} {N D : Nat} : bw T GE [14, 22, 27, 45, 50] 60 pO (au pO) ⟨aM 0 [.bool b, .mag N, .mag D], [], 0⟩ =
  some (aa.af [nl N < 2 ^ 40, nl D < 2 ^ 40] (aa.fork ((↑(nl N) : Int) == (0 : Int)) (aa.af [(0 : Nat) < 1] (aa.af [(0 : Nat) < 1] (aa.leaf ah.ret [agg [AV.bool false, mag 0, mag 0]]))) (aa.af [nl N < 2 ^ 38, nl D < 2 ^ 38] (aa.fork ((↑(nl (N.gcd D)) : Int) != (1 : Int)) (aa.af [((↑(nl (N.gcd D)) : Int) != (1 : Int)) = true] (aa.fork true (aa.af [nl N < 2 ^ 38, nl (N.gcd D) < 2 ^ 38] (aa.af [nl D < 2 ^ 38, nl (N.gcd D) < 2 ^ 38] (aa.fork ((↑(nl (D / N.gcd D)) : Int) == (1 : Int)) (aa.af [((↑(nl (D / N.gcd D)) : Int) == (1 : Int)) = true, (0 : Int) ≤ (0 : Int) ∧ Int.toNat (0 : Int) < nl (D / N.gcd D)] (aa.fork (bif true then (↑(aj (D / N.gcd D) (Int.toNat (0 : Int))) : Int) == (1 : Int) else false) (aa.af [(0 : Nat) < 1] (aa.af [(0 : Nat) < 1] (aa.leaf ah.ret [agg [AV.bool b, mag (N / N.gcd D), nil]]))) (aa.af [(0 : Nat) < 1] (aa.af [(0 : Nat) < 1] (aa.leaf ah.ret [agg [AV.bool b, mag (N / N.gcd D), mag (D / N.gcd D)]]))))) (aa.af [((↑(nl (D / N.gcd D)) : Int) == (1 : Int)) = false] (aa.fork false (aa.af [(0 : Nat) < 1] (aa.af [(0 : Nat) < 1] (aa.leaf ah.ret [agg [AV.bool b, mag (N / N.gcd D), nil]]))) (aa.af [(0 : Nat) < 1] (aa.af [(0 : Nat) < 1] (aa.leaf ah.ret [agg [AV.bool b, mag (N / N.gcd D), mag (D / N.gcd D)]])))))))) (aa.fork ((↑(nl D) : Int) == (1 : Int)) (aa.af [((↑(nl D) : Int) == (1 : Int)) = true, (0 : Int) ≤ (0 : Int) ∧ Int.toNat (0 : Int) < nl D] (aa.fork (bif true then (↑(aj D (Int.toNat (0 : Int))) : Int) == (1 : Int) else false) (aa.af [(0 : Nat) < 1] (aa.af [(0 : Nat) < 1] (aa.leaf ah.ret [agg [AV.bool b, mag N, nil]]))) (aa.af [(0 : Nat) < 1] (aa.af [(0 : Nat) < 1] (aa.leaf ah.ret [agg [AV.bool b, mag N, mag D]]))))) (aa.af [((↑(nl D) : Int) == (1 : Int)) = false] (aa.fork false (aa.af [(0 : Nat) < 1] (aa.af [(0 : Nat) < 1] (aa.leaf ah.ret [agg [AV.bool b, mag N, nil]]))) (aa.af [(0 : Nat) < 1] (aa.af [(0 : Nat) < 1] (aa.leaf ah.ret [agg [AV.bool b, mag N, mag D]])))))))) (aa.af [((↑(nl (N.gcd D)) : Int) != (1 : Int)) = false, (0 : Int) ≤ (0 : Int) ∧ Int.toNat (0 : Int) < nl (N.gcd D)] (aa.fork (bif false then true else (↑(aj (N.gcd D) (Int.toNat (0 : Int))) : Int) != (1 : Int)) (aa.af [nl N < 2 ^ 38, nl (N.gcd D) < 2 ^ 38] (aa.af [nl D < 2 ^ 38, nl (N.gcd D) < 2 ^ 38] (aa.fork ((↑(nl (D / N.gcd D)) : Int) == (1 : Int)) (aa.af [((↑(nl (D / N.gcd D)) : Int) == (1 : Int)) = true, (0 : Int) ≤ (0 : Int) ∧ Int.toNat (0 : Int) < nl (D / N.gcd D)] (aa.fork (bif true then (↑(aj (D / N.gcd D) (Int.toNat (0 : Int))) : Int) == (1 : Int) else false) (aa.af [(0 : Nat) < 1] (aa.af [(0 : Nat) < 1] (aa.leaf ah.ret [agg [AV.bool b, mag (N / N.gcd D), nil]]))) (aa.af [(0 : Nat) < 1] (aa.af [(0 : Nat) < 1] (aa.leaf ah.ret [agg [AV.bool b, mag (N / N.gcd D), mag (D / N.gcd D)]]))))) (aa.af [((↑(nl (D / N.gcd D)) : Int) == (1 : Int)) = false] (aa.fork false (aa.af [(0 : Nat) < 1] (aa.af [(0 : Nat) < 1] (aa.leaf ah.ret [agg [AV.bool b, mag (N / N.gcd D), nil]]))) (aa.af [(0 : Nat) < 1] (aa.af [(0 : Nat) < 1] (aa.leaf ah.ret [agg [AV.bool b, mag (N / N.gcd D), mag (D / N.gcd D)]])))))))) (aa.fork ((↑(nl D) : Int) == (1 : Int)) (aa.af [((↑(nl D) : Int) == (1 : Int)) = true, (0 : Int) ≤ (0 : Int) ∧ Int.toNat (0 : Int) < nl D] (aa.fork (bif true then (↑(aj D (Int.toNat (0 : Int))) : Int) == (1 : Int) else false) (aa.af [(0 : Nat) < 1] (aa.af [(0 : Nat) < 1] (aa.leaf ah.ret [agg [AV.bool b, mag N, nil]]))) (aa.af [(0 : Nat) < 1] (aa.af [(0 : Nat) < 1] (aa.leaf ah.ret [agg [AV.bool b, mag N, mag D]]))))) (aa.af [((↑(nl D) : Int) == (1 : Int)) = false] (aa.fork false (aa.af [(0 : Nat) < 1] (aa.af [(0 : Nat) < 1] (aa.leaf ah.ret [agg [AV.bool b, mag N, nil]]))) (aa.af [(0 : Nat) < 1] (aa.af [(0 : Nat) < 1] (aa.leaf ah.ret [agg [AV.bool b, mag N, mag D]])))))))))))) := by kernel_rfl
theorem Q4 {n : Int} : bw T GE [5] 60 qF (au qF) ⟨aM 0 [.int .i64 n], [], 0⟩ =
  some (aa.fork (decide (n < (0 : Int))) (aa.af [(0 : Int) ≤ IntKind.u64.wrap (IntKind.u64.wrap (IntKind.i64.wrap ((0 : Int) - IntKind.i64.wrap (n + (1 : Int)))) + (1 : Int)) ∧ IntKind.u64.wrap (IntKind.u64.wrap (IntKind.i64.wrap ((0 : Int) - IntKind.i64.wrap (n + (1 : Int)))) + (1 : Int)) < (2 : Int) ^ 64] (aa.leaf ah.ret [mag (IntKind.u64.wrap (IntKind.u64.wrap (IntKind.i64.wrap ((0 : Int) - IntKind.i64.wrap (n + (1 : Int)))) + (1 : Int))).toNat, AV.bool true])) (aa.af [(0 : Int) ≤ IntKind.u64.wrap n ∧ IntKind.u64.wrap n < (2 : Int) ^ 64] (aa.leaf ah.ret [mag (IntKind.u64.wrap n).toNat, AV.bool false]))) := by kernel_rfl
theorem Mc {q r : Rat} {n m : Nat} : bw T GE [10, 18] 60 qv (au qv) ⟨aM 0 [.rat q n, .rat r m], [], 0⟩ =
  some (aa.fork (decide (q < 0) == decide (r < 0)) (aa.fork (bif true then bB q.num.natAbs r.num.natAbs == (0 : Int) else false) (aa.af [(0 : Nat) < 1, (0 : Nat) < 1, (decide (q < 0) == decide (r < 0)) = true, (0 : Nat) < 1, (0 : Nat) < 1, nl q.num.natAbs < 2 ^ 40, nl r.num.natAbs < 2 ^ 40, (bif true then bB q.num.natAbs r.num.natAbs == (0 : Int) else false) = true, (0 : Nat) < 1, (0 : Nat) < 1, nl (if q.den = 1 then 0 else q.den) < 2 ^ 40, nl (if r.den = 1 then 0 else r.den) < 2 ^ 40] (aa.leaf ah.ret [AV.bool (bif true then bB (if q.den = 1 then 0 else q.den) (if r.den = 1 then 0 else r.den) == (0 : Int) else false)])) (aa.af [(0 : Nat) < 1, (0 : Nat) < 1, (decide (q < 0) == decide (r < 0)) = true, (0 : Nat) < 1, (0 : Nat) < 1, nl q.num.natAbs < 2 ^ 40, nl r.num.natAbs < 2 ^ 40, (bif true then bB q.num.natAbs r.num.natAbs == (0 : Int) else false) = false] (aa.leaf ah.ret [AV.bool false]))) (aa.fork false (aa.af [(0 : Nat) < 1, (0 : Nat) < 1, (decide (q < 0) == decide (r < 0)) = false, false = true, (0 : Nat) < 1, (0 : Nat) < 1, nl (if q.den = 1 then 0 else q.den) < 2 ^ 40, nl (if r.den = 1 then 0 else r.den) < 2 ^ 40] (aa.leaf ah.ret [AV.bool (bif true then bB (if q.den = 1 then 0 else q.den) (if r.den = 1 then 0 else r.den) == (0 : Int) else false)])) (aa.af [(0 : Nat) < 1, (0 : Nat) < 1, (decide (q < 0) == decide (r < 0)) = false, false = false] (aa.leaf ah.ret [AV.bool false])))) := by kernel_rfl
theorem MQ {q : Rat} {n : Nat} : bw T GE [6, 8] 60 qO (au qO) ⟨aM 0 [.rat q n], [], 0⟩ =
  some (aa.af [(0 : Nat) < 1] (aa.fork ((↑(nl q.num.natAbs) : Int) == (0 : Int)) (aa.leaf ah.ret [int IntKind.i64 (0 : Int)]) (aa.af [(0 : Nat) < 1] (aa.fork (decide (q < 0)) (aa.leaf ah.ret [int IntKind.i64 (-1 : Int)]) (aa.leaf ah.ret [int IntKind.i64 (1 : Int)]))))) := by kernel_rfl
theorem Qs {q : Rat} {n : Nat} : bw T GE [6] 60 rF (au rF) ⟨aM 0 [.rat q n], [], 0⟩ =
  some (aa.fork (!decide (q < 0)) (aa.af [(0 : Nat) < 1, (!decide (q < 0)) = true, (0 : Nat) < 1, (0 : Nat) < 1] (aa.af [(0 : Nat) < 1, (0 : Nat) < 1] (aa.af [(0 : Nat) < 1] (aa.leaf ah.ret [agg [AV.bool (bif true then decide ((↑(nl q.num.natAbs) : Int) > (0 : Int)) else false), mag q.num.natAbs, mag (if q.den = 1 then 0 else q.den)]])))) (aa.af [(0 : Nat) < 1, (!decide (q < 0)) = false, (0 : Nat) < 1] (aa.af [(0 : Nat) < 1, (0 : Nat) < 1] (aa.af [(0 : Nat) < 1] (aa.leaf ah.ret [agg [AV.bool false, mag q.num.natAbs, mag (if q.den = 1 then 0 else q.den)]]))))) := by kernel_rfl
theorem PU {q : Rat} {n : Nat} (K : Nat) (pre : aC) : az P rV K [.rat q n] pre (aG (.mag q.den) []) := by
 refine bC hT m9 hm Pn rfl (of_decide_eq_true (by kernel_rfl)) rfl 60 Jp (fun _ => ?_) K pre
 simp only [aa.all, ay, beq_iff_eq, beq_eq_false_iff_ne, ne_eq]
 refine ⟨by omega, fun hb => ⟨by omega, ?_⟩, fun hb => ⟨by omega, cI ?_⟩⟩
 ·have h0 := q.den_nz
  have : (if q.den = 1 then 0 else q.den) = 0 := gf.1 (by omega)
  have h1 : q.den = 1 := by split at this; assumption; exact absurd this h0
  rw [h1]
  exact gQ (by decide) fun i hi => by rw [show i = 0 by omega]; exact congrArg (AV.int IntKind.u32) (show (1 : Int) = ((aj 1 0 : Nat) : Int) by decide)
 ·have : q.den ≠ 1 := fun h => hb (by rw [if_pos h]; rfl)
  rw [if_neg this]
theorem QC {b : Bool} {N D : Nat} (hN : nl N < 2 ^ 38) (hD : nl D < 2 ^ 38) (hD0 : D ≠ 0) (K : Nat) (pre : aC) : az P qe K [.bool b, .mag N, .mag D] pre (aG (.rat (sQ b N D) (bH (sQ b N D))) []) := by
 refine bC hT m9 hm Gz rfl (of_decide_eq_true (by kernel_rfl)) rfl 60 Ny (fun _ => ?_) K pre
 have hz : sQ b N D = 0 → bp (.agg [.bool false, .mag 0, .mag 0]) (.rat (sQ b N D) (bH (sQ b N D))) := fun h => by
  rw [h]; exact hJ
 simp only [aa.all, ay, beq_iff_eq, beq_eq_false_iff_ne, ne_eq, bne_iff_ne, bne_eq_false_iff_eq, Int.toNat_zero]
 refine ⟨⟨by omega, by omega⟩, fun hb => ⟨by omega, by omega, hz ?_⟩, fun hb => ?_⟩
 ·rw [gf.1 (show nl N = 0 by omega), wu]
 have hN0 : N ≠ 0 := fun h => hb (by rw [gf.2 h]; rfl)
 have hg : nl (Nat.gcd N D) < 2 ^ 38 := Nat.lt_of_le_of_lt (eJ (Nat.gcd_le_left _ (by omega))) hN
 have hg0 : 0 < Nat.gcd N D := Nat.gcd_pos_of_pos_left _ (by omega)
 have hl : ∀ {Y : Nat}, nl Y = 1 → aj Y 0 = Y := fun {Y} h => by
  have := dX (N := Y)
  rw [h, val, val] at this
  simpa using this
 have h1 : ∀ {X Y : Nat}, X = N / Nat.gcd N D → Y = D / Nat.gcd N D → Y ≠ 1 → bp (.agg [.bool b, .mag X, .mag Y]) (.rat (sQ b N D) (bH (sQ b N D))) := fun eX eY h => mG hN0 hD0 eX (by rw [← eY, if_neg h]) pW
 have h2 : ∀ {X Y : Nat}, X = N / Nat.gcd N D → Y = D / Nat.gcd N D → Y = 1 → bp (.agg [.bool b, .mag X, .nil]) (.rat (sQ b N D) (bH (sQ b N D))) := fun eX eY h => BB.trans (mG hN0 hD0 eX (by rw [← eY, if_pos h]) pW)
 have i1 : ∀ {Y : Nat}, (nl Y : Int) = 1 → (bif true then ((aj Y 0 : Nat) : Int) == (1 : Int) else false) = true → Y = 1 := fun {Y} h hc => by
  have := fJ hc
  rw [hl (by omega)] at this
  have := eq_of_beq this
  omega
 have i2 : ∀ {Y : Nat}, (nl Y : Int) = 1 → (bif true then ((aj Y 0 : Nat) : Int) == (1 : Int) else false) = false → Y ≠ 1 := fun {Y} h hc h1 => by
  have := fJ hc
  rw [hl (by omega), h1] at this
  simp at this
 have i3 : ∀ {Y : Nat}, ¬ (nl Y : Int) = 1 → Y ≠ 1 := fun {Y} h h1 => h (by rw [h1]; decide)
 have g1 : (nl (Nat.gcd N D) : Int) = 1 → (bif false then true else ((aj (Nat.gcd N D) 0 : Nat) : Int) != (1 : Int)) = false → Nat.gcd N D = 1 := fun h hc => by
  have := eR hc
  rw [hl (by omega)] at this
  simp at this
  omega
 refine ⟨⟨hN, hD⟩, fun hb => ⟨hb, fun _ => ⟨⟨hN, hg⟩, ⟨hD, hg⟩, ?_⟩, fun h => by simp at h⟩, fun hb => ⟨⟨hb, by omega, by omega⟩, fun hc => ⟨⟨hN, hg⟩, ⟨hD, hg⟩, ?_⟩, fun hc => ?_⟩⟩
 ·exact ⟨fun hb => ⟨⟨hb, by omega, by omega⟩, fun hc => ⟨by omega, by omega, h2 rfl rfl (i1 hb hc)⟩, fun hc => ⟨by omega, by omega, h1 rfl rfl (i2 hb hc)⟩⟩, fun hb => ⟨hb, fun h => by simp at h, fun _ => ⟨by omega, by omega, h1 rfl rfl (i3 hb)⟩⟩⟩
 ·exact ⟨fun hb => ⟨⟨hb, by omega, by omega⟩, fun hc => ⟨by omega, by omega, h2 rfl rfl (i1 hb hc)⟩, fun hc => ⟨by omega, by omega, h1 rfl rfl (i2 hb hc)⟩⟩, fun hb => ⟨hb, fun h => by simp at h, fun _ => ⟨by omega, by omega, h1 rfl rfl (i3 hb)⟩⟩⟩
 ·have e := g1 hb hc
  have eN : N = N / Nat.gcd N D := by rw [e, Nat.div_one]
  have eD : D = D / Nat.gcd N D := by rw [e, Nat.div_one]
  exact ⟨fun hb => ⟨⟨hb, by omega, by omega⟩, fun hc => ⟨by omega, by omega, h2 eN eD (i1 hb hc)⟩, fun hc => ⟨by omega, by omega, h1 eN eD (i2 hb hc)⟩⟩, fun hb => ⟨hb, fun h => by simp at h, fun _ => ⟨by omega, by omega, h1 eN eD (i3 hb)⟩⟩⟩
theorem Qn {n : Int} (h1 : -2 ^ 63 ≤ n) (h2 : n < 2 ^ 63) (K : Nat) (pre : aC) : az P rm K [.int .i64 n] pre (aG (.tuple [.mag n.natAbs, .bool (decide (n < 0))]) []) := by
 refine bC hT m9 hm Hv rfl (of_decide_eq_true (by kernel_rfl)) rfl 60 Q4 (fun _ => ?_) K pre
 simp only [aa.all, ay, decide_eq_true_eq, decide_eq_false_iff_not]
 refine ⟨fun hb => ?_, fun hb => ?_⟩
 ·have e : IntKind.i64.wrap (n + 1) = n + 1 := wrap_i64 (by omega) (by omega)
  have e1 : IntKind.i64.wrap (0 - (n + 1)) = -n - 1 := by rw [wrap_i64 (by omega) (by omega)]; omega
  have e2 : IntKind.u64.wrap (-n - 1) = -n - 1 := bn (by omega) (by omega)
  have e3 : IntKind.u64.wrap (-n - 1 + 1) = ((n.natAbs : Nat) : Int) := by rw [bn (by omega) (by omega)]; omega
  rw [e, e1, e2, e3]
  exact ⟨by omega, cI (by rw [Int.toNat_natCast]), fZ (by simp [hb]), trivial⟩
 ·have e3 : IntKind.u64.wrap n = ((n.natAbs : Nat) : Int) := by rw [bn (by omega) (by omega)]; omega
  rw [e3]
  exact ⟨by omega, cI (by rw [Int.toNat_natCast]), fZ (by simp [hb]), trivial⟩
theorem uc {a b : Nat} : bB a b = 0 ↔ a = b := by unfold bB; split <;> (try split) <;> omega
theorem En {q r : Rat} {n m : Nat} (hn : n < 2 ^ 44) (hm' : m < 2 ^ 44) (K : Nat) (pre : aC) : az P p9 K [.rat q n, .rat r m] pre (aG (.bool (decide (q = r))) []) := by
 refine gk fun ⟨hs1, hs2, _⟩ => ?_
 obtain ⟨a1, a2, a3⟩ := Sz.gd hs1 hn
 obtain ⟨b1, b2, b3⟩ := Sz.gd hs2 hm'
 refine bC hT m9 hm Lf rfl (of_decide_eq_true (by kernel_rfl)) rfl 60 Mc (fun _ => ?_) K pre
 simp only [aa.all, ay]
 refine ⟨fun hb => ⟨fun hc => ⟨⟨by omega, by omega, hb, by omega, by omega, a1, b1, hc, by omega, by omega, a3, b3⟩, fZ ?_⟩, fun hc => ⟨⟨by omega, by omega, hb, by omega, by omega, a1, b1, hc⟩, fZ ?_⟩⟩, fun hb => ⟨fun h => by simp at h, fun _ => ⟨⟨by omega, by omega, hb, trivial⟩, fZ ?_⟩⟩⟩
 ·have h1 := eq_of_beq hb
  have h2 := uc.1 (eq_of_beq (fJ hc))
  rw [cond_true]
  exact (decide_eq_decide (p := _ = (0 : Int)) (q := q = r)).2 ⟨fun h => j9.2 ⟨h1, h2, uc.1 h⟩, fun h => uc.2 (j9.1 h).2.2⟩
 ·have h2 := fJ hc
  refine (decide_eq_false fun h => ?_).symm
  rw [uc.2 (j9.1 h).2.1] at h2
  simp at h2
 ·refine (decide_eq_false fun h => ?_).symm
  rw [(j9.1 h).1] at hb
  simp at hb
theorem wq {q : Rat} {n : Nat} (K : Nat) (pre : aC) : az P lH K [.rat q n] pre (aG (.int .i64 (dc q)) []) := by
 refine bC hT m9 hm M7 rfl (of_decide_eq_true (by kernel_rfl)) rfl 60 MQ (fun _ => ?_) K pre
 simp only [aa.all, ay, beq_iff_eq, beq_eq_false_iff_ne, ne_eq]
 refine ⟨by omega, fun hb => bf ?_, fun hb => ⟨by omega, fun hc => bf ?_, fun hc => bf ?_⟩⟩
 ·have h0 : q = 0 := jE.1 (gf.1 (by omega))
  subst h0
  rfl
 ·have := of_decide_eq_true hc
  unfold dc; rw [if_pos this]
 ·have h1 := of_decide_eq_false hc
  have h0 : q ≠ 0 := fun h => hb (by rw [h]; rfl)
  unfold dc; rw [if_neg h1, if_pos (El h0 h1)]
theorem OT {q : Rat} {n : Nat} (K : Nat) (pre : aC) : az P kk K [.rat q n] pre (aG (.rat (-q) n) []) := by
 refine gk fun ⟨hs1, _⟩ => ?_
 have hs1 : Sz q n := hs1
 have hs2 := hs1.neg
 have e1 : (-q).num.natAbs = q.num.natAbs := by rw [Rat.neg_num, Int.natAbs_neg]
 have e2 : (-q).den = q.den := Rat.neg_den q
 refine bC hT m9 hm Hl rfl (of_decide_eq_true (by kernel_rfl)) rfl 60 Qs (fun _ => ?_) K pre
 simp only [aa.all, ay]
 refine ⟨fun hb => ⟨⟨by omega, hb, by omega, by omega⟩, ⟨by omega, by omega⟩, by omega, kD hs2 ?_ e1.symm (by rw [e2])⟩, fun hb => ⟨⟨by omega, hb, by omega⟩, ⟨by omega, by omega⟩, by omega, kD hs2 ?_ e1.symm (by rw [e2])⟩⟩
 ·have hq : ¬ q < 0 := by simpa using hb
  rw [cond_true]
  have h1 : ¬ q.num < 0 := fun h => hq (eE.2 h)
  exact ((decide_eq_decide (p := -q < 0) (q := (nl q.num.natAbs : Int) > 0)).2 (by
   rw [eE, Rat.neg_num]
   have := dS (N := q.num.natAbs)
   omega)).symm
 ·have hq : q < 0 := by simpa using hb
  have := eE.1 hq
  exact (decide_eq_false (p := -q < 0) (by rw [eE, Rat.neg_num]; omega)).symm
def uS (g : Rat → Nat → b7) : Spec := bk fun l => match l with
 | [.rat q n] => some (g q n)
 | _ => none
theorem wL {f : FuncId} {g : Rat → Nat → b7} (h : ∀ {q : Rat} {n : Nat} K, az P f K [.rat q n] [] (g q n)) : ∀ K args pre r, uS g K args pre = some r → az P f K args pre r := by
 refine bD fun K args r hk hs _ => ?_
 split at hs
 ·simp only [Option.some.injEq] at hs
  subst hs
  exact h K
 ·simp at hs
def Bu : Spec := uS fun q _ => aG (.mag q.den) []
theorem TE : ∀ K args pre r, Bu K args pre = some r → az P rV K args pre r := wL fun K => PU K []
def DB : Spec := uS fun q _ => aG (.int .i64 (dc q)) []
theorem Gw : ∀ K args pre r, DB K args pre = some r → az P lH K args pre r := wL fun K => wq K []
def qR : Spec := uS fun q n => aG (.rat (-q) n) []
theorem vu : ∀ K args pre r, qR K args pre = some r → az P kk K args pre r := wL fun K => OT K []
def zp : Spec := bk fun l => match l with
 | [.int .i64 n] => some (aG (.tuple [.mag n.natAbs, .bool (decide (n < 0))]) [-2 ^ 63 ≤ n, n < 2 ^ 63])
 | _ => none
theorem UA : ∀ K args pre r, zp K args pre = some r → az P rm K args pre r := by
 refine bD fun K args r hk hs _ => ?_
 split at hs
 ·simp only [Option.some.injEq] at hs
  subst hs
  exact fun need => Qn need.1 need.2 K [] trivial
 ·simp at hs
def Co : Spec := bk fun l => match l with
 | [.bool b, x, y] => match fB x, fB y with
  | some N, some D => some (aG (.rat (sQ b N D) (bH (sQ b N D))) [nl N < 2 ^ 38, nl D < 2 ^ 38, D ≠ 0])
  | _, _ => none
 | _ => none
theorem Mo : ∀ K args pre r, Co K args pre = some r → az P qe K args pre r := by
 refine bD fun K args r hk hs _ => ?_
 split at hs
 ·split at hs
  ·rename_i N D h1 h2
   simp only [Option.some.injEq] at hs
   subst hs
   exact fun need => eF (QC need.1 need.2.1 need.2.2 K []) hk ⟨.refl _, gV h1, gV h2, trivial⟩ [] trivial
  ·simp at hs
 ·simp at hs
end Go.Am.B
