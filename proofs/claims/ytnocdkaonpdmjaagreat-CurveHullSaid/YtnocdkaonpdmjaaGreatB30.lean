/- ref02: Den, reduce, size, Make, Frac, Int, Same, Sign, Neg. -/
import Derived.Test.YtnocdkaonpdmjaaGreatB29
set_option linter.unusedVariables false
namespace Go.Am.B
open Go Go.Am.N AV
theorem Vz : aO P vq xA (ax xA) := aP LM (by kernel_rfl) (by kernel_rfl) (by kernel_rfl)
theorem YZ : aO P tc tf (ax tf) := aP V8 (by kernel_rfl) (by kernel_rfl) (by kernel_rfl)
theorem VZ : aO P rL vr (ax vr) := aP Th (by kernel_rfl) (by kernel_rfl) (by kernel_rfl)
theorem NC : aO P rT sr (ax sr) := aP RL (by kernel_rfl) (by kernel_rfl) (by kernel_rfl)
theorem abf : aO P oX vm (ax vm) := aP Ve (by kernel_rfl) (by kernel_rfl) (by kernel_rfl)
theorem LF : aO P o9 vf (ax vf) := aP Z9 (by kernel_rfl) (by kernel_rfl) (by kernel_rfl)
def GE : aQ := [(kS, p7), (wM, IB), (qV, JC), (l7, sI), (mo, s8)]
theorem qn : bg P GE := aH vG (aH abU (aH E9 (aH yQ (aH yg bn))))
theorem Z2 {q : Rat} {n : Nat} : bB T GE [6] 60 xA (ax xA) ⟨aL 0 [.rat q n], [], 0⟩ =
  some (aa.ag [(0 : Nat) < 1] (aa.fork ((↑(nl (if q.den = 1 then 0 else q.den)) : Int) == (0 : Int)) (aa.ag [(1 : Nat) * 1 ≤ 2 ^ 24] (aa.leaf aj.ret [ak 1 1 fun (i : Nat) ↦ nth [int IntKind.u32 (1 : Int)] (int IntKind.u32 (0 : Int)) (i + 0)])) (aa.ag [(0 : Nat) < 1] (aa.leaf aj.ret [mag (if q.den = 1 then 0 else q.den)])))) := by kernel_rfl
theorem XH {b : Bool} {N D : Nat} : bB T GE [14, 22, 27, 45, 50] 60 tf (ax tf) ⟨aL 0 [.bool b, .mag N, .mag D], [], 0⟩ =
  some (aa.ag [nl N < 2 ^ 40, nl D < 2 ^ 40] (aa.fork ((↑(nl N) : Int) == (0 : Int)) (aa.ag [(0 : Nat) < 1] (aa.ag [(0 : Nat) < 1] (aa.leaf aj.ret [agg [AV.bool false, mag 0, mag 0]]))) (aa.ag [nl N < 2 ^ 38, nl D < 2 ^ 38] (aa.fork ((↑(nl (N.gcd D)) : Int) != (1 : Int)) (aa.ag [((↑(nl (N.gcd D)) : Int) != (1 : Int)) = true] (aa.fork true (aa.ag [nl N < 2 ^ 38, nl (N.gcd D) < 2 ^ 38] (aa.ag [nl D < 2 ^ 38, nl (N.gcd D) < 2 ^ 38] (aa.fork ((↑(nl (D / N.gcd D)) : Int) == (1 : Int)) (aa.ag [((↑(nl (D / N.gcd D)) : Int) == (1 : Int)) = true, (0 : Int) ≤ (0 : Int) ∧ Int.toNat (0 : Int) < nl (D / N.gcd D)] (aa.fork (bif true then (↑(au (D / N.gcd D) (Int.toNat (0 : Int))) : Int) == (1 : Int) else false) (aa.ag [(0 : Nat) < 1] (aa.ag [(0 : Nat) < 1] (aa.leaf aj.ret [agg [AV.bool b, mag (N / N.gcd D), nil]]))) (aa.ag [(0 : Nat) < 1] (aa.ag [(0 : Nat) < 1] (aa.leaf aj.ret [agg [AV.bool b, mag (N / N.gcd D), mag (D / N.gcd D)]]))))) (aa.ag [((↑(nl (D / N.gcd D)) : Int) == (1 : Int)) = false] (aa.fork false (aa.ag [(0 : Nat) < 1] (aa.ag [(0 : Nat) < 1] (aa.leaf aj.ret [agg [AV.bool b, mag (N / N.gcd D), nil]]))) (aa.ag [(0 : Nat) < 1] (aa.ag [(0 : Nat) < 1] (aa.leaf aj.ret [agg [AV.bool b, mag (N / N.gcd D), mag (D / N.gcd D)]])))))))) (aa.fork ((↑(nl D) : Int) == (1 : Int)) (aa.ag [((↑(nl D) : Int) == (1 : Int)) = true, (0 : Int) ≤ (0 : Int) ∧ Int.toNat (0 : Int) < nl D] (aa.fork (bif true then (↑(au D (Int.toNat (0 : Int))) : Int) == (1 : Int) else false) (aa.ag [(0 : Nat) < 1] (aa.ag [(0 : Nat) < 1] (aa.leaf aj.ret [agg [AV.bool b, mag N, nil]]))) (aa.ag [(0 : Nat) < 1] (aa.ag [(0 : Nat) < 1] (aa.leaf aj.ret [agg [AV.bool b, mag N, mag D]]))))) (aa.ag [((↑(nl D) : Int) == (1 : Int)) = false] (aa.fork false (aa.ag [(0 : Nat) < 1] (aa.ag [(0 : Nat) < 1] (aa.leaf aj.ret [agg [AV.bool b, mag N, nil]]))) (aa.ag [(0 : Nat) < 1] (aa.ag [(0 : Nat) < 1] (aa.leaf aj.ret [agg [AV.bool b, mag N, mag D]])))))))) (aa.ag [((↑(nl (N.gcd D)) : Int) != (1 : Int)) = false, (0 : Int) ≤ (0 : Int) ∧ Int.toNat (0 : Int) < nl (N.gcd D)] (aa.fork (bif false then true else (↑(au (N.gcd D) (Int.toNat (0 : Int))) : Int) != (1 : Int)) (aa.ag [nl N < 2 ^ 38, nl (N.gcd D) < 2 ^ 38] (aa.ag [nl D < 2 ^ 38, nl (N.gcd D) < 2 ^ 38] (aa.fork ((↑(nl (D / N.gcd D)) : Int) == (1 : Int)) (aa.ag [((↑(nl (D / N.gcd D)) : Int) == (1 : Int)) = true, (0 : Int) ≤ (0 : Int) ∧ Int.toNat (0 : Int) < nl (D / N.gcd D)] (aa.fork (bif true then (↑(au (D / N.gcd D) (Int.toNat (0 : Int))) : Int) == (1 : Int) else false) (aa.ag [(0 : Nat) < 1] (aa.ag [(0 : Nat) < 1] (aa.leaf aj.ret [agg [AV.bool b, mag (N / N.gcd D), nil]]))) (aa.ag [(0 : Nat) < 1] (aa.ag [(0 : Nat) < 1] (aa.leaf aj.ret [agg [AV.bool b, mag (N / N.gcd D), mag (D / N.gcd D)]]))))) (aa.ag [((↑(nl (D / N.gcd D)) : Int) == (1 : Int)) = false] (aa.fork false (aa.ag [(0 : Nat) < 1] (aa.ag [(0 : Nat) < 1] (aa.leaf aj.ret [agg [AV.bool b, mag (N / N.gcd D), nil]]))) (aa.ag [(0 : Nat) < 1] (aa.ag [(0 : Nat) < 1] (aa.leaf aj.ret [agg [AV.bool b, mag (N / N.gcd D), mag (D / N.gcd D)]])))))))) (aa.fork ((↑(nl D) : Int) == (1 : Int)) (aa.ag [((↑(nl D) : Int) == (1 : Int)) = true, (0 : Int) ≤ (0 : Int) ∧ Int.toNat (0 : Int) < nl D] (aa.fork (bif true then (↑(au D (Int.toNat (0 : Int))) : Int) == (1 : Int) else false) (aa.ag [(0 : Nat) < 1] (aa.ag [(0 : Nat) < 1] (aa.leaf aj.ret [agg [AV.bool b, mag N, nil]]))) (aa.ag [(0 : Nat) < 1] (aa.ag [(0 : Nat) < 1] (aa.leaf aj.ret [agg [AV.bool b, mag N, mag D]]))))) (aa.ag [((↑(nl D) : Int) == (1 : Int)) = false] (aa.fork false (aa.ag [(0 : Nat) < 1] (aa.ag [(0 : Nat) < 1] (aa.leaf aj.ret [agg [AV.bool b, mag N, nil]]))) (aa.ag [(0 : Nat) < 1] (aa.ag [(0 : Nat) < 1] (aa.leaf aj.ret [agg [AV.bool b, mag N, mag D]])))))))))))) := by kernel_rfl
theorem WZ {n : Int} : bB T GE [5] 60 vr (ax vr) ⟨aL 0 [.int .i64 n], [], 0⟩ =
  some (aa.fork (decide (n < (0 : Int))) (aa.ag [(0 : Int) ≤ IntKind.u64.wrap (IntKind.u64.wrap (IntKind.i64.wrap ((0 : Int) - IntKind.i64.wrap (n + (1 : Int)))) + (1 : Int)) ∧ IntKind.u64.wrap (IntKind.u64.wrap (IntKind.i64.wrap ((0 : Int) - IntKind.i64.wrap (n + (1 : Int)))) + (1 : Int)) < (2 : Int) ^ 64] (aa.leaf aj.ret [mag (IntKind.u64.wrap (IntKind.u64.wrap (IntKind.i64.wrap ((0 : Int) - IntKind.i64.wrap (n + (1 : Int)))) + (1 : Int))).toNat, AV.bool true])) (aa.ag [(0 : Int) ≤ IntKind.u64.wrap n ∧ IntKind.u64.wrap n < (2 : Int) ^ 64] (aa.leaf aj.ret [mag (IntKind.u64.wrap n).toNat, AV.bool false]))) := by kernel_rfl
theorem QE {q r : Rat} {n m : Nat} : bB T GE [10, 18] 60 sr (ax sr) ⟨aL 0 [.rat q n, .rat r m], [], 0⟩ =
  some (aa.fork (decide (q < 0) == decide (r < 0)) (aa.fork (bif true then bT q.num.natAbs r.num.natAbs == (0 : Int) else false) (aa.ag [(0 : Nat) < 1, (0 : Nat) < 1, (decide (q < 0) == decide (r < 0)) = true, (0 : Nat) < 1, (0 : Nat) < 1, nl q.num.natAbs < 2 ^ 40, nl r.num.natAbs < 2 ^ 40, (bif true then bT q.num.natAbs r.num.natAbs == (0 : Int) else false) = true, (0 : Nat) < 1, (0 : Nat) < 1, nl (if q.den = 1 then 0 else q.den) < 2 ^ 40, nl (if r.den = 1 then 0 else r.den) < 2 ^ 40] (aa.leaf aj.ret [AV.bool (bif true then bT (if q.den = 1 then 0 else q.den) (if r.den = 1 then 0 else r.den) == (0 : Int) else false)])) (aa.ag [(0 : Nat) < 1, (0 : Nat) < 1, (decide (q < 0) == decide (r < 0)) = true, (0 : Nat) < 1, (0 : Nat) < 1, nl q.num.natAbs < 2 ^ 40, nl r.num.natAbs < 2 ^ 40, (bif true then bT q.num.natAbs r.num.natAbs == (0 : Int) else false) = false] (aa.leaf aj.ret [AV.bool false]))) (aa.fork false (aa.ag [(0 : Nat) < 1, (0 : Nat) < 1, (decide (q < 0) == decide (r < 0)) = false, false = true, (0 : Nat) < 1, (0 : Nat) < 1, nl (if q.den = 1 then 0 else q.den) < 2 ^ 40, nl (if r.den = 1 then 0 else r.den) < 2 ^ 40] (aa.leaf aj.ret [AV.bool (bif true then bT (if q.den = 1 then 0 else q.den) (if r.den = 1 then 0 else r.den) == (0 : Int) else false)])) (aa.ag [(0 : Nat) < 1, (0 : Nat) < 1, (decide (q < 0) == decide (r < 0)) = false, false = false] (aa.leaf aj.ret [AV.bool false])))) := by kernel_rfl
theorem acn {q : Rat} {n : Nat} : bB T GE [6, 8] 60 vm (ax vm) ⟨aL 0 [.rat q n], [], 0⟩ =
  some (aa.ag [(0 : Nat) < 1] (aa.fork ((↑(nl q.num.natAbs) : Int) == (0 : Int)) (aa.leaf aj.ret [int IntKind.i64 (0 : Int)]) (aa.ag [(0 : Nat) < 1] (aa.fork (decide (q < 0)) (aa.leaf aj.ret [int IntKind.i64 (-1 : Int)]) (aa.leaf aj.ret [int IntKind.i64 (1 : Int)]))))) := by kernel_rfl
theorem KT {q : Rat} {n : Nat} : bB T GE [6] 60 vf (ax vf) ⟨aL 0 [.rat q n], [], 0⟩ =
  some (aa.fork (!decide (q < 0)) (aa.ag [(0 : Nat) < 1, (!decide (q < 0)) = true, (0 : Nat) < 1, (0 : Nat) < 1] (aa.ag [(0 : Nat) < 1, (0 : Nat) < 1] (aa.ag [(0 : Nat) < 1] (aa.leaf aj.ret [agg [AV.bool (bif true then decide ((↑(nl q.num.natAbs) : Int) > (0 : Int)) else false), mag q.num.natAbs, mag (if q.den = 1 then 0 else q.den)]])))) (aa.ag [(0 : Nat) < 1, (!decide (q < 0)) = false, (0 : Nat) < 1] (aa.ag [(0 : Nat) < 1, (0 : Nat) < 1] (aa.ag [(0 : Nat) < 1] (aa.leaf aj.ret [agg [AV.bool false, mag q.num.natAbs, mag (if q.den = 1 then 0 else q.den)]]))))) := by kernel_rfl
theorem abD {q : Rat} {n : Nat} (K : Nat) (pre : aD) : aA P vq K [.rat q n] pre (aG (.mag q.den) []) := by
 refine bH hT qn hm Vz rfl (of_decide_eq_true (by kernel_rfl)) rfl 60 Z2 (fun _ => ?_) K pre
 simp only [aa.all, ay, beq_iff_eq, beq_eq_false_iff_ne, ne_eq]
 refine ⟨by omega, fun hb => ⟨by omega, ?_⟩, fun hb => ⟨by omega, cI ?_⟩⟩
 ·have h0 := q.den_nz
  have : (if q.den = 1 then 0 else q.den) = 0 := gH.1 (by omega)
  have h1 : q.den = 1 := by split at this; assumption; exact absurd this h0
  rw [h1]
  exact jd (by decide) fun i hi => by rw [show i = 0 by omega]; exact congrArg (AV.int IntKind.u32) (show (1 : Int) = ((au 1 0 : Nat) : Int) by decide)
 ·have : q.den ≠ 1 := fun h => hb (by rw [if_pos h]; rfl)
  rw [if_neg this]
theorem OI {b : Bool} {N D : Nat} (hN : nl N < 2 ^ 38) (hD : nl D < 2 ^ 38) (hD0 : D ≠ 0) (K : Nat) (pre : aD) : aA P tc K [.bool b, .mag N, .mag D] pre (aG (.rat (sQ b N D) (bS (sQ b N D))) []) := by
 refine bH hT qn hm YZ rfl (of_decide_eq_true (by kernel_rfl)) rfl 60 XH (fun _ => ?_) K pre
 have hz : sQ b N D = 0 → bA (.agg [.bool false, .mag 0, .mag 0]) (.rat (sQ b N D) (bS (sQ b N D))) := fun h => by
  rw [h]; exact kz
 simp only [aa.all, ay, beq_iff_eq, beq_eq_false_iff_ne, ne_eq, bne_iff_ne, bne_eq_false_iff_eq, Int.toNat_zero]
 refine ⟨⟨by omega, by omega⟩, fun hb => ⟨by omega, by omega, hz ?_⟩, fun hb => ?_⟩
 ·rw [gH.1 (show nl N = 0 by omega), A6]
 have hN0 : N ≠ 0 := fun h => hb (by rw [gH.2 h]; rfl)
 have hg : nl (Nat.gcd N D) < 2 ^ 38 := Nat.lt_of_le_of_lt (fu (Nat.gcd_le_left _ (by omega))) hN
 have hg0 : 0 < Nat.gcd N D := Nat.gcd_pos_of_pos_left _ (by omega)
 have hl : ∀ {Y : Nat}, nl Y = 1 → au Y 0 = Y := fun {Y} h => by
  have := eC (N := Y)
  rw [h, val, val] at this
  simpa using this
 have h1 : ∀ {X Y : Nat}, X = N / Nat.gcd N D → Y = D / Nat.gcd N D → Y ≠ 1 → bA (.agg [.bool b, .mag X, .mag Y]) (.rat (sQ b N D) (bS (sQ b N D))) := fun eX eY h => pU hN0 hD0 eX (by rw [← eY, if_neg h]) sO
 have h2 : ∀ {X Y : Nat}, X = N / Nat.gcd N D → Y = D / Nat.gcd N D → Y = 1 → bA (.agg [.bool b, .mag X, .nil]) (.rat (sQ b N D) (bS (sQ b N D))) := fun eX eY h => Kf.trans (pU hN0 hD0 eX (by rw [← eY, if_pos h]) sO)
 have i1 : ∀ {Y : Nat}, (nl Y : Int) = 1 → (bif true then ((au Y 0 : Nat) : Int) == (1 : Int) else false) = true → Y = 1 := fun {Y} h hc => by
  have := gu hc
  rw [hl (by omega)] at this
  have := eq_of_beq this
  omega
 have i2 : ∀ {Y : Nat}, (nl Y : Int) = 1 → (bif true then ((au Y 0 : Nat) : Int) == (1 : Int) else false) = false → Y ≠ 1 := fun {Y} h hc h1 => by
  have := gu hc
  rw [hl (by omega), h1] at this
  simp at this
 have i3 : ∀ {Y : Nat}, ¬ (nl Y : Int) = 1 → Y ≠ 1 := fun {Y} h h1 => h (by rw [h1]; decide)
 have g1 : (nl (Nat.gcd N D) : Int) = 1 → (bif false then true else ((au (Nat.gcd N D) 0 : Nat) : Int) != (1 : Int)) = false → Nat.gcd N D = 1 := fun h hc => by
  have := fJ hc
  rw [hl (by omega)] at this
  simp at this
  omega
 refine ⟨⟨hN, hD⟩, fun hb => ⟨hb, fun _ => ⟨⟨hN, hg⟩, ⟨hD, hg⟩, ?_⟩, fun h => by simp at h⟩, fun hb => ⟨⟨hb, by omega, by omega⟩, fun hc => ⟨⟨hN, hg⟩, ⟨hD, hg⟩, ?_⟩, fun hc => ?_⟩⟩
 ·exact ⟨fun hb => ⟨⟨hb, by omega, by omega⟩, fun hc => ⟨by omega, by omega, h2 rfl rfl (i1 hb hc)⟩, fun hc => ⟨by omega, by omega, h1 rfl rfl (i2 hb hc)⟩⟩, fun hb => ⟨hb, fun h => by simp at h, fun _ => ⟨by omega, by omega, h1 rfl rfl (i3 hb)⟩⟩⟩
 ·exact ⟨fun hb => ⟨⟨hb, by omega, by omega⟩, fun hc => ⟨by omega, by omega, h2 rfl rfl (i1 hb hc)⟩, fun hc => ⟨by omega, by omega, h1 rfl rfl (i2 hb hc)⟩⟩, fun hb => ⟨hb, fun h => by simp at h, fun _ => ⟨by omega, by omega, h1 rfl rfl (i3 hb)⟩⟩⟩
 ·have e := g1 hb hc
  have eN : N = N / Nat.gcd N D := by rw [e, Nat.div_one]
  have eD : D = D / Nat.gcd N D := by rw [e, Nat.div_one]
  exact ⟨fun hb => ⟨⟨hb, by omega, by omega⟩, fun hc => ⟨by omega, by omega, h2 eN eD (i1 hb hc)⟩, fun hc => ⟨by omega, by omega, h1 eN eD (i2 hb hc)⟩⟩, fun hb => ⟨hb, fun h => by simp at h, fun _ => ⟨by omega, by omega, h1 eN eD (i3 hb)⟩⟩⟩
theorem Q2 {n : Int} (h1 : -2 ^ 63 ≤ n) (h2 : n < 2 ^ 63) (K : Nat) (pre : aD) : aA P rL K [.int .i64 n] pre (aG (.tuple [.mag n.natAbs, .bool (decide (n < 0))]) []) := by
 refine bH hT qn hm VZ rfl (of_decide_eq_true (by kernel_rfl)) rfl 60 WZ (fun _ => ?_) K pre
 simp only [aa.all, ay, decide_eq_true_eq, decide_eq_false_iff_not]
 refine ⟨fun hb => ?_, fun hb => ?_⟩
 ·have e : IntKind.i64.wrap (n + 1) = n + 1 := wrap_i64 (by omega) (by omega)
  have e1 : IntKind.i64.wrap (0 - (n + 1)) = -n - 1 := by rw [wrap_i64 (by omega) (by omega)]; omega
  have e2 : IntKind.u64.wrap (-n - 1) = -n - 1 := wrap_u64 (by omega) (by omega)
  have e3 : IntKind.u64.wrap (-n - 1 + 1) = ((n.natAbs : Nat) : Int) := by rw [wrap_u64 (by omega) (by omega)]; omega
  rw [e, e1, e2, e3]
  exact ⟨by omega, cI (by rw [Int.toNat_natCast]), eO (by simp [hb]), trivial⟩
 ·have e3 : IntKind.u64.wrap n = ((n.natAbs : Nat) : Int) := by rw [wrap_u64 (by omega) (by omega)]; omega
  rw [e3]
  exact ⟨by omega, cI (by rw [Int.toNat_natCast]), eO (by simp [hb]), trivial⟩
theorem Aq {a b : Nat} : bT a b = 0 ↔ a = b := by unfold bT; split <;> (try split) <;> omega
theorem JS {q r : Rat} {n m : Nat} (hn : n < 2 ^ 44) (hm' : m < 2 ^ 44) (K : Nat) (pre : aD) : aA P rT K [.rat q n, .rat r m] pre (aG (.bool (decide (q = r))) []) := by
 refine gL fun ⟨hs1, hs2, _⟩ => ?_
 obtain ⟨a1, a2, a3⟩ := Sz.gr hs1 hn
 obtain ⟨b1, b2, b3⟩ := Sz.gr hs2 hm'
 refine bH hT qn hm NC rfl (of_decide_eq_true (by kernel_rfl)) rfl 60 QE (fun _ => ?_) K pre
 simp only [aa.all, ay]
 refine ⟨fun hb => ⟨fun hc => ⟨⟨by omega, by omega, hb, by omega, by omega, a1, b1, hc, by omega, by omega, a3, b3⟩, eO ?_⟩, fun hc => ⟨⟨by omega, by omega, hb, by omega, by omega, a1, b1, hc⟩, eO ?_⟩⟩, fun hb => ⟨fun h => by simp at h, fun _ => ⟨⟨by omega, by omega, hb, trivial⟩, eO ?_⟩⟩⟩
 ·have h1 := eq_of_beq hb
  have h2 := Aq.1 (eq_of_beq (gu hc))
  rw [cond_true]
  exact (decide_eq_decide (p := _ = (0 : Int)) (q := q = r)).2 ⟨fun h => mU.2 ⟨h1, h2, Aq.1 h⟩, fun h => Aq.2 (mU.1 h).2.2⟩
 ·have h2 := gu hc
  refine (decide_eq_false fun h => ?_).symm
  rw [Aq.2 (mU.1 h).2.1] at h2
  simp at h2
 ·refine (decide_eq_false fun h => ?_).symm
  rw [(mU.1 h).1] at hb
  simp at hb
theorem BF {q : Rat} {n : Nat} (K : Nat) (pre : aD) : aA P oX K [.rat q n] pre (aG (.int .i64 (bK q)) []) := by
 refine bH hT qn hm abf rfl (of_decide_eq_true (by kernel_rfl)) rfl 60 acn (fun _ => ?_) K pre
 simp only [aa.all, ay, beq_iff_eq, beq_eq_false_iff_ne, ne_eq]
 refine ⟨by omega, fun hb => bq ?_, fun hb => ⟨by omega, fun hc => bq ?_, fun hc => bq ?_⟩⟩
 ·have h0 : q = 0 := mB.1 (gH.1 (by omega))
  subst h0
  rfl
 ·have := of_decide_eq_true hc
  unfold bK; rw [if_pos this]
 ·have h1 := of_decide_eq_false hc
  have h0 : q ≠ 0 := fun h => hb (by rw [h]; rfl)
  unfold bK; rw [if_neg h1, if_pos (Hl h0 h1)]
theorem LO {q : Rat} {n : Nat} (K : Nat) (pre : aD) : aA P o9 K [.rat q n] pre (aG (.rat (-q) n) []) := by
 refine gL fun ⟨hs1, _⟩ => ?_
 have hs1 : Sz q n := hs1
 have hs2 := hs1.neg
 have e1 : (-q).num.natAbs = q.num.natAbs := by rw [Rat.neg_num, Int.natAbs_neg]
 have e2 : (-q).den = q.den := Rat.neg_den q
 refine bH hT qn hm LF rfl (of_decide_eq_true (by kernel_rfl)) rfl 60 KT (fun _ => ?_) K pre
 simp only [aa.all, ay]
 refine ⟨fun hb => ⟨⟨by omega, hb, by omega, by omega⟩, ⟨by omega, by omega⟩, by omega, oc hs2 ?_ e1.symm (by rw [e2])⟩, fun hb => ⟨⟨by omega, hb, by omega⟩, ⟨by omega, by omega⟩, by omega, oc hs2 ?_ e1.symm (by rw [e2])⟩⟩
 ·have hq : ¬ q < 0 := by simpa using hb
  rw [cond_true]
  have h1 : ¬ q.num < 0 := fun h => hq (gq.2 h)
  exact ((decide_eq_decide (p := -q < 0) (q := (nl q.num.natAbs : Int) > 0)).2 (by
   rw [gq, Rat.neg_num]
   have := eP (N := q.num.natAbs)
   omega)).symm
 ·have hq : q < 0 := by simpa using hb
  have := gq.1 hq
  exact (decide_eq_false (p := -q < 0) (by rw [gq, Rat.neg_num]; omega)).symm
def Ap (g : Rat → Nat → cA) : Spec := bu fun l => match l with
 | [.rat q n] => some (g q n)
 | _ => none
theorem Cp {f : FuncId} {g : Rat → Nat → cA} (h : ∀ {q : Rat} {n : Nat} K, aA P f K [.rat q n] [] (g q n)) : ∀ K args pre r, Ap g K args pre = some r → aA P f K args pre r := by
 refine bN fun K args r hk hs _ => ?_
 split at hs
 ·simp only [Option.some.injEq] at hs
  subst hs
  exact h K
 ·simp at hs
def H9 : Spec := Ap fun q _ => aG (.mag q.den) []
theorem T5 : ∀ K args pre r, H9 K args pre = some r → aA P vq K args pre r := Cp fun K => abD K []
def Ib : Spec := Ap fun q _ => aG (.int .i64 (bK q)) []
theorem OV : ∀ K args pre r, Ib K args pre = some r → aA P oX K args pre r := Cp fun K => BF K []
def A2 : Spec := Ap fun q n => aG (.rat (-q) n) []
theorem Gb : ∀ K args pre r, A2 K args pre = some r → aA P o9 K args pre r := Cp fun K => LO K []
def Gh : Spec := bu fun l => match l with
 | [.int .i64 n] => some (aG (.tuple [.mag n.natAbs, .bool (decide (n < 0))]) [-2 ^ 63 ≤ n, n < 2 ^ 63])
 | _ => none
theorem abw : ∀ K args pre r, Gh K args pre = some r → aA P rL K args pre r := by
 refine bN fun K args r hk hs _ => ?_
 split at hs
 ·simp only [Option.some.injEq] at hs
  subst hs
  exact fun need => Q2 need.1 need.2 K [] trivial
 ·simp at hs
def JX : Spec := bu fun l => match l with
 | [.bool b, x, y] => match gm x, gm y with
  | some N, some D => some (aG (.rat (sQ b N D) (bS (sQ b N D))) [nl N < 2 ^ 38, nl D < 2 ^ 38, D ≠ 0])
  | _, _ => none
 | _ => none
theorem Ye : ∀ K args pre r, JX K args pre = some r → aA P tc K args pre r := by
 refine bN fun K args r hk hs _ => ?_
 split at hs
 ·split at hs
  ·rename_i N D h1 h2
   simp only [Option.some.injEq] at hs
   subst hs
   exact fun need => fc (OI need.1 need.2.1 need.2.2 K []) hk ⟨.refl _, jg h1, jg h2, trivial⟩ [] trivial
  ·simp at hs
 ·simp at hs
end Go.Am.B
