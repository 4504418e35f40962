/- ref02: Den, reduce, size, Make, Frac, Int, Same, Sign, Neg. -/
import Derived.Test.YtnocdkaonpdmjaaGreatB29
set_option linter.unusedVariables false
namespace Go.Am.B
open Go Go.Am.N AV
theorem NK : aN P vu vl (au vl) := aP VF (by kernel_rfl) (by kernel_rfl) (by kernel_rfl)
theorem V0 : aN P uE xW (au xW) := aP Vv (by kernel_rfl) (by kernel_rfl) (by kernel_rfl)
theorem Uy : aN P u9 tf (au tf) := aP Z7 (by kernel_rfl) (by kernel_rfl) (by kernel_rfl)
theorem NA : aN P tE vj (au vj) := aP Nh (by kernel_rfl) (by kernel_rfl) (by kernel_rfl)
theorem R4 : aN P pK xY (au xY) := aP NJ (by kernel_rfl) (by kernel_rfl) (by kernel_rfl)
theorem Xr : aN P rM v8 (au v8) := aP UU (by kernel_rfl) (by kernel_rfl) (by kernel_rfl)
def GE : aQ := [(lp, qd), (x8, JB), (rB, JI), (nr, xO), (mW, um)]
theorem p4 : aY P GE := aF xz (aF Pu (aF Ki (aF Ay (aF z5 bk))))
theorem acd {q : Rat} {n : Nat} : bu T GE [6] 60 vl (au vl) ⟨aL 0 [.rat q n], [], 0⟩ =
  some (aa.ag [(0 : Nat) < 1] (aa.fork ((↑(nl (if q.den = 1 then 0 else q.den)) : Int) == (0 : Int)) (aa.ag [(1 : Nat) * 1 ≤ 2 ^ 24] (aa.leaf ah.ret [ak 1 1 fun (i : Nat) ↦ nth [int IntKind.u32 (1 : Int)] (int IntKind.u32 (0 : Int)) (i + 0)])) (aa.ag [(0 : Nat) < 1] (aa.leaf ah.ret [mag (if q.den = 1 then 0 else q.den)])))) := by kernel_rfl
theorem Vi {b : Bool} {N D : Nat} : bu T GE [14, 22, 27, 45, 50] 60 xW (au xW) ⟨aL 0 [.bool b, .mag N, .mag D], [], 0⟩ =
  some (aa.ag [nl N < 2 ^ 40, nl D < 2 ^ 40] (aa.fork ((↑(nl N) : Int) == (0 : Int)) (aa.ag [(0 : Nat) < 1] (aa.ag [(0 : Nat) < 1] (aa.leaf ah.ret [agg [AV.bool false, mag 0, mag 0]]))) (aa.ag [nl N < 2 ^ 38, nl D < 2 ^ 38] (aa.fork ((↑(nl (N.gcd D)) : Int) != (1 : Int)) (aa.ag [((↑(nl (N.gcd D)) : Int) != (1 : Int)) = true] (aa.fork true (aa.ag [nl N < 2 ^ 38, nl (N.gcd D) < 2 ^ 38] (aa.ag [nl D < 2 ^ 38, nl (N.gcd D) < 2 ^ 38] (aa.fork ((↑(nl (D / N.gcd D)) : Int) == (1 : Int)) (aa.ag [((↑(nl (D / N.gcd D)) : Int) == (1 : Int)) = true, (0 : Int) ≤ (0 : Int) ∧ Int.toNat (0 : Int) < nl (D / N.gcd D)] (aa.fork (bif true then (↑(ax (D / N.gcd D) (Int.toNat (0 : Int))) : Int) == (1 : Int) else false) (aa.ag [(0 : Nat) < 1] (aa.ag [(0 : Nat) < 1] (aa.leaf ah.ret [agg [AV.bool b, mag (N / N.gcd D), nil]]))) (aa.ag [(0 : Nat) < 1] (aa.ag [(0 : Nat) < 1] (aa.leaf ah.ret [agg [AV.bool b, mag (N / N.gcd D), mag (D / N.gcd D)]]))))) (aa.ag [((↑(nl (D / N.gcd D)) : Int) == (1 : Int)) = false] (aa.fork false (aa.ag [(0 : Nat) < 1] (aa.ag [(0 : Nat) < 1] (aa.leaf ah.ret [agg [AV.bool b, mag (N / N.gcd D), nil]]))) (aa.ag [(0 : Nat) < 1] (aa.ag [(0 : Nat) < 1] (aa.leaf ah.ret [agg [AV.bool b, mag (N / N.gcd D), mag (D / N.gcd D)]])))))))) (aa.fork ((↑(nl D) : Int) == (1 : Int)) (aa.ag [((↑(nl D) : Int) == (1 : Int)) = true, (0 : Int) ≤ (0 : Int) ∧ Int.toNat (0 : Int) < nl D] (aa.fork (bif true then (↑(ax D (Int.toNat (0 : Int))) : Int) == (1 : Int) else false) (aa.ag [(0 : Nat) < 1] (aa.ag [(0 : Nat) < 1] (aa.leaf ah.ret [agg [AV.bool b, mag N, nil]]))) (aa.ag [(0 : Nat) < 1] (aa.ag [(0 : Nat) < 1] (aa.leaf ah.ret [agg [AV.bool b, mag N, mag D]]))))) (aa.ag [((↑(nl D) : Int) == (1 : Int)) = false] (aa.fork false (aa.ag [(0 : Nat) < 1] (aa.ag [(0 : Nat) < 1] (aa.leaf ah.ret [agg [AV.bool b, mag N, nil]]))) (aa.ag [(0 : Nat) < 1] (aa.ag [(0 : Nat) < 1] (aa.leaf ah.ret [agg [AV.bool b, mag N, mag D]])))))))) (aa.ag [((↑(nl (N.gcd D)) : Int) != (1 : Int)) = false, (0 : Int) ≤ (0 : Int) ∧ Int.toNat (0 : Int) < nl (N.gcd D)] (aa.fork (bif false then true else (↑(ax (N.gcd D) (Int.toNat (0 : Int))) : Int) != (1 : Int)) (aa.ag [nl N < 2 ^ 38, nl (N.gcd D) < 2 ^ 38] (aa.ag [nl D < 2 ^ 38, nl (N.gcd D) < 2 ^ 38] (aa.fork ((↑(nl (D / N.gcd D)) : Int) == (1 : Int)) (aa.ag [((↑(nl (D / N.gcd D)) : Int) == (1 : Int)) = true, (0 : Int) ≤ (0 : Int) ∧ Int.toNat (0 : Int) < nl (D / N.gcd D)] (aa.fork (bif true then (↑(ax (D / N.gcd D) (Int.toNat (0 : Int))) : Int) == (1 : Int) else false) (aa.ag [(0 : Nat) < 1] (aa.ag [(0 : Nat) < 1] (aa.leaf ah.ret [agg [AV.bool b, mag (N / N.gcd D), nil]]))) (aa.ag [(0 : Nat) < 1] (aa.ag [(0 : Nat) < 1] (aa.leaf ah.ret [agg [AV.bool b, mag (N / N.gcd D), mag (D / N.gcd D)]]))))) (aa.ag [((↑(nl (D / N.gcd D)) : Int) == (1 : Int)) = false] (aa.fork false (aa.ag [(0 : Nat) < 1] (aa.ag [(0 : Nat) < 1] (aa.leaf ah.ret [agg [AV.bool b, mag (N / N.gcd D), nil]]))) (aa.ag [(0 : Nat) < 1] (aa.ag [(0 : Nat) < 1] (aa.leaf ah.ret [agg [AV.bool b, mag (N / N.gcd D), mag (D / N.gcd D)]])))))))) (aa.fork ((↑(nl D) : Int) == (1 : Int)) (aa.ag [((↑(nl D) : Int) == (1 : Int)) = true, (0 : Int) ≤ (0 : Int) ∧ Int.toNat (0 : Int) < nl D] (aa.fork (bif true then (↑(ax D (Int.toNat (0 : Int))) : Int) == (1 : Int) else false) (aa.ag [(0 : Nat) < 1] (aa.ag [(0 : Nat) < 1] (aa.leaf ah.ret [agg [AV.bool b, mag N, nil]]))) (aa.ag [(0 : Nat) < 1] (aa.ag [(0 : Nat) < 1] (aa.leaf ah.ret [agg [AV.bool b, mag N, mag D]]))))) (aa.ag [((↑(nl D) : Int) == (1 : Int)) = false] (aa.fork false (aa.ag [(0 : Nat) < 1] (aa.ag [(0 : Nat) < 1] (aa.leaf ah.ret [agg [AV.bool b, mag N, nil]]))) (aa.ag [(0 : Nat) < 1] (aa.ag [(0 : Nat) < 1] (aa.leaf ah.ret [agg [AV.bool b, mag N, mag D]])))))))))))) := by kernel_rfl
theorem YU {n : Int} : bu T GE [5] 60 tf (au tf) ⟨aL 0 [.int .i64 n], [], 0⟩ =
  some (aa.fork (decide (n < (0 : Int))) (aa.ag [(0 : Int) ≤ IntKind.u64.wrap (IntKind.u64.wrap (IntKind.i64.wrap ((0 : Int) - IntKind.i64.wrap (n + (1 : Int)))) + (1 : Int)) ∧ IntKind.u64.wrap (IntKind.u64.wrap (IntKind.i64.wrap ((0 : Int) - IntKind.i64.wrap (n + (1 : Int)))) + (1 : Int)) < (2 : Int) ^ 64] (aa.leaf ah.ret [mag (IntKind.u64.wrap (IntKind.u64.wrap (IntKind.i64.wrap ((0 : Int) - IntKind.i64.wrap (n + (1 : Int)))) + (1 : Int))).toNat, AV.bool true])) (aa.ag [(0 : Int) ≤ IntKind.u64.wrap n ∧ IntKind.u64.wrap n < (2 : Int) ^ 64] (aa.leaf ah.ret [mag (IntKind.u64.wrap n).toNat, AV.bool false]))) := by kernel_rfl
theorem adI {q r : Rat} {n m : Nat} : bu T GE [10, 18] 60 vj (au vj) ⟨aL 0 [.rat q n, .rat r m], [], 0⟩ =
  some (aa.fork (decide (q < 0) == decide (r < 0)) (aa.fork (bif true then bT q.num.natAbs r.num.natAbs == (0 : Int) else false) (aa.ag [(0 : Nat) < 1, (0 : Nat) < 1, (decide (q < 0) == decide (r < 0)) = true, (0 : Nat) < 1, (0 : Nat) < 1, nl q.num.natAbs < 2 ^ 40, nl r.num.natAbs < 2 ^ 40, (bif true then bT q.num.natAbs r.num.natAbs == (0 : Int) else false) = true, (0 : Nat) < 1, (0 : Nat) < 1, nl (if q.den = 1 then 0 else q.den) < 2 ^ 40, nl (if r.den = 1 then 0 else r.den) < 2 ^ 40] (aa.leaf ah.ret [AV.bool (bif true then bT (if q.den = 1 then 0 else q.den) (if r.den = 1 then 0 else r.den) == (0 : Int) else false)])) (aa.ag [(0 : Nat) < 1, (0 : Nat) < 1, (decide (q < 0) == decide (r < 0)) = true, (0 : Nat) < 1, (0 : Nat) < 1, nl q.num.natAbs < 2 ^ 40, nl r.num.natAbs < 2 ^ 40, (bif true then bT q.num.natAbs r.num.natAbs == (0 : Int) else false) = false] (aa.leaf ah.ret [AV.bool false]))) (aa.fork false (aa.ag [(0 : Nat) < 1, (0 : Nat) < 1, (decide (q < 0) == decide (r < 0)) = false, false = true, (0 : Nat) < 1, (0 : Nat) < 1, nl (if q.den = 1 then 0 else q.den) < 2 ^ 40, nl (if r.den = 1 then 0 else r.den) < 2 ^ 40] (aa.leaf ah.ret [AV.bool (bif true then bT (if q.den = 1 then 0 else q.den) (if r.den = 1 then 0 else r.den) == (0 : Int) else false)])) (aa.ag [(0 : Nat) < 1, (0 : Nat) < 1, (decide (q < 0) == decide (r < 0)) = false, false = false] (aa.leaf ah.ret [AV.bool false])))) := by kernel_rfl
theorem adQ {q : Rat} {n : Nat} : bu T GE [6, 8] 60 xY (au xY) ⟨aL 0 [.rat q n], [], 0⟩ =
  some (aa.ag [(0 : Nat) < 1] (aa.fork ((↑(nl q.num.natAbs) : Int) == (0 : Int)) (aa.leaf ah.ret [int IntKind.i64 (0 : Int)]) (aa.ag [(0 : Nat) < 1] (aa.fork (decide (q < 0)) (aa.leaf ah.ret [int IntKind.i64 (-1 : Int)]) (aa.leaf ah.ret [int IntKind.i64 (1 : Int)]))))) := by kernel_rfl
theorem Zb {q : Rat} {n : Nat} : bu T GE [6] 60 v8 (au v8) ⟨aL 0 [.rat q n], [], 0⟩ =
  some (aa.fork (!decide (q < 0)) (aa.ag [(0 : Nat) < 1, (!decide (q < 0)) = true, (0 : Nat) < 1, (0 : Nat) < 1] (aa.ag [(0 : Nat) < 1, (0 : Nat) < 1] (aa.ag [(0 : Nat) < 1] (aa.leaf ah.ret [agg [AV.bool (bif true then decide ((↑(nl q.num.natAbs) : Int) > (0 : Int)) else false), mag q.num.natAbs, mag (if q.den = 1 then 0 else q.den)]])))) (aa.ag [(0 : Nat) < 1, (!decide (q < 0)) = false, (0 : Nat) < 1] (aa.ag [(0 : Nat) < 1, (0 : Nat) < 1] (aa.ag [(0 : Nat) < 1] (aa.leaf ah.ret [agg [AV.bool false, mag q.num.natAbs, mag (if q.den = 1 then 0 else q.den)]]))))) := by kernel_rfl
theorem abj {q : Rat} {n : Nat} (K : Nat) (pre : aD) : aA P vu K [.rat q n] pre (aG (.mag q.den) []) := by
 refine bC hT p4 hm NK rfl (of_decide_eq_true (by kernel_rfl)) rfl 60 acd (fun _ => ?_) K pre
 simp only [aa.all, ay, beq_iff_eq, beq_eq_false_iff_ne, ne_eq]
 refine ⟨by omega, fun hb => ⟨by omega, ?_⟩, fun hb => ⟨by omega, cI ?_⟩⟩
 ·have h0 := q.den_nz
  have : (if q.den = 1 then 0 else q.den) = 0 := gP.1 (by omega)
  have h1 : q.den = 1 := by split at this; assumption; exact absurd this h0
  rw [h1]
  exact jh (by decide) fun i hi => by rw [show i = 0 by omega]; exact congrArg (AV.int IntKind.u32) (show (1 : Int) = ((ax 1 0 : Nat) : Int) by decide)
 ·have : q.den ≠ 1 := fun h => hb (by rw [if_pos h]; rfl)
  rw [if_neg this]
theorem Qi {b : Bool} {N D : Nat} (hN : nl N < 2 ^ 38) (hD : nl D < 2 ^ 38) (hD0 : D ≠ 0) (K : Nat) (pre : aD) : aA P uE K [.bool b, .mag N, .mag D] pre (aG (.rat (sQ b N D) (bS (sQ b N D))) []) := by
 refine bC hT p4 hm V0 rfl (of_decide_eq_true (by kernel_rfl)) rfl 60 Vi (fun _ => ?_) K pre
 have hz : sQ b N D = 0 → bB (.agg [.bool false, .mag 0, .mag 0]) (.rat (sQ b N D) (bS (sQ b N D))) := fun h => by
  rw [h]; exact iu
 simp only [aa.all, ay, beq_iff_eq, beq_eq_false_iff_ne, ne_eq, bne_iff_ne, bne_eq_false_iff_eq, Int.toNat_zero]
 refine ⟨⟨by omega, by omega⟩, fun hb => ⟨by omega, by omega, hz ?_⟩, fun hb => ?_⟩
 ·rw [gP.1 (show nl N = 0 by omega), CB]
 have hN0 : N ≠ 0 := fun h => hb (by rw [gP.2 h]; rfl)
 have hg : nl (Nat.gcd N D) < 2 ^ 38 := Nat.lt_of_le_of_lt (fC (Nat.gcd_le_left _ (by omega))) hN
 have hg0 : 0 < Nat.gcd N D := Nat.gcd_pos_of_pos_left _ (by omega)
 have hl : ∀ {Y : Nat}, nl Y = 1 → ax Y 0 = Y := fun {Y} h => by
  have := eB (N := Y)
  rw [h, val, val] at this
  simpa using this
 have h1 : ∀ {X Y : Nat}, X = N / Nat.gcd N D → Y = D / Nat.gcd N D → Y ≠ 1 → bB (.agg [.bool b, .mag X, .mag Y]) (.rat (sQ b N D) (bS (sQ b N D))) := fun eX eY h => p9 hN0 hD0 eX (by rw [← eY, if_neg h]) x3
 have h2 : ∀ {X Y : Nat}, X = N / Nat.gcd N D → Y = D / Nat.gcd N D → Y = 1 → bB (.agg [.bool b, .mag X, .nil]) (.rat (sQ b N D) (bS (sQ b N D))) := fun eX eY h => I7.trans (p9 hN0 hD0 eX (by rw [← eY, if_pos h]) x3)
 have i1 : ∀ {Y : Nat}, (nl Y : Int) = 1 → (bif true then ((ax Y 0 : Nat) : Int) == (1 : Int) else false) = true → Y = 1 := fun {Y} h hc => by
  have := gG hc
  rw [hl (by omega)] at this
  have := eq_of_beq this
  omega
 have i2 : ∀ {Y : Nat}, (nl Y : Int) = 1 → (bif true then ((ax Y 0 : Nat) : Int) == (1 : Int) else false) = false → Y ≠ 1 := fun {Y} h hc h1 => by
  have := gG hc
  rw [hl (by omega), h1] at this
  simp at this
 have i3 : ∀ {Y : Nat}, ¬ (nl Y : Int) = 1 → Y ≠ 1 := fun {Y} h h1 => h (by rw [h1]; decide)
 have g1 : (nl (Nat.gcd N D) : Int) = 1 → (bif false then true else ((ax (Nat.gcd N D) 0 : Nat) : Int) != (1 : Int)) = false → Nat.gcd N D = 1 := fun h hc => by
  have := fD hc
  rw [hl (by omega)] at this
  simp at this
  omega
 refine ⟨⟨hN, hD⟩, fun hb => ⟨hb, fun _ => ⟨⟨hN, hg⟩, ⟨hD, hg⟩, ?_⟩, fun h => by simp at h⟩, fun hb => ⟨⟨hb, by omega, by omega⟩, fun hc => ⟨⟨hN, hg⟩, ⟨hD, hg⟩, ?_⟩, fun hc => ?_⟩⟩
 ·exact ⟨fun hb => ⟨⟨hb, by omega, by omega⟩, fun hc => ⟨by omega, by omega, h2 rfl rfl (i1 hb hc)⟩, fun hc => ⟨by omega, by omega, h1 rfl rfl (i2 hb hc)⟩⟩, fun hb => ⟨hb, fun h => by simp at h, fun _ => ⟨by omega, by omega, h1 rfl rfl (i3 hb)⟩⟩⟩
 ·exact ⟨fun hb => ⟨⟨hb, by omega, by omega⟩, fun hc => ⟨by omega, by omega, h2 rfl rfl (i1 hb hc)⟩, fun hc => ⟨by omega, by omega, h1 rfl rfl (i2 hb hc)⟩⟩, fun hb => ⟨hb, fun h => by simp at h, fun _ => ⟨by omega, by omega, h1 rfl rfl (i3 hb)⟩⟩⟩
 ·have e := g1 hb hc
  have eN : N = N / Nat.gcd N D := by rw [e, Nat.div_one]
  have eD : D = D / Nat.gcd N D := by rw [e, Nat.div_one]
  exact ⟨fun hb => ⟨⟨hb, by omega, by omega⟩, fun hc => ⟨by omega, by omega, h2 eN eD (i1 hb hc)⟩, fun hc => ⟨by omega, by omega, h1 eN eD (i2 hb hc)⟩⟩, fun hb => ⟨hb, fun h => by simp at h, fun _ => ⟨by omega, by omega, h1 eN eD (i3 hb)⟩⟩⟩
theorem SZ {n : Int} (h1 : -2 ^ 63 ≤ n) (h2 : n < 2 ^ 63) (K : Nat) (pre : aD) : aA P u9 K [.int .i64 n] pre (aG (.tuple [.mag n.natAbs, .bool (decide (n < 0))]) []) := by
 refine bC hT p4 hm Uy rfl (of_decide_eq_true (by kernel_rfl)) rfl 60 YU (fun _ => ?_) K pre
 simp only [aa.all, ay, decide_eq_true_eq, decide_eq_false_iff_not]
 refine ⟨fun hb => ?_, fun hb => ?_⟩
 ·have e : IntKind.i64.wrap (n + 1) = n + 1 := wrap_i64 (by omega) (by omega)
  have e1 : IntKind.i64.wrap (0 - (n + 1)) = -n - 1 := by rw [wrap_i64 (by omega) (by omega)]; omega
  have e2 : IntKind.u64.wrap (-n - 1) = -n - 1 := wrap_u64 (by omega) (by omega)
  have e3 : IntKind.u64.wrap (-n - 1 + 1) = ((n.natAbs : Nat) : Int) := by rw [wrap_u64 (by omega) (by omega)]; omega
  rw [e, e1, e2, e3]
  exact ⟨by omega, cI (by rw [Int.toNat_natCast]), eL (by simp [hb]), trivial⟩
 ·have e3 : IntKind.u64.wrap n = ((n.natAbs : Nat) : Int) := by rw [wrap_u64 (by omega) (by omega)]; omega
  rw [e3]
  exact ⟨by omega, cI (by rw [Int.toNat_natCast]), eL (by simp [hb]), trivial⟩
theorem zl {a b : Nat} : bT a b = 0 ↔ a = b := by unfold bT; split <;> (try split) <;> omega
theorem IB {q r : Rat} {n m : Nat} (hn : n < 2 ^ 44) (hm' : m < 2 ^ 44) (K : Nat) (pre : aD) : aA P tE K [.rat q n, .rat r m] pre (aG (.bool (decide (q = r))) []) := by
 refine gF fun ⟨hs1, hs2, _⟩ => ?_
 obtain ⟨a1, a2, a3⟩ := Sz.gJ hs1 hn
 obtain ⟨b1, b2, b3⟩ := Sz.gJ hs2 hm'
 refine bC hT p4 hm NA rfl (of_decide_eq_true (by kernel_rfl)) rfl 60 adI (fun _ => ?_) K pre
 simp only [aa.all, ay]
 refine ⟨fun hb => ⟨fun hc => ⟨⟨by omega, by omega, hb, by omega, by omega, a1, b1, hc, by omega, by omega, a3, b3⟩, eL ?_⟩, fun hc => ⟨⟨by omega, by omega, hb, by omega, by omega, a1, b1, hc⟩, eL ?_⟩⟩, fun hb => ⟨fun h => by simp at h, fun _ => ⟨⟨by omega, by omega, hb, trivial⟩, eL ?_⟩⟩⟩
 ·have h1 := eq_of_beq hb
  have h2 := zl.1 (eq_of_beq (gG hc))
  rw [cond_true]
  exact (decide_eq_decide (p := _ = (0 : Int)) (q := q = r)).2 ⟨fun h => ng.2 ⟨h1, h2, zl.1 h⟩, fun h => zl.2 (ng.1 h).2.2⟩
 ·have h2 := gG hc
  refine (decide_eq_false fun h => ?_).symm
  rw [zl.2 (ng.1 h).2.1] at h2
  simp at h2
 ·refine (decide_eq_false fun h => ?_).symm
  rw [(ng.1 h).1] at hb
  simp at hb
theorem CX {q : Rat} {n : Nat} (K : Nat) (pre : aD) : aA P pK K [.rat q n] pre (aG (.int .i64 (dO q)) []) := by
 refine bC hT p4 hm R4 rfl (of_decide_eq_true (by kernel_rfl)) rfl 60 adQ (fun _ => ?_) K pre
 simp only [aa.all, ay, beq_iff_eq, beq_eq_false_iff_ne, ne_eq]
 refine ⟨by omega, fun hb => bq ?_, fun hb => ⟨by omega, fun hc => bq ?_, fun hc => bq ?_⟩⟩
 ·have h0 : q = 0 := j8.1 (gP.1 (by omega))
  subst h0
  rfl
 ·have := of_decide_eq_true hc
  unfold dO; rw [if_pos this]
 ·have h1 := of_decide_eq_false hc
  have h0 : q ≠ 0 := fun h => hb (by rw [h]; rfl)
  unfold dO; rw [if_neg h1, if_pos (Jo h0 h1)]
theorem Ss {q : Rat} {n : Nat} (K : Nat) (pre : aD) : aA P rM K [.rat q n] pre (aG (.rat (-q) n) []) := by
 refine gF fun ⟨hs1, _⟩ => ?_
 have hs1 : Sz q n := hs1
 have hs2 := hs1.neg
 have e1 : (-q).num.natAbs = q.num.natAbs := by rw [Rat.neg_num, Int.natAbs_neg]
 have e2 : (-q).den = q.den := Rat.neg_den q
 refine bC hT p4 hm Xr rfl (of_decide_eq_true (by kernel_rfl)) rfl 60 Zb (fun _ => ?_) K pre
 simp only [aa.all, ay]
 refine ⟨fun hb => ⟨⟨by omega, hb, by omega, by omega⟩, ⟨by omega, by omega⟩, by omega, pJ hs2 ?_ e1.symm (by rw [e2])⟩, fun hb => ⟨⟨by omega, hb, by omega⟩, ⟨by omega, by omega⟩, by omega, pJ hs2 ?_ e1.symm (by rw [e2])⟩⟩
 ·have hq : ¬ q < 0 := by simpa using hb
  rw [cond_true]
  have h1 : ¬ q.num < 0 := fun h => hq (gk.2 h)
  exact ((decide_eq_decide (p := -q < 0) (q := (nl q.num.natAbs : Int) > 0)).2 (by
   rw [gk, Rat.neg_num]
   have := eE (N := q.num.natAbs)
   omega)).symm
 ·have hq : q < 0 := by simpa using hb
  have := gk.1 hq
  exact (decide_eq_false (p := -q < 0) (by rw [gk, Rat.neg_num]; omega)).symm
def zZ (g : Rat → Nat → cy) : Spec := bw fun l => match l with
 | [.rat q n] => some (g q n)
 | _ => none
theorem Cg {f : FuncId} {g : Rat → Nat → cy} (h : ∀ {q : Rat} {n : Nat} K, aA P f K [.rat q n] [] (g q n)) : ∀ K args pre r, zZ g K args pre = some r → aA P f K args pre r := by
 refine bI fun K args r hk hs _ => ?_
 split at hs
 ·simp only [Option.some.injEq] at hs
  subst hs
  exact h K
 ·simp at hs
def LN : Spec := zZ fun q _ => aG (.mag q.den) []
theorem Zq : ∀ K args pre r, LN K args pre = some r → aA P vu K args pre r := Cg fun K => abj K []
def Hs : Spec := zZ fun q _ => aG (.int .i64 (dO q)) []
theorem Nu : ∀ K args pre r, Hs K args pre = some r → aA P pK K args pre r := Cg fun K => CX K []
def CJ : Spec := zZ fun q n => aG (.rat (-q) n) []
theorem Kh : ∀ K args pre r, CJ K args pre = some r → aA P rM K args pre r := Cg fun K => Ss K []
def I2 : Spec := bw fun l => match l with
 | [.int .i64 n] => some (aG (.tuple [.mag n.natAbs, .bool (decide (n < 0))]) [-2 ^ 63 ≤ n, n < 2 ^ 63])
 | _ => none
theorem WO : ∀ K args pre r, I2 K args pre = some r → aA P u9 K args pre r := by
 refine bI fun K args r hk hs _ => ?_
 split at hs
 ·simp only [Option.some.injEq] at hs
  subst hs
  exact fun need => SZ need.1 need.2 K [] trivial
 ·simp at hs
def Iq : Spec := bw fun l => match l with
 | [.bool b, x, y] => match fZ x, fZ y with
  | some N, some D => some (aG (.rat (sQ b N D) (bS (sQ b N D))) [nl N < 2 ^ 38, nl D < 2 ^ 38, D ≠ 0])
  | _, _ => none
 | _ => none
theorem Xe : ∀ K args pre r, Iq K args pre = some r → aA P uE K args pre r := by
 refine bI fun K args r hk hs _ => ?_
 split at hs
 ·split at hs
  ·rename_i N D h1 h2
   simp only [Option.some.injEq] at hs
   subst hs
   exact fun need => eR (Qi need.1 need.2.1 need.2.2 K []) hk ⟨.refl _, jw h1, jw h2, trivial⟩ [] trivial
  ·simp at hs
 ·simp at hs
end Go.Am.B
