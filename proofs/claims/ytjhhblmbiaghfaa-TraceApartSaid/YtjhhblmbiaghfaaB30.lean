/- ref02: Den, reduce, size, Make, Frac, Int, Same, Sign, Neg. -/
import Derived.Test.YtjhhblmbiaghfaaB29
set_option linter.unusedVariables false
namespace Go.Am.B
open Go Go.Am.N AV
theorem UD : aO P p8 sD (ax sD) := aS JS (by kernel_rfl) (by kernel_rfl) (by kernel_rfl)
theorem Jd : aO P su qi (ax qi) := aS MH (by kernel_rfl) (by kernel_rfl) (by kernel_rfl)
theorem JY : aO P rQ qT (ax qT) := aS RC (by kernel_rfl) (by kernel_rfl) (by kernel_rfl)
theorem J2 : aO P uK tK (ax tK) := aS J1 (by kernel_rfl) (by kernel_rfl) (by kernel_rfl)
theorem RK : aO P oK sO (ax sO) := aS JO (by kernel_rfl) (by kernel_rfl) (by kernel_rfl)
theorem Kk : aO P oW tE (ax tE) := aS KV (by kernel_rfl) (by kernel_rfl) (by kernel_rfl)
def GE : bf := [(jU, oX), (p4, Bl), (oJ, Dc), (kA, p7), (kV, qf)]
theorem oZ : bC P GE := aK p0 (aK KD (aK CU (aK vN (aK uT aZ))))
theorem SI {q : Rat} {n : Nat} : bA T GE [6] 60 sD (ax sD) ⟨aM 0 [.rat q n], [], 0⟩ =
  some (aa.af [(0 : Nat) < 1] (aa.fork ((↑(nl (if q.den = 1 then 0 else q.den)) : Int) == (0 : Int)) (aa.af [(1 : Nat) * 1 ≤ 2 ^ 24] (aa.leaf aj.ret [ah 1 1 fun (i : Nat) ↦ nth [int IntKind.u32 (1 : Int)] (int IntKind.u32 (0 : Int)) (i + 0)])) (aa.af [(0 : Nat) < 1] (aa.leaf aj.ret [mag (if q.den = 1 then 0 else q.den)])))) := by kernel_rfl
theorem Pm {b : Bool} {N D : Nat} : bA T GE [14, 22, 27, 45, 50] 60 qi (ax qi) ⟨aM 0 [.bool b, .mag N, .mag D], [], 0⟩ =
  some (aa.af [nl N < 2 ^ 40, nl D < 2 ^ 40] (aa.fork ((↑(nl N) : Int) == (0 : Int)) (aa.af [(0 : Nat) < 1] (aa.af [(0 : Nat) < 1] (aa.leaf aj.ret [agg [AV.bool false, mag 0, mag 0]]))) (aa.af [nl N < 2 ^ 38, nl D < 2 ^ 38] (aa.fork ((↑(nl (N.gcd D)) : Int) != (1 : Int)) (aa.af [((↑(nl (N.gcd D)) : Int) != (1 : Int)) = true] (aa.fork true (aa.af [nl N < 2 ^ 38, nl (N.gcd D) < 2 ^ 38] (aa.af [nl D < 2 ^ 38, nl (N.gcd D) < 2 ^ 38] (aa.fork ((↑(nl (D / N.gcd D)) : Int) == (1 : Int)) (aa.af [((↑(nl (D / N.gcd D)) : Int) == (1 : Int)) = true, (0 : Int) ≤ (0 : Int) ∧ Int.toNat (0 : Int) < nl (D / N.gcd D)] (aa.fork (bif true then (↑(au (D / N.gcd D) (Int.toNat (0 : Int))) : Int) == (1 : Int) else false) (aa.af [(0 : Nat) < 1] (aa.af [(0 : Nat) < 1] (aa.leaf aj.ret [agg [AV.bool b, mag (N / N.gcd D), nil]]))) (aa.af [(0 : Nat) < 1] (aa.af [(0 : Nat) < 1] (aa.leaf aj.ret [agg [AV.bool b, mag (N / N.gcd D), mag (D / N.gcd D)]]))))) (aa.af [((↑(nl (D / N.gcd D)) : Int) == (1 : Int)) = false] (aa.fork false (aa.af [(0 : Nat) < 1] (aa.af [(0 : Nat) < 1] (aa.leaf aj.ret [agg [AV.bool b, mag (N / N.gcd D), nil]]))) (aa.af [(0 : Nat) < 1] (aa.af [(0 : Nat) < 1] (aa.leaf aj.ret [agg [AV.bool b, mag (N / N.gcd D), mag (D / N.gcd D)]])))))))) (aa.fork ((↑(nl D) : Int) == (1 : Int)) (aa.af [((↑(nl D) : Int) == (1 : Int)) = true, (0 : Int) ≤ (0 : Int) ∧ Int.toNat (0 : Int) < nl D] (aa.fork (bif true then (↑(au D (Int.toNat (0 : Int))) : Int) == (1 : Int) else false) (aa.af [(0 : Nat) < 1] (aa.af [(0 : Nat) < 1] (aa.leaf aj.ret [agg [AV.bool b, mag N, nil]]))) (aa.af [(0 : Nat) < 1] (aa.af [(0 : Nat) < 1] (aa.leaf aj.ret [agg [AV.bool b, mag N, mag D]]))))) (aa.af [((↑(nl D) : Int) == (1 : Int)) = false] (aa.fork false (aa.af [(0 : Nat) < 1] (aa.af [(0 : Nat) < 1] (aa.leaf aj.ret [agg [AV.bool b, mag N, nil]]))) (aa.af [(0 : Nat) < 1] (aa.af [(0 : Nat) < 1] (aa.leaf aj.ret [agg [AV.bool b, mag N, mag D]])))))))) (aa.af [((↑(nl (N.gcd D)) : Int) != (1 : Int)) = false, (0 : Int) ≤ (0 : Int) ∧ Int.toNat (0 : Int) < nl (N.gcd D)] (aa.fork (bif false then true else (↑(au (N.gcd D) (Int.toNat (0 : Int))) : Int) != (1 : Int)) (aa.af [nl N < 2 ^ 38, nl (N.gcd D) < 2 ^ 38] (aa.af [nl D < 2 ^ 38, nl (N.gcd D) < 2 ^ 38] (aa.fork ((↑(nl (D / N.gcd D)) : Int) == (1 : Int)) (aa.af [((↑(nl (D / N.gcd D)) : Int) == (1 : Int)) = true, (0 : Int) ≤ (0 : Int) ∧ Int.toNat (0 : Int) < nl (D / N.gcd D)] (aa.fork (bif true then (↑(au (D / N.gcd D) (Int.toNat (0 : Int))) : Int) == (1 : Int) else false) (aa.af [(0 : Nat) < 1] (aa.af [(0 : Nat) < 1] (aa.leaf aj.ret [agg [AV.bool b, mag (N / N.gcd D), nil]]))) (aa.af [(0 : Nat) < 1] (aa.af [(0 : Nat) < 1] (aa.leaf aj.ret [agg [AV.bool b, mag (N / N.gcd D), mag (D / N.gcd D)]]))))) (aa.af [((↑(nl (D / N.gcd D)) : Int) == (1 : Int)) = false] (aa.fork false (aa.af [(0 : Nat) < 1] (aa.af [(0 : Nat) < 1] (aa.leaf aj.ret [agg [AV.bool b, mag (N / N.gcd D), nil]]))) (aa.af [(0 : Nat) < 1] (aa.af [(0 : Nat) < 1] (aa.leaf aj.ret [agg [AV.bool b, mag (N / N.gcd D), mag (D / N.gcd D)]])))))))) (aa.fork ((↑(nl D) : Int) == (1 : Int)) (aa.af [((↑(nl D) : Int) == (1 : Int)) = true, (0 : Int) ≤ (0 : Int) ∧ Int.toNat (0 : Int) < nl D] (aa.fork (bif true then (↑(au D (Int.toNat (0 : Int))) : Int) == (1 : Int) else false) (aa.af [(0 : Nat) < 1] (aa.af [(0 : Nat) < 1] (aa.leaf aj.ret [agg [AV.bool b, mag N, nil]]))) (aa.af [(0 : Nat) < 1] (aa.af [(0 : Nat) < 1] (aa.leaf aj.ret [agg [AV.bool b, mag N, mag D]]))))) (aa.af [((↑(nl D) : Int) == (1 : Int)) = false] (aa.fork false (aa.af [(0 : Nat) < 1] (aa.af [(0 : Nat) < 1] (aa.leaf aj.ret [agg [AV.bool b, mag N, nil]]))) (aa.af [(0 : Nat) < 1] (aa.af [(0 : Nat) < 1] (aa.leaf aj.ret [agg [AV.bool b, mag N, mag D]])))))))))))) := by kernel_rfl
theorem JX {n : Int} : bA T GE [5] 60 qT (ax qT) ⟨aM 0 [.int .i64 n], [], 0⟩ =
  some (aa.fork (decide (n < (0 : Int))) (aa.af [(0 : Int) ≤ IntKind.u64.wrap (IntKind.u64.wrap (IntKind.i64.wrap ((0 : Int) - IntKind.i64.wrap (n + (1 : Int)))) + (1 : Int)) ∧ IntKind.u64.wrap (IntKind.u64.wrap (IntKind.i64.wrap ((0 : Int) - IntKind.i64.wrap (n + (1 : Int)))) + (1 : Int)) < (2 : Int) ^ 64] (aa.leaf aj.ret [mag (IntKind.u64.wrap (IntKind.u64.wrap (IntKind.i64.wrap ((0 : Int) - IntKind.i64.wrap (n + (1 : Int)))) + (1 : Int))).toNat, AV.bool true])) (aa.af [(0 : Int) ≤ IntKind.u64.wrap n ∧ IntKind.u64.wrap n < (2 : Int) ^ 64] (aa.leaf aj.ret [mag (IntKind.u64.wrap n).toNat, AV.bool false]))) := by kernel_rfl
theorem NP {q r : Rat} {n m : Nat} : bA T GE [10, 18] 60 tK (ax tK) ⟨aM 0 [.rat q n, .rat r m], [], 0⟩ =
  some (aa.fork (decide (q < 0) == decide (r < 0)) (aa.fork (bif true then bI q.num.natAbs r.num.natAbs == (0 : Int) else false) (aa.af [(0 : Nat) < 1, (0 : Nat) < 1, (decide (q < 0) == decide (r < 0)) = true, (0 : Nat) < 1, (0 : Nat) < 1, nl q.num.natAbs < 2 ^ 40, nl r.num.natAbs < 2 ^ 40, (bif true then bI q.num.natAbs r.num.natAbs == (0 : Int) else false) = true, (0 : Nat) < 1, (0 : Nat) < 1, nl (if q.den = 1 then 0 else q.den) < 2 ^ 40, nl (if r.den = 1 then 0 else r.den) < 2 ^ 40] (aa.leaf aj.ret [AV.bool (bif true then bI (if q.den = 1 then 0 else q.den) (if r.den = 1 then 0 else r.den) == (0 : Int) else false)])) (aa.af [(0 : Nat) < 1, (0 : Nat) < 1, (decide (q < 0) == decide (r < 0)) = true, (0 : Nat) < 1, (0 : Nat) < 1, nl q.num.natAbs < 2 ^ 40, nl r.num.natAbs < 2 ^ 40, (bif true then bI q.num.natAbs r.num.natAbs == (0 : Int) else false) = false] (aa.leaf aj.ret [AV.bool false]))) (aa.fork false (aa.af [(0 : Nat) < 1, (0 : Nat) < 1, (decide (q < 0) == decide (r < 0)) = false, false = true, (0 : Nat) < 1, (0 : Nat) < 1, nl (if q.den = 1 then 0 else q.den) < 2 ^ 40, nl (if r.den = 1 then 0 else r.den) < 2 ^ 40] (aa.leaf aj.ret [AV.bool (bif true then bI (if q.den = 1 then 0 else q.den) (if r.den = 1 then 0 else r.den) == (0 : Int) else false)])) (aa.af [(0 : Nat) < 1, (0 : Nat) < 1, (decide (q < 0) == decide (r < 0)) = false, false = false] (aa.leaf aj.ret [AV.bool false])))) := by kernel_rfl
theorem G4 {q : Rat} {n : Nat} : bA T GE [6, 8] 60 sO (ax sO) ⟨aM 0 [.rat q n], [], 0⟩ =
  some (aa.af [(0 : Nat) < 1] (aa.fork ((↑(nl q.num.natAbs) : Int) == (0 : Int)) (aa.leaf aj.ret [int IntKind.i64 (0 : Int)]) (aa.af [(0 : Nat) < 1] (aa.fork (decide (q < 0)) (aa.leaf aj.ret [int IntKind.i64 (-1 : Int)]) (aa.leaf aj.ret [int IntKind.i64 (1 : Int)]))))) := by kernel_rfl
theorem Iw {q : Rat} {n : Nat} : bA T GE [6] 60 tE (ax tE) ⟨aM 0 [.rat q n], [], 0⟩ =
  some (aa.fork (!decide (q < 0)) (aa.af [(0 : Nat) < 1, (!decide (q < 0)) = true, (0 : Nat) < 1, (0 : Nat) < 1] (aa.af [(0 : Nat) < 1, (0 : Nat) < 1] (aa.af [(0 : Nat) < 1] (aa.leaf aj.ret [agg [AV.bool (bif true then decide ((↑(nl q.num.natAbs) : Int) > (0 : Int)) else false), mag q.num.natAbs, mag (if q.den = 1 then 0 else q.den)]])))) (aa.af [(0 : Nat) < 1, (!decide (q < 0)) = false, (0 : Nat) < 1] (aa.af [(0 : Nat) < 1, (0 : Nat) < 1] (aa.af [(0 : Nat) < 1] (aa.leaf aj.ret [agg [AV.bool false, mag q.num.natAbs, mag (if q.den = 1 then 0 else q.den)]]))))) := by kernel_rfl
theorem UO {q : Rat} {n : Nat} (K : Nat) (pre : aA) : aC P p8 K [.rat q n] pre (aJ (.mag q.den) []) := by
 refine bE hT oZ hm UD rfl (of_decide_eq_true (by kernel_rfl)) rfl 60 SI (fun _ => ?_) K pre
 simp only [aa.all, az, beq_iff_eq, beq_eq_false_iff_ne, ne_eq]
 refine ⟨by omega, fun hb => ⟨by omega, ?_⟩, fun hb => ⟨by omega, cF ?_⟩⟩
 ·have h0 := q.den_nz
  have : (if q.den = 1 then 0 else q.den) = 0 := gz.1 (by omega)
  have h1 : q.den = 1 := by split at this; assumption; exact absurd this h0
  rw [h1]
  exact g9 (by decide) fun i hi => by rw [show i = 0 by omega]; exact congrArg (AV.int IntKind.u32) (show (1 : Int) = ((au 1 0 : Nat) : Int) by decide)
 ·have : q.den ≠ 1 := fun h => hb (by rw [if_pos h]; rfl)
  rw [if_neg this]
theorem Hj {b : Bool} {N D : Nat} (hN : nl N < 2 ^ 38) (hD : nl D < 2 ^ 38) (hD0 : D ≠ 0) (K : Nat) (pre : aA) : aC P su K [.bool b, .mag N, .mag D] pre (aJ (.rat (sQ b N D) (bT (sQ b N D))) []) := by
 refine bE hT oZ hm Jd rfl (of_decide_eq_true (by kernel_rfl)) rfl 60 Pm (fun _ => ?_) K pre
 have hz : sQ b N D = 0 → bn (.agg [.bool false, .mag 0, .mag 0]) (.rat (sQ b N D) (bT (sQ b N D))) := fun h => by
  rw [h]; exact lZ
 simp only [aa.all, az, beq_iff_eq, beq_eq_false_iff_ne, ne_eq, bne_iff_ne, bne_eq_false_iff_eq, Int.toNat_zero]
 refine ⟨⟨by omega, by omega⟩, fun hb => ⟨by omega, by omega, hz ?_⟩, fun hb => ?_⟩
 ·rw [gz.1 (show nl N = 0 by omega), zA]
 have hN0 : N ≠ 0 := fun h => hb (by rw [gz.2 h]; rfl)
 have hg : nl (Nat.gcd N D) < 2 ^ 38 := Nat.lt_of_le_of_lt (eR (Nat.gcd_le_left _ (by omega))) hN
 have hg0 : 0 < Nat.gcd N D := Nat.gcd_pos_of_pos_left _ (by omega)
 have hl : ∀ {Y : Nat}, nl Y = 1 → au Y 0 = Y := fun {Y} h => by
  have := ec (N := Y)
  rw [h, val, val] at this
  simpa using this
 have h1 : ∀ {X Y : Nat}, X = N / Nat.gcd N D → Y = D / Nat.gcd N D → Y ≠ 1 → bn (.agg [.bool b, .mag X, .mag Y]) (.rat (sQ b N D) (bT (sQ b N D))) := fun eX eY h => n8 hN0 hD0 eX (by rw [← eY, if_neg h]) qh
 have h2 : ∀ {X Y : Nat}, X = N / Nat.gcd N D → Y = D / Nat.gcd N D → Y = 1 → bn (.agg [.bool b, .mag X, .nil]) (.rat (sQ b N D) (bT (sQ b N D))) := fun eX eY h => EJ.trans (n8 hN0 hD0 eX (by rw [← eY, if_pos h]) qh)
 have i1 : ∀ {Y : Nat}, (nl Y : Int) = 1 → (bif true then ((au Y 0 : Nat) : Int) == (1 : Int) else false) = true → Y = 1 := fun {Y} h hc => by
  have := fS hc
  rw [hl (by omega)] at this
  have := eq_of_beq this
  omega
 have i2 : ∀ {Y : Nat}, (nl Y : Int) = 1 → (bif true then ((au Y 0 : Nat) : Int) == (1 : Int) else false) = false → Y ≠ 1 := fun {Y} h hc h1 => by
  have := fS hc
  rw [hl (by omega), h1] at this
  simp at this
 have i3 : ∀ {Y : Nat}, ¬ (nl Y : Int) = 1 → Y ≠ 1 := fun {Y} h h1 => h (by rw [h1]; decide)
 have g1 : (nl (Nat.gcd N D) : Int) = 1 → (bif false then true else ((au (Nat.gcd N D) 0 : Nat) : Int) != (1 : Int)) = false → Nat.gcd N D = 1 := fun h hc => by
  have := eW hc
  rw [hl (by omega)] at this
  simp at this
  omega
 refine ⟨⟨hN, hD⟩, fun hb => ⟨hb, fun _ => ⟨⟨hN, hg⟩, ⟨hD, hg⟩, ?_⟩, fun h => by simp at h⟩, fun hb => ⟨⟨hb, by omega, by omega⟩, fun hc => ⟨⟨hN, hg⟩, ⟨hD, hg⟩, ?_⟩, fun hc => ?_⟩⟩
 ·exact ⟨fun hb => ⟨⟨hb, by omega, by omega⟩, fun hc => ⟨by omega, by omega, h2 rfl rfl (i1 hb hc)⟩, fun hc => ⟨by omega, by omega, h1 rfl rfl (i2 hb hc)⟩⟩, fun hb => ⟨hb, fun h => by simp at h, fun _ => ⟨by omega, by omega, h1 rfl rfl (i3 hb)⟩⟩⟩
 ·exact ⟨fun hb => ⟨⟨hb, by omega, by omega⟩, fun hc => ⟨by omega, by omega, h2 rfl rfl (i1 hb hc)⟩, fun hc => ⟨by omega, by omega, h1 rfl rfl (i2 hb hc)⟩⟩, fun hb => ⟨hb, fun h => by simp at h, fun _ => ⟨by omega, by omega, h1 rfl rfl (i3 hb)⟩⟩⟩
 ·have e := g1 hb hc
  have eN : N = N / Nat.gcd N D := by rw [e, Nat.div_one]
  have eD : D = D / Nat.gcd N D := by rw [e, Nat.div_one]
  exact ⟨fun hb => ⟨⟨hb, by omega, by omega⟩, fun hc => ⟨by omega, by omega, h2 eN eD (i1 hb hc)⟩, fun hc => ⟨by omega, by omega, h1 eN eD (i2 hb hc)⟩⟩, fun hb => ⟨hb, fun h => by simp at h, fun _ => ⟨by omega, by omega, h1 eN eD (i3 hb)⟩⟩⟩
theorem Ks {n : Int} (h1 : -2 ^ 63 ≤ n) (h2 : n < 2 ^ 63) (K : Nat) (pre : aA) : aC P rQ K [.int .i64 n] pre (aJ (.tuple [.mag n.natAbs, .bool (decide (n < 0))]) []) := by
 refine bE hT oZ hm JY rfl (of_decide_eq_true (by kernel_rfl)) rfl 60 JX (fun _ => ?_) K pre
 simp only [aa.all, az, decide_eq_true_eq, decide_eq_false_iff_not]
 refine ⟨fun hb => ?_, fun hb => ?_⟩
 ·have e : IntKind.i64.wrap (n + 1) = n + 1 := wrap_i64 (by omega) (by omega)
  have e1 : IntKind.i64.wrap (0 - (n + 1)) = -n - 1 := by rw [wrap_i64 (by omega) (by omega)]; omega
  have e2 : IntKind.u64.wrap (-n - 1) = -n - 1 := bt (by omega) (by omega)
  have e3 : IntKind.u64.wrap (-n - 1 + 1) = ((n.natAbs : Nat) : Int) := by rw [bt (by omega) (by omega)]; omega
  rw [e, e1, e2, e3]
  exact ⟨by omega, cF (by rw [Int.toNat_natCast]), ep (by simp [hb]), trivial⟩
 ·have e3 : IntKind.u64.wrap n = ((n.natAbs : Nat) : Int) := by rw [bt (by omega) (by omega)]; omega
  rw [e3]
  exact ⟨by omega, cF (by rw [Int.toNat_natCast]), ep (by simp [hb]), trivial⟩
theorem wh {a b : Nat} : bI a b = 0 ↔ a = b := by unfold bI; split <;> (try split) <;> omega
theorem Nl {q r : Rat} {n m : Nat} (hn : n < 2 ^ 44) (hm' : m < 2 ^ 44) (K : Nat) (pre : aA) : aC P uK K [.rat q n, .rat r m] pre (aJ (.bool (decide (q = r))) []) := by
 refine iA fun ⟨hs1, hs2, _⟩ => ?_
 obtain ⟨a1, a2, a3⟩ := Sz.gv hs1 hn
 obtain ⟨b1, b2, b3⟩ := Sz.gv hs2 hm'
 refine bE hT oZ hm J2 rfl (of_decide_eq_true (by kernel_rfl)) rfl 60 NP (fun _ => ?_) K pre
 simp only [aa.all, az]
 refine ⟨fun hb => ⟨fun hc => ⟨⟨by omega, by omega, hb, by omega, by omega, a1, b1, hc, by omega, by omega, a3, b3⟩, ep ?_⟩, fun hc => ⟨⟨by omega, by omega, hb, by omega, by omega, a1, b1, hc⟩, ep ?_⟩⟩, fun hb => ⟨fun h => by simp at h, fun _ => ⟨⟨by omega, by omega, hb, trivial⟩, ep ?_⟩⟩⟩
 ·have h1 := eq_of_beq hb
  have h2 := wh.1 (eq_of_beq (fS hc))
  rw [cond_true]
  exact (decide_eq_decide (p := _ = (0 : Int)) (q := q = r)).2 ⟨fun h => kE.2 ⟨h1, h2, wh.1 h⟩, fun h => wh.2 (kE.1 h).2.2⟩
 ·have h2 := fS hc
  refine (decide_eq_false fun h => ?_).symm
  rw [wh.2 (kE.1 h).2.1] at h2
  simp at h2
 ·refine (decide_eq_false fun h => ?_).symm
  rw [(kE.1 h).1] at hb
  simp at hb
theorem BG {q : Rat} {n : Nat} (K : Nat) (pre : aA) : aC P oK K [.rat q n] pre (aJ (.int .i64 (dG q)) []) := by
 refine bE hT oZ hm RK rfl (of_decide_eq_true (by kernel_rfl)) rfl 60 G4 (fun _ => ?_) K pre
 simp only [aa.all, az, beq_iff_eq, beq_eq_false_iff_ne, ne_eq]
 refine ⟨by omega, fun hb => bm ?_, fun hb => ⟨by omega, fun hc => bm ?_, fun hc => bm ?_⟩⟩
 ·have h0 : q = 0 := mG.1 (gz.1 (by omega))
  subst h0
  rfl
 ·have := of_decide_eq_true hc
  unfold dG; rw [if_pos this]
 ·have h1 := of_decide_eq_false hc
  have h0 : q ≠ 0 := fun h => hb (by rw [h]; rfl)
  unfold dG; rw [if_neg h1, if_pos (E2 h0 h1)]
theorem Gk {q : Rat} {n : Nat} (K : Nat) (pre : aA) : aC P oW K [.rat q n] pre (aJ (.rat (-q) n) []) := by
 refine iA fun ⟨hs1, _⟩ => ?_
 have hs1 : Sz q n := hs1
 have hs2 := hs1.neg
 have e1 : (-q).num.natAbs = q.num.natAbs := by rw [Rat.neg_num, Int.natAbs_neg]
 have e2 : (-q).den = q.den := Rat.neg_den q
 refine bE hT oZ hm Kk rfl (of_decide_eq_true (by kernel_rfl)) rfl 60 Iw (fun _ => ?_) K pre
 simp only [aa.all, az]
 refine ⟨fun hb => ⟨⟨by omega, hb, by omega, by omega⟩, ⟨by omega, by omega⟩, by omega, oT hs2 ?_ e1.symm (by rw [e2])⟩, fun hb => ⟨⟨by omega, hb, by omega⟩, ⟨by omega, by omega⟩, by omega, oT hs2 ?_ e1.symm (by rw [e2])⟩⟩
 ·have hq : ¬ q < 0 := by simpa using hb
  rw [cond_true]
  have h1 : ¬ q.num < 0 := fun h => hq (fG.2 h)
  exact ((decide_eq_decide (p := -q < 0) (q := (nl q.num.natAbs : Int) > 0)).2 (by
   rw [fG, Rat.neg_num]
   have := ew (N := q.num.natAbs)
   omega)).symm
 ·have hq : q < 0 := by simpa using hb
  have := fG.1 hq
  exact (decide_eq_false (p := -q < 0) (by rw [fG, Rat.neg_num]; omega)).symm
def uq (g : Rat → Nat → cq) : Spec := bp fun l => match l with
 | [.rat q n] => some (g q n)
 | _ => none
theorem zq {f : FuncId} {g : Rat → Nat → cq} (h : ∀ {q : Rat} {n : Nat} K, aC P f K [.rat q n] [] (g q n)) : ∀ K args pre r, uq g K args pre = some r → aC P f K args pre r := by
 refine bK fun K args r hk hs _ => ?_
 split at hs
 ·simp only [Option.some.injEq] at hs
  subst hs
  exact h K
 ·simp at hs
def Cu : Spec := uq fun q _ => aJ (.mag q.den) []
theorem RR : ∀ K args pre r, Cu K args pre = some r → aC P p8 K args pre r := zq fun K => UO K []
def BR : Spec := uq fun q _ => aJ (.int .i64 (dG q)) []
theorem Sy : ∀ K args pre r, BR K args pre = some r → aC P oK K args pre r := zq fun K => BG K []
def yO : Spec := uq fun q n => aJ (.rat (-q) n) []
theorem Bt : ∀ K args pre r, yO K args pre = some r → aC P oW K args pre r := zq fun K => Gk K []
def Cv : Spec := bp fun l => match l with
 | [.int .i64 n] => some (aJ (.tuple [.mag n.natAbs, .bool (decide (n < 0))]) [-2 ^ 63 ≤ n, n < 2 ^ 63])
 | _ => none
theorem Ir : ∀ K args pre r, Cv K args pre = some r → aC P rQ K args pre r := by
 refine bK fun K args r hk hs _ => ?_
 split at hs
 ·simp only [Option.some.injEq] at hs
  subst hs
  exact fun need => Ks need.1 need.2 K [] trivial
 ·simp at hs
def Bx : Spec := bp fun l => match l with
 | [.bool b, x, y] => match fL x, fL y with
  | some N, some D => some (aJ (.rat (sQ b N D) (bT (sQ b N D))) [nl N < 2 ^ 38, nl D < 2 ^ 38, D ≠ 0])
  | _, _ => none
 | _ => none
theorem Pq : ∀ K args pre r, Bx K args pre = some r → aC P su K args pre r := by
 refine bK fun K args r hk hs _ => ?_
 split at hs
 ·split at hs
  ·rename_i N D h1 h2
   simp only [Option.some.injEq] at hs
   subst hs
   exact fun need => eJ (Hj need.1 need.2.1 need.2.2 K []) hk ⟨.refl _, iG h1, iG h2, trivial⟩ [] trivial
  ·simp at hs
 ·simp at hs
end Go.Am.B
