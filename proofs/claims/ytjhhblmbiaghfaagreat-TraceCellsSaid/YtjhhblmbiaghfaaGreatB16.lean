/- rational.short and what is near it. -/
import Derived.Test.YtjhhblmbiaghfaaGreatB15
import Derived.Test.YtjhhblmbiaghfaaGreatZ2
set_option linter.unusedVariables false
namespace Go.Am.B
open Go Go.Am.N AV
theorem V6 : aO P oN vG (ax vG) := aP N6 (by kernel_rfl) (by kernel_rfl) (by kernel_rfl)
theorem VR : aO P qk tc (ax tc) := aP Sl (by kernel_rfl) (by kernel_rfl) (by kernel_rfl)
def GS : aW := [(sw, C1), (vT, Aq)]
theorem PV {b : Bool} {n d : Nat} : bF T GS [13, 35] 60 vG (ax vG) ⟨aN 0 [.bool b, .int .u64 n, .int .u64 d], [], 0⟩ =
  some (af.fork ((↑n : Int) == (0 : Int)) (af.ag [(0 : Nat) < 1] (af.ag [(0 : Nat) < 1] (af.leaf ak.ret [agg [AV.bool false, mag 0, mag 0]]))) (af.ag [(0 : Int) ≤ (↑n : Int), (0 : Int) ≤ (↑d : Int)] (af.ag [(↑((↑n : Int).toNat.gcd (↑d : Int).toNat) : Int) ≠ (0 : Int), (↑((↑n : Int).toNat.gcd (↑d : Int).toNat) : Int) ≠ (0 : Int)] (af.ag [(0 : Int) ≤ (4 : Int) ∧ (4 : Int) ≤ (4 : Int) ∧ (4 : Int) ≤ (2 : Int) ^ 47 ∧ (4 : Int) * (↑(4 : Nat) : Int) ≤ (2 : Int) ^ 47] (af.ag [cN (Int.toNat (4 : Int)) fun (x : Nat) ↦ int IntKind.u32 (0 : Int), (0 : Int) ≤ IntKind.u64.wrap ((↑n : Int).tdiv (↑((↑n : Int).toNat.gcd (↑d : Int).toNat) : Int)) ∧ IntKind.u64.wrap ((↑n : Int).tdiv (↑((↑n : Int).toNat.gcd (↑d : Int).toNat) : Int)) < (2 : Int) ^ 64, bS (IntKind.u64.wrap ((↑n : Int).tdiv (↑((↑n : Int).toNat.gcd (↑d : Int).toNat) : Int))).toNat ≤ Int.toNat (4 : Int), (0 : Nat) + Int.toNat (4 : Int) ≤ Int.toNat (4 : Int)] (af.ag [(0 : Int) ≤ (0 : Int) ∧ (0 : Int) ≤ (↑(bS (IntKind.u64.wrap ((↑n : Int).tdiv (↑((↑n : Int).toNat.gcd (↑d : Int).toNat) : Int))).toNat) : Int) ∧ (↑(bS (IntKind.u64.wrap ((↑n : Int).tdiv (↑((↑n : Int).toNat.gcd (↑d : Int).toNat) : Int))).toNat) : Int) ≤ (↑(bS (IntKind.u64.wrap ((↑n : Int).tdiv (↑((↑n : Int).toNat.gcd (↑d : Int).toNat) : Int))).toNat) : Int) ∧ (↑(bS (IntKind.u64.wrap ((↑n : Int).tdiv (↑((↑n : Int).toNat.gcd (↑d : Int).toNat) : Int))).toNat) : Int) ≤ (↑(Int.toNat (4 : Int)) : Int), (0 : Nat) < 1] (af.fork (decide (IntKind.u64.wrap ((↑d : Int).tdiv (↑((↑n : Int).toNat.gcd (↑d : Int).toNat) : Int)) > (1 : Int))) (af.ag [(0 : Int) ≤ (↑(bS (IntKind.u64.wrap ((↑n : Int).tdiv (↑((↑n : Int).toNat.gcd (↑d : Int).toNat) : Int))).toNat) : Int) ∧ (↑(bS (IntKind.u64.wrap ((↑n : Int).tdiv (↑((↑n : Int).toNat.gcd (↑d : Int).toNat) : Int))).toNat) : Int) ≤ (↑(Int.toNat (4 : Int)) : Int) ∧ (↑(Int.toNat (4 : Int)) : Int) ≤ (↑(Int.toNat (4 : Int)) : Int) ∧ (↑(Int.toNat (4 : Int)) : Int) ≤ (↑(Int.toNat (4 : Int)) : Int), cN (Int.toNat (4 : Int)) (aj (ff (fun (i : Nat) ↦ numOf (int IntKind.u32 (0 : Int))) 0 (IntKind.u64.wrap ((↑n : Int).tdiv (↑((↑n : Int).toNat.gcd (↑d : Int).toNat) : Int))).toNat)), (0 : Int) ≤ IntKind.u64.wrap ((↑d : Int).tdiv (↑((↑n : Int).toNat.gcd (↑d : Int).toNat) : Int)) ∧ IntKind.u64.wrap ((↑d : Int).tdiv (↑((↑n : Int).toNat.gcd (↑d : Int).toNat) : Int)) < (2 : Int) ^ 64, bS (IntKind.u64.wrap ((↑d : Int).tdiv (↑((↑n : Int).toNat.gcd (↑d : Int).toNat) : Int))).toNat ≤ (↑(Int.toNat (4 : Int)) : Int).toNat - (↑(bS (IntKind.u64.wrap ((↑n : Int).tdiv (↑((↑n : Int).toNat.gcd (↑d : Int).toNat) : Int))).toNat) : Int).toNat, (0 : Nat) + (↑(bS (IntKind.u64.wrap ((↑n : Int).tdiv (↑((↑n : Int).toNat.gcd (↑d : Int).toNat) : Int))).toNat) : Int).toNat + ((↑(Int.toNat (4 : Int)) : Int).toNat - (↑(bS (IntKind.u64.wrap ((↑n : Int).tdiv (↑((↑n : Int).toNat.gcd (↑d : Int).toNat) : Int))).toNat) : Int).toNat) ≤ Int.toNat (4 : Int)] (af.ag [(0 : Int) ≤ (↑(bS (IntKind.u64.wrap ((↑n : Int).tdiv (↑((↑n : Int).toNat.gcd (↑d : Int).toNat) : Int))).toNat) : Int) ∧ (↑(bS (IntKind.u64.wrap ((↑n : Int).tdiv (↑((↑n : Int).toNat.gcd (↑d : Int).toNat) : Int))).toNat) : Int) ≤ IntKind.i64.wrap ((↑(bS (IntKind.u64.wrap ((↑n : Int).tdiv (↑((↑n : Int).toNat.gcd (↑d : Int).toNat) : Int))).toNat) : Int) + (↑(bS (IntKind.u64.wrap ((↑d : Int).tdiv (↑((↑n : Int).toNat.gcd (↑d : Int).toNat) : Int))).toNat) : Int)) ∧ IntKind.i64.wrap ((↑(bS (IntKind.u64.wrap ((↑n : Int).tdiv (↑((↑n : Int).toNat.gcd (↑d : Int).toNat) : Int))).toNat) : Int) + (↑(bS (IntKind.u64.wrap ((↑d : Int).tdiv (↑((↑n : Int).toNat.gcd (↑d : Int).toNat) : Int))).toNat) : Int)) ≤ IntKind.i64.wrap ((↑(bS (IntKind.u64.wrap ((↑n : Int).tdiv (↑((↑n : Int).toNat.gcd (↑d : Int).toNat) : Int))).toNat) : Int) + (↑(bS (IntKind.u64.wrap ((↑d : Int).tdiv (↑((↑n : Int).toNat.gcd (↑d : Int).toNat) : Int))).toNat) : Int)) ∧ IntKind.i64.wrap ((↑(bS (IntKind.u64.wrap ((↑n : Int).tdiv (↑((↑n : Int).toNat.gcd (↑d : Int).toNat) : Int))).toNat) : Int) + (↑(bS (IntKind.u64.wrap ((↑d : Int).tdiv (↑((↑n : Int).toNat.gcd (↑d : Int).toNat) : Int))).toNat) : Int)) ≤ (↑(Int.toNat (4 : Int)) : Int), (0 : Nat) < 1] (af.ag [(0 : Nat) < 1, (0 : Nat) < 1] (af.ag [(0 : Nat) < 1] (af.leaf ak.ret [agg [AV.bool b, ah 1 ((↑(bS (IntKind.u64.wrap ((↑n : Int).tdiv (↑((↑n : Int).toNat.gcd (↑d : Int).toNat) : Int))).toNat) : Int).toNat - Int.toNat (0 : Int)) fun (i : Nat) ↦ aj (ff (fun (i : Nat) ↦ numOf (aj (ff (fun (i : Nat) ↦ numOf (int IntKind.u32 (0 : Int))) 0 (IntKind.u64.wrap ((↑n : Int).tdiv (↑((↑n : Int).toNat.gcd (↑d : Int).toNat) : Int))).toNat) i)) ((0 : Nat) + (↑(bS (IntKind.u64.wrap ((↑n : Int).tdiv (↑((↑n : Int).toNat.gcd (↑d : Int).toNat) : Int))).toNat) : Int).toNat) (IntKind.u64.wrap ((↑d : Int).tdiv (↑((↑n : Int).toNat.gcd (↑d : Int).toNat) : Int))).toNat) (i + ((0 : Nat) + Int.toNat (0 : Int))), ah 1 ((IntKind.i64.wrap ((↑(bS (IntKind.u64.wrap ((↑n : Int).tdiv (↑((↑n : Int).toNat.gcd (↑d : Int).toNat) : Int))).toNat) : Int) + (↑(bS (IntKind.u64.wrap ((↑d : Int).tdiv (↑((↑n : Int).toNat.gcd (↑d : Int).toNat) : Int))).toNat) : Int))).toNat - (↑(bS (IntKind.u64.wrap ((↑n : Int).tdiv (↑((↑n : Int).toNat.gcd (↑d : Int).toNat) : Int))).toNat) : Int).toNat) fun (i : Nat) ↦ aj (ff (fun (i : Nat) ↦ numOf (aj (ff (fun (i : Nat) ↦ numOf (int IntKind.u32 (0 : Int))) 0 (IntKind.u64.wrap ((↑n : Int).tdiv (↑((↑n : Int).toNat.gcd (↑d : Int).toNat) : Int))).toNat) i)) ((0 : Nat) + (↑(bS (IntKind.u64.wrap ((↑n : Int).tdiv (↑((↑n : Int).toNat.gcd (↑d : Int).toNat) : Int))).toNat) : Int).toNat) (IntKind.u64.wrap ((↑d : Int).tdiv (↑((↑n : Int).toNat.gcd (↑d : Int).toNat) : Int))).toNat) (i + ((0 : Nat) + (↑(bS (IntKind.u64.wrap ((↑n : Int).tdiv (↑((↑n : Int).toNat.gcd (↑d : Int).toNat) : Int))).toNat) : Int).toNat))]]))))) (af.ag [(0 : Nat) < 1, (0 : Nat) < 1] (af.ag [(0 : Nat) < 1] (af.leaf ak.ret [agg [AV.bool b, ah 1 ((↑(bS (IntKind.u64.wrap ((↑n : Int).tdiv (↑((↑n : Int).toNat.gcd (↑d : Int).toNat) : Int))).toNat) : Int).toNat - Int.toNat (0 : Int)) fun (i : Nat) ↦ aj (ff (fun (i : Nat) ↦ numOf (int IntKind.u32 (0 : Int))) 0 (IntKind.u64.wrap ((↑n : Int).tdiv (↑((↑n : Int).toNat.gcd (↑d : Int).toNat) : Int))).toNat) (i + ((0 : Nat) + Int.toNat (0 : Int))), mag 0]])))))))))) := by kernel_rfl
theorem Uj : bF T [] [] 60 tc (ax tc) ⟨[], [], 0⟩ =
  some (af.ag [(1 : Nat) * 1 ≤ 2 ^ 24] (af.leaf ak.ret [ah 1 1 fun (i : Nat) ↦ nth [int IntKind.u32 (1 : Int)] (int IntKind.u32 (0 : Int)) (i + 0)])) := by kernel_rfl
theorem Vp : br P GS := aJ SD (aJ Rl aY)
theorem z4 {x : Nat} (h0 : x ≠ 0) (hx : x < 2 ^ 64) : nl x = bS x := by
 have h1 := eH.2 h0
 have h2 : nl x ≤ 2 := cw.2 hx
 unfold bS
 split
 ·have : nl x ≤ 1 := cw.2 (by omega)
  omega
 ·have : ¬ nl x ≤ 1 := by rw [cw]; omega
  omega
theorem CB {z : Nat → Nat} {s x i : Nat} (hx : x < 2 ^ 64) (hi : i < bS x) : ff z s x (i + s) = au x i := by
 unfold bS at hi
 unfold ff au
 by_cases h : i = 0
 ·subst h; simp
 ·have h1 : i = 1 := by split at hi <;> omega
  subst h1
  have h2 : 4294967296 ≤ x := by split at hi <;> omega
  rw [if_neg (by omega), if_pos ⟨by omega, h2⟩]
  simp only [Nat.mul_one]
  exact (Nat.mod_eq_of_lt (by omega)).symm
theorem Th {z : Nat → Nat} {s x i : Nat} (hi : i < s) : ff z s x i = z i := by
 unfold ff
 rw [if_neg (by omega), if_neg (by omega)]
theorem XY {z : Nat → Nat} {s x n : Nat} (hx : x < 2 ^ 64) (hz : ∀ i, i < n → z i < 2 ^ 32) : ∀ i, i < n → ff z s x i < 2 ^ 32 := fun i hi => by
 unfold ff
 have := hz i hi
 split
 ·omega
 ·split <;> omega
theorem ZA {b : Bool} {n d : Nat} (hn : n < 2 ^ 64) (hd : d < 2 ^ 64) (hd0 : d ≠ 0) (K : Nat) (pre : aB) : aC P oN K [.bool b, .int .u64 n, .int .u64 d] pre (aK (.rat (sQ b n d) (bW (sQ b n d))) []) := by
 refine bH hT Vp hm V6 rfl (of_decide_eq_true (by kernel_rfl)) rfl 60 PV (fun _ => ?_) K pre
 obtain ⟨g, hg⟩ : ∃ g, g = Nat.gcd n d := ⟨_, rfl⟩
 simp only [Int.toNat_natCast, ← hg, show Int.toNat 4 = 4 from rfl, Int.toNat_zero, Nat.zero_add, Nat.add_zero, Nat.sub_zero]
 have hg0 : 0 < g := by rw [hg]; exact Nat.gcd_pos_of_pos_right _ (by omega)
 have hgn : g ∣ n := by rw [hg]; exact Nat.gcd_dvd_left _ _
 have hgd : g ∣ d := by rw [hg]; exact Nat.gcd_dvd_right _ _
 have hN : n / g < 2 ^ 64 := Nat.lt_of_le_of_lt (Nat.div_le_self _ _) hn
 have hD : d / g < 2 ^ 64 := Nat.lt_of_le_of_lt (Nat.div_le_self _ _) hd
 have hD0 : 0 < d / g := Nat.div_pos (Nat.le_of_dvd (by omega) hgd) hg0
 have hN0 : n ≠ 0 → 0 < n / g := fun h => Nat.div_pos (Nat.le_of_dvd (by omega) hgn) hg0
 have e1 : IntKind.u64.wrap ((n : Int).tdiv (g : Int)) = ((n / g : Nat) : Int) := by
  rw [← Int.ofNat_tdiv, tQ, Nat.mod_eq_of_lt hN]
 have e2 : IntKind.u64.wrap ((d : Int).tdiv (g : Int)) = ((d / g : Nat) : Int) := by
  rw [← Int.ofNat_tdiv, tQ, Nat.mod_eq_of_lt hD]
 rw [e1, e2]
 clear e1 e2
 have f1 : n / g = n / Nat.gcd n d := by rw [hg]
 have f2 : d / g = d / Nat.gcd n d := by rw [hg]
 generalize n / g = N at *
 generalize d / g = D at *
 simp only [Int.toNat_natCast]
 have hnl : ∀ x, bS x = 1 ∨ bS x = 2 := fun x => by unfold bS; split <;> simp
 have l1 := hnl N
 have l2 := hnl D
 have w1 : IntKind.i64.wrap ((bS N : Int) + (bS D : Int)) = ((bS N + bS D : Nat) : Int) := by rw [wrap_i64 (by omega) (by omega)]; omega
 rw [w1]
 simp only [af.all, ay, beq_iff_eq, beq_eq_false_iff_ne, ne_eq, decide_eq_true_eq, decide_eq_false_iff_not, Int.toNat_natCast]
 have hsz : Sz (sQ b n d) (bW (sQ b n d)) := uQ
 refine ⟨fun hb => ⟨by omega, by omega, ?_⟩, fun hb => ⟨⟨by omega, by omega⟩, ⟨by omega, by omega⟩, by omega, ⟨?_, by omega, by omega, by omega⟩, ⟨by omega, by omega⟩, fun hc => ⟨⟨by omega, ?_, by omega, by omega, by omega⟩, ⟨by omega, by omega⟩, ⟨by omega, by omega⟩, by omega, ?_⟩, fun hc => ⟨⟨by omega, by omega⟩, by omega, ?_⟩⟩⟩
 ·have hn0 : n = 0 := by omega
  have : sQ b n d = 0 := by rw [hn0, Ax]
  rw [this]
  exact mW
 ·exact fun i hi => ⟨0, by omega, rfl⟩
 ·refine eG (XY hN fun i hi => ?_)
  simp [numOf]
 ·have hn0 : n ≠ 0 := by omega
  have hN0 := hN0 hn0
  refine bq.trans (eI (vs := [.bool b, .mag N, .mag D]) ⟨.refl _, iM (z4 (by omega) hN) fun i hi => ?_, iM ?_ fun i hi => ?_, trivial⟩) (pU hn0 hd0 f1 ?_ hsz)
  ·show aj _ _ = _
   unfold aj
   rw [Th hi, ← CB (s := 0) (z := fun i => numOf (AV.int .u32 0)) hN hi]
   rfl
  ·rw [z4 (by omega) hD]; omega
  ·show aj _ _ = _
   unfold aj
   rw [CB hD (by omega)]
  ·rw [← f2, if_neg (by omega)]
 ·have hn0 : n ≠ 0 := by omega
  have hN0 := hN0 hn0
  refine bq.trans (eI (vs := [.bool b, .mag N, .mag 0]) ⟨.refl _, iM (z4 (by omega) hN) fun i hi => ?_, .refl _, trivial⟩) (pU hn0 hd0 f1 ?_ hsz)
  ·show aj _ _ = _
   unfold aj
   rw [← CB (s := 0) (z := fun i => numOf (AV.int .u32 0)) hN hi]
   rfl
  ·rw [← f2, if_pos (by omega)]
def A2 : Spec := bu fun l => match l with
 | [.bool b, .int .u64 n, .int .u64 d] => some (aK (.rat (sQ b n.toNat d.toNat) (bW (sQ b n.toNat d.toNat))) [0 ≤ n ∧ n < 2 ^ 64, 0 < d ∧ d < 2 ^ 64])
 | _ => none
theorem Dx : ∀ K args pre r, A2 K args pre = some r → aC P oN K args pre r := by
 refine bQ fun K args r hk hs _ => ?_
 split at hs
 ·rename_i b n d
  simp only [Option.some.injEq] at hs
  subst hs
  intro need
  obtain ⟨⟨h1, h2⟩, h3, h4⟩ : (0 ≤ n ∧ n < 2 ^ 64) ∧ 0 < d ∧ d < 2 ^ 64 := need
  obtain ⟨n, rfl⟩ := Int.eq_ofNat_of_zero_le h1
  obtain ⟨d, rfl⟩ := Int.eq_ofNat_of_zero_le (Int.le_of_lt h3)
  exact ZA (by omega) (by omega) (by omega) K [] trivial
 ·simp at hs
theorem Mz (K : Nat) (pre : aB) : aC P qk K [] pre (aK (.mag 1) []) := by
 refine bH (T := T) hT aY hm VR rfl (of_decide_eq_true (by kernel_rfl)) rfl 60 Uj (fun _ => ?_) K pre
 refine ⟨by simp [ay], iM (by decide) fun i hi => ?_⟩
 have : i = 0 := by omega
 subst this
 rfl
def B2 : Spec := bu fun l => match l with
 | [] => some (aK (.mag 1) [])
 | _ => none
theorem HY : ∀ K args pre r, B2 K args pre = some r → aC P qk K args pre r := by
 refine bQ fun K args r hk hs _ => ?_
 split at hs
 ·simp only [Option.some.injEq] at hs
  subst hs
  exact Mz K []
 ·simp at hs
end Go.Am.B
