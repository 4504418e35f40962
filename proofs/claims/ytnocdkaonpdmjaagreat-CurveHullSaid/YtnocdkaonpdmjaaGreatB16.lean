/- rational.short and what is near it. -/
import Derived.Test.YtnocdkaonpdmjaaGreatB15
import Derived.Test.YtnocdkaonpdmjaaGreatZ2
set_option linter.unusedVariables false
namespace Go.Am.B
open Go Go.Am.N AV
theorem OF : aO P qF xy (ax xy) := aP acp (by kernel_rfl) (by kernel_rfl) (by kernel_rfl)
theorem W7 : aO P pq wj (ax wj) := aP YE (by kernel_rfl) (by kernel_rfl) (by kernel_rfl)
def GS : aQ := [(vK, Jr), (rI, Du)]
theorem Oi {b : Bool} {n d : Nat} : bB T GS [13, 35] 60 xy (ax xy) ⟨aL 0 [.bool b, .int .u64 n, .int .u64 d], [], 0⟩ =
  some (aa.fork ((↑n : Int) == (0 : Int)) (aa.ag [(0 : Nat) < 1] (aa.ag [(0 : Nat) < 1] (aa.leaf aj.ret [agg [AV.bool false, mag 0, mag 0]]))) (aa.ag [(0 : Int) ≤ (↑n : Int), (0 : Int) ≤ (↑d : Int)] (aa.ag [(↑((↑n : Int).toNat.gcd (↑d : Int).toNat) : Int) ≠ (0 : Int), (↑((↑n : Int).toNat.gcd (↑d : Int).toNat) : Int) ≠ (0 : Int)] (aa.ag [(0 : Int) ≤ (4 : Int) ∧ (4 : Int) ≤ (4 : Int) ∧ (4 : Int) ≤ (2 : Int) ^ 47 ∧ (4 : Int) * (↑(4 : Nat) : Int) ≤ (2 : Int) ^ 47] (aa.ag [cO (Int.toNat (4 : Int)) fun (x : Nat) ↦ int IntKind.u32 (0 : Int), (0 : Int) ≤ IntKind.u64.wrap ((↑n : Int).tdiv (↑((↑n : Int).toNat.gcd (↑d : Int).toNat) : Int)) ∧ IntKind.u64.wrap ((↑n : Int).tdiv (↑((↑n : Int).toNat.gcd (↑d : Int).toNat) : Int)) < (2 : Int) ^ 64, bX (IntKind.u64.wrap ((↑n : Int).tdiv (↑((↑n : Int).toNat.gcd (↑d : Int).toNat) : Int))).toNat ≤ Int.toNat (4 : Int), (0 : Nat) + Int.toNat (4 : Int) ≤ Int.toNat (4 : Int)] (aa.ag [(0 : Int) ≤ (0 : Int) ∧ (0 : Int) ≤ (↑(bX (IntKind.u64.wrap ((↑n : Int).tdiv (↑((↑n : Int).toNat.gcd (↑d : Int).toNat) : Int))).toNat) : Int) ∧ (↑(bX (IntKind.u64.wrap ((↑n : Int).tdiv (↑((↑n : Int).toNat.gcd (↑d : Int).toNat) : Int))).toNat) : Int) ≤ (↑(bX (IntKind.u64.wrap ((↑n : Int).tdiv (↑((↑n : Int).toNat.gcd (↑d : Int).toNat) : Int))).toNat) : Int) ∧ (↑(bX (IntKind.u64.wrap ((↑n : Int).tdiv (↑((↑n : Int).toNat.gcd (↑d : Int).toNat) : Int))).toNat) : Int) ≤ (↑(Int.toNat (4 : Int)) : Int), (0 : Nat) < 1] (aa.fork (decide (IntKind.u64.wrap ((↑d : Int).tdiv (↑((↑n : Int).toNat.gcd (↑d : Int).toNat) : Int)) > (1 : Int))) (aa.ag [(0 : Int) ≤ (↑(bX (IntKind.u64.wrap ((↑n : Int).tdiv (↑((↑n : Int).toNat.gcd (↑d : Int).toNat) : Int))).toNat) : Int) ∧ (↑(bX (IntKind.u64.wrap ((↑n : Int).tdiv (↑((↑n : Int).toNat.gcd (↑d : Int).toNat) : Int))).toNat) : Int) ≤ (↑(Int.toNat (4 : Int)) : Int) ∧ (↑(Int.toNat (4 : Int)) : Int) ≤ (↑(Int.toNat (4 : Int)) : Int) ∧ (↑(Int.toNat (4 : Int)) : Int) ≤ (↑(Int.toNat (4 : Int)) : Int), cO (Int.toNat (4 : Int)) (ah (fE (fun (i : Nat) ↦ numOf (int IntKind.u32 (0 : Int))) 0 (IntKind.u64.wrap ((↑n : Int).tdiv (↑((↑n : Int).toNat.gcd (↑d : Int).toNat) : Int))).toNat)), (0 : Int) ≤ IntKind.u64.wrap ((↑d : Int).tdiv (↑((↑n : Int).toNat.gcd (↑d : Int).toNat) : Int)) ∧ IntKind.u64.wrap ((↑d : Int).tdiv (↑((↑n : Int).toNat.gcd (↑d : Int).toNat) : Int)) < (2 : Int) ^ 64, bX (IntKind.u64.wrap ((↑d : Int).tdiv (↑((↑n : Int).toNat.gcd (↑d : Int).toNat) : Int))).toNat ≤ (↑(Int.toNat (4 : Int)) : Int).toNat - (↑(bX (IntKind.u64.wrap ((↑n : Int).tdiv (↑((↑n : Int).toNat.gcd (↑d : Int).toNat) : Int))).toNat) : Int).toNat, (0 : Nat) + (↑(bX (IntKind.u64.wrap ((↑n : Int).tdiv (↑((↑n : Int).toNat.gcd (↑d : Int).toNat) : Int))).toNat) : Int).toNat + ((↑(Int.toNat (4 : Int)) : Int).toNat - (↑(bX (IntKind.u64.wrap ((↑n : Int).tdiv (↑((↑n : Int).toNat.gcd (↑d : Int).toNat) : Int))).toNat) : Int).toNat) ≤ Int.toNat (4 : Int)] (aa.ag [(0 : Int) ≤ (↑(bX (IntKind.u64.wrap ((↑n : Int).tdiv (↑((↑n : Int).toNat.gcd (↑d : Int).toNat) : Int))).toNat) : Int) ∧ (↑(bX (IntKind.u64.wrap ((↑n : Int).tdiv (↑((↑n : Int).toNat.gcd (↑d : Int).toNat) : Int))).toNat) : Int) ≤ IntKind.i64.wrap ((↑(bX (IntKind.u64.wrap ((↑n : Int).tdiv (↑((↑n : Int).toNat.gcd (↑d : Int).toNat) : Int))).toNat) : Int) + (↑(bX (IntKind.u64.wrap ((↑d : Int).tdiv (↑((↑n : Int).toNat.gcd (↑d : Int).toNat) : Int))).toNat) : Int)) ∧ IntKind.i64.wrap ((↑(bX (IntKind.u64.wrap ((↑n : Int).tdiv (↑((↑n : Int).toNat.gcd (↑d : Int).toNat) : Int))).toNat) : Int) + (↑(bX (IntKind.u64.wrap ((↑d : Int).tdiv (↑((↑n : Int).toNat.gcd (↑d : Int).toNat) : Int))).toNat) : Int)) ≤ IntKind.i64.wrap ((↑(bX (IntKind.u64.wrap ((↑n : Int).tdiv (↑((↑n : Int).toNat.gcd (↑d : Int).toNat) : Int))).toNat) : Int) + (↑(bX (IntKind.u64.wrap ((↑d : Int).tdiv (↑((↑n : Int).toNat.gcd (↑d : Int).toNat) : Int))).toNat) : Int)) ∧ IntKind.i64.wrap ((↑(bX (IntKind.u64.wrap ((↑n : Int).tdiv (↑((↑n : Int).toNat.gcd (↑d : Int).toNat) : Int))).toNat) : Int) + (↑(bX (IntKind.u64.wrap ((↑d : Int).tdiv (↑((↑n : Int).toNat.gcd (↑d : Int).toNat) : Int))).toNat) : Int)) ≤ (↑(Int.toNat (4 : Int)) : Int), (0 : Nat) < 1] (aa.ag [(0 : Nat) < 1, (0 : Nat) < 1] (aa.ag [(0 : Nat) < 1] (aa.leaf aj.ret [agg [AV.bool b, ak 1 ((↑(bX (IntKind.u64.wrap ((↑n : Int).tdiv (↑((↑n : Int).toNat.gcd (↑d : Int).toNat) : Int))).toNat) : Int).toNat - Int.toNat (0 : Int)) fun (i : Nat) ↦ ah (fE (fun (i : Nat) ↦ numOf (ah (fE (fun (i : Nat) ↦ numOf (int IntKind.u32 (0 : Int))) 0 (IntKind.u64.wrap ((↑n : Int).tdiv (↑((↑n : Int).toNat.gcd (↑d : Int).toNat) : Int))).toNat) i)) ((0 : Nat) + (↑(bX (IntKind.u64.wrap ((↑n : Int).tdiv (↑((↑n : Int).toNat.gcd (↑d : Int).toNat) : Int))).toNat) : Int).toNat) (IntKind.u64.wrap ((↑d : Int).tdiv (↑((↑n : Int).toNat.gcd (↑d : Int).toNat) : Int))).toNat) (i + ((0 : Nat) + Int.toNat (0 : Int))), ak 1 ((IntKind.i64.wrap ((↑(bX (IntKind.u64.wrap ((↑n : Int).tdiv (↑((↑n : Int).toNat.gcd (↑d : Int).toNat) : Int))).toNat) : Int) + (↑(bX (IntKind.u64.wrap ((↑d : Int).tdiv (↑((↑n : Int).toNat.gcd (↑d : Int).toNat) : Int))).toNat) : Int))).toNat - (↑(bX (IntKind.u64.wrap ((↑n : Int).tdiv (↑((↑n : Int).toNat.gcd (↑d : Int).toNat) : Int))).toNat) : Int).toNat) fun (i : Nat) ↦ ah (fE (fun (i : Nat) ↦ numOf (ah (fE (fun (i : Nat) ↦ numOf (int IntKind.u32 (0 : Int))) 0 (IntKind.u64.wrap ((↑n : Int).tdiv (↑((↑n : Int).toNat.gcd (↑d : Int).toNat) : Int))).toNat) i)) ((0 : Nat) + (↑(bX (IntKind.u64.wrap ((↑n : Int).tdiv (↑((↑n : Int).toNat.gcd (↑d : Int).toNat) : Int))).toNat) : Int).toNat) (IntKind.u64.wrap ((↑d : Int).tdiv (↑((↑n : Int).toNat.gcd (↑d : Int).toNat) : Int))).toNat) (i + ((0 : Nat) + (↑(bX (IntKind.u64.wrap ((↑n : Int).tdiv (↑((↑n : Int).toNat.gcd (↑d : Int).toNat) : Int))).toNat) : Int).toNat))]]))))) (aa.ag [(0 : Nat) < 1, (0 : Nat) < 1] (aa.ag [(0 : Nat) < 1] (aa.leaf aj.ret [agg [AV.bool b, ak 1 ((↑(bX (IntKind.u64.wrap ((↑n : Int).tdiv (↑((↑n : Int).toNat.gcd (↑d : Int).toNat) : Int))).toNat) : Int).toNat - Int.toNat (0 : Int)) fun (i : Nat) ↦ ah (fE (fun (i : Nat) ↦ numOf (int IntKind.u32 (0 : Int))) 0 (IntKind.u64.wrap ((↑n : Int).tdiv (↑((↑n : Int).toNat.gcd (↑d : Int).toNat) : Int))).toNat) (i + ((0 : Nat) + Int.toNat (0 : Int))), mag 0]])))))))))) := by kernel_rfl
theorem Xl : bB T [] [] 60 wj (ax wj) ⟨[], [], 0⟩ =
  some (aa.ag [(1 : Nat) * 1 ≤ 2 ^ 24] (aa.leaf aj.ret [ak 1 1 fun (i : Nat) ↦ nth [int IntKind.u32 (1 : Int)] (int IntKind.u32 (0 : Int)) (i + 0)])) := by kernel_rfl
theorem aaD : bg P GS := aH XG (aH Lr bn)
theorem Dw {x : Nat} (h0 : x ≠ 0) (hx : x < 2 ^ 64) : nl x = bX x := by
 have h1 := eP.2 h0
 have h2 : nl x ≤ 2 := cB.2 hx
 unfold bX
 split
 ·have : nl x ≤ 1 := cB.2 (by omega)
  omega
 ·have : ¬ nl x ≤ 1 := by rw [cB]; omega
  omega
theorem Cy {z : Nat → Nat} {s x i : Nat} (hx : x < 2 ^ 64) (hi : i < bX x) : fE z s x (i + s) = au x i := by
 unfold bX at hi
 unfold fE au
 by_cases h : i = 0
 ·subst h; simp
 ·have h1 : i = 1 := by split at hi <;> omega
  subst h1
  have h2 : 4294967296 ≤ x := by split at hi <;> omega
  rw [if_neg (by omega), if_pos ⟨by omega, h2⟩]
  simp only [Nat.mul_one]
  exact (Nat.mod_eq_of_lt (by omega)).symm
theorem NS {z : Nat → Nat} {s x i : Nat} (hi : i < s) : fE z s x i = z i := by
 unfold fE
 rw [if_neg (by omega), if_neg (by omega)]
theorem Vg {z : Nat → Nat} {s x n : Nat} (hx : x < 2 ^ 64) (hz : ∀ i, i < n → z i < 2 ^ 32) : ∀ i, i < n → fE z s x i < 2 ^ 32 := fun i hi => by
 unfold fE
 have := hz i hi
 split
 ·omega
 ·split <;> omega
theorem S8 {b : Bool} {n d : Nat} (hn : n < 2 ^ 64) (hd : d < 2 ^ 64) (hd0 : d ≠ 0) (K : Nat) (pre : aD) : aA P qF K [.bool b, .int .u64 n, .int .u64 d] pre (aG (.rat (sQ b n d) (bS (sQ b n d))) []) := by
 refine bH hT aaD hm OF rfl (of_decide_eq_true (by kernel_rfl)) rfl 60 Oi (fun _ => ?_) K pre
 obtain ⟨g, hg⟩ : ∃ g, g = Nat.gcd n d := ⟨_, rfl⟩
 simp only [Int.toNat_natCast, ← hg, show Int.toNat 4 = 4 from rfl, Int.toNat_zero, Nat.zero_add, Nat.add_zero, Nat.sub_zero]
 have hg0 : 0 < g := by rw [hg]; exact Nat.gcd_pos_of_pos_right _ (by omega)
 have hgn : g ∣ n := by rw [hg]; exact Nat.gcd_dvd_left _ _
 have hgd : g ∣ d := by rw [hg]; exact Nat.gcd_dvd_right _ _
 have hN : n / g < 2 ^ 64 := Nat.lt_of_le_of_lt (Nat.div_le_self _ _) hn
 have hD : d / g < 2 ^ 64 := Nat.lt_of_le_of_lt (Nat.div_le_self _ _) hd
 have hD0 : 0 < d / g := Nat.div_pos (Nat.le_of_dvd (by omega) hgd) hg0
 have hN0 : n ≠ 0 → 0 < n / g := fun h => Nat.div_pos (Nat.le_of_dvd (by omega) hgn) hg0
 have e1 : IntKind.u64.wrap ((n : Int).tdiv (g : Int)) = ((n / g : Nat) : Int) := by
  rw [← Int.ofNat_tdiv, wA, Nat.mod_eq_of_lt hN]
 have e2 : IntKind.u64.wrap ((d : Int).tdiv (g : Int)) = ((d / g : Nat) : Int) := by
  rw [← Int.ofNat_tdiv, wA, Nat.mod_eq_of_lt hD]
 rw [e1, e2]
 clear e1 e2
 have f1 : n / g = n / Nat.gcd n d := by rw [hg]
 have f2 : d / g = d / Nat.gcd n d := by rw [hg]
 generalize n / g = N at *
 generalize d / g = D at *
 simp only [Int.toNat_natCast]
 have hnl : ∀ x, bX x = 1 ∨ bX x = 2 := fun x => by unfold bX; split <;> simp
 have l1 := hnl N
 have l2 := hnl D
 have w1 : IntKind.i64.wrap ((bX N : Int) + (bX D : Int)) = ((bX N + bX D : Nat) : Int) := by rw [wrap_i64 (by omega) (by omega)]; omega
 rw [w1]
 simp only [aa.all, ay, beq_iff_eq, beq_eq_false_iff_ne, ne_eq, decide_eq_true_eq, decide_eq_false_iff_not, Int.toNat_natCast]
 have hsz : Sz (sQ b n d) (bS (sQ b n d)) := sO
 refine ⟨fun hb => ⟨by omega, by omega, ?_⟩, fun hb => ⟨⟨by omega, by omega⟩, ⟨by omega, by omega⟩, by omega, ⟨?_, by omega, by omega, by omega⟩, ⟨by omega, by omega⟩, fun hc => ⟨⟨by omega, ?_, by omega, by omega, by omega⟩, ⟨by omega, by omega⟩, ⟨by omega, by omega⟩, by omega, ?_⟩, fun hc => ⟨⟨by omega, by omega⟩, by omega, ?_⟩⟩⟩
 ·have hn0 : n = 0 := by omega
  have : sQ b n d = 0 := by rw [hn0, A6]
  rw [this]
  exact kz
 ·exact fun i hi => ⟨0, by omega, rfl⟩
 ·refine eI (Vg hN fun i hi => ?_)
  simp [numOf]
 ·have hn0 : n ≠ 0 := by omega
  have hN0 := hN0 hn0
  refine bA.trans (ee (vs := [.bool b, .mag N, .mag D]) ⟨.refl _, jd (Dw (by omega) hN) fun i hi => ?_, jd ?_ fun i hi => ?_, trivial⟩) (pU hn0 hd0 f1 ?_ hsz)
  ·show ah _ _ = _
   unfold ah
   rw [NS hi, ← Cy (s := 0) (z := fun i => numOf (AV.int .u32 0)) hN hi]
   rfl
  ·rw [Dw (by omega) hD]; omega
  ·show ah _ _ = _
   unfold ah
   rw [Cy hD (by omega)]
  ·rw [← f2, if_neg (by omega)]
 ·have hn0 : n ≠ 0 := by omega
  have hN0 := hN0 hn0
  refine bA.trans (ee (vs := [.bool b, .mag N, .mag 0]) ⟨.refl _, jd (Dw (by omega) hN) fun i hi => ?_, .refl _, trivial⟩) (pU hn0 hd0 f1 ?_ hsz)
  ·show ah _ _ = _
   unfold ah
   rw [← Cy (s := 0) (z := fun i => numOf (AV.int .u32 0)) hN hi]
   rfl
  ·rw [← f2, if_pos (by omega)]
def CO : Spec := bu fun l => match l with
 | [.bool b, .int .u64 n, .int .u64 d] => some (aG (.rat (sQ b n.toNat d.toNat) (bS (sQ b n.toNat d.toNat))) [0 ≤ n ∧ n < 2 ^ 64, 0 < d ∧ d < 2 ^ 64])
 | _ => none
theorem Ew : ∀ K args pre r, CO K args pre = some r → aA P qF K args pre r := by
 refine bN fun K args r hk hs _ => ?_
 split at hs
 ·rename_i b n d
  simp only [Option.some.injEq] at hs
  subst hs
  intro need
  obtain ⟨⟨h1, h2⟩, h3, h4⟩ : (0 ≤ n ∧ n < 2 ^ 64) ∧ 0 < d ∧ d < 2 ^ 64 := need
  obtain ⟨n, rfl⟩ := Int.eq_ofNat_of_zero_le h1
  obtain ⟨d, rfl⟩ := Int.eq_ofNat_of_zero_le (Int.le_of_lt h3)
  exact S8 (by omega) (by omega) (by omega) K [] trivial
 ·simp at hs
theorem WS (K : Nat) (pre : aD) : aA P pq K [] pre (aG (.mag 1) []) := by
 refine bH (T := T) hT bn hm W7 rfl (of_decide_eq_true (by kernel_rfl)) rfl 60 Xl (fun _ => ?_) K pre
 refine ⟨by simp [ay], jd (by decide) fun i hi => ?_⟩
 have : i = 0 := by omega
 subst this
 rfl
def BE : Spec := bu fun l => match l with
 | [] => some (aG (.mag 1) [])
 | _ => none
theorem Kz : ∀ K args pre r, BE K args pre = some r → aA P pq K args pre r := by
 refine bN fun K args r hk hs _ => ?_
 split at hs
 ·simp only [Option.some.injEq] at hs
  subst hs
  exact WS K []
 ·simp at hs
end Go.Am.B
