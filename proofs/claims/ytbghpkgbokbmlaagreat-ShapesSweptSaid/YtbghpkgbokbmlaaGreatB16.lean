/- rational.short and what is near it. -/
import Derived.Test.YtbghpkgbokbmlaaGreatB15
import Derived.Test.YtbghpkgbokbmlaaGreatZ1
set_option linter.unusedVariables false
namespace Go.Am.B
open Go Go.Am.N AV
theorem QY : aP P qv uP (au uP) := aL O7 (by kernel_rfl) (by kernel_rfl) (by kernel_rfl)
theorem Y9 : aP P pV tg (au tg) := aL Sq (by kernel_rfl) (by kernel_rfl) (by kernel_rfl)
def GS : aQ := [(uR, Gw), (vL, Cy)]
theorem abw {b : Bool} {n d : Nat} : bA T GS [13, 35] 60 uP (au uP) ⟨aM 0 [.bool b, .int .u64 n, .int .u64 d], [], 0⟩ =
  some (aa.fork ((↑n : Int) == (0 : Int)) (aa.af [(0 : Nat) < 1] (aa.af [(0 : Nat) < 1] (aa.leaf ag.ret [agg [AV.bool false, mag 0, mag 0]]))) (aa.af [(0 : Int) ≤ (↑n : Int), (0 : Int) ≤ (↑d : Int)] (aa.af [(↑((↑n : Int).toNat.gcd (↑d : Int).toNat) : Int) ≠ (0 : Int), (↑((↑n : Int).toNat.gcd (↑d : Int).toNat) : Int) ≠ (0 : Int)] (aa.af [(0 : Int) ≤ (4 : Int) ∧ (4 : Int) ≤ (4 : Int) ∧ (4 : Int) ≤ (2 : Int) ^ 47 ∧ (4 : Int) * (↑(4 : Nat) : Int) ≤ (2 : Int) ^ 47] (aa.af [cR (Int.toNat (4 : Int)) fun (x : Nat) ↦ int IntKind.u32 (0 : Int), (0 : Int) ≤ IntKind.u64.wrap ((↑n : Int).tdiv (↑((↑n : Int).toNat.gcd (↑d : Int).toNat) : Int)) ∧ IntKind.u64.wrap ((↑n : Int).tdiv (↑((↑n : Int).toNat.gcd (↑d : Int).toNat) : Int)) < (2 : Int) ^ 64, bR (IntKind.u64.wrap ((↑n : Int).tdiv (↑((↑n : Int).toNat.gcd (↑d : Int).toNat) : Int))).toNat ≤ Int.toNat (4 : Int), (0 : Nat) + Int.toNat (4 : Int) ≤ Int.toNat (4 : Int)] (aa.af [(0 : Int) ≤ (0 : Int) ∧ (0 : Int) ≤ (↑(bR (IntKind.u64.wrap ((↑n : Int).tdiv (↑((↑n : Int).toNat.gcd (↑d : Int).toNat) : Int))).toNat) : Int) ∧ (↑(bR (IntKind.u64.wrap ((↑n : Int).tdiv (↑((↑n : Int).toNat.gcd (↑d : Int).toNat) : Int))).toNat) : Int) ≤ (↑(bR (IntKind.u64.wrap ((↑n : Int).tdiv (↑((↑n : Int).toNat.gcd (↑d : Int).toNat) : Int))).toNat) : Int) ∧ (↑(bR (IntKind.u64.wrap ((↑n : Int).tdiv (↑((↑n : Int).toNat.gcd (↑d : Int).toNat) : Int))).toNat) : Int) ≤ (↑(Int.toNat (4 : Int)) : Int), (0 : Nat) < 1] (aa.fork (decide (IntKind.u64.wrap ((↑d : Int).tdiv (↑((↑n : Int).toNat.gcd (↑d : Int).toNat) : Int)) > (1 : Int))) (aa.af [(0 : Int) ≤ (↑(bR (IntKind.u64.wrap ((↑n : Int).tdiv (↑((↑n : Int).toNat.gcd (↑d : Int).toNat) : Int))).toNat) : Int) ∧ (↑(bR (IntKind.u64.wrap ((↑n : Int).tdiv (↑((↑n : Int).toNat.gcd (↑d : Int).toNat) : Int))).toNat) : Int) ≤ (↑(Int.toNat (4 : Int)) : Int) ∧ (↑(Int.toNat (4 : Int)) : Int) ≤ (↑(Int.toNat (4 : Int)) : Int) ∧ (↑(Int.toNat (4 : Int)) : Int) ≤ (↑(Int.toNat (4 : Int)) : Int), cR (Int.toNat (4 : Int)) (ah (fC (fun (i : Nat) ↦ numOf (int IntKind.u32 (0 : Int))) 0 (IntKind.u64.wrap ((↑n : Int).tdiv (↑((↑n : Int).toNat.gcd (↑d : Int).toNat) : Int))).toNat)), (0 : Int) ≤ IntKind.u64.wrap ((↑d : Int).tdiv (↑((↑n : Int).toNat.gcd (↑d : Int).toNat) : Int)) ∧ IntKind.u64.wrap ((↑d : Int).tdiv (↑((↑n : Int).toNat.gcd (↑d : Int).toNat) : Int)) < (2 : Int) ^ 64, bR (IntKind.u64.wrap ((↑d : Int).tdiv (↑((↑n : Int).toNat.gcd (↑d : Int).toNat) : Int))).toNat ≤ (↑(Int.toNat (4 : Int)) : Int).toNat - (↑(bR (IntKind.u64.wrap ((↑n : Int).tdiv (↑((↑n : Int).toNat.gcd (↑d : Int).toNat) : Int))).toNat) : Int).toNat, (0 : Nat) + (↑(bR (IntKind.u64.wrap ((↑n : Int).tdiv (↑((↑n : Int).toNat.gcd (↑d : Int).toNat) : Int))).toNat) : Int).toNat + ((↑(Int.toNat (4 : Int)) : Int).toNat - (↑(bR (IntKind.u64.wrap ((↑n : Int).tdiv (↑((↑n : Int).toNat.gcd (↑d : Int).toNat) : Int))).toNat) : Int).toNat) ≤ Int.toNat (4 : Int)] (aa.af [(0 : Int) ≤ (↑(bR (IntKind.u64.wrap ((↑n : Int).tdiv (↑((↑n : Int).toNat.gcd (↑d : Int).toNat) : Int))).toNat) : Int) ∧ (↑(bR (IntKind.u64.wrap ((↑n : Int).tdiv (↑((↑n : Int).toNat.gcd (↑d : Int).toNat) : Int))).toNat) : Int) ≤ IntKind.i64.wrap ((↑(bR (IntKind.u64.wrap ((↑n : Int).tdiv (↑((↑n : Int).toNat.gcd (↑d : Int).toNat) : Int))).toNat) : Int) + (↑(bR (IntKind.u64.wrap ((↑d : Int).tdiv (↑((↑n : Int).toNat.gcd (↑d : Int).toNat) : Int))).toNat) : Int)) ∧ IntKind.i64.wrap ((↑(bR (IntKind.u64.wrap ((↑n : Int).tdiv (↑((↑n : Int).toNat.gcd (↑d : Int).toNat) : Int))).toNat) : Int) + (↑(bR (IntKind.u64.wrap ((↑d : Int).tdiv (↑((↑n : Int).toNat.gcd (↑d : Int).toNat) : Int))).toNat) : Int)) ≤ IntKind.i64.wrap ((↑(bR (IntKind.u64.wrap ((↑n : Int).tdiv (↑((↑n : Int).toNat.gcd (↑d : Int).toNat) : Int))).toNat) : Int) + (↑(bR (IntKind.u64.wrap ((↑d : Int).tdiv (↑((↑n : Int).toNat.gcd (↑d : Int).toNat) : Int))).toNat) : Int)) ∧ IntKind.i64.wrap ((↑(bR (IntKind.u64.wrap ((↑n : Int).tdiv (↑((↑n : Int).toNat.gcd (↑d : Int).toNat) : Int))).toNat) : Int) + (↑(bR (IntKind.u64.wrap ((↑d : Int).tdiv (↑((↑n : Int).toNat.gcd (↑d : Int).toNat) : Int))).toNat) : Int)) ≤ (↑(Int.toNat (4 : Int)) : Int), (0 : Nat) < 1] (aa.af [(0 : Nat) < 1, (0 : Nat) < 1] (aa.af [(0 : Nat) < 1] (aa.leaf ag.ret [agg [AV.bool b, aj 1 ((↑(bR (IntKind.u64.wrap ((↑n : Int).tdiv (↑((↑n : Int).toNat.gcd (↑d : Int).toNat) : Int))).toNat) : Int).toNat - Int.toNat (0 : Int)) fun (i : Nat) ↦ ah (fC (fun (i : Nat) ↦ numOf (ah (fC (fun (i : Nat) ↦ numOf (int IntKind.u32 (0 : Int))) 0 (IntKind.u64.wrap ((↑n : Int).tdiv (↑((↑n : Int).toNat.gcd (↑d : Int).toNat) : Int))).toNat) i)) ((0 : Nat) + (↑(bR (IntKind.u64.wrap ((↑n : Int).tdiv (↑((↑n : Int).toNat.gcd (↑d : Int).toNat) : Int))).toNat) : Int).toNat) (IntKind.u64.wrap ((↑d : Int).tdiv (↑((↑n : Int).toNat.gcd (↑d : Int).toNat) : Int))).toNat) (i + ((0 : Nat) + Int.toNat (0 : Int))), aj 1 ((IntKind.i64.wrap ((↑(bR (IntKind.u64.wrap ((↑n : Int).tdiv (↑((↑n : Int).toNat.gcd (↑d : Int).toNat) : Int))).toNat) : Int) + (↑(bR (IntKind.u64.wrap ((↑d : Int).tdiv (↑((↑n : Int).toNat.gcd (↑d : Int).toNat) : Int))).toNat) : Int))).toNat - (↑(bR (IntKind.u64.wrap ((↑n : Int).tdiv (↑((↑n : Int).toNat.gcd (↑d : Int).toNat) : Int))).toNat) : Int).toNat) fun (i : Nat) ↦ ah (fC (fun (i : Nat) ↦ numOf (ah (fC (fun (i : Nat) ↦ numOf (int IntKind.u32 (0 : Int))) 0 (IntKind.u64.wrap ((↑n : Int).tdiv (↑((↑n : Int).toNat.gcd (↑d : Int).toNat) : Int))).toNat) i)) ((0 : Nat) + (↑(bR (IntKind.u64.wrap ((↑n : Int).tdiv (↑((↑n : Int).toNat.gcd (↑d : Int).toNat) : Int))).toNat) : Int).toNat) (IntKind.u64.wrap ((↑d : Int).tdiv (↑((↑n : Int).toNat.gcd (↑d : Int).toNat) : Int))).toNat) (i + ((0 : Nat) + (↑(bR (IntKind.u64.wrap ((↑n : Int).tdiv (↑((↑n : Int).toNat.gcd (↑d : Int).toNat) : Int))).toNat) : Int).toNat))]]))))) (aa.af [(0 : Nat) < 1, (0 : Nat) < 1] (aa.af [(0 : Nat) < 1] (aa.leaf ag.ret [agg [AV.bool b, aj 1 ((↑(bR (IntKind.u64.wrap ((↑n : Int).tdiv (↑((↑n : Int).toNat.gcd (↑d : Int).toNat) : Int))).toNat) : Int).toNat - Int.toNat (0 : Int)) fun (i : Nat) ↦ ah (fC (fun (i : Nat) ↦ numOf (int IntKind.u32 (0 : Int))) 0 (IntKind.u64.wrap ((↑n : Int).tdiv (↑((↑n : Int).toNat.gcd (↑d : Int).toNat) : Int))).toNat) (i + ((0 : Nat) + Int.toNat (0 : Int))), mag 0]])))))))))) := by kernel_rfl
theorem Rw : bA T [] [] 60 tg (au tg) ⟨[], [], 0⟩ =
  some (aa.af [(1 : Nat) * 1 ≤ 2 ^ 24] (aa.leaf ag.ret [aj 1 1 fun (i : Nat) ↦ nth [int IntKind.u32 (1 : Int)] (int IntKind.u32 (0 : Int)) (i + 0)])) := by kernel_rfl
theorem adl : aW P GS := aC Ua (aC Vq aT)
theorem BS {x : Nat} (h0 : x ≠ 0) (hx : x < 2 ^ 64) : nl x = bR x := by
 have h1 := eO.2 h0
 have h2 : nl x ≤ 2 := cw.2 hx
 unfold bR
 split
 ·have : nl x ≤ 1 := cw.2 (by omega)
  omega
 ·have : ¬ nl x ≤ 1 := by rw [cw]; omega
  omega
theorem C6 {z : Nat → Nat} {s x i : Nat} (hx : x < 2 ^ 64) (hi : i < bR x) : fC z s x (i + s) = ak x i := by
 unfold bR at hi
 unfold fC ak
 by_cases h : i = 0
 ·subst h; simp
 ·have h1 : i = 1 := by split at hi <;> omega
  subst h1
  have h2 : 4294967296 ≤ x := by split at hi <;> omega
  rw [if_neg (by omega), if_pos ⟨by omega, h2⟩]
  simp only [Nat.mul_one]
  exact (Nat.mod_eq_of_lt (by omega)).symm
theorem Yk {z : Nat → Nat} {s x i : Nat} (hi : i < s) : fC z s x i = z i := by
 unfold fC
 rw [if_neg (by omega), if_neg (by omega)]
theorem Qp {z : Nat → Nat} {s x n : Nat} (hx : x < 2 ^ 64) (hz : ∀ i, i < n → z i < 2 ^ 32) : ∀ i, i < n → fC z s x i < 2 ^ 32 := fun i hi => by
 unfold fC
 have := hz i hi
 split
 ·omega
 ·split <;> omega
theorem MY {b : Bool} {n d : Nat} (hn : n < 2 ^ 64) (hd : d < 2 ^ 64) (hd0 : d ≠ 0) (K : Nat) (pre : aD) : az P qv K [.bool b, .int .u64 n, .int .u64 d] pre (aF (.rat (sQ b n d) (bV (sQ b n d))) []) := by
 refine bD hT adl hm QY rfl (of_decide_eq_true (by kernel_rfl)) rfl 60 abw (fun _ => ?_) K pre
 obtain ⟨g, hg⟩ : ∃ g, g = Nat.gcd n d := ⟨_, rfl⟩
 simp only [Int.toNat_natCast, ← hg, show Int.toNat 4 = 4 from rfl, Int.toNat_zero, Nat.zero_add, Nat.add_zero, Nat.sub_zero]
 have hg0 : 0 < g := by rw [hg]; exact Nat.gcd_pos_of_pos_right _ (by omega)
 have hgn : g ∣ n := by rw [hg]; exact Nat.gcd_dvd_left _ _
 have hgd : g ∣ d := by rw [hg]; exact Nat.gcd_dvd_right _ _
 have hN : n / g < 2 ^ 64 := Nat.lt_of_le_of_lt (Nat.div_le_self _ _) hn
 have hD : d / g < 2 ^ 64 := Nat.lt_of_le_of_lt (Nat.div_le_self _ _) hd
 have hD0 : 0 < d / g := Nat.div_pos (Nat.le_of_dvd (by omega) hgd) hg0
 have hN0 : n ≠ 0 → 0 < n / g := fun h => Nat.div_pos (Nat.le_of_dvd (by omega) hgn) hg0
 have e1 : IntKind.u64.wrap ((n : Int).tdiv (g : Int)) = ((n / g : Nat) : Int) := by
  rw [← Int.ofNat_tdiv, rZ, Nat.mod_eq_of_lt hN]
 have e2 : IntKind.u64.wrap ((d : Int).tdiv (g : Int)) = ((d / g : Nat) : Int) := by
  rw [← Int.ofNat_tdiv, rZ, Nat.mod_eq_of_lt hD]
 rw [e1, e2]
 clear e1 e2
 have f1 : n / g = n / Nat.gcd n d := by rw [hg]
 have f2 : d / g = d / Nat.gcd n d := by rw [hg]
 generalize n / g = N at *
 generalize d / g = D at *
 simp only [Int.toNat_natCast]
 have hnl : ∀ x, bR x = 1 ∨ bR x = 2 := fun x => by unfold bR; split <;> simp
 have l1 := hnl N
 have l2 := hnl D
 have w1 : IntKind.i64.wrap ((bR N : Int) + (bR D : Int)) = ((bR N + bR D : Nat) : Int) := by rw [wrap_i64 (by omega) (by omega)]; omega
 rw [w1]
 simp only [aa.all, ax, beq_iff_eq, beq_eq_false_iff_ne, ne_eq, decide_eq_true_eq, decide_eq_false_iff_not, Int.toNat_natCast]
 have hsz : Sz (sQ b n d) (bV (sQ b n d)) := rT
 refine ⟨fun hb => ⟨by omega, by omega, ?_⟩, fun hb => ⟨⟨by omega, by omega⟩, ⟨by omega, by omega⟩, by omega, ⟨?_, by omega, by omega, by omega⟩, ⟨by omega, by omega⟩, fun hc => ⟨⟨by omega, ?_, by omega, by omega, by omega⟩, ⟨by omega, by omega⟩, ⟨by omega, by omega⟩, by omega, ?_⟩, fun hc => ⟨⟨by omega, by omega⟩, by omega, ?_⟩⟩⟩
 ·have hn0 : n = 0 := by omega
  have : sQ b n d = 0 := by rw [hn0, Di]
  rw [this]
  exact jI
 ·exact fun i hi => ⟨0, by omega, rfl⟩
 ·refine eW (Qp hN fun i hi => ?_)
  simp [numOf]
 ·have hn0 : n ≠ 0 := by omega
  have hN0 := hN0 hn0
  refine bn.trans (cN (vs := [.bool b, .mag N, .mag D]) ⟨.refl _, jj (BS (by omega) hN) fun i hi => ?_, jj ?_ fun i hi => ?_, trivial⟩) (pR hn0 hd0 f1 ?_ hsz)
  ·show ah _ _ = _
   unfold ah
   rw [Yk hi, ← C6 (s := 0) (z := fun i => numOf (AV.int .u32 0)) hN hi]
   rfl
  ·rw [BS (by omega) hD]; omega
  ·show ah _ _ = _
   unfold ah
   rw [C6 hD (by omega)]
  ·rw [← f2, if_neg (by omega)]
 ·have hn0 : n ≠ 0 := by omega
  have hN0 := hN0 hn0
  refine bn.trans (cN (vs := [.bool b, .mag N, .mag 0]) ⟨.refl _, jj (BS (by omega) hN) fun i hi => ?_, .refl _, trivial⟩) (pR hn0 hd0 f1 ?_ hsz)
  ·show ah _ _ = _
   unfold ah
   rw [← C6 (s := 0) (z := fun i => numOf (AV.int .u32 0)) hN hi]
   rfl
  ·rw [← f2, if_pos (by omega)]
def B6 : Spec := bt fun l => match l with
 | [.bool b, .int .u64 n, .int .u64 d] => some (aF (.rat (sQ b n.toNat d.toNat) (bV (sQ b n.toNat d.toNat))) [0 ≤ n ∧ n < 2 ^ 64, 0 < d ∧ d < 2 ^ 64])
 | _ => none
theorem Jb : ∀ K args pre r, B6 K args pre = some r → az P qv K args pre r := by
 refine bH fun K args r hk hs _ => ?_
 split at hs
 ·rename_i b n d
  simp only [Option.some.injEq] at hs
  subst hs
  intro need
  obtain ⟨⟨h1, h2⟩, h3, h4⟩ : (0 ≤ n ∧ n < 2 ^ 64) ∧ 0 < d ∧ d < 2 ^ 64 := need
  obtain ⟨n, rfl⟩ := Int.eq_ofNat_of_zero_le h1
  obtain ⟨d, rfl⟩ := Int.eq_ofNat_of_zero_le (Int.le_of_lt h3)
  exact MY (by omega) (by omega) (by omega) K [] trivial
 ·simp at hs
theorem NQ (K : Nat) (pre : aD) : az P pV K [] pre (aF (.mag 1) []) := by
 refine bD (T := T) hT aT hm Y9 rfl (of_decide_eq_true (by kernel_rfl)) rfl 60 Rw (fun _ => ?_) K pre
 refine ⟨by simp [ax], jj (by decide) fun i hi => ?_⟩
 have : i = 0 := by omega
 subst this
 rfl
def CD : Spec := bt fun l => match l with
 | [] => some (aF (.mag 1) [])
 | _ => none
theorem FO : ∀ K args pre r, CD K args pre = some r → az P pV K args pre r := by
 refine bH fun K args r hk hs _ => ?_
 split at hs
 ·simp only [Option.some.injEq] at hs
  subst hs
  exact NQ K []
 ·simp at hs
end Go.Am.B
