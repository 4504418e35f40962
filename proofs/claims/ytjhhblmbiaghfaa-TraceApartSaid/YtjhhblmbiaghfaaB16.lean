/- rational.short and what is near it. -/
import Derived.Test.YtjhhblmbiaghfaaB15
import Derived.Test.YtjhhblmbiaghfaaZ2
set_option linter.unusedVariables false
namespace Go.Am.B
open Go Go.Am.N AV
theorem Rr : aO P o9 qK (ax qK) := aS TH (by kernel_rfl) (by kernel_rfl) (by kernel_rfl)
theorem Je : aO P pg rR (ax rR) := aS US (by kernel_rfl) (by kernel_rfl) (by kernel_rfl)
def GS : bf := [(tn, Co), (sr, xC)]
theorem R3 {b : Bool} {n d : Nat} : bA T GS [13, 35] 60 qK (ax qK) ⟨aM 0 [.bool b, .int .u64 n, .int .u64 d], [], 0⟩ =
  some (aa.fork ((↑n : Int) == (0 : Int)) (aa.af [(0 : Nat) < 1] (aa.af [(0 : Nat) < 1] (aa.leaf aj.ret [agg [AV.bool false, mag 0, mag 0]]))) (aa.af [(0 : Int) ≤ (↑n : Int), (0 : Int) ≤ (↑d : Int)] (aa.af [(↑((↑n : Int).toNat.gcd (↑d : Int).toNat) : Int) ≠ (0 : Int), (↑((↑n : Int).toNat.gcd (↑d : Int).toNat) : Int) ≠ (0 : Int)] (aa.af [(0 : Int) ≤ (4 : Int) ∧ (4 : Int) ≤ (4 : Int) ∧ (4 : Int) ≤ (2 : Int) ^ 47 ∧ (4 : Int) * (↑(4 : Nat) : Int) ≤ (2 : Int) ^ 47] (aa.af [cD (Int.toNat (4 : Int)) fun (x : Nat) ↦ int IntKind.u32 (0 : Int), (0 : Int) ≤ IntKind.u64.wrap ((↑n : Int).tdiv (↑((↑n : Int).toNat.gcd (↑d : Int).toNat) : Int)) ∧ IntKind.u64.wrap ((↑n : Int).tdiv (↑((↑n : Int).toNat.gcd (↑d : Int).toNat) : Int)) < (2 : Int) ^ 64, bL (IntKind.u64.wrap ((↑n : Int).tdiv (↑((↑n : Int).toNat.gcd (↑d : Int).toNat) : Int))).toNat ≤ Int.toNat (4 : Int), (0 : Nat) + Int.toNat (4 : Int) ≤ Int.toNat (4 : Int)] (aa.af [(0 : Int) ≤ (0 : Int) ∧ (0 : Int) ≤ (↑(bL (IntKind.u64.wrap ((↑n : Int).tdiv (↑((↑n : Int).toNat.gcd (↑d : Int).toNat) : Int))).toNat) : Int) ∧ (↑(bL (IntKind.u64.wrap ((↑n : Int).tdiv (↑((↑n : Int).toNat.gcd (↑d : Int).toNat) : Int))).toNat) : Int) ≤ (↑(bL (IntKind.u64.wrap ((↑n : Int).tdiv (↑((↑n : Int).toNat.gcd (↑d : Int).toNat) : Int))).toNat) : Int) ∧ (↑(bL (IntKind.u64.wrap ((↑n : Int).tdiv (↑((↑n : Int).toNat.gcd (↑d : Int).toNat) : Int))).toNat) : Int) ≤ (↑(Int.toNat (4 : Int)) : Int), (0 : Nat) < 1] (aa.fork (decide (IntKind.u64.wrap ((↑d : Int).tdiv (↑((↑n : Int).toNat.gcd (↑d : Int).toNat) : Int)) > (1 : Int))) (aa.af [(0 : Int) ≤ (↑(bL (IntKind.u64.wrap ((↑n : Int).tdiv (↑((↑n : Int).toNat.gcd (↑d : Int).toNat) : Int))).toNat) : Int) ∧ (↑(bL (IntKind.u64.wrap ((↑n : Int).tdiv (↑((↑n : Int).toNat.gcd (↑d : Int).toNat) : Int))).toNat) : Int) ≤ (↑(Int.toNat (4 : Int)) : Int) ∧ (↑(Int.toNat (4 : Int)) : Int) ≤ (↑(Int.toNat (4 : Int)) : Int) ∧ (↑(Int.toNat (4 : Int)) : Int) ≤ (↑(Int.toNat (4 : Int)) : Int), cD (Int.toNat (4 : Int)) (ag (eL (fun (i : Nat) ↦ numOf (int IntKind.u32 (0 : Int))) 0 (IntKind.u64.wrap ((↑n : Int).tdiv (↑((↑n : Int).toNat.gcd (↑d : Int).toNat) : Int))).toNat)), (0 : Int) ≤ IntKind.u64.wrap ((↑d : Int).tdiv (↑((↑n : Int).toNat.gcd (↑d : Int).toNat) : Int)) ∧ IntKind.u64.wrap ((↑d : Int).tdiv (↑((↑n : Int).toNat.gcd (↑d : Int).toNat) : Int)) < (2 : Int) ^ 64, bL (IntKind.u64.wrap ((↑d : Int).tdiv (↑((↑n : Int).toNat.gcd (↑d : Int).toNat) : Int))).toNat ≤ (↑(Int.toNat (4 : Int)) : Int).toNat - (↑(bL (IntKind.u64.wrap ((↑n : Int).tdiv (↑((↑n : Int).toNat.gcd (↑d : Int).toNat) : Int))).toNat) : Int).toNat, (0 : Nat) + (↑(bL (IntKind.u64.wrap ((↑n : Int).tdiv (↑((↑n : Int).toNat.gcd (↑d : Int).toNat) : Int))).toNat) : Int).toNat + ((↑(Int.toNat (4 : Int)) : Int).toNat - (↑(bL (IntKind.u64.wrap ((↑n : Int).tdiv (↑((↑n : Int).toNat.gcd (↑d : Int).toNat) : Int))).toNat) : Int).toNat) ≤ Int.toNat (4 : Int)] (aa.af [(0 : Int) ≤ (↑(bL (IntKind.u64.wrap ((↑n : Int).tdiv (↑((↑n : Int).toNat.gcd (↑d : Int).toNat) : Int))).toNat) : Int) ∧ (↑(bL (IntKind.u64.wrap ((↑n : Int).tdiv (↑((↑n : Int).toNat.gcd (↑d : Int).toNat) : Int))).toNat) : Int) ≤ IntKind.i64.wrap ((↑(bL (IntKind.u64.wrap ((↑n : Int).tdiv (↑((↑n : Int).toNat.gcd (↑d : Int).toNat) : Int))).toNat) : Int) + (↑(bL (IntKind.u64.wrap ((↑d : Int).tdiv (↑((↑n : Int).toNat.gcd (↑d : Int).toNat) : Int))).toNat) : Int)) ∧ IntKind.i64.wrap ((↑(bL (IntKind.u64.wrap ((↑n : Int).tdiv (↑((↑n : Int).toNat.gcd (↑d : Int).toNat) : Int))).toNat) : Int) + (↑(bL (IntKind.u64.wrap ((↑d : Int).tdiv (↑((↑n : Int).toNat.gcd (↑d : Int).toNat) : Int))).toNat) : Int)) ≤ IntKind.i64.wrap ((↑(bL (IntKind.u64.wrap ((↑n : Int).tdiv (↑((↑n : Int).toNat.gcd (↑d : Int).toNat) : Int))).toNat) : Int) + (↑(bL (IntKind.u64.wrap ((↑d : Int).tdiv (↑((↑n : Int).toNat.gcd (↑d : Int).toNat) : Int))).toNat) : Int)) ∧ IntKind.i64.wrap ((↑(bL (IntKind.u64.wrap ((↑n : Int).tdiv (↑((↑n : Int).toNat.gcd (↑d : Int).toNat) : Int))).toNat) : Int) + (↑(bL (IntKind.u64.wrap ((↑d : Int).tdiv (↑((↑n : Int).toNat.gcd (↑d : Int).toNat) : Int))).toNat) : Int)) ≤ (↑(Int.toNat (4 : Int)) : Int), (0 : Nat) < 1] (aa.af [(0 : Nat) < 1, (0 : Nat) < 1] (aa.af [(0 : Nat) < 1] (aa.leaf aj.ret [agg [AV.bool b, ah 1 ((↑(bL (IntKind.u64.wrap ((↑n : Int).tdiv (↑((↑n : Int).toNat.gcd (↑d : Int).toNat) : Int))).toNat) : Int).toNat - Int.toNat (0 : Int)) fun (i : Nat) ↦ ag (eL (fun (i : Nat) ↦ numOf (ag (eL (fun (i : Nat) ↦ numOf (int IntKind.u32 (0 : Int))) 0 (IntKind.u64.wrap ((↑n : Int).tdiv (↑((↑n : Int).toNat.gcd (↑d : Int).toNat) : Int))).toNat) i)) ((0 : Nat) + (↑(bL (IntKind.u64.wrap ((↑n : Int).tdiv (↑((↑n : Int).toNat.gcd (↑d : Int).toNat) : Int))).toNat) : Int).toNat) (IntKind.u64.wrap ((↑d : Int).tdiv (↑((↑n : Int).toNat.gcd (↑d : Int).toNat) : Int))).toNat) (i + ((0 : Nat) + Int.toNat (0 : Int))), ah 1 ((IntKind.i64.wrap ((↑(bL (IntKind.u64.wrap ((↑n : Int).tdiv (↑((↑n : Int).toNat.gcd (↑d : Int).toNat) : Int))).toNat) : Int) + (↑(bL (IntKind.u64.wrap ((↑d : Int).tdiv (↑((↑n : Int).toNat.gcd (↑d : Int).toNat) : Int))).toNat) : Int))).toNat - (↑(bL (IntKind.u64.wrap ((↑n : Int).tdiv (↑((↑n : Int).toNat.gcd (↑d : Int).toNat) : Int))).toNat) : Int).toNat) fun (i : Nat) ↦ ag (eL (fun (i : Nat) ↦ numOf (ag (eL (fun (i : Nat) ↦ numOf (int IntKind.u32 (0 : Int))) 0 (IntKind.u64.wrap ((↑n : Int).tdiv (↑((↑n : Int).toNat.gcd (↑d : Int).toNat) : Int))).toNat) i)) ((0 : Nat) + (↑(bL (IntKind.u64.wrap ((↑n : Int).tdiv (↑((↑n : Int).toNat.gcd (↑d : Int).toNat) : Int))).toNat) : Int).toNat) (IntKind.u64.wrap ((↑d : Int).tdiv (↑((↑n : Int).toNat.gcd (↑d : Int).toNat) : Int))).toNat) (i + ((0 : Nat) + (↑(bL (IntKind.u64.wrap ((↑n : Int).tdiv (↑((↑n : Int).toNat.gcd (↑d : Int).toNat) : Int))).toNat) : Int).toNat))]]))))) (aa.af [(0 : Nat) < 1, (0 : Nat) < 1] (aa.af [(0 : Nat) < 1] (aa.leaf aj.ret [agg [AV.bool b, ah 1 ((↑(bL (IntKind.u64.wrap ((↑n : Int).tdiv (↑((↑n : Int).toNat.gcd (↑d : Int).toNat) : Int))).toNat) : Int).toNat - Int.toNat (0 : Int)) fun (i : Nat) ↦ ag (eL (fun (i : Nat) ↦ numOf (int IntKind.u32 (0 : Int))) 0 (IntKind.u64.wrap ((↑n : Int).tdiv (↑((↑n : Int).toNat.gcd (↑d : Int).toNat) : Int))).toNat) (i + ((0 : Nat) + Int.toNat (0 : Int))), mag 0]])))))))))) := by kernel_rfl
theorem I5 : bA T [] [] 60 rR (ax rR) ⟨[], [], 0⟩ =
  some (aa.af [(1 : Nat) * 1 ≤ 2 ^ 24] (aa.leaf aj.ret [ah 1 1 fun (i : Nat) ↦ nth [int IntKind.u32 (1 : Int)] (int IntKind.u32 (0 : Int)) (i + 0)])) := by kernel_rfl
theorem Q2 : bC P GS := aK Mb (aK Tf aZ)
theorem yV {x : Nat} (h0 : x ≠ 0) (hx : x < 2 ^ 64) : nl x = bL x := by
 have h1 := ew.2 h0
 have h2 : nl x ≤ 2 := cm.2 hx
 unfold bL
 split
 ·have : nl x ≤ 1 := cm.2 (by omega)
  omega
 ·have : ¬ nl x ≤ 1 := by rw [cm]; omega
  omega
theorem xj {z : Nat → Nat} {s x i : Nat} (hx : x < 2 ^ 64) (hi : i < bL x) : eL z s x (i + s) = au x i := by
 unfold bL at hi
 unfold eL au
 by_cases h : i = 0
 ·subst h; simp
 ·have h1 : i = 1 := by split at hi <;> omega
  subst h1
  have h2 : 4294967296 ≤ x := by split at hi <;> omega
  rw [if_neg (by omega), if_pos ⟨by omega, h2⟩]
  simp only [Nat.mul_one]
  exact (Nat.mod_eq_of_lt (by omega)).symm
theorem KP {z : Nat → Nat} {s x i : Nat} (hi : i < s) : eL z s x i = z i := by
 unfold eL
 rw [if_neg (by omega), if_neg (by omega)]
theorem N4 {z : Nat → Nat} {s x n : Nat} (hx : x < 2 ^ 64) (hz : ∀ i, i < n → z i < 2 ^ 32) : ∀ i, i < n → eL z s x i < 2 ^ 32 := fun i hi => by
 unfold eL
 have := hz i hi
 split
 ·omega
 ·split <;> omega
theorem Ux {b : Bool} {n d : Nat} (hn : n < 2 ^ 64) (hd : d < 2 ^ 64) (hd0 : d ≠ 0) (K : Nat) (pre : aA) : aC P o9 K [.bool b, .int .u64 n, .int .u64 d] pre (aJ (.rat (sQ b n d) (bT (sQ b n d))) []) := by
 refine bE hT Q2 hm Rr rfl (of_decide_eq_true (by kernel_rfl)) rfl 60 R3 (fun _ => ?_) K pre
 obtain ⟨g, hg⟩ : ∃ g, g = Nat.gcd n d := ⟨_, rfl⟩
 simp only [Int.toNat_natCast, ← hg, show Int.toNat 4 = 4 from rfl, Int.toNat_zero, Nat.zero_add, Nat.add_zero, Nat.sub_zero]
 have hg0 : 0 < g := by rw [hg]; exact Nat.gcd_pos_of_pos_right _ (by omega)
 have hgn : g ∣ n := by rw [hg]; exact Nat.gcd_dvd_left _ _
 have hgd : g ∣ d := by rw [hg]; exact Nat.gcd_dvd_right _ _
 have hN : n / g < 2 ^ 64 := Nat.lt_of_le_of_lt (Nat.div_le_self _ _) hn
 have hD : d / g < 2 ^ 64 := Nat.lt_of_le_of_lt (Nat.div_le_self _ _) hd
 have hD0 : 0 < d / g := Nat.div_pos (Nat.le_of_dvd (by omega) hgd) hg0
 have hN0 : n ≠ 0 → 0 < n / g := fun h => Nat.div_pos (Nat.le_of_dvd (by omega) hgn) hg0
 have e1 : IntKind.u64.wrap ((n : Int).tdiv (g : Int)) = ((n / g : Nat) : Int) := by
  rw [← Int.ofNat_tdiv, r6, Nat.mod_eq_of_lt hN]
 have e2 : IntKind.u64.wrap ((d : Int).tdiv (g : Int)) = ((d / g : Nat) : Int) := by
  rw [← Int.ofNat_tdiv, r6, Nat.mod_eq_of_lt hD]
 rw [e1, e2]
 clear e1 e2
 have f1 : n / g = n / Nat.gcd n d := by rw [hg]
 have f2 : d / g = d / Nat.gcd n d := by rw [hg]
 generalize n / g = N at *
 generalize d / g = D at *
 simp only [Int.toNat_natCast]
 have hnl : ∀ x, bL x = 1 ∨ bL x = 2 := fun x => by unfold bL; split <;> simp
 have l1 := hnl N
 have l2 := hnl D
 have w1 : IntKind.i64.wrap ((bL N : Int) + (bL D : Int)) = ((bL N + bL D : Nat) : Int) := by rw [wrap_i64 (by omega) (by omega)]; omega
 rw [w1]
 simp only [aa.all, az, beq_iff_eq, beq_eq_false_iff_ne, ne_eq, decide_eq_true_eq, decide_eq_false_iff_not, Int.toNat_natCast]
 have hsz : Sz (sQ b n d) (bT (sQ b n d)) := qh
 refine ⟨fun hb => ⟨by omega, by omega, ?_⟩, fun hb => ⟨⟨by omega, by omega⟩, ⟨by omega, by omega⟩, by omega, ⟨?_, by omega, by omega, by omega⟩, ⟨by omega, by omega⟩, fun hc => ⟨⟨by omega, ?_, by omega, by omega, by omega⟩, ⟨by omega, by omega⟩, ⟨by omega, by omega⟩, by omega, ?_⟩, fun hc => ⟨⟨by omega, by omega⟩, by omega, ?_⟩⟩⟩
 ·have hn0 : n = 0 := by omega
  have : sQ b n d = 0 := by rw [hn0, zA]
  rw [this]
  exact lZ
 ·exact fun i hi => ⟨0, by omega, rfl⟩
 ·refine er (N4 hN fun i hi => ?_)
  simp [numOf]
 ·have hn0 : n ≠ 0 := by omega
  have hN0 := hN0 hn0
  refine bn.trans (fC (vs := [.bool b, .mag N, .mag D]) ⟨.refl _, g9 (yV (by omega) hN) fun i hi => ?_, g9 ?_ fun i hi => ?_, trivial⟩) (n8 hn0 hd0 f1 ?_ hsz)
  ·show ag _ _ = _
   unfold ag
   rw [KP hi, ← xj (s := 0) (z := fun i => numOf (AV.int .u32 0)) hN hi]
   rfl
  ·rw [yV (by omega) hD]; omega
  ·show ag _ _ = _
   unfold ag
   rw [xj hD (by omega)]
  ·rw [← f2, if_neg (by omega)]
 ·have hn0 : n ≠ 0 := by omega
  have hN0 := hN0 hn0
  refine bn.trans (fC (vs := [.bool b, .mag N, .mag 0]) ⟨.refl _, g9 (yV (by omega) hN) fun i hi => ?_, .refl _, trivial⟩) (n8 hn0 hd0 f1 ?_ hsz)
  ·show ag _ _ = _
   unfold ag
   rw [← xj (s := 0) (z := fun i => numOf (AV.int .u32 0)) hN hi]
   rfl
  ·rw [← f2, if_pos (by omega)]
def xG : Spec := bp fun l => match l with
 | [.bool b, .int .u64 n, .int .u64 d] => some (aJ (.rat (sQ b n.toNat d.toNat) (bT (sQ b n.toNat d.toNat))) [0 ≤ n ∧ n < 2 ^ 64, 0 < d ∧ d < 2 ^ 64])
 | _ => none
theorem Bc : ∀ K args pre r, xG K args pre = some r → aC P o9 K args pre r := by
 refine bK fun K args r hk hs _ => ?_
 split at hs
 ·rename_i b n d
  simp only [Option.some.injEq] at hs
  subst hs
  intro need
  obtain ⟨⟨h1, h2⟩, h3, h4⟩ : (0 ≤ n ∧ n < 2 ^ 64) ∧ 0 < d ∧ d < 2 ^ 64 := need
  obtain ⟨n, rfl⟩ := Int.eq_ofNat_of_zero_le h1
  obtain ⟨d, rfl⟩ := Int.eq_ofNat_of_zero_le (Int.le_of_lt h3)
  exact Ux (by omega) (by omega) (by omega) K [] trivial
 ·simp at hs
theorem Sx (K : Nat) (pre : aA) : aC P pg K [] pre (aJ (.mag 1) []) := by
 refine bE (T := T) hT aZ hm Je rfl (of_decide_eq_true (by kernel_rfl)) rfl 60 I5 (fun _ => ?_) K pre
 refine ⟨by simp [az], g9 (by decide) fun i hi => ?_⟩
 have : i = 0 := by omega
 subst this
 rfl
def yY : Spec := bp fun l => match l with
 | [] => some (aJ (.mag 1) [])
 | _ => none
theorem Bn : ∀ K args pre r, yY K args pre = some r → aC P pg K args pre r := by
 refine bK fun K args r hk hs _ => ?_
 split at hs
 ·simp only [Option.some.injEq] at hs
  subst hs
  exact Sx K []
 ·simp at hs
end Go.Am.B
