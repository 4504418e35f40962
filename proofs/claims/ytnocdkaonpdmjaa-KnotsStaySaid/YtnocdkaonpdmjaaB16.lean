/- rational.short and what is near it. -/
import Derived.Test.YtnocdkaonpdmjaaB15
import Derived.Test.YtnocdkaonpdmjaaZ2
set_option linter.unusedVariables false
namespace Go.Am.B
open Go Go.Am.N AV
theorem is_short : FnIs P rational_short fn_rational_short (codeOf fn_rational_short) := fnIs get_rational_short (by kernel_rfl) (by kernel_rfl) (by kernel_rfl)
theorem is_one : FnIs P rational_one fn_rational_one (codeOf fn_rational_one) := fnIs get_rational_one (by kernel_rfl) (by kernel_rfl) (by kernel_rfl)
def GS : Contracts := [(rational_divisor, s_divisor), (rational_limbs, s_limbs)]
theorem short_end {b : Bool} {n d : Nat} : funT T GS [13, 35] 60 fn_rational_short (codeOf fn_rational_short) ⟨zipSlots 0 [.bool b, .int .u64 n, .int .u64 d], [], 0⟩ =
    some (ATree.fork ((↑n : Int) == (0 : Int)) (ATree.must [(0 : Nat) < 1] (ATree.must [(0 : Nat) < 1] (ATree.leaf AEx.ret [agg [AV.bool false, mag 0, mag 0]]))) (ATree.must [(0 : Int) ≤ (↑n : Int), (0 : Int) ≤ (↑d : Int)] (ATree.must [(↑((↑n : Int).toNat.gcd (↑d : Int).toNat) : Int) ≠ (0 : Int), (↑((↑n : Int).toNat.gcd (↑d : Int).toNat) : Int) ≠ (0 : Int)] (ATree.must [(0 : Int) ≤ (4 : Int) ∧ (4 : Int) ≤ (4 : Int) ∧ (4 : Int) ≤ (2 : Int) ^ 47 ∧ (4 : Int) * (↑(4 : Nat) : Int) ≤ (2 : Int) ^ 47] (ATree.must [Limbs (Int.toNat (4 : Int)) fun (x : Nat) ↦ int IntKind.u32 (0 : Int), (0 : Int) ≤ IntKind.u64.wrap ((↑n : Int).tdiv (↑((↑n : Int).toNat.gcd (↑d : Int).toNat) : Int)) ∧ IntKind.u64.wrap ((↑n : Int).tdiv (↑((↑n : Int).toNat.gcd (↑d : Int).toNat) : Int)) < (2 : Int) ^ 64, nLimbs (IntKind.u64.wrap ((↑n : Int).tdiv (↑((↑n : Int).toNat.gcd (↑d : Int).toNat) : Int))).toNat ≤ Int.toNat (4 : Int), (0 : Nat) + Int.toNat (4 : Int) ≤ Int.toNat (4 : Int)] (ATree.must [(0 : Int) ≤ (0 : Int) ∧ (0 : Int) ≤ (↑(nLimbs (IntKind.u64.wrap ((↑n : Int).tdiv (↑((↑n : Int).toNat.gcd (↑d : Int).toNat) : Int))).toNat) : Int) ∧ (↑(nLimbs (IntKind.u64.wrap ((↑n : Int).tdiv (↑((↑n : Int).toNat.gcd (↑d : Int).toNat) : Int))).toNat) : Int) ≤ (↑(nLimbs (IntKind.u64.wrap ((↑n : Int).tdiv (↑((↑n : Int).toNat.gcd (↑d : Int).toNat) : Int))).toNat) : Int) ∧ (↑(nLimbs (IntKind.u64.wrap ((↑n : Int).tdiv (↑((↑n : Int).toNat.gcd (↑d : Int).toNat) : Int))).toNat) : Int) ≤ (↑(Int.toNat (4 : Int)) : Int), (0 : Nat) < 1] (ATree.fork (decide (IntKind.u64.wrap ((↑d : Int).tdiv (↑((↑n : Int).toNat.gcd (↑d : Int).toNat) : Int)) > (1 : Int))) (ATree.must [(0 : Int) ≤ (↑(nLimbs (IntKind.u64.wrap ((↑n : Int).tdiv (↑((↑n : Int).toNat.gcd (↑d : Int).toNat) : Int))).toNat) : Int) ∧ (↑(nLimbs (IntKind.u64.wrap ((↑n : Int).tdiv (↑((↑n : Int).toNat.gcd (↑d : Int).toNat) : Int))).toNat) : Int) ≤ (↑(Int.toNat (4 : Int)) : Int) ∧ (↑(Int.toNat (4 : Int)) : Int) ≤ (↑(Int.toNat (4 : Int)) : Int) ∧ (↑(Int.toNat (4 : Int)) : Int) ≤ (↑(Int.toNat (4 : Int)) : Int), Limbs (Int.toNat (4 : Int)) (limbsF (putLimbs (fun (i : Nat) ↦ numOf (int IntKind.u32 (0 : Int))) 0 (IntKind.u64.wrap ((↑n : Int).tdiv (↑((↑n : Int).toNat.gcd (↑d : Int).toNat) : Int))).toNat)), (0 : Int) ≤ IntKind.u64.wrap ((↑d : Int).tdiv (↑((↑n : Int).toNat.gcd (↑d : Int).toNat) : Int)) ∧ IntKind.u64.wrap ((↑d : Int).tdiv (↑((↑n : Int).toNat.gcd (↑d : Int).toNat) : Int)) < (2 : Int) ^ 64, nLimbs (IntKind.u64.wrap ((↑d : Int).tdiv (↑((↑n : Int).toNat.gcd (↑d : Int).toNat) : Int))).toNat ≤ (↑(Int.toNat (4 : Int)) : Int).toNat - (↑(nLimbs (IntKind.u64.wrap ((↑n : Int).tdiv (↑((↑n : Int).toNat.gcd (↑d : Int).toNat) : Int))).toNat) : Int).toNat, (0 : Nat) + (↑(nLimbs (IntKind.u64.wrap ((↑n : Int).tdiv (↑((↑n : Int).toNat.gcd (↑d : Int).toNat) : Int))).toNat) : Int).toNat + ((↑(Int.toNat (4 : Int)) : Int).toNat - (↑(nLimbs (IntKind.u64.wrap ((↑n : Int).tdiv (↑((↑n : Int).toNat.gcd (↑d : Int).toNat) : Int))).toNat) : Int).toNat) ≤ Int.toNat (4 : Int)] (ATree.must [(0 : Int) ≤ (↑(nLimbs (IntKind.u64.wrap ((↑n : Int).tdiv (↑((↑n : Int).toNat.gcd (↑d : Int).toNat) : Int))).toNat) : Int) ∧ (↑(nLimbs (IntKind.u64.wrap ((↑n : Int).tdiv (↑((↑n : Int).toNat.gcd (↑d : Int).toNat) : Int))).toNat) : Int) ≤ IntKind.i64.wrap ((↑(nLimbs (IntKind.u64.wrap ((↑n : Int).tdiv (↑((↑n : Int).toNat.gcd (↑d : Int).toNat) : Int))).toNat) : Int) + (↑(nLimbs (IntKind.u64.wrap ((↑d : Int).tdiv (↑((↑n : Int).toNat.gcd (↑d : Int).toNat) : Int))).toNat) : Int)) ∧ IntKind.i64.wrap ((↑(nLimbs (IntKind.u64.wrap ((↑n : Int).tdiv (↑((↑n : Int).toNat.gcd (↑d : Int).toNat) : Int))).toNat) : Int) + (↑(nLimbs (IntKind.u64.wrap ((↑d : Int).tdiv (↑((↑n : Int).toNat.gcd (↑d : Int).toNat) : Int))).toNat) : Int)) ≤ IntKind.i64.wrap ((↑(nLimbs (IntKind.u64.wrap ((↑n : Int).tdiv (↑((↑n : Int).toNat.gcd (↑d : Int).toNat) : Int))).toNat) : Int) + (↑(nLimbs (IntKind.u64.wrap ((↑d : Int).tdiv (↑((↑n : Int).toNat.gcd (↑d : Int).toNat) : Int))).toNat) : Int)) ∧ IntKind.i64.wrap ((↑(nLimbs (IntKind.u64.wrap ((↑n : Int).tdiv (↑((↑n : Int).toNat.gcd (↑d : Int).toNat) : Int))).toNat) : Int) + (↑(nLimbs (IntKind.u64.wrap ((↑d : Int).tdiv (↑((↑n : Int).toNat.gcd (↑d : Int).toNat) : Int))).toNat) : Int)) ≤ (↑(Int.toNat (4 : Int)) : Int), (0 : Nat) < 1] (ATree.must [(0 : Nat) < 1, (0 : Nat) < 1] (ATree.must [(0 : Nat) < 1] (ATree.leaf AEx.ret [agg [AV.bool b, tab 1 ((↑(nLimbs (IntKind.u64.wrap ((↑n : Int).tdiv (↑((↑n : Int).toNat.gcd (↑d : Int).toNat) : Int))).toNat) : Int).toNat - Int.toNat (0 : Int)) fun (i : Nat) ↦ limbsF (putLimbs (fun (i : Nat) ↦ numOf (limbsF (putLimbs (fun (i : Nat) ↦ numOf (int IntKind.u32 (0 : Int))) 0 (IntKind.u64.wrap ((↑n : Int).tdiv (↑((↑n : Int).toNat.gcd (↑d : Int).toNat) : Int))).toNat) i)) ((0 : Nat) + (↑(nLimbs (IntKind.u64.wrap ((↑n : Int).tdiv (↑((↑n : Int).toNat.gcd (↑d : Int).toNat) : Int))).toNat) : Int).toNat) (IntKind.u64.wrap ((↑d : Int).tdiv (↑((↑n : Int).toNat.gcd (↑d : Int).toNat) : Int))).toNat) (i + ((0 : Nat) + Int.toNat (0 : Int))), tab 1 ((IntKind.i64.wrap ((↑(nLimbs (IntKind.u64.wrap ((↑n : Int).tdiv (↑((↑n : Int).toNat.gcd (↑d : Int).toNat) : Int))).toNat) : Int) + (↑(nLimbs (IntKind.u64.wrap ((↑d : Int).tdiv (↑((↑n : Int).toNat.gcd (↑d : Int).toNat) : Int))).toNat) : Int))).toNat - (↑(nLimbs (IntKind.u64.wrap ((↑n : Int).tdiv (↑((↑n : Int).toNat.gcd (↑d : Int).toNat) : Int))).toNat) : Int).toNat) fun (i : Nat) ↦ limbsF (putLimbs (fun (i : Nat) ↦ numOf (limbsF (putLimbs (fun (i : Nat) ↦ numOf (int IntKind.u32 (0 : Int))) 0 (IntKind.u64.wrap ((↑n : Int).tdiv (↑((↑n : Int).toNat.gcd (↑d : Int).toNat) : Int))).toNat) i)) ((0 : Nat) + (↑(nLimbs (IntKind.u64.wrap ((↑n : Int).tdiv (↑((↑n : Int).toNat.gcd (↑d : Int).toNat) : Int))).toNat) : Int).toNat) (IntKind.u64.wrap ((↑d : Int).tdiv (↑((↑n : Int).toNat.gcd (↑d : Int).toNat) : Int))).toNat) (i + ((0 : Nat) + (↑(nLimbs (IntKind.u64.wrap ((↑n : Int).tdiv (↑((↑n : Int).toNat.gcd (↑d : Int).toNat) : Int))).toNat) : Int).toNat))]]))))) (ATree.must [(0 : Nat) < 1, (0 : Nat) < 1] (ATree.must [(0 : Nat) < 1] (ATree.leaf AEx.ret [agg [AV.bool b, tab 1 ((↑(nLimbs (IntKind.u64.wrap ((↑n : Int).tdiv (↑((↑n : Int).toNat.gcd (↑d : Int).toNat) : Int))).toNat) : Int).toNat - Int.toNat (0 : Int)) fun (i : Nat) ↦ limbsF (putLimbs (fun (i : Nat) ↦ numOf (int IntKind.u32 (0 : Int))) 0 (IntKind.u64.wrap ((↑n : Int).tdiv (↑((↑n : Int).toNat.gcd (↑d : Int).toNat) : Int))).toNat) (i + ((0 : Nat) + Int.toNat (0 : Int))), mag 0]])))))))))) := by kernel_rfl
theorem one_end : funT T [] [] 60 fn_rational_one (codeOf fn_rational_one) ⟨[], [], 0⟩ =
    some (ATree.must [(1 : Nat) * 1 ≤ 2 ^ 24] (ATree.leaf AEx.ret [tab 1 1 fun (i : Nat) ↦ nth [int IntKind.u32 (1 : Int)] (int IntKind.u32 (0 : Int)) (i + 0)])) := by kernel_rfl
theorem GS_ok : GOK P GS := gok_cons s_divisor_ok (gok_cons s_limbs_ok gok_nil)
theorem nLimbs_nl {x : Nat} (h0 : x ≠ 0) (hx : x < 2 ^ 64) : nl x = nLimbs x := by
  have h1 := nl_pos.2 h0
  have h2 : nl x ≤ 2 := nl_spec.2 hx
  unfold nLimbs
  split
  · have : nl x ≤ 1 := nl_spec.2 (by omega)
    omega
  · have : ¬ nl x ≤ 1 := by rw [nl_spec]; omega
    omega
theorem putLimbs_get {z : Nat → Nat} {s x i : Nat} (hx : x < 2 ^ 64) (hi : i < nLimbs x) : putLimbs z s x (i + s) = limb x i := by
  unfold nLimbs at hi
  unfold putLimbs limb
  by_cases h : i = 0
  · subst h; simp
  · have h1 : i = 1 := by split at hi <;> omega
    subst h1
    have h2 : 4294967296 ≤ x := by split at hi <;> omega
    rw [if_neg (by omega), if_pos ⟨by omega, h2⟩]
    simp only [Nat.mul_one]
    exact (Nat.mod_eq_of_lt (by omega)).symm
theorem putLimbs_low {z : Nat → Nat} {s x i : Nat} (hi : i < s) : putLimbs z s x i = z i := by
  unfold putLimbs
  rw [if_neg (by omega), if_neg (by omega)]
theorem putLimbs_lt {z : Nat → Nat} {s x n : Nat} (hx : x < 2 ^ 64) (hz : ∀ i, i < n → z i < 2 ^ 32) : ∀ i, i < n → putLimbs z s x i < 2 ^ 32 := fun i hi => by
  unfold putLimbs
  have := hz i hi
  split
  · omega
  · split <;> omega
theorem short_ok {b : Bool} {n d : Nat} (hn : n < 2 ^ 64) (hd : d < 2 ^ 64) (hd0 : d ≠ 0) (K : Nat) (pre : Store) : FOK P rational_short K [.bool b, .int .u64 n, .int .u64 d] pre (pres (.rat (sQ b n d) (rsz (sQ b n d))) []) := by
  refine fok_tree hT GS_ok hm is_short rfl (of_decide_eq_true (by kernel_rfl)) rfl 60 short_end (fun _ => ?_) K pre
  obtain ⟨g, hg⟩ : ∃ g, g = Nat.gcd n d := ⟨_, rfl⟩
  simp only [Int.toNat_natCast, ← hg, show Int.toNat 4 = 4 from rfl, Int.toNat_zero, Nat.zero_add, Nat.add_zero, Nat.sub_zero]
  have hg0 : 0 < g := by rw [hg]; exact Nat.gcd_pos_of_pos_right _ (by omega)
  have hgn : g ∣ n := by rw [hg]; exact Nat.gcd_dvd_left _ _
  have hgd : g ∣ d := by rw [hg]; exact Nat.gcd_dvd_right _ _
  have hN : n / g < 2 ^ 64 := Nat.lt_of_le_of_lt (Nat.div_le_self _ _) hn
  have hD : d / g < 2 ^ 64 := Nat.lt_of_le_of_lt (Nat.div_le_self _ _) hd
  have hD0 : 0 < d / g := Nat.div_pos (Nat.le_of_dvd (by omega) hgd) hg0
  have hN0 : n ≠ 0 → 0 < n / g := fun h => Nat.div_pos (Nat.le_of_dvd (by omega) hgn) hg0
  have e1 : IntKind.u64.wrap ((n : Int).tdiv (g : Int)) = ((n / g : Nat) : Int) := by
    rw [← Int.ofNat_tdiv, wrap_u64_nat, Nat.mod_eq_of_lt hN]
  have e2 : IntKind.u64.wrap ((d : Int).tdiv (g : Int)) = ((d / g : Nat) : Int) := by
    rw [← Int.ofNat_tdiv, wrap_u64_nat, Nat.mod_eq_of_lt hD]
  rw [e1, e2]
  clear e1 e2
  have f1 : n / g = n / Nat.gcd n d := by rw [hg]
  have f2 : d / g = d / Nat.gcd n d := by rw [hg]
  generalize n / g = N at *
  generalize d / g = D at *
  simp only [Int.toNat_natCast]
  have hnl : ∀ x, nLimbs x = 1 ∨ nLimbs x = 2 := fun x => by unfold nLimbs; split <;> simp
  have l1 := hnl N
  have l2 := hnl D
  have w1 : IntKind.i64.wrap ((nLimbs N : Int) + (nLimbs D : Int)) = ((nLimbs N + nLimbs D : Nat) : Int) := by rw [wrap_i64 (by omega) (by omega)]; omega
  rw [w1]
  simp only [ATree.all, allP, beq_iff_eq, beq_eq_false_iff_ne, ne_eq, decide_eq_true_eq, decide_eq_false_iff_not, Int.toNat_natCast]
  have hsz : Sz (sQ b n d) (rsz (sQ b n d)) := Sz_rsz
  refine ⟨fun hb => ⟨by omega, by omega, ?_⟩, fun hb => ⟨⟨by omega, by omega⟩, ⟨by omega, by omega⟩, by omega, ⟨?_, by omega, by omega, by omega⟩, ⟨by omega, by omega⟩, fun hc => ⟨⟨by omega, ?_, by omega, by omega, by omega⟩, ⟨by omega, by omega⟩, ⟨by omega, by omega⟩, by omega, ?_⟩, fun hc => ⟨⟨by omega, by omega⟩, by omega, ?_⟩⟩⟩
  · have hn0 : n = 0 := by omega
    have : sQ b n d = 0 := by rw [hn0, sQ_zero]
    rw [this]
    exact avLe0_zero
  · exact fun i hi => ⟨0, by omega, rfl⟩
  · refine limbs_limbsF (putLimbs_lt hN fun i hi => ?_)
    simp [numOf]
  · have hn0 : n ≠ 0 := by omega
    have hN0 := hN0 hn0
    refine avLe0.trans (avLe0_agg (vs := [.bool b, .mag N, .mag D]) ⟨.refl _, avLe0_tab_mag (nLimbs_nl (by omega) hN) fun i hi => ?_, avLe0_tab_mag ?_ fun i hi => ?_, trivial⟩) (avLe0_sQ hn0 hd0 f1 ?_ hsz)
    · show limbsF _ _ = _
      unfold limbsF
      rw [putLimbs_low hi, ← putLimbs_get (s := 0) (z := fun i => numOf (AV.int .u32 0)) hN hi]
      rfl
    · rw [nLimbs_nl (by omega) hD]; omega
    · show limbsF _ _ = _
      unfold limbsF
      rw [putLimbs_get hD (by omega)]
    · rw [← f2, if_neg (by omega)]
  · have hn0 : n ≠ 0 := by omega
    have hN0 := hN0 hn0
    refine avLe0.trans (avLe0_agg (vs := [.bool b, .mag N, .mag 0]) ⟨.refl _, avLe0_tab_mag (nLimbs_nl (by omega) hN) fun i hi => ?_, .refl _, trivial⟩) (avLe0_sQ hn0 hd0 f1 ?_ hsz)
    · show limbsF _ _ = _
      unfold limbsF
      rw [← putLimbs_get (s := 0) (z := fun i => numOf (AV.int .u32 0)) hN hi]
      rfl
    · rw [← f2, if_pos (by omega)]
def s_short : Spec := pureSpec fun l => match l with
  | [.bool b, .int .u64 n, .int .u64 d] => some (pres (.rat (sQ b n.toNat d.toNat) (rsz (sQ b n.toNat d.toNat))) [0 ≤ n ∧ n < 2 ^ 64, 0 < d ∧ d < 2 ^ 64])
  | _ => none
theorem s_short_ok : ∀ K args pre r, s_short K args pre = some r → FOK P rational_short K args pre r := by
  refine pureSpec_ok fun K args r hk hs _ => ?_
  split at hs
  · rename_i b n d
    simp only [Option.some.injEq] at hs
    subst hs
    intro need
    obtain ⟨⟨h1, h2⟩, h3, h4⟩ : (0 ≤ n ∧ n < 2 ^ 64) ∧ 0 < d ∧ d < 2 ^ 64 := need
    obtain ⟨n, rfl⟩ := Int.eq_ofNat_of_zero_le h1
    obtain ⟨d, rfl⟩ := Int.eq_ofNat_of_zero_le (Int.le_of_lt h3)
    exact short_ok (by omega) (by omega) (by omega) K [] trivial
  · simp at hs
theorem one_ok (K : Nat) (pre : Store) : FOK P rational_one K [] pre (pres (.mag 1) []) := by
  refine fok_tree (T := T) hT gok_nil hm is_one rfl (of_decide_eq_true (by kernel_rfl)) rfl 60 one_end (fun _ => ?_) K pre
  refine ⟨by simp [allP], avLe0_tab_mag (by decide) fun i hi => ?_⟩
  have : i = 0 := by omega
  subst this
  rfl
def s_one : Spec := pureSpec fun l => match l with
  | [] => some (pres (.mag 1) [])
  | _ => none
theorem s_one_ok : ∀ K args pre r, s_one K args pre = some r → FOK P rational_one K args pre r := by
  refine pureSpec_ok fun K args r hk hs _ => ?_
  split at hs
  · simp only [Option.some.injEq] at hs
    subst hs
    exact one_ok K []
  · simp at hs
end Go.Am.B
