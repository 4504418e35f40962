/- ref02: Den, reduce, size, Make, Frac, Int, Same, Sign, Neg. -/
import Derived.Test.YtnocdkaonpdmjaaB29
set_option linter.unusedVariables false
namespace Go.Am.B
open Go Go.Am.N AV
theorem is_eDen : FnIs P ref02_Den fn_ref02_Den (codeOf fn_ref02_Den) := fnIs get_ref02_Den (by kernel_rfl) (by kernel_rfl) (by kernel_rfl)
theorem is_ereduce : FnIs P ref02_reduce fn_ref02_reduce (codeOf fn_ref02_reduce) := fnIs get_ref02_reduce (by kernel_rfl) (by kernel_rfl) (by kernel_rfl)
theorem is_esize : FnIs P ref02_size fn_ref02_size (codeOf fn_ref02_size) := fnIs get_ref02_size (by kernel_rfl) (by kernel_rfl) (by kernel_rfl)
theorem is_eSame : FnIs P ref02_Same fn_ref02_Same (codeOf fn_ref02_Same) := fnIs get_ref02_Same (by kernel_rfl) (by kernel_rfl) (by kernel_rfl)
theorem is_eSign : FnIs P ref02_Sign fn_ref02_Sign (codeOf fn_ref02_Sign) := fnIs get_ref02_Sign (by kernel_rfl) (by kernel_rfl) (by kernel_rfl)
theorem is_eNeg : FnIs P ref02_Neg fn_ref02_Neg (codeOf fn_ref02_Neg) := fnIs get_ref02_Neg (by kernel_rfl) (by kernel_rfl) (by kernel_rfl)
def GE : Contracts := [(ref01_Trim, s_fTrim), (ref01_Gcd, s_fGcd), (ref01_Div, s_fDiv), (ref01_Of, s_fOf), (ref01_Cmp, s_fCmp)]
theorem GE_ok : GOK P GE := gok_cons s_fTrim_ok (gok_cons s_fGcd_ok (gok_cons s_fDiv_ok (gok_cons s_fOf_ok (gok_cons s_fCmp_ok gok_nil))))
theorem eden_end {q : Rat} {n : Nat} : funT T GE [6] 60 fn_ref02_Den (codeOf fn_ref02_Den) ⟨zipSlots 0 [.rat q n], [], 0⟩ =
    some (ATree.must [(0 : Nat) < 1] (ATree.fork ((↑(nl (if q.den = 1 then 0 else q.den)) : Int) == (0 : Int)) (ATree.must [(1 : Nat) * 1 ≤ 2 ^ 24] (ATree.leaf AEx.ret [tab 1 1 fun (i : Nat) ↦ nth [int IntKind.u32 (1 : Int)] (int IntKind.u32 (0 : Int)) (i + 0)])) (ATree.must [(0 : Nat) < 1] (ATree.leaf AEx.ret [mag (if q.den = 1 then 0 else q.den)])))) := by kernel_rfl
theorem ered_end {b : Bool} {N D : Nat} : funT T GE [14, 22, 27, 45, 50] 60 fn_ref02_reduce (codeOf fn_ref02_reduce) ⟨zipSlots 0 [.bool b, .mag N, .mag D], [], 0⟩ =
    some (ATree.must [nl N < 2 ^ 40, nl D < 2 ^ 40] (ATree.fork ((↑(nl N) : Int) == (0 : Int)) (ATree.must [(0 : Nat) < 1] (ATree.must [(0 : Nat) < 1] (ATree.leaf AEx.ret [agg [AV.bool false, mag 0, mag 0]]))) (ATree.must [nl N < 2 ^ 38, nl D < 2 ^ 38] (ATree.fork ((↑(nl (N.gcd D)) : Int) != (1 : Int)) (ATree.must [((↑(nl (N.gcd D)) : Int) != (1 : Int)) = true] (ATree.fork true (ATree.must [nl N < 2 ^ 38, nl (N.gcd D) < 2 ^ 38] (ATree.must [nl D < 2 ^ 38, nl (N.gcd D) < 2 ^ 38] (ATree.fork ((↑(nl (D / N.gcd D)) : Int) == (1 : Int)) (ATree.must [((↑(nl (D / N.gcd D)) : Int) == (1 : Int)) = true, (0 : Int) ≤ (0 : Int) ∧ Int.toNat (0 : Int) < nl (D / N.gcd D)] (ATree.fork (bif true then (↑(limb (D / N.gcd D) (Int.toNat (0 : Int))) : Int) == (1 : Int) else false) (ATree.must [(0 : Nat) < 1] (ATree.must [(0 : Nat) < 1] (ATree.leaf AEx.ret [agg [AV.bool b, mag (N / N.gcd D), nil]]))) (ATree.must [(0 : Nat) < 1] (ATree.must [(0 : Nat) < 1] (ATree.leaf AEx.ret [agg [AV.bool b, mag (N / N.gcd D), mag (D / N.gcd D)]]))))) (ATree.must [((↑(nl (D / N.gcd D)) : Int) == (1 : Int)) = false] (ATree.fork false (ATree.must [(0 : Nat) < 1] (ATree.must [(0 : Nat) < 1] (ATree.leaf AEx.ret [agg [AV.bool b, mag (N / N.gcd D), nil]]))) (ATree.must [(0 : Nat) < 1] (ATree.must [(0 : Nat) < 1] (ATree.leaf AEx.ret [agg [AV.bool b, mag (N / N.gcd D), mag (D / N.gcd D)]])))))))) (ATree.fork ((↑(nl D) : Int) == (1 : Int)) (ATree.must [((↑(nl D) : Int) == (1 : Int)) = true, (0 : Int) ≤ (0 : Int) ∧ Int.toNat (0 : Int) < nl D] (ATree.fork (bif true then (↑(limb D (Int.toNat (0 : Int))) : Int) == (1 : Int) else false) (ATree.must [(0 : Nat) < 1] (ATree.must [(0 : Nat) < 1] (ATree.leaf AEx.ret [agg [AV.bool b, mag N, nil]]))) (ATree.must [(0 : Nat) < 1] (ATree.must [(0 : Nat) < 1] (ATree.leaf AEx.ret [agg [AV.bool b, mag N, mag D]]))))) (ATree.must [((↑(nl D) : Int) == (1 : Int)) = false] (ATree.fork false (ATree.must [(0 : Nat) < 1] (ATree.must [(0 : Nat) < 1] (ATree.leaf AEx.ret [agg [AV.bool b, mag N, nil]]))) (ATree.must [(0 : Nat) < 1] (ATree.must [(0 : Nat) < 1] (ATree.leaf AEx.ret [agg [AV.bool b, mag N, mag D]])))))))) (ATree.must [((↑(nl (N.gcd D)) : Int) != (1 : Int)) = false, (0 : Int) ≤ (0 : Int) ∧ Int.toNat (0 : Int) < nl (N.gcd D)] (ATree.fork (bif false then true else (↑(limb (N.gcd D) (Int.toNat (0 : Int))) : Int) != (1 : Int)) (ATree.must [nl N < 2 ^ 38, nl (N.gcd D) < 2 ^ 38] (ATree.must [nl D < 2 ^ 38, nl (N.gcd D) < 2 ^ 38] (ATree.fork ((↑(nl (D / N.gcd D)) : Int) == (1 : Int)) (ATree.must [((↑(nl (D / N.gcd D)) : Int) == (1 : Int)) = true, (0 : Int) ≤ (0 : Int) ∧ Int.toNat (0 : Int) < nl (D / N.gcd D)] (ATree.fork (bif true then (↑(limb (D / N.gcd D) (Int.toNat (0 : Int))) : Int) == (1 : Int) else false) (ATree.must [(0 : Nat) < 1] (ATree.must [(0 : Nat) < 1] (ATree.leaf AEx.ret [agg [AV.bool b, mag (N / N.gcd D), nil]]))) (ATree.must [(0 : Nat) < 1] (ATree.must [(0 : Nat) < 1] (ATree.leaf AEx.ret [agg [AV.bool b, mag (N / N.gcd D), mag (D / N.gcd D)]]))))) (ATree.must [((↑(nl (D / N.gcd D)) : Int) == (1 : Int)) = false] (ATree.fork false (ATree.must [(0 : Nat) < 1] (ATree.must [(0 : Nat) < 1] (ATree.leaf AEx.ret [agg [AV.bool b, mag (N / N.gcd D), nil]]))) (ATree.must [(0 : Nat) < 1] (ATree.must [(0 : Nat) < 1] (ATree.leaf AEx.ret [agg [AV.bool b, mag (N / N.gcd D), mag (D / N.gcd D)]])))))))) (ATree.fork ((↑(nl D) : Int) == (1 : Int)) (ATree.must [((↑(nl D) : Int) == (1 : Int)) = true, (0 : Int) ≤ (0 : Int) ∧ Int.toNat (0 : Int) < nl D] (ATree.fork (bif true then (↑(limb D (Int.toNat (0 : Int))) : Int) == (1 : Int) else false) (ATree.must [(0 : Nat) < 1] (ATree.must [(0 : Nat) < 1] (ATree.leaf AEx.ret [agg [AV.bool b, mag N, nil]]))) (ATree.must [(0 : Nat) < 1] (ATree.must [(0 : Nat) < 1] (ATree.leaf AEx.ret [agg [AV.bool b, mag N, mag D]]))))) (ATree.must [((↑(nl D) : Int) == (1 : Int)) = false] (ATree.fork false (ATree.must [(0 : Nat) < 1] (ATree.must [(0 : Nat) < 1] (ATree.leaf AEx.ret [agg [AV.bool b, mag N, nil]]))) (ATree.must [(0 : Nat) < 1] (ATree.must [(0 : Nat) < 1] (ATree.leaf AEx.ret [agg [AV.bool b, mag N, mag D]])))))))))))) := by kernel_rfl
theorem esize_end {n : Int} : funT T GE [5] 60 fn_ref02_size (codeOf fn_ref02_size) ⟨zipSlots 0 [.int .i64 n], [], 0⟩ =
    some (ATree.fork (decide (n < (0 : Int))) (ATree.must [(0 : Int) ≤ IntKind.u64.wrap (IntKind.u64.wrap (IntKind.i64.wrap ((0 : Int) - IntKind.i64.wrap (n + (1 : Int)))) + (1 : Int)) ∧ IntKind.u64.wrap (IntKind.u64.wrap (IntKind.i64.wrap ((0 : Int) - IntKind.i64.wrap (n + (1 : Int)))) + (1 : Int)) < (2 : Int) ^ 64] (ATree.leaf AEx.ret [mag (IntKind.u64.wrap (IntKind.u64.wrap (IntKind.i64.wrap ((0 : Int) - IntKind.i64.wrap (n + (1 : Int)))) + (1 : Int))).toNat, AV.bool true])) (ATree.must [(0 : Int) ≤ IntKind.u64.wrap n ∧ IntKind.u64.wrap n < (2 : Int) ^ 64] (ATree.leaf AEx.ret [mag (IntKind.u64.wrap n).toNat, AV.bool false]))) := by kernel_rfl
theorem esame_end {q r : Rat} {n m : Nat} : funT T GE [10, 18] 60 fn_ref02_Same (codeOf fn_ref02_Same) ⟨zipSlots 0 [.rat q n, .rat r m], [], 0⟩ =
    some (ATree.fork (decide (q < 0) == decide (r < 0)) (ATree.fork (bif true then cmpI q.num.natAbs r.num.natAbs == (0 : Int) else false) (ATree.must [(0 : Nat) < 1, (0 : Nat) < 1, (decide (q < 0) == decide (r < 0)) = true, (0 : Nat) < 1, (0 : Nat) < 1, nl q.num.natAbs < 2 ^ 40, nl r.num.natAbs < 2 ^ 40, (bif true then cmpI q.num.natAbs r.num.natAbs == (0 : Int) else false) = true, (0 : Nat) < 1, (0 : Nat) < 1, nl (if q.den = 1 then 0 else q.den) < 2 ^ 40, nl (if r.den = 1 then 0 else r.den) < 2 ^ 40] (ATree.leaf AEx.ret [AV.bool (bif true then cmpI (if q.den = 1 then 0 else q.den) (if r.den = 1 then 0 else r.den) == (0 : Int) else false)])) (ATree.must [(0 : Nat) < 1, (0 : Nat) < 1, (decide (q < 0) == decide (r < 0)) = true, (0 : Nat) < 1, (0 : Nat) < 1, nl q.num.natAbs < 2 ^ 40, nl r.num.natAbs < 2 ^ 40, (bif true then cmpI q.num.natAbs r.num.natAbs == (0 : Int) else false) = false] (ATree.leaf AEx.ret [AV.bool false]))) (ATree.fork false (ATree.must [(0 : Nat) < 1, (0 : Nat) < 1, (decide (q < 0) == decide (r < 0)) = false, false = true, (0 : Nat) < 1, (0 : Nat) < 1, nl (if q.den = 1 then 0 else q.den) < 2 ^ 40, nl (if r.den = 1 then 0 else r.den) < 2 ^ 40] (ATree.leaf AEx.ret [AV.bool (bif true then cmpI (if q.den = 1 then 0 else q.den) (if r.den = 1 then 0 else r.den) == (0 : Int) else false)])) (ATree.must [(0 : Nat) < 1, (0 : Nat) < 1, (decide (q < 0) == decide (r < 0)) = false, false = false] (ATree.leaf AEx.ret [AV.bool false])))) := by kernel_rfl
theorem esign_end {q : Rat} {n : Nat} : funT T GE [6, 8] 60 fn_ref02_Sign (codeOf fn_ref02_Sign) ⟨zipSlots 0 [.rat q n], [], 0⟩ =
    some (ATree.must [(0 : Nat) < 1] (ATree.fork ((↑(nl q.num.natAbs) : Int) == (0 : Int)) (ATree.leaf AEx.ret [int IntKind.i64 (0 : Int)]) (ATree.must [(0 : Nat) < 1] (ATree.fork (decide (q < 0)) (ATree.leaf AEx.ret [int IntKind.i64 (-1 : Int)]) (ATree.leaf AEx.ret [int IntKind.i64 (1 : Int)]))))) := by kernel_rfl
theorem eneg_end {q : Rat} {n : Nat} : funT T GE [6] 60 fn_ref02_Neg (codeOf fn_ref02_Neg) ⟨zipSlots 0 [.rat q n], [], 0⟩ =
    some (ATree.fork (!decide (q < 0)) (ATree.must [(0 : Nat) < 1, (!decide (q < 0)) = true, (0 : Nat) < 1, (0 : Nat) < 1] (ATree.must [(0 : Nat) < 1, (0 : Nat) < 1] (ATree.must [(0 : Nat) < 1] (ATree.leaf AEx.ret [agg [AV.bool (bif true then decide ((↑(nl q.num.natAbs) : Int) > (0 : Int)) else false), mag q.num.natAbs, mag (if q.den = 1 then 0 else q.den)]])))) (ATree.must [(0 : Nat) < 1, (!decide (q < 0)) = false, (0 : Nat) < 1] (ATree.must [(0 : Nat) < 1, (0 : Nat) < 1] (ATree.must [(0 : Nat) < 1] (ATree.leaf AEx.ret [agg [AV.bool false, mag q.num.natAbs, mag (if q.den = 1 then 0 else q.den)]]))))) := by kernel_rfl
theorem eDen_ok {q : Rat} {n : Nat} (K : Nat) (pre : Store) : FOK P ref02_Den K [.rat q n] pre (pres (.mag q.den) []) := by
  refine fok_tree hT GE_ok hm is_eDen rfl (of_decide_eq_true (by kernel_rfl)) rfl 60 eden_end (fun _ => ?_) K pre
  simp only [ATree.all, allP, beq_iff_eq, beq_eq_false_iff_ne, ne_eq]
  refine ⟨by omega, fun hb => ⟨by omega, ?_⟩, fun hb => ⟨by omega, avLe0_of_eq ?_⟩⟩
  · have h0 := q.den_nz
    have : (if q.den = 1 then 0 else q.den) = 0 := nl_zero_iff.1 (by omega)
    have h1 : q.den = 1 := by split at this; assumption; exact absurd this h0
    rw [h1]
    exact avLe0_tab_mag (by decide) fun i hi => by rw [show i = 0 by omega]; exact congrArg (AV.int IntKind.u32) (show (1 : Int) = ((limb 1 0 : Nat) : Int) by decide)
  · have : q.den ≠ 1 := fun h => hb (by rw [if_pos h]; rfl)
    rw [if_neg this]
theorem ereduce_ok {b : Bool} {N D : Nat} (hN : nl N < 2 ^ 38) (hD : nl D < 2 ^ 38) (hD0 : D ≠ 0) (K : Nat) (pre : Store) : FOK P ref02_reduce K [.bool b, .mag N, .mag D] pre (pres (.rat (sQ b N D) (rsz (sQ b N D))) []) := by
  refine fok_tree hT GE_ok hm is_ereduce rfl (of_decide_eq_true (by kernel_rfl)) rfl 60 ered_end (fun _ => ?_) K pre
  have hz : sQ b N D = 0 → avLe0 (.agg [.bool false, .mag 0, .mag 0]) (.rat (sQ b N D) (rsz (sQ b N D))) := fun h => by
    rw [h]; exact avLe0_zero
  simp only [ATree.all, allP, beq_iff_eq, beq_eq_false_iff_ne, ne_eq, bne_iff_ne, bne_eq_false_iff_eq, Int.toNat_zero]
  refine ⟨⟨by omega, by omega⟩, fun hb => ⟨by omega, by omega, hz ?_⟩, fun hb => ?_⟩
  · rw [nl_zero_iff.1 (show nl N = 0 by omega), sQ_zero]
  have hN0 : N ≠ 0 := fun h => hb (by rw [nl_zero_iff.2 h]; rfl)
  have hg : nl (Nat.gcd N D) < 2 ^ 38 := Nat.lt_of_le_of_lt (nl_mono (Nat.gcd_le_left _ (by omega))) hN
  have hg0 : 0 < Nat.gcd N D := Nat.gcd_pos_of_pos_left _ (by omega)
  have hl : ∀ {Y : Nat}, nl Y = 1 → limb Y 0 = Y := fun {Y} h => by
    have := val_nl (N := Y)
    rw [h, val, val] at this
    simpa using this
  have h1 : ∀ {X Y : Nat}, X = N / Nat.gcd N D → Y = D / Nat.gcd N D → Y ≠ 1 → avLe0 (.agg [.bool b, .mag X, .mag Y]) (.rat (sQ b N D) (rsz (sQ b N D))) := fun eX eY h => avLe0_sQ hN0 hD0 eX (by rw [← eY, if_neg h]) Sz_rsz
  have h2 : ∀ {X Y : Nat}, X = N / Nat.gcd N D → Y = D / Nat.gcd N D → Y = 1 → avLe0 (.agg [.bool b, .mag X, .nil]) (.rat (sQ b N D) (rsz (sQ b N D))) := fun eX eY h => avLe0_agg_nil.trans (avLe0_sQ hN0 hD0 eX (by rw [← eY, if_pos h]) Sz_rsz)
  have i1 : ∀ {Y : Nat}, (nl Y : Int) = 1 → (bif true then ((limb Y 0 : Nat) : Int) == (1 : Int) else false) = true → Y = 1 := fun {Y} h hc => by
    have := bif_tt hc
    rw [hl (by omega)] at this
    have := eq_of_beq this
    omega
  have i2 : ∀ {Y : Nat}, (nl Y : Int) = 1 → (bif true then ((limb Y 0 : Nat) : Int) == (1 : Int) else false) = false → Y ≠ 1 := fun {Y} h hc h1 => by
    have := bif_tt hc
    rw [hl (by omega), h1] at this
    simp at this
  have i3 : ∀ {Y : Nat}, ¬ (nl Y : Int) = 1 → Y ≠ 1 := fun {Y} h h1 => h (by rw [h1]; decide)
  have g1 : (nl (Nat.gcd N D) : Int) = 1 → (bif false then true else ((limb (Nat.gcd N D) 0 : Nat) : Int) != (1 : Int)) = false → Nat.gcd N D = 1 := fun h hc => by
    have := bif_ff hc
    rw [hl (by omega)] at this
    simp at this
    omega
  refine ⟨⟨hN, hD⟩, fun hb => ⟨hb, fun _ => ⟨⟨hN, hg⟩, ⟨hD, hg⟩, ?_⟩, fun h => by simp at h⟩, fun hb => ⟨⟨hb, by omega, by omega⟩, fun hc => ⟨⟨hN, hg⟩, ⟨hD, hg⟩, ?_⟩, fun hc => ?_⟩⟩
  · exact ⟨fun hb => ⟨⟨hb, by omega, by omega⟩, fun hc => ⟨by omega, by omega, h2 rfl rfl (i1 hb hc)⟩, fun hc => ⟨by omega, by omega, h1 rfl rfl (i2 hb hc)⟩⟩, fun hb => ⟨hb, fun h => by simp at h, fun _ => ⟨by omega, by omega, h1 rfl rfl (i3 hb)⟩⟩⟩
  · exact ⟨fun hb => ⟨⟨hb, by omega, by omega⟩, fun hc => ⟨by omega, by omega, h2 rfl rfl (i1 hb hc)⟩, fun hc => ⟨by omega, by omega, h1 rfl rfl (i2 hb hc)⟩⟩, fun hb => ⟨hb, fun h => by simp at h, fun _ => ⟨by omega, by omega, h1 rfl rfl (i3 hb)⟩⟩⟩
  · have e := g1 hb hc
    have eN : N = N / Nat.gcd N D := by rw [e, Nat.div_one]
    have eD : D = D / Nat.gcd N D := by rw [e, Nat.div_one]
    exact ⟨fun hb => ⟨⟨hb, by omega, by omega⟩, fun hc => ⟨by omega, by omega, h2 eN eD (i1 hb hc)⟩, fun hc => ⟨by omega, by omega, h1 eN eD (i2 hb hc)⟩⟩, fun hb => ⟨hb, fun h => by simp at h, fun _ => ⟨by omega, by omega, h1 eN eD (i3 hb)⟩⟩⟩
theorem esize_ok {n : Int} (h1 : -2 ^ 63 ≤ n) (h2 : n < 2 ^ 63) (K : Nat) (pre : Store) : FOK P ref02_size K [.int .i64 n] pre (pres (.tuple [.mag n.natAbs, .bool (decide (n < 0))]) []) := by
  refine fok_tree hT GE_ok hm is_esize rfl (of_decide_eq_true (by kernel_rfl)) rfl 60 esize_end (fun _ => ?_) K pre
  simp only [ATree.all, allP, decide_eq_true_eq, decide_eq_false_iff_not]
  refine ⟨fun hb => ?_, fun hb => ?_⟩
  · have e : IntKind.i64.wrap (n + 1) = n + 1 := wrap_i64 (by omega) (by omega)
    have e1 : IntKind.i64.wrap (0 - (n + 1)) = -n - 1 := by rw [wrap_i64 (by omega) (by omega)]; omega
    have e2 : IntKind.u64.wrap (-n - 1) = -n - 1 := wrap_u64 (by omega) (by omega)
    have e3 : IntKind.u64.wrap (-n - 1 + 1) = ((n.natAbs : Nat) : Int) := by rw [wrap_u64 (by omega) (by omega)]; omega
    rw [e, e1, e2, e3]
    exact ⟨by omega, avLe0_of_eq (by rw [Int.toNat_natCast]), avLe0_bool (by simp [hb]), trivial⟩
  · have e3 : IntKind.u64.wrap n = ((n.natAbs : Nat) : Int) := by rw [wrap_u64 (by omega) (by omega)]; omega
    rw [e3]
    exact ⟨by omega, avLe0_of_eq (by rw [Int.toNat_natCast]), avLe0_bool (by simp [hb]), trivial⟩
theorem cmpI_zero {a b : Nat} : cmpI a b = 0 ↔ a = b := by unfold cmpI; split <;> (try split) <;> omega
theorem eSame_ok {q r : Rat} {n m : Nat} (hn : n < 2 ^ 44) (hm' : m < 2 ^ 44) (K : Nat) (pre : Store) : FOK P ref02_Same K [.rat q n, .rat r m] pre (pres (.bool (decide (q = r))) []) := by
  refine fok_szp fun ⟨hs1, hs2, _⟩ => ?_
  obtain ⟨a1, a2, a3⟩ := Sz.nls hs1 hn
  obtain ⟨b1, b2, b3⟩ := Sz.nls hs2 hm'
  refine fok_tree hT GE_ok hm is_eSame rfl (of_decide_eq_true (by kernel_rfl)) rfl 60 esame_end (fun _ => ?_) K pre
  simp only [ATree.all, allP]
  refine ⟨fun hb => ⟨fun hc => ⟨⟨by omega, by omega, hb, by omega, by omega, a1, b1, hc, by omega, by omega, a3, b3⟩, avLe0_bool ?_⟩, fun hc => ⟨⟨by omega, by omega, hb, by omega, by omega, a1, b1, hc⟩, avLe0_bool ?_⟩⟩, fun hb => ⟨fun h => by simp at h, fun _ => ⟨⟨by omega, by omega, hb, trivial⟩, avLe0_bool ?_⟩⟩⟩
  · have h1 := eq_of_beq hb
    have h2 := cmpI_zero.1 (eq_of_beq (bif_tt hc))
    rw [cond_true]
    exact (decide_eq_decide (p := _ = (0 : Int)) (q := q = r)).2 ⟨fun h => rat_eq_iff.2 ⟨h1, h2, cmpI_zero.1 h⟩, fun h => cmpI_zero.2 (rat_eq_iff.1 h).2.2⟩
  · have h2 := bif_tt hc
    refine (decide_eq_false fun h => ?_).symm
    rw [cmpI_zero.2 (rat_eq_iff.1 h).2.1] at h2
    simp at h2
  · refine (decide_eq_false fun h => ?_).symm
    rw [(rat_eq_iff.1 h).1] at hb
    simp at hb
theorem eSign_ok {q : Rat} {n : Nat} (K : Nat) (pre : Store) : FOK P ref02_Sign K [.rat q n] pre (pres (.int .i64 (sgnR q)) []) := by
  refine fok_tree hT GE_ok hm is_eSign rfl (of_decide_eq_true (by kernel_rfl)) rfl 60 esign_end (fun _ => ?_) K pre
  simp only [ATree.all, allP, beq_iff_eq, beq_eq_false_iff_ne, ne_eq]
  refine ⟨by omega, fun hb => avLe0_int ?_, fun hb => ⟨by omega, fun hc => avLe0_int ?_, fun hc => avLe0_int ?_⟩⟩
  · have h0 : q = 0 := rat_num_zero.1 (nl_zero_iff.1 (by omega))
    subst h0
    rfl
  · have := of_decide_eq_true hc
    unfold sgnR; rw [if_pos this]
  · have h1 := of_decide_eq_false hc
    have h0 : q ≠ 0 := fun h => hb (by rw [h]; rfl)
    unfold sgnR; rw [if_neg h1, if_pos (rat_pos h0 h1)]
theorem eNeg_ok {q : Rat} {n : Nat} (K : Nat) (pre : Store) : FOK P ref02_Neg K [.rat q n] pre (pres (.rat (-q) n) []) := by
  refine fok_szp fun ⟨hs1, _⟩ => ?_
  have hs1 : Sz q n := hs1
  have hs2 := hs1.neg
  have e1 : (-q).num.natAbs = q.num.natAbs := by rw [Rat.neg_num, Int.natAbs_neg]
  have e2 : (-q).den = q.den := Rat.neg_den q
  refine fok_tree hT GE_ok hm is_eNeg rfl (of_decide_eq_true (by kernel_rfl)) rfl 60 eneg_end (fun _ => ?_) K pre
  simp only [ATree.all, allP]
  refine ⟨fun hb => ⟨⟨by omega, hb, by omega, by omega⟩, ⟨by omega, by omega⟩, by omega, avLe0_rat hs2 ?_ e1.symm (by rw [e2])⟩, fun hb => ⟨⟨by omega, hb, by omega⟩, ⟨by omega, by omega⟩, by omega, avLe0_rat hs2 ?_ e1.symm (by rw [e2])⟩⟩
  · have hq : ¬ q < 0 := by simpa using hb
    rw [cond_true]
    have h1 : ¬ q.num < 0 := fun h => hq (rat_lt_zero.2 h)
    exact ((decide_eq_decide (p := -q < 0) (q := (nl q.num.natAbs : Int) > 0)).2 (by
      rw [rat_lt_zero, Rat.neg_num]
      have := nl_pos (N := q.num.natAbs)
      omega)).symm
  · have hq : q < 0 := by simpa using hb
    have := rat_lt_zero.1 hq
    exact (decide_eq_false (p := -q < 0) (by rw [rat_lt_zero, Rat.neg_num]; omega)).symm
def specRat (g : Rat → Nat → CRes) : Spec := pureSpec fun l => match l with
  | [.rat q n] => some (g q n)
  | _ => none
theorem specRat_ok {f : FuncId} {g : Rat → Nat → CRes} (h : ∀ {q : Rat} {n : Nat} K, FOK P f K [.rat q n] [] (g q n)) : ∀ K args pre r, specRat g K args pre = some r → FOK P f K args pre r := by
  refine pureSpec_ok fun K args r hk hs _ => ?_
  split at hs
  · simp only [Option.some.injEq] at hs
    subst hs
    exact h K
  · simp at hs
def s_eDen : Spec := specRat fun q _ => pres (.mag q.den) []
theorem s_eDen_ok : ∀ K args pre r, s_eDen K args pre = some r → FOK P ref02_Den K args pre r := specRat_ok fun K => eDen_ok K []
def s_eSign : Spec := specRat fun q _ => pres (.int .i64 (sgnR q)) []
theorem s_eSign_ok : ∀ K args pre r, s_eSign K args pre = some r → FOK P ref02_Sign K args pre r := specRat_ok fun K => eSign_ok K []
def s_eNeg : Spec := specRat fun q n => pres (.rat (-q) n) []
theorem s_eNeg_ok : ∀ K args pre r, s_eNeg K args pre = some r → FOK P ref02_Neg K args pre r := specRat_ok fun K => eNeg_ok K []
def s_esize : Spec := pureSpec fun l => match l with
  | [.int .i64 n] => some (pres (.tuple [.mag n.natAbs, .bool (decide (n < 0))]) [-2 ^ 63 ≤ n, n < 2 ^ 63])
  | _ => none
theorem s_esize_ok : ∀ K args pre r, s_esize K args pre = some r → FOK P ref02_size K args pre r := by
  refine pureSpec_ok fun K args r hk hs _ => ?_
  split at hs
  · simp only [Option.some.injEq] at hs
    subst hs
    exact fun need => esize_ok need.1 need.2 K [] trivial
  · simp at hs
def s_ereduce : Spec := pureSpec fun l => match l with
  | [.bool b, x, y] => match magOf x, magOf y with
    | some N, some D => some (pres (.rat (sQ b N D) (rsz (sQ b N D))) [nl N < 2 ^ 38, nl D < 2 ^ 38, D ≠ 0])
    | _, _ => none
  | _ => none
theorem s_ereduce_ok : ∀ K args pre r, s_ereduce K args pre = some r → FOK P ref02_reduce K args pre r := by
  refine pureSpec_ok fun K args r hk hs _ => ?_
  split at hs
  · split at hs
    · rename_i N D h1 h2
      simp only [Option.some.injEq] at hs
      subst hs
      exact fun need => fok_weak (ereduce_ok need.1 need.2.1 need.2.2 K []) hk ⟨.refl _, magOf_le h1, magOf_le h2, trivial⟩ [] trivial
    · simp at hs
  · simp at hs
end Go.Am.B
