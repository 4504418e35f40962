/- shapes, vector, ref14: by the evaluator; law14.awake. -/
import Derived.Test.YtbghpkgbokbmlaaGreatY48
set_option linter.unusedVariables false
namespace Go.Am.B
open Go Go.Am.N AV ATree AEx IntKind
theorem is_rNeg : FnIs P rational_Neg fn_rational_Neg (codeOf fn_rational_Neg) := fnIs get_rational_Neg (by kernel_rfl) (by kernel_rfl) (by kernel_rfl)
theorem rneg_end {q : Rat} {n : Nat} : funT T GA [8] 60 fn_rational_Neg (codeOf fn_rational_Neg) ⟨zipSlots 0 [.rat q n], [], 0⟩ =
    let c4 : Int := (↑(nl q.num.natAbs) : Int); let c3 : Bool := !decide (q < 0); let c2 : List AV := [mag q.num.natAbs, mag (if q.den = 1 then 0 else q.den)]; let c1 : Prop := 0 < 1; some (must [c1, n < 2 ^ 44, c1] (fork c3 (must [c1, c3 = true, c1, c1] (must [c1, c1] (must [c1] (leaf ret [agg (AV.bool (bif true then decide (c4 > (0 : Int)) else false) :: c2)])))) (must [c1, c3 = false, c1] (must [c1, c1] (must [c1] (leaf ret [agg (AV.bool false :: c2)])))))) := by kernel_rfl
theorem rNeg_ok {q : Rat} {n : Nat} (hn : n < 2 ^ 40) (K : Nat) : FOK P rational_Neg K [.rat q n] [] (pres (.rat (-q) n) []) := by
  refine fok_szp fun ⟨hs1, _⟩ => ?_
  have hs1 : Sz q n := hs1
  have hs2 := hs1.neg
  have e1 : (-q).num.natAbs = q.num.natAbs := by rw [Rat.neg_num, Int.natAbs_neg]
  have e2 : (-q).den = q.den := Rat.neg_den q
  refine fok_tree (r := pres (.rat (-q) n) []) hT GA_ok hm is_rNeg rfl (of_decide_eq_true (by kernel_rfl)) rfl 60 rneg_end (fun _ => ?_) K []
  simp only [ATree.all, allP]
  refine ⟨⟨by omega, by omega, by omega⟩, fun hb => ⟨⟨by omega, hb, by omega, by omega⟩, ⟨by omega, by omega⟩, by omega, avLe0_rat hs2 ?_ e1.symm (by rw [e2])⟩, fun hb => ⟨⟨by omega, hb, by omega⟩, ⟨by omega, by omega⟩, by omega, avLe0_rat hs2 ?_ e1.symm (by rw [e2])⟩⟩
  · have hq : ¬ q < 0 := by simpa using hb
    rw [cond_true]
    have h1 : ¬ q.num < 0 := fun h => hq (rat_lt_zero.2 h)
    exact ((decide_eq_decide (p := -q < 0) (q := (nl q.num.natAbs : Int) > 0)).2 (by
      rw [rat_lt_zero, Rat.neg_num]
      have := nl_pos (N := q.num.natAbs)
      omega)).symm
  · have hq : q < 0 := by simpa using hb
    have := rat_lt_zero.1 hq
    exact (decide_eq_false (p := -q < 0) (by rw [rat_lt_zero, Rat.neg_num]; omega)).symm
def tNeg : Contracts := [(rational_Neg, pureSpec fun l => match l with
  | [.rat q n] => match Nat.blt n (2 ^ 40) with
    | true => some (pres (.rat (-q) n) [])
    | false => none
  | _ => none)]
noncomputable def gV0 : Contracts := [(vector_each, aSpec T (sG :: tRat) [] 60 fn_vector_each), (vector_Dot, aSpec T (sG :: tRat) [] 60 fn_vector_Dot), (vector_Identity, aSpec T (sG :: tRat) [] 60 fn_vector_Identity)]
noncomputable def gV1 : Contracts := [(vector_Add, aSpec T (sG :: gV0) [] 60 fn_vector_Add), (vector_Scale, aSpec T (sG :: gV0) [] 60 fn_vector_Scale), (vector_Turn, aSpec T (sG :: gV0) [] 60 fn_vector_Turn)]
noncomputable def gV2 : Contracts := [(vector_Apply, aSpec T (sG :: gV1) [] 60 fn_vector_Apply)]
noncomputable def gS0 : Contracts := [(shapes_ints, s_sIn), (shapes_round, aSpec T [sG] [] 60 fn_shapes_round), (shapes_pole, aSpec T (sG :: (gV1 ++ tRat)) [] 60 fn_shapes_pole), (shapes_clamped, aSpec T (sG :: (shapes_ints, s_sIn) :: tRat) [] 200 fn_shapes_clamped)]
noncomputable def gS1 : Contracts := [(shapes_Quarter, aSpec T (sG :: gS0) [] 200 fn_shapes_Quarter), (shapes_Line, aSpec T (sG :: gS0) [] 200 fn_shapes_Line), (shapes_Rotation, aSpec T (sG :: (gV0 ++ (tNeg ++ tRat))) [] 200 fn_shapes_Rotation)]
noncomputable def gS3 : Contracts := [(shapes_Revolve, aSpec T (sG :: (spline_Copied, aSpec T (sG :: tRat) [] 200 fn_spline_Copied) :: (gS0 ++ tRat)) [] 400 fn_shapes_Revolve)]
noncomputable def gN0 : Contracts := [(ref14_ints, s_nIn), (ref14_at, aSpec T (sG :: tRef) [] 60 fn_ref14_at), (ref14_pole, aSpec T (sG :: tRef) [] 60 fn_ref14_pole)]
noncomputable def gN1 : Contracts := [(ref14_Quarter, aSpec T (sG :: gN0) [] 200 fn_ref14_Quarter)]
noncomputable def gG0 : Contracts := [(ref04_Unit, aSpec T (sG :: tRef) [] 60 fn_ref04_Unit), (ref04_Add, aSpec T (sG :: tRef) [] 60 fn_ref04_Add), (ref04_Sub, aSpec T (sG :: tRef) [] 60 fn_ref04_Sub), (ref04_Dot, aSpec T (sG :: tRef) [] 60 fn_ref04_Dot), (ref04_Same, aSpec T (sG :: tRef) [100010, 100017] 60 fn_ref04_Same)]
noncomputable def gJ0 : Contracts := [(ref02_SameList, s_eSL), (ref10_SamePoles, aSpec T (sG :: (gG0 ++ tRef)) [200029, 200042] 200 fn_ref10_SamePoles)]
noncomputable def gJ1 : Contracts := [(ref10_Same, aSpec T (sG :: gJ0) [100010, 100017] 60 fn_ref10_Same)]
def tTx5 : Spec := pureSpec fun l => match l with
  | [.mag 3] => some (pres (.str [51]) [])
  | [.mag 5] => some (pres (.str [53]) [])
  | _ => none
def GTx5 : Contracts := [sG, (ref01_Text, tTx5)]
def tTe35 : Spec := pureSpec fun l => match l with
  | [.rat q _] => match decide (q = 3 / 5) with
    | true => some (pres (.str [51, 47, 53]) [])
    | false => none
  | _ => none
noncomputable def G14 : Contracts := sG :: (ref10_Eval, s_jEv) :: (ref02_Frac, s_eFrac) :: (ref02_Text, tTe35) :: (gS1 ++ (gS3 ++ (gN1 ++ (gG0 ++ (gV2 ++ (gJ1 ++ tRef))))))
theorem tx_5 : funT T GBy [] 60 fn_ref01_Text (codeOf fn_ref01_Text) ⟨zipSlots 0 [.mag 5], [], 0⟩ =
    let c1 : Int := (↑(1 : Nat) : Int); some (must [nl 5 < 2 ^ 40, (0 : Int) < (1000000000 : Int), (1000000000 : Int) < (2 : Int) ^ 32] (must [(10 : Int) ≠ (0 : Int), (0 : Nat) < 1 ∧ 1 * ((1 : Nat) + 1) * 2 ≤ 2 ^ 47] (must [(10 : Int) ≠ (0 : Int)] (must [(0 : Int) ≤ c1 ∧ c1 ≤ c1 ∧ c1 ≤ (2 : Int) ^ 47 ∧ c1 * c1 ≤ (2 : Int) ^ 47] (leaf ret [str [UInt8.ofNat (u8.wrap (u32.wrap ((48 : Int) + (↑((5 : Nat) % Int.toNat (1000000000 : Int)) : Int).tmod (10 : Int)))).toNat]]))))) := by kernel_rfl
theorem te_35 : funT T GTx5 [] 60 fn_ref02_Text (codeOf fn_ref02_Text) ⟨zipSlots 0 [.agg [.bool false, .mag 3, .mag 5]], [], 0⟩ =
    some (leaf ret [str [(51 : UInt8), (47 : UInt8), (53 : UInt8)]]) := by kernel_rfl
theorem aw14_end : funT T G14 [100027, 100033, 100038, 100043, 100047, 100053] 200 fn_law14_awake (codeOf fn_law14_awake) ⟨zipSlots 0 [], [], 0⟩ =
    let c49 : Int := (↑(4 : Nat) : Int); let c48 : List UInt8 := [(51 : UInt8), (47 : UInt8), (53 : UInt8)]; let c47 : Prop := 3 ≤ 3; let c46 : Prop := (0 : Int) ≤ (0 : Int); let c44 : Rat := 0 * 0; let c42 : Nat := 2 ^ 40; let c41 : Nat := 224 + 1; let c28 : Int := i64.wrap (i64.wrap ((2 : Int) * (4 : Int)) + (1 : Int)); let c27 : Int := (2 : Int) ^ 63; let c25 : Rat := (↑(2 : Int) : Rat); let c22 : Nat := Int.toNat (0 : Int) + 1; let c21 : Nat := nat_lit 0 + 0; let c20 : Nat := nat_lit 2 + 0; let c19 : Nat := 1 + 1; let c18 : Nat := nat_lit 1 + 0; let c17 : AV := rat 0 1; let c15 : Rat := (↑(0 : Int) : Rat); let c14 : Nat := 24 + 1; let c12 : Nat := 56 + 1; let c11 : Nat := 3 + 2; let c7 : Nat := 2 ^ 47; let c6 : AV := int i64 (1 : Int); let c3 : AV := int i64 (0 : Int); let c2 : Prop := 0 < 1; let c1 : Rat := (↑(1 : Int) : Rat); let c53 : List AV := [c6, c3]; let c52 : Prop := c11 * c12 * 2 ≤ c7; let c50 : Nat := c22 + 1; let c45 : Nat := c11 + 1; let c43 : Nat := c19 + 1; let c40 : Rat := c1 / (c1 + c1 * c1); let c39 : Prop := (bif false then true else !decide (c1 = c1)) = false; let c38 : Nat := c11 + 2 + 2; let c35 : Rat := (↑(intOf (nth [c6, c3, c3] c3 c21)) : Rat) + 0; let c32 : Rat := (↑(intOf (nth [c6, c3, c3] c3 c18)) : Rat) + 0; let c31 : Rat := (↑(intOf (nth [c6, c3, c3] c3 c20)) : Rat) + 0; let c24 : Rat := 0 + 0 * c1 + c44 + c1 * 0 + 0; let c23 : List AV := [c3, c3, c3, c6, c6, c6]; let c9 : AV := rat c15 (Max.max 1 (bitsN (Int.natAbs (0 : Int)))); let c8 : AV := rat c1 (Max.max 1 (bitsN (Int.natAbs (1 : Int)))); let c5 : Prop := c2 ∧ 1 * c41 * 2 ≤ c7; let c4 : Prop := c19 * c41 * 2 ≤ c7; let c37 : Rat := (↑(intOf (nth (c3 :: c53) c3 c18)) : Rat) + 0; let c36 : Rat := (↑(intOf (nth (c3 :: c53) c3 c20)) : Rat) + 0; let c34 : Rat := (↑(intOf (nth (c3 :: c53) c3 c21)) : Rat) + 0; let c33 : Rat := (↑(intOf (nth (c6 :: c53) c3 c20)) : Rat) + 0; let c30 : Rat := (↑(intOf (nth (c6 :: c53) c3 c18)) : Rat) + 0; let c29 : Rat := (↑(intOf (nth (c6 :: c53) c3 c21)) : Rat) + 0; let c16 : Rat := 0 + (c1 - c1 * c1) * c40 * c1 + -((c1 + c1) * c40) * 0 + c44 + 0; let c13 : Rat := 0 + (c1 + c1) * c40 * c1 + ((c1 - c1 * c1) * c40 + 0) * 0 + c44 + 0; let c10 : Nat := c43 + 1 + 1; let c51 : Nat := c10 + 1 + 1; let c26 : Nat := c51 + 1; some (must [c2, c2, c2, c2, c2, c2, c2, -c27 ≤ (1 : Int), (1 : Int) < c27, -c27 ≤ (2 : Int), (2 : Int) < c27, allRat (fun i ↦ rat (↑(intOf (nth c23 c3 (i + 0 + 0))) : Rat) 64) 6 sK, allPl (fun i ↦ nth [agg [agg [c8, c9, c9], c8], agg [agg [c8, c8, c9], c8], agg [agg [c9, c8, c9], rat c25 (Max.max 1 (bitsN (Int.natAbs (2 : Int))))]] (agg [agg [c17, c17, c17], c17]) (i + 0)) 3 sK, (64 : Nat) ≤ sK, Kn 6 (Int.toNat (2 : Int)) fun i ↦ ratV (rat (↑(intOf (nth c23 c3 (i + 0 + 0))) : Rat) 64), (0 : Int) ≤ (2 : Int), (2 : Int) ≤ (6 : Int), (6 : Nat) < c42, (↑(3 : Nat) : Int) = (↑(6 : Nat) : Int) - (2 : Int) - (1 : Int)] (must [c2, c2, c2, c2, c2, c2, c2, c2, c2, c2] (must [c2, c2, c2, c2, c2, c2, c2, c2, c2, c2, c2, c52, (c11 + 2) * c12 * 2 ≤ c7, c38 * c12 * 2 ≤ c7, (c38 + 2) * c12 * 2 ≤ c7, (c38 + 2 + 1) * c12 * 2 ≤ c7, c46 ∧ (0 : Int) ≤ c49 ∧ c49 ≤ (2 : Int) ^ 47 ∧ c49 * (↑(56 : Nat) : Int) ≤ (2 : Int) ^ 47, c22 * c12 * 2 ≤ c7, c50 * c12 * 2 ≤ c7, (c50 + 1) * c12 * 2 ≤ c7, (c50 + 1 + 1) * c12 * 2 ≤ c7, c2, c2, c46 ∧ (0 : Int) ≤ c28 ∧ c28 ≤ (↑(9 : Nat) : Int), c5, c4, c2 ∧ 1 * c14 * 2 ≤ c7, c5, c4, c19 * c14 * 2 ≤ c7, c5, c4, c43 * c14 * 2 ≤ c7, c5, c4, (c43 + 1) * c14 * 2 ≤ c7, c5, c4, c10 * c14 * 2 ≤ c7, c5, c4, (c10 + 1) * c14 * 2 ≤ c7, c5, c4, c51 * c14 * 2 ≤ c7, c5, c4, c26 * c14 * 2 ≤ c7, c5, c4, (c26 + 1) * c14 * 2 ≤ c7, c2] (must [(ivE 6 (fun i ↦ ratV (rat (↑(intOf (nth c23 c3 (i + 0 + 0))) : Rat) 64)) (c1 / c25) == (0 : Int)) = true, (bif true then c48 == c48 else false) = true, c52, c45 * c12 * 2 ≤ c7, c2, c2, c46 ∧ (0 : Int) ≤ (3 : Int) ∧ (3 : Int) ≤ (↑(9 : Nat) : Int), c47, c2, c2, c2, c5, c47, c2, c2, c2, c4, c47, c2, c2, c2, c43 * c41 * 2 ≤ c7, c2, c2, c2, c2, c2, c2, c2, c2, ((2 : Int) == (2 : Int)) = true, allRat (fun i ↦ if i + 0 < c11 then if i + 0 < 3 then rat (↑(intOf (nth [c3, c3, c3] c3 (i + 0 + 0))) : Rat) 64 else rat (↑(intOf (nth [c6, c6] c3 (i + 0 - 3 + 0 + 0))) : Rat) 64 else nth [c8] c17 (i + 0 - c11 + 0)) c45 sU, allRat (fun i ↦ rat (↑(intOf (nth c23 c3 (i + 0 + 0))) : Rat) 64) 6 sU, c45 < c42, (6 : Nat) < c42, (bif true then sameL c45 (fun i ↦ ratV (if i + 0 < c11 then if i + 0 < 3 then rat (↑(intOf (nth [c3, c3, c3] c3 (i + 0 + 0))) : Rat) 64 else rat (↑(intOf (nth [c6, c6] c3 (i + 0 - 3 + 0 + 0))) : Rat) 64 else nth [c8] c17 (i + 0 - c11 + 0))) 6 fun i ↦ ratV (rat (↑(intOf (nth c23 c3 (i + 0 + 0))) : Rat) 64) else false) = true, decide (c35 = c1) = true, (bif true then decide (c32 = c15) else false) = true, (!bif true then decide (c31 = c15) else false) = false, c39, decide (c29 = c1) = true, (bif true then decide (c30 = c1) else false) = true, (!bif true then decide (c33 = c15) else false) = false, c39, decide (c34 = c15) = true, (bif true then decide (c37 = c1) else false) = true, (!bif true then decide (c36 = c15) else false) = false, (bif false then true else !decide (c25 = c25)) = false, (bif true then bif true then true else false else false) = true, c2, decide (c16 = 0) = true, (bif true then decide (c13 = c1) else false) = true, (bif true then bif true then decide (c24 = 0) else false else false) = true, (bif true then (0 : Int) == (0 : Int) else false) = true, (bif true then (↑(c26 + 1) : Int) == (9 : Int) else false) = true] (leaf ret [AV.bool true]))))) := by kernel_rfl
theorem tNeg_ok : GOK P tNeg := gok_cons (by
  refine pureSpec_ok fun K args r hk hs _ => ?_
  split at hs
  · split at hs
    · rename_i hb
      simp only [Option.some.injEq] at hs
      subst hs
      exact rNeg_ok (by rw [Nat.blt_eq] at hb; exact hb) K
    · simp at hs
  · simp at hs) gok_nil
theorem gV0_ok : GOK P gV0 := gok_cons (aSpec_ok hT (gok_strict tRat_ok) hm (fnIs get_vector_each (by kernel_rfl) (by kernel_rfl) (by kernel_rfl)) _ _) (gok_cons (aSpec_ok hT (gok_strict tRat_ok) hm (fnIs get_vector_Dot (by kernel_rfl) (by kernel_rfl) (by kernel_rfl)) _ _) (gok_cons (aSpec_ok hT (gok_strict tRat_ok) hm (fnIs get_vector_Identity (by kernel_rfl) (by kernel_rfl) (by kernel_rfl)) _ _) gok_nil))
theorem gV1_ok : GOK P gV1 := gok_cons (aSpec_ok hT (gok_strict gV0_ok) hm (fnIs get_vector_Add (by kernel_rfl) (by kernel_rfl) (by kernel_rfl)) _ _) (gok_cons (aSpec_ok hT (gok_strict gV0_ok) hm (fnIs get_vector_Scale (by kernel_rfl) (by kernel_rfl) (by kernel_rfl)) _ _) (gok_cons (aSpec_ok hT (gok_strict gV0_ok) hm (fnIs get_vector_Turn (by kernel_rfl) (by kernel_rfl) (by kernel_rfl)) _ _) gok_nil))
theorem gV2_ok : GOK P gV2 := gok_cons (aSpec_ok hT (gok_strict gV1_ok) hm (fnIs get_vector_Apply (by kernel_rfl) (by kernel_rfl) (by kernel_rfl)) _ _) gok_nil
theorem gS0_ok : GOK P gS0 := gok_cons s_sIn_ok (gok_cons (aSpec_ok hT (gok_strict gok_nil) hm (fnIs get_shapes_round (by kernel_rfl) (by kernel_rfl) (by kernel_rfl)) _ _) (gok_cons (aSpec_ok hT (gok_strict (gok_app gV1_ok tRat_ok)) hm (fnIs get_shapes_pole (by kernel_rfl) (by kernel_rfl) (by kernel_rfl)) _ _) (gok_cons (aSpec_ok hT (gok_strict (gok_cons s_sIn_ok tRat_ok)) hm (fnIs get_shapes_clamped (by kernel_rfl) (by kernel_rfl) (by kernel_rfl)) _ _) gok_nil)))
theorem gS1_ok : GOK P gS1 := gok_cons (aSpec_ok hT (gok_strict gS0_ok) hm (fnIs get_shapes_Quarter (by kernel_rfl) (by kernel_rfl) (by kernel_rfl)) _ _) (gok_cons (aSpec_ok hT (gok_strict gS0_ok) hm (fnIs get_shapes_Line (by kernel_rfl) (by kernel_rfl) (by kernel_rfl)) _ _) (gok_cons (aSpec_ok hT (gok_strict (gok_app gV0_ok (gok_app tNeg_ok tRat_ok))) hm (fnIs get_shapes_Rotation (by kernel_rfl) (by kernel_rfl) (by kernel_rfl)) _ _) gok_nil))
theorem gS3_ok : GOK P gS3 := gok_cons (aSpec_ok hT (gok_strict (gok_cons (aSpec_ok hT (gok_strict tRat_ok) hm (fnIs get_spline_Copied (by kernel_rfl) (by kernel_rfl) (by kernel_rfl)) _ _) (gok_app gS0_ok tRat_ok))) hm (fnIs get_shapes_Revolve (by kernel_rfl) (by kernel_rfl) (by kernel_rfl)) _ _) gok_nil
theorem gN0_ok : GOK P gN0 := gok_cons s_nIn_ok (gok_cons (aSpec_ok hT (gok_strict tRef_ok) hm (fnIs get_ref14_at (by kernel_rfl) (by kernel_rfl) (by kernel_rfl)) _ _) (gok_cons (aSpec_ok hT (gok_strict tRef_ok) hm (fnIs get_ref14_pole (by kernel_rfl) (by kernel_rfl) (by kernel_rfl)) _ _) gok_nil))
theorem gN1_ok : GOK P gN1 := gok_cons (aSpec_ok hT (gok_strict gN0_ok) hm (fnIs get_ref14_Quarter (by kernel_rfl) (by kernel_rfl) (by kernel_rfl)) _ _) gok_nil
theorem gG0_ok : GOK P gG0 := gok_cons (aSpec_ok hT (gok_strict tRef_ok) hm (fnIs get_ref04_Unit (by kernel_rfl) (by kernel_rfl) (by kernel_rfl)) _ _) (gok_cons (aSpec_ok hT (gok_strict tRef_ok) hm (fnIs get_ref04_Add (by kernel_rfl) (by kernel_rfl) (by kernel_rfl)) _ _) (gok_cons (aSpec_ok hT (gok_strict tRef_ok) hm (fnIs get_ref04_Sub (by kernel_rfl) (by kernel_rfl) (by kernel_rfl)) _ _) (gok_cons (aSpec_ok hT (gok_strict tRef_ok) hm (fnIs get_ref04_Dot (by kernel_rfl) (by kernel_rfl) (by kernel_rfl)) _ _) (gok_cons (aSpec_ok hT (gok_strict tRef_ok) hm (fnIs get_ref04_Same (by kernel_rfl) (by kernel_rfl) (by kernel_rfl)) _ _) gok_nil))))
theorem gJ0_ok : GOK P gJ0 := gok_cons s_eSL_ok (gok_cons (aSpec_ok hT (gok_strict (gok_app gG0_ok tRef_ok)) hm (fnIs get_ref10_SamePoles (by kernel_rfl) (by kernel_rfl) (by kernel_rfl)) _ _) gok_nil)
theorem gJ1_ok : GOK P gJ1 := gok_cons (aSpec_ok hT (gok_strict gJ0_ok) hm (fnIs get_ref10_Same (by kernel_rfl) (by kernel_rfl) (by kernel_rfl)) _ _) gok_nil
theorem tTx5_ok : ∀ K args pre r, tTx5 K args pre = some r → FOK P ref01_Text K args pre r := by
  refine pureSpec_ok fun K args r hk hs _ => ?_
  have fin : ∀ {N : Nat} {t : ATree (List AV)} {l : List UInt8}, funT T GBy [] 60 fn_ref01_Text (codeOf fn_ref01_Text) ⟨zipSlots 0 [.mag N], [], 0⟩ = some t → (t.all fun _ us => resOK us (.str l)) → FOK P ref01_Text K [.mag N] [] (pres (.str l) []) := fun h1 h2 =>
    fok_tree (r := pres _ []) hT GBy_ok hm is_fText rfl (of_decide_eq_true (by kernel_rfl)) rfl 60 h1 (fun _ => h2) K []
  split at hs <;> simp only [Option.some.injEq, reduceCtorEq] at hs
  all_goals subst hs
  · exact fin tx_3 (by simp only [ATree.all, allP]; exact ⟨by decide, by decide, by decide, by decide, .refl _⟩)
  · exact fin tx_5 (by simp only [ATree.all, allP]; exact ⟨by decide, by decide, by decide, by decide, .refl _⟩)
theorem tTe35_ok : ∀ K args pre r, tTe35 K args pre = some r → FOK P ref02_Text K args pre r := by
  refine pureSpec_ok fun K args r hk hs _ => ?_
  split at hs
  · rename_i q n
    split at hs
    all_goals simp only [Option.some.injEq, reduceCtorEq] at hs
    all_goals subst hs
    obtain rfl : q = 3 / 5 := of_decide_eq_true ‹_›
    exact fok_weak (fok_tree (r := pres _ []) hT (gok_strict (gok_cons tTx5_ok gok_nil)) hm is_eText rfl (of_decide_eq_true (by kernel_rfl)) rfl 60 te_35 (fun _ => .refl _) K []) rfl (show avLes0 [_] [_] from ⟨by rw [← show kids (.rat (3 / 5) n) = [.bool false, .mag 3, .mag 5] from by kernel_rfl]; exact avLe0_rat_agg, trivial⟩) []
  · simp at hs
theorem G14_ok : GOK P G14 := gok_strict (gok_cons s_jEv_ok (gok_cons s_eFrac_ok (gok_cons tTe35_ok (gok_app gS1_ok (gok_app gS3_ok (gok_app gN1_ok (gok_app gG0_ok (gok_app gV2_ok (gok_app gJ1_ok tRef_ok)))))))))
theorem aw14_ok (K : Nat) : FOK P law14_awake K [] [] (pres (.bool true) []) := by
  refine fok_tree (r := pres (.bool true) []) hT G14_ok hm (fnIs get_law14_awake (by kernel_rfl) (by kernel_rfl) (by kernel_rfl)) rfl (of_decide_eq_true (by kernel_rfl)) rfl 200 aw14_end (fun _ => ?_) K []
  simp only [ATree.all, allP]
  (repeat' with_reducible first | refine And.intro ?_ ?_)
  all_goals first | omega | decide | skip
  · intro i hi
    match i, hi with
    | 0, _ | 1, _ | 2, _ | 3, _ | 4, _ | 5, _ => exact avLe0_rat_more (by decide)
  · intro i hi
    match i, hi with
    | 0, _ | 1, _ | 2, _ => exact avLe0_agg ⟨avLe0_agg ⟨avLe0_rat_more (by decide), avLe0_rat_more (by decide), avLe0_rat_more (by decide), trivial⟩, avLe0_rat_more (by decide), trivial⟩
  · refine kn622 fun i hi => ?_
    match i, hi with
    | 0, _ | 1, _ | 2, _ | 3, _ | 4, _ | 5, _ => decide +kernel
  · decide +kernel
  · intro i hi
    match i, hi with
    | 0, _ | 1, _ | 2, _ | 3, _ | 4, _ | 5, _ => exact avLe0_rat_more (by decide)
  · intro i hi
    match i, hi with
    | 0, _ | 1, _ | 2, _ | 3, _ | 4, _ | 5, _ => exact avLe0_rat_more (by decide)
  all_goals first | exact .refl _ | decide +kernel
def s_aw14 : Spec := pureSpec fun l => match l with
  | [] => some (pres (.bool true) [])
  | _ => none
theorem s_aw14_ok : ∀ K args pre r, s_aw14 K args pre = some r → FOK P law14_awake K args pre r := by
  refine pureSpec_ok fun K args r hk hs _ => ?_
  split at hs
  · simp only [Option.some.injEq] at hs
    subst hs
    exact aw14_ok K
  · simp at hs
end Go.Am.B
