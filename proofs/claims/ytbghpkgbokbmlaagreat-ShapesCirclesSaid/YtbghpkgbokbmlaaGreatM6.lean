/- brepkernellaw14.ShapesCircles. -/
import Derived.Test.YtbghpkgbokbmlaaGreatY53
import Derived.Test.YtbghpkgbokbmlaaGreatY48
set_option linter.unusedVariables false
namespace Go.Am.B
open Go Go.Am.N AV ATree AEx IntKind
theorem is_M6 : FnIs P law14_ShapesCircles fn_law14_ShapesCircles (codeOf fn_law14_ShapesCircles) := fnIs get_law14_ShapesCircles (by kernel_rfl) (by kernel_rfl) (by kernel_rfl)
abbrev zz (z : Nat → Int) : Nat → AV := fun i => .int .i64 (z i)
noncomputable def gCi : Contracts := [(ref10_Domain, aSpec T [nG] [] 60 fn_ref10_Domain), (ref10_Ends, aSpec T [nG] [] 60 fn_ref10_Ends)]
noncomputable def GL14 : Contracts := sG :: (made_Light, s_mLight) :: (law14_awake, s_aw14) :: (made_Roll, s_mRoll) :: (made_Dice_Point, diceSpec g_point) :: (made_Dice_Number, diceSpec g_number) :: (ref10_Check, s_jCh) :: (ref10_Eval, s_jEv) :: (shapes_Circle, s_sCi) :: (gCi ++ (gWithin ++ (gG0 ++ tRef)))
abbrev ptO (a : V3) : AObj := ⟨false, true, 9, 1, fun _ => vA a 64⟩
noncomputable abbrev ciC : Code := codeOf fn_law14_ShapesCircles
abbrev ciS (a : V3) (r : Rat) (d : Int) : AState := ⟨zipL [4, 1, 6, 7] [.bool false, .int .i64 d, .ptr 0 0 9 0 [], .ptr 1 0 3 0 []], [(1, tP r 64), (0, ptO a)], 2⟩
theorem ci_pre {n : Nat} {z : Nat → Int} {d : Int} : seeL T GL14 [17] 60 [4, 1, 6, 7] (before ciC [1,1,1,1]) ⟨zipSlots 0 [.tab 1 n (zz z), .int .i64 d], [], 0⟩ =
    let c1 : AV := rat 0 1; some (fork (!decide ((↑n : Int) ≤ (500 : Int))) (leaf ret ([AV.bool true, int i64 d, tuple [], tuple []], [])) (must [DiceOK n (zz z) (0 : Int), DiceOK n (zz z) (ptA n (zz z) (0 : Int))] (leaf normal ([AV.bool false, int i64 d, ptr 45056 0 9 0 [], ptr 49152 0 3 0 []], [((49152 : Nat), AObj.mk false true 3 1 fun j ↦ if (j == 0) = true then deN (rat (numV n (zz z) (ptA n (zz z) (0 : Int))) 64) else c1), ((45056 : Nat), AObj.mk false true 9 1 fun j ↦ if (j == 0) = true then deN (agg [rat (numV n (zz z) (0 : Int)) 64, rat (numV n (zz z) (numA n (zz z) (0 : Int))) 64, rat (numV n (zz z) (numA n (zz z) (numA n (zz z) (0 : Int)))) 64]) else agg [c1, c1, c1])])))) := by kernel_rfl
theorem ci_end {a : V3} {r : Rat} {d : Int} : endL T GL14 [33, 100036, 200041, 200045, 100067, 100076, 100081] 200 fn_law14_ShapesCircles [part ciC [1,1,1,1]] (ciS a r d) =
    let c15 : V3 := V3.mk a.x a.y a.z; let c14 : Int := (↑(ciN r 7 0) : Int); let c11 : Int := (2 : Int) ^ 63; let c10 : Prop := 64 ≤ 64; let c7 : Nat := Int.toNat (0 : Int); let c6 : Nat := ciN r 0 9; let c5 : Prop := 0 < 1; let c4 : Int := (↑(ciN r 0 2) : Int); let c2 : Nat := ciN r 0 12; let c13 : Prop := (↑c6 : Int) = (↑c2 : Int) - c4 - (1 : Int); let c12 : Prop := Kn c2 c4.toNat fun i ↦ ratV (rat (kcK i) 64); let c9 : Int := (↑c2 : Int) - (1 : Int); let c3 : Int := (↑c6 : Int) - (1 : Int); let c1 : V3 := evP (Cu.mk c4 c2 (fun i ↦ ratV (rat (kcK i) 64)) c6 fun i ↦ plV (plA (circP c15 r i) 300)) (kcK c7 + partV d * (kcK c9.toNat - kcK c7)); let c8 : Rat := 0 + (c1.x - a.x) * (c1.x - a.x) + (c1.y - a.y) * (c1.y - a.y) + (c1.z - a.z) * (c1.z - a.z); some (must [c10, c10, c10, c10] (fork (decide (sgnR r ≤ (0 : Int))) (must [(c14 == (7 : Int)) = true] (leaf ret [AV.bool true])) (must [(c14 != (0 : Int)) = false, allRat (fun i ↦ rat (kcK i) 64) c2 2048, allPl (fun i ↦ plA (circP c15 r i) 300) c6 2048, c12, (0 : Int) ≤ c4, c4 ≤ (6 : Int), c2 ≤ c4.toNat + 41, c13, ∀ (i : Nat), i < c6 → 0 < ratV (rat (cW i) 300)] (must [(bif false then true else (0 : Int) != (0 : Int)) = false] (must [c5, (0 : Int) ≤ (0 : Int) ∧ c7 < c2, c5, c5, -c11 ≤ c9 ∧ c9 < c11, (0 : Int) ≤ c9 ∧ c9.toNat < c2, c5, c5, c5, allRat (fun i ↦ rat (kcK i) 64) c2 sK, allPl (fun i ↦ plA (circP c15 r i) 300) c6 sK, (64 : Nat) + ((64 : Nat) + ((64 : Nat) + 64 + 1)) + 1 ≤ sK, c12, (0 : Int) ≤ c4, c4 ≤ (6 : Int), c2 < 2 ^ 40, c13] (must [c5] (must [c5, (0 : Int) ≤ (0 : Int) ∧ c7 < c6, c5, c5, -c11 ≤ c3 ∧ c3 < c11, (0 : Int) ≤ c3 ∧ c3.toNat < c6, c5, c5, c5, c5] (must [(sgnR (c1.z - a.z) == (0 : Int)) = true, c5, (bif true then decide (c8 = r * r) else false) = true, decide (a.x + r * cX c7 = a.x + r * cX c3.toNat) = true, (bif true then decide (a.y + r * cY c7 = a.y + r * cY c3.toNat) else false) = true, (bif true then bif true then decide (a.z = a.z) else false else false) = true] (leaf ret [AV.bool true]))))))))) := by kernel_rfl
theorem gCi_ok : GOK P gCi := gok_cons (aSpec_ok hT (gok_plain gok_nil) hm (fnIs get_ref10_Domain (by kernel_rfl) (by kernel_rfl) (by kernel_rfl)) _ _) (gok_cons (aSpec_ok hT (gok_plain gok_nil) hm (fnIs get_ref10_Ends (by kernel_rfl) (by kernel_rfl) (by kernel_rfl)) _ _) gok_nil)
theorem GL14_ok : GOK P GL14 := gok_strict (gok_cons s_mLight_ok (gok_cons s_aw14_ok (gok_cons s_mRoll_ok (gok_cons s_mPoint_ok (gok_cons s_mNumber_ok (gok_cons s_jCh_ok (gok_cons s_jEv_ok (gok_cons s_sCi_ok (gok_app gCi_ok (gok_app gWithin_ok (gok_app gG0_ok tRef_ok)))))))))))
theorem dice0 {n : Nat} {z : Nat → Int} (h : n ≤ 500) : DiceOK n (zz z) 0 := ⟨fun i => rfl, by omega, by omega, by omega⟩
theorem M6_ok {n : Nat} {z : Nat → Int} {d : Int} (K : Nat) : FOK P law14_ShapesCircles K [.tab 1 n (fun i => .int .i64 (z i)), .int .i64 d] [] (pres (.bool true) []) := by
  refine fok_down (r := pres (.bool true) []) hT is_M6 rfl (of_decide_eq_true (by kernel_rfl)) rfl (fun _ cx h0 => ?_) K []
  have hk := kept_nil h0
  have hret : RetV fn_law14_ShapesCircles [4, 1, 6, 7] (.bool true) ([AV.bool true, int i64 d, tuple [], tuple []], []) := ⟨[.bool true], by kernel_rfl, avLe0.refl _⟩
  refine AWp.hole [1,1,1,1] (by kernel_rfl) (AWpL.see hT GL14_ok hm 60 [4, 1, 6, 7] ci_pre (dst_before is_M6.dst) ?_)
  simp only [ATree.all, allP]
  refine ⟨fun h s' hs' => hret.fin hs', fun h => ?_⟩
  have hn : n ≤ 500 := by simp only [Bool.not_eq_false', decide_eq_true_eq] at h; omega
  have hd := dice0 (z := z) hn
  refine ⟨⟨hd, hd.point⟩, fun s' hs' => ?_⟩
  show AWp _ _ _ (part ciC [1,1,1,1]) s' _
  rw [show behind ciC [1,1,1,1] = [] from by kernel_rfl]
  obtain ⟨r, hr⟩ : ∃ r, r = numV n (zz z) (ptA n (zz z) 0) := ⟨_, rfl⟩
  obtain ⟨a, ha⟩ : ∃ a : V3, a = ⟨numV n (zz z) 0, numV n (zz z) (numA n (zz z) 0), numV n (zz z) (numA n (zz z) (numA n (zz z) 0))⟩ := ⟨_, rfl⟩
  suffices key : AWp P cx fn_law14_ShapesCircles.ntmps (part ciC [1,1,1,1]) (ciS a r d) (Lower cx (Fin T fn_law14_ShapesCircles (.bool true))) from
    AWp.weakE (s2 := ciS a r d) (ReOK.le ⟨[(0, 45056), (1, 49152)], rfl, rfl, rfl, objsQ_one rfl rfl (avQ_eq rfl (by rw [hr]; rfl)) (objsQ_one rfl rfl (avQ_eq rfl (by rw [ha]; rfl)) trivial)⟩ hs' hk) (key.mono fun e s' h => by cases e <;> exact h)
  refine AWp.ofL ((AWpL.fin hT GL14_ok hm 200 ci_end (by kernel_rfl) ?_).mono fun _ _ h => .inl h)
  simp only [ATree.all, allP, decide_eq_true_eq, decide_eq_false_iff_not]
  refine ⟨by omega, fun hle => ?_, fun hgt => ?_⟩
  · have e : ∀ {x y : Nat}, ciN r x y = x := fun {x y} => if_pos hle
    rw [e]
    exact ⟨rfl, .refl _⟩
  · have e : ∀ {x y : Nat}, ciN r x y = y := fun {x y} => if_neg hgt
    simp only [e]
    have hin : ¬ ivOut 12 kcK (kcK 0 + partV d * (kcK (12 - 1) - kcK 0)) := kc_kn.in_within
    obtain ⟨c1, c2⟩ := circ_ok (c := ⟨((2 : Nat) : Int), 12, kcK, 9, circP a r⟩) (a := a) (r := r) rfl rfl (fun i hi => rfl) (fun j hj => rfl) hin
    have hw : ∀ i, i < 9 → 0 < cW i := fun i hi => by
      match i, hi with
      | 0, _ | 1, _ | 2, _ | 3, _ | 4, _ | 5, _ | 6, _ | 7, _ | 8, _ => decide +kernel
    refine ⟨⟨by decide, allRat_ls (by decide), allPl_lp (by decide), kc_kn, by omega, by omega, by decide, by omega, hw⟩, by decide, ⟨by omega, by decide, by omega, by omega, by omega, by decide, by omega, by omega, by omega, allRat_ls (by decide), allPl_lp (by decide), by decide, kc_kn, by omega, by omega, by omega, by omega⟩, by omega, ⟨by omega, by decide, by omega, by omega, by omega, by decide, by omega, by omega, by omega, by omega⟩, ⟨?_, by omega, ?_, ?_, ?_, by decide⟩, .refl _⟩
    · show (sgnR ((evP ⟨((2 : Nat) : Int), 12, kcK, 9, circP a r⟩ (kcK 0 + partV d * (kcK (12 - 1) - kcK 0))).z - a.z) == 0) = true
      rw [c2]; decide +kernel
    · show decide (0 + ((evP ⟨((2 : Nat) : Int), 12, kcK, 9, circP a r⟩ (kcK 0 + partV d * (kcK (12 - 1) - kcK 0))).x - a.x) * ((evP ⟨((2 : Nat) : Int), 12, kcK, 9, circP a r⟩ (kcK 0 + partV d * (kcK (12 - 1) - kcK 0))).x - a.x) + ((evP ⟨((2 : Nat) : Int), 12, kcK, 9, circP a r⟩ (kcK 0 + partV d * (kcK (12 - 1) - kcK 0))).y - a.y) * ((evP ⟨((2 : Nat) : Int), 12, kcK, 9, circP a r⟩ (kcK 0 + partV d * (kcK (12 - 1) - kcK 0))).y - a.y) + ((evP ⟨((2 : Nat) : Int), 12, kcK, 9, circP a r⟩ (kcK 0 + partV d * (kcK (12 - 1) - kcK 0))).z - a.z) * ((evP ⟨((2 : Nat) : Int), 12, kcK, 9, circP a r⟩ (kcK 0 + partV d * (kcK (12 - 1) - kcK 0))).z - a.z) = r * r) = true
      rw [Rat.zero_add]
      exact decide_eq_true c1
    · rfl
    · exact decide_eq_true rfl
end Go.Am.B
