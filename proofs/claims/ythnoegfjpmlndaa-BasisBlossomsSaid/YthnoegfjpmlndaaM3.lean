/- brepkernellaw09.BasisBlossoms. -/
import Derived.Test.YthnoegfjpmlndaaM1
set_option linter.unusedVariables false
namespace Go.Am.B
open Go Go.Am.N AV ATree AEx IntKind

theorem is_M3 : FnIs P law09_BasisBlossoms fn_law09_BasisBlossoms (codeOf fn_law09_BasisBlossoms) := fnIs get_law09_BasisBlossoms (by kernel_rfl) (by kernel_rfl) (by kernel_rfl)
def GLb : Contracts := nG :: (made_Light, s_mLight) :: (law09_awake, s_aw9) :: (law09_made, s_md) :: (made_Mod, s_mMod) :: (made_Rat, s_mRat) :: (basis_Blossom, s_bBl) :: (ref09_Blossom, s_bBl) :: tRef
abbrev bbL : List Nat := [1, 2, 3, 8, 9, 10, 11, 12, 13]
abbrev bbV (q N m p : Nat) (y : Nat → Int) (pc d : Int) (k : Nat → Rat) (v : AV) (j : Nat) : List AV := [.tab 1 q (zz y), .int .i64 pc, .int .i64 d, .bool false, lsA k N 64, .int .i64 p, .own 0 3 0 m, v, .int .i64 j]
noncomputable abbrev bbC : Code := codeOf fn_law09_BasisBlossoms
theorem bb_pre {n q : Nat} {z y : Nat → Int} {pc d : Int} : seeL T GLb [23, 27] 60 bbL (before bbC [1,1,1,1,0,1]) ⟨zipSlots 0 [.tab 1 n (zz z), .tab 1 q (zz y), .int .i64 pc, .int .i64 d], [], 0⟩ =
    let c6 : AV := tuple []; let c5 : AV := tab 1 q fun a ↦ int i64 (y a); let c4 : Nat := mdN n (zz z) - mdP n (zz z) - 1; let c3 : Bool := !decide ((↑n : Int) ≤ (500 : Int)); let c2 : ATree (List AV × Store) := leaf ret ([c5, int i64 pc, int i64 d, AV.bool true, c6, c6, c6, c6, c6], []); let c1 : ATree (List AV × Store) := must [DiceOK n (zz z) (0 : Int)] (leaf normal ([c5, int i64 pc, int i64 d, AV.bool false, tab 3 (mdN n (zz z)) fun i ↦ rat (mdK n (zz z) i) 64, int i64 (↑(mdP n (zz z)) : Int), own 40960 3 0 c4, nil, int i64 (0 : Int)], [((40960 : Nat), AObj.mk true true 3 c4 fun i ↦ rat (mdC n (zz z) i) 64)])); some (fork c3 (must [c3 = true] (fork true c2 c1)) (must [c3 = false] (fork (bif false then true else decide ((↑q : Int) > (12 : Int))) c2 c1))) := by kernel_rfl
theorem bb_0 {q N m p j : Nat} {y : Nat → Int} {k c : Nat → Rat} {pc d : Int} : seeL T GLb [37, 46] 60 bbL [part bbC [1,1,1,1,0,1,0,0]] ⟨zipL bbL (bbV q N m p y pc d k .nil j), [(0, rowR m c)], 2⟩ =
    let c14 : AV := rat 0 1; let c13 : Int := (↑j : Int); let c11 : AV := int i64 (↑p : Int); let c10 : Prop := 0 < 1; let c9 : AV := own 0 3 0 m; let c8 : AV := tab 1 q fun a ↦ int i64 (y a); let c7 : AV := tab 3 N fun i ↦ rat (k i) 64; let c4 : Nat × AObj := ((0 : Nat), AObj.mk true true 3 m fun i ↦ rat (c i) 64); let c2 : Int := (2 : Int) ^ 63; let c5 : Int := c13 + (1 : Int); let c3 : List Prop := [c10, (1 : Nat) * 3 ≤ 2 ^ 24, c10 ∧ 1 * ((56 : Nat) + 1) * 2 ≤ 2 ^ 47]; let c1 : Int := (2 : Int) * c13; let c12 : Prop := -c2 ≤ c1 ∧ c1 < c2; let c6 : Int := c1 + (1 : Int); some (fork (decide (c13 < (↑p : Int))) (must [c10] (must [c12, -c2 ≤ c6 ∧ c6 < c2] (fork (decide (c6 < (↑q : Int))) (must [c12, (0 : Int) ≤ c1 ∧ c1.toNat < q, c12, -c2 ≤ c6 ∧ c6 < c2, (0 : Int) ≤ c6 ∧ c6.toNat < q, c10] (must c3 (must [-c2 ≤ c5 ∧ c5 < c2] (leaf normal ([c8, int i64 pc, int i64 d, AV.bool false, c7, c11, c9, own 114690 3 0 1, int i64 c5], [((114690 : Nat), AObj.mk true true 3 1 fun i ↦ nth [rat (ratM (y c1.toNat) (y c6.toNat)) 64] c14 (i + 0)), c4]))))) (must c3 (must [-c2 ≤ c5 ∧ c5 < c2] (leaf normal ([c8, int i64 pc, int i64 d, AV.bool false, c7, c11, c9, own 61442 3 0 1, int i64 c5], [((61442 : Nat), AObj.mk true true 3 1 fun i ↦ nth [agg [AV.bool (decide ((0 : Rat) < 0)), mag (↑(nat_lit 0) : Int).natAbs, mag (if 1 = 1 then 0 else 1)]] c14 (i + 0)), c4]))))))) (leaf (exit 0) ([c8, int i64 pc, int i64 d, AV.bool false, c7, c11, c9, nil, int i64 c13], [c4]))) := by kernel_rfl
theorem bb_S {q N m p j j' : Nat} {y : Nat → Int} {k c x : Nat → Rat} {pc d : Int} : seeL T GLb [37, 46] 60 bbL [part bbC [1,1,1,1,0,1,0,0]] ⟨zipL bbL (bbV q N m p y pc d k (.own 1 3 0 (j' + 1)) j), [(1, rowR (j' + 1) x), (0, rowR m c)], 2⟩ =
    let c16 : AV := rat 0 1; let c15 : Int := (↑j : Int); let c13 : AV := int i64 (↑p : Int); let c12 : Prop := 0 < 1; let c10 : AV := own 0 3 0 m; let c9 : AV := tab 1 q fun a ↦ int i64 (y a); let c8 : AV := tab 3 N fun i ↦ rat (k i) 64; let c5 : Nat × AObj := ((0 : Nat), AObj.mk true true 3 m fun i ↦ rat (c i) 64); let c4 : Nat := j' + 1; let c2 : Int := (2 : Int) ^ 63; let c11 : Nat := c4 + 1; let c6 : Int := c15 + (1 : Int); let c1 : Int := (2 : Int) * c15; let c14 : Prop := -c2 ≤ c1 ∧ c1 < c2; let c7 : Int := c1 + (1 : Int); let c3 : List Prop := [c12, (1 : Nat) * 3 ≤ 2 ^ 24, c11 * ((56 : Nat) + 1) * 2 ≤ 2 ^ 47]; some (fork (decide (c15 < (↑p : Int))) (must [c12] (must [c14, -c2 ≤ c7 ∧ c7 < c2] (fork (decide (c7 < (↑q : Int))) (must [c14, (0 : Int) ≤ c1 ∧ c1.toNat < q, c14, -c2 ≤ c7 ∧ c7 < c2, (0 : Int) ≤ c7 ∧ c7.toNat < q, c12] (must c3 (must [-c2 ≤ c6 ∧ c6 < c2] (leaf normal ([c9, int i64 pc, int i64 d, AV.bool false, c8, c13, c10, own 114690 3 0 c11, int i64 c6], [((114690 : Nat), AObj.mk true true 3 c11 fun i ↦ if i < c4 then rat (x i) 64 else nth [rat (ratM (y c1.toNat) (y c7.toNat)) 64] c16 (i - c4 + 0)), c5]))))) (must c3 (must [-c2 ≤ c6 ∧ c6 < c2] (leaf normal ([c9, int i64 pc, int i64 d, AV.bool false, c8, c13, c10, own 61442 3 0 c11, int i64 c6], [((61442 : Nat), AObj.mk true true 3 c11 fun i ↦ if i < c4 then rat (x i) 64 else nth [agg [AV.bool (decide ((0 : Rat) < 0)), mag (↑(nat_lit 0) : Int).natAbs, mag (if 1 = 1 then 0 else 1)]] c16 (i - c4 + 0)), c5]))))))) (leaf (exit 0) ([c9, int i64 pc, int i64 d, AV.bool false, c8, c13, c10, own 1 3 0 c4, int i64 c15], [((1 : Nat), AObj.mk true true 3 c4 fun i ↦ rat (x i) 64), c5]))) := by kernel_rfl
theorem bb_e {q N m p j j' : Nat} {y : Nat → Int} {k c x : Nat → Rat} {pc d : Int} : endL T GLb [65, 69, 100100, 100105] 60 fn_law09_BasisBlossoms [part bbC [1,1,1,1,1]] ⟨zipL bbL (bbV q N m p y pc d k (.own 1 3 0 (j' + 1)) j), [(1, rowR (j' + 1) x), (0, rowR m c)], 2⟩ =
    let c30 : ATree (List AV) := leaf ret [AV.bool true]; let c29 : Int := (↑p : Int); let c25 : Prop := allRat (fun i ↦ rat (c (i + 0)) 64) m sK; let c22 : Int := (↑m : Int); let c21 : Nat := 2 ^ 40; let c20 : Int := (2 : Int) ^ 63; let c19 : Int := (2 : Int) ^ 40; let c15 : Int := (↑N : Int) + (2 : Int); let c14 : Prop := allRat (fun i ↦ rat (k i) 64) N sK; let c13 : Prop := 0 < 1; let c10 : Nat := j' + 1; let c9 : Nat := Int.toNat (1 : Int); let c28 : Nat := c22.toNat - c9; let c27 : Nat := 0 + c9; let c23 : Prop := allRat (fun i ↦ rat (x (i + 0)) 64) c10 sK; let c18 : Int := (↑c10 : Int); let c12 : Nat := c29.toNat; let c1 : Int := pc % c15 - (1 : Int); let c31 : Nat := c18.toNat - c9; let c26 : Prop := Kn N c12 fun i ↦ ratV (rat (k i) 64); let c24 : Int := blE N (fun i ↦ ratV (rat (k i) 64)) c12 m c10 c1; let c17 : Int := blE N (fun i ↦ ratV (rat (k i) 64)) c12 c28 c10 c1; let c7 : List Prop := [-c20 ≤ c15 ∧ c15 < c20, (0 : Int) < c15, c15 < (2 : Int) ^ 62, -c20 ≤ c1 ∧ c1 < c20]; let c5 : Rat := blR N (fun i ↦ ratV (rat (k i) 64)) c12 m (fun i ↦ ratV (rat (c (i + 0)) 64)) c1 c10 fun i ↦ ratV (rat (x (i + 0)) 64); let c3 : Rat := blR N (fun i ↦ ratV (rat (k i) 64)) c12 c28 (fun i ↦ ratV (rat (c (i + c27)) 64)) c1 c10 fun i ↦ ratV (rat (x (i + 0)) 64); let c16 : Int := blE N (fun i ↦ ratV (rat (k i) 64)) c12 m c31 c1; let c6 : List Prop := [c14, allRat (fun i ↦ rat (c (i + c27)) 64) c28 sK, c23, c26, (0 : Int) ≤ c29, c29 ≤ (6 : Int), N < c21, c28 < c21, -c19 < c1, c1 < c19, c13]; let c4 : List Prop := [c26, (0 : Int) ≤ c29, c29 ≤ (6 : Int), N < c21, m < c21, -c19 < c1, c1 < c19, c13]; let c2 : Rat := blR N (fun i ↦ ratV (rat (k i) 64)) c12 m (fun i ↦ ratV (rat (c (i + 0)) 64)) c1 c31 fun i ↦ ratV (rat (x (i + c27)) 64); let c11 : List Prop := c14 :: c25 :: c23 :: c4; let c8 : List Prop := c14 :: c25 :: allRat (fun i ↦ rat (x (i + c27)) 64) c31 sK :: c4; some (must [(0 : Int) < (12 : Int), (12 : Int) < (2 : Int) ^ 62] (fork (d % (12 : Int) == (10 : Int)) (must [(0 : Int) ≤ (1 : Int) ∧ (1 : Int) ≤ c18 ∧ c18 ≤ c18 ∧ c18 ≤ c18] (must c7 (must c8 (must c8 (must [(c16 == c16) = true, c13, c13, (bif true then decide (c2 = c2) else false) = true] c30))))) (fork (d % (12 : Int) == (11 : Int)) (must [(0 : Int) ≤ (1 : Int) ∧ (1 : Int) ≤ c22 ∧ c22 ≤ c22 ∧ c22 ≤ c22] (must c7 (must c6 (must c6 (must [(c17 == c17) = true, c13, c13, (bif true then decide (c3 = c3) else false) = true] c30))))) (must c7 (must c11 (must c11 (must [(c24 == c24) = true, c13, c13, (bif true then decide (c5 = c5) else false) = true] c30))))))) := by kernel_rfl
theorem GLb_ok : GOK P GLb := gok_plain (gok_cons s_mLight_ok (gok_cons s_aw9_ok (gok_cons s_md_ok (gok_cons s_mMod_ok (gok_cons s_mRat_ok (gok_cons s_bBl_ok (gok_cons s_qBl_ok tRef_ok)))))))
theorem rowAddU {rl : List (Nat × Nat)} {l i s s2 : Nat} {x y : Nat → Rat} {u : AV} (hx : ∀ i, i < l → x i = y i) (h1 : s ≤ s2) (hk : keys u = []) (hu : avLe0 u (.rat (y l) s2)) (hi : i < l + 1) : avQ rl (if i < l then .rat (x i) s else nth [u] (.rat 0 1) (i - l + 0)) (.rat (y i) s2) := by
  by_cases h : i < l
  · rw [if_pos h, hx i h]; exact .inr ⟨rfl, avLe0_rat_up rfl h1⟩
  · have : i = l := by omega
    subst this
    rw [if_neg h, Nat.sub_self]
    exact .inr ⟨hk, hu⟩
theorem rowOneU {rl : List (Nat × Nat)} {i s2 : Nat} {y : Nat → Rat} {u : AV} (hk : keys u = []) (hu : avLe0 u (.rat (y 0) s2)) (hi : i < 1) : avQ rl (nth [u] (.rat 0 1) (i + 0)) (.rat (y i) s2) := by
  have : i = 0 := by omega
  subst this
  exact .inr ⟨hk, hu⟩
def bbX (q : Nat) (y : Nat → Int) (j : Nat) : Rat := if 2 * j + 1 < q then ratM (y (2 * j)) (y (2 * j + 1)) else 0
theorem bbX_no {q : Nat} {y : Nat → Int} {j : Nat} (h : ¬ 2 * j + 1 < q) : bbX q y j = 0 := if_neg h
set_option maxHeartbeats 1000000 in
theorem M3_ok {n : Nat} {z : Nat → Int} {q : Nat} {y : Nat → Int} {pc d : Int} (K : Nat) : FOK P law09_BasisBlossoms K [.tab 1 n (fun i => .int .i64 (z i)), .tab 1 q (fun i => .int .i64 (y i)), .int .i64 pc, .int .i64 d] [] (pres (.bool true) []) := by
  have hret : RetV fn_law09_BasisBlossoms bbL (.bool true) ([.tab 1 q (zz y), int i64 pc, int i64 d, AV.bool true, tuple [], tuple [], tuple [], tuple [], tuple []], []) := ⟨[.bool true], by kernel_rfl, avLe0.refl _⟩
  by_cases hn : n ≤ 500 ∧ q ≤ 12
  · obtain ⟨hn, hq⟩ := hn
    have hd := dice0 (z := z) hn
    have hp := mdP_ok (n := n) (f := zz z)
    obtain ⟨hkn, hN⟩ := md_ok hd
    have hl := hkn.len
    refine fok_loop (r := pres (.bool true) []) hT GLb_ok hm is_M3 rfl (of_decide_eq_true (by kernel_rfl)) rfl [1,1,1,1,0,1] (i := 0) (y := part bbC [1,1,1,1,0,1,0,0]) (z := part bbC [1,1,1,1,1]) (by kernel_rfl) (by kernel_rfl) (by kernel_rfl) (f1 := [23, 27]) (f2 := [37, 46]) (f3 := [65, 69, 100100, 100105]) 60 bbL 2
      (fun j : Nat => bbV q (mdN n (zz z)) (mdN n (zz z) - mdP n (zz z) - 1) (mdP n (zz z)) y pc d (mdK n (zz z)) (match j with
        | 0 => .nil
        | _ + 1 => .own 1 3 0 j) j) (fun j => match j with
        | 0 => [(0, rowR (mdN n (zz z) - mdP n (zz z) - 1) (mdC n (zz z)))]
        | _ + 1 => [(1, rowR j (bbX q y)), (0, rowR (mdN n (zz z) - mdP n (zz z) - 1) (mdC n (zz z)))])
      (fun j => j ≤ mdP n (zz z)) (fun j => j = mdP n (zz z)) (fun j => mdP n (zz z) - j) (fun _ => ⟨⟨_, bb_pre, ?_⟩, fun j hj => ?_, fun j hj => ?_⟩) K []
    · simp only [ATree.all, allP]
      have st : ReOK [] ([.tab 1 q (zz y), int i64 pc, int i64 d, AV.bool false, tab 3 (mdN n (zz z)) fun i ↦ rat (mdK n (zz z) i) 64, int i64 (mdP n (zz z) : Nat), own 40960 3 0 (mdN n (zz z) - mdP n (zz z) - 1), nil, int i64 (0 : Int)], [((40960 : Nat), AObj.mk true true 3 (mdN n (zz z) - mdP n (zz z) - 1) fun i ↦ rat (mdC n (zz z) i) 64)])
          (bbV q (mdN n (zz z)) (mdN n (zz z) - mdP n (zz z) - 1) (mdP n (zz z)) y pc d (mdK n (zz z)) .nil 0) [(0, rowR (mdN n (zz z) - mdP n (zz z) - 1) (mdC n (zz z)))] 2 := ⟨[(0, 40960)], rfl, rfl, rfl, objsQ_cons rfl rfl rfl (fun i hi => avQ_eq rfl rfl) trivial⟩
      refine ⟨fun h => ⟨h, fun _ => hret, fun _ => ⟨hd, 0, by omega, st⟩⟩, fun h => ⟨h, fun _ => hret, fun _ => ⟨hd, 0, by omega, st⟩⟩⟩
    · have z0 : avLe0 (agg [AV.bool (decide ((0 : Rat) < 0)), mag (0 : Int).natAbs, mag (if 1 = 1 then 0 else 1)]) (.rat 0 64) := avLe0_zero (k := 63)
      have e1 : ((2 : Int) * (j : Int)).toNat = 2 * j := by omega
      have e2 : ((2 : Int) * (j : Int) + 1).toNat = 2 * j + 1 := by omega
      cases j with
      | zero =>
        refine ⟨_, bb_0, ?_⟩
        simp only [ATree.all, allP, decide_eq_true_eq, decide_eq_false_iff_not, e1, e2]
        refine ⟨fun h1 => ⟨by omega, by omega, fun h2 => ⟨by omega, by omega, by omega, ?_⟩, fun h2 => ⟨by omega, by omega, ?_⟩⟩, fun h1 => by omega⟩
        · exact ⟨1, by omega, by dsimp only; omega, [(0, 0), (1, 114690)], rfl, rfl, rfl, objsQ_cons rfl rfl rfl (fun i hi => rowOneU (y := bbX q y) rfl (by unfold bbX; rw [if_pos (by omega)]; exact .refl _) hi) (objsQ_cons rfl rfl rfl (fun i hi => avQ_eq rfl rfl) trivial)⟩
        · exact ⟨1, by omega, by dsimp only; omega, [(0, 0), (1, 61442)], rfl, rfl, rfl, objsQ_cons rfl rfl rfl (fun i hi => rowOneU (y := bbX q y) rfl (by rw [bbX_no (by omega)]; exact z0) hi) (objsQ_cons rfl rfl rfl (fun i hi => avQ_eq rfl rfl) trivial)⟩
      | succ j =>
        refine ⟨_, bb_S, ?_⟩
        simp only [ATree.all, allP, decide_eq_true_eq, decide_eq_false_iff_not, e1, e2]
        refine ⟨fun h1 => ⟨by omega, by omega, fun h2 => ⟨by omega, by omega, by omega, ?_⟩, fun h2 => ⟨by omega, by omega, ?_⟩⟩, fun h1 => ⟨rfl, j + 1, by omega, [(0, 0), (1, 1)], rfl, rfl, rfl, objsQ_cons rfl rfl rfl (fun i hi => avQ_eq rfl rfl) (objsQ_cons rfl rfl rfl (fun i hi => avQ_eq rfl rfl) trivial)⟩⟩
        · exact ⟨j + 2, by omega, by dsimp only; omega, [(0, 0), (1, 114690)], rfl, rfl, rfl, objsQ_cons rfl rfl rfl (fun i hi => rowAddU (y := bbX q y) (fun _ _ => rfl) (Nat.le_refl _) rfl (by unfold bbX; rw [if_pos (by omega)]; exact .refl _) hi) (objsQ_cons rfl rfl rfl (fun i hi => avQ_eq rfl rfl) trivial)⟩
        · exact ⟨j + 2, by omega, by dsimp only; omega, [(0, 0), (1, 61442)], rfl, rfl, rfl, objsQ_cons rfl rfl rfl (fun i hi => rowAddU (y := bbX q y) (fun _ _ => rfl) (Nat.le_refl _) rfl (by rw [bbX_no (by omega)]; exact z0) hi) (objsQ_cons rfl rfl rfl (fun i hi => avQ_eq rfl rfl) trivial)⟩
    · obtain ⟨j, rfl⟩ : ∃ i, j = i + 1 := ⟨j - 1, by omega⟩
      refine ⟨_, bb_e, ?_⟩
      have hm1 := Int.emod_nonneg pc (show (mdN n (zz z) : Int) + 2 ≠ 0 by omega)
      have hm2 := Int.emod_lt_of_pos pc (show 0 < (mdN n (zz z) : Int) + 2 by omega)
      simp only [ATree.all, allP, ratV_rat, Int.toNat_natCast, beq_self_eq_true, cond_true, decide_true, show Int.toNat 1 = 1 from rfl]
      (repeat' with_reducible first | refine And.intro ?_ ?_ | intro _)
      all_goals first | omega | exact trivial | exact hkn | exact allRat_ls (by decide) | exact (avLe0.refl _ : avLe0 (.bool true) (.bool true))
  · refine fok_down (r := pres (.bool true) []) hT is_M3 rfl (of_decide_eq_true (by kernel_rfl)) rfl (fun _ c h0 => ?_) K []
    refine AWp.hole [1,1,1,1,0,1] (by kernel_rfl) (AWpL.see hT GLb_ok hm 60 bbL bb_pre (by kernel_rfl) ?_)
    simp only [ATree.all, allP, cond_false, decide_eq_true_eq, decide_eq_false_iff_not, Bool.not_eq_true', Bool.not_eq_false']
    refine ⟨fun h => ⟨h, fun _ s' hs' => hret.fin hs', fun h => absurd h (by decide)⟩, fun h => ⟨h, fun _ s' hs' => hret.fin hs', fun h2 => ?_⟩⟩
    exact absurd ⟨by omega, by omega⟩ hn
end Go.Am.B
