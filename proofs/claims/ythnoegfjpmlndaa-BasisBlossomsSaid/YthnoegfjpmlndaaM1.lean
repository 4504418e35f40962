/- brepkernellaw09.BasisValues. -/
import Derived.Test.YthnoegfjpmlndaaY46
set_option linter.unusedVariables false
namespace Go.Am.B
open Go Go.Am.N AV ATree AEx IntKind

theorem is_M1 : FnIs P law09_BasisValues fn_law09_BasisValues (codeOf fn_law09_BasisValues) := fnIs get_law09_BasisValues (by kernel_rfl) (by kernel_rfl) (by kernel_rfl)
def GL9 : Contracts := nG :: (made_Light, s_mLight) :: (law09_awake, s_aw9) :: (law09_made, s_md) :: (law09_at, s_9at) :: (made_Mod, s_mMod) :: (basis_Values, s_bVa) :: (ref09_Values, s_bVa) :: (basis_Sum, s_bSu) :: (ref09_Sum, s_bSu) :: (ref02_SameList, s_eSL) :: tRef
abbrev zz (z : Nat → Int) : Nat → AV := fun i => .int .i64 (z i)
theorem M1_end {n : Nat} {z : Nat → Int} {i m : Int} : funT T GL9 [23, 52, 100076, 100081, 100086, 100091, 100096] 60 fn_law09_BasisValues (codeOf fn_law09_BasisValues) ⟨zipSlots 0 [.tab 1 n (zz z), .int .i64 i, .int .i64 m], [], 0⟩ =
    let c28 : AV := rat 0 1; let c27 : ATree (List AV) := leaf ret [AV.bool true]; let c19 : Nat := 2 ^ 40; let c18 : List AV := [agg [AV.bool (decide ((0 : Rat) < 0)), mag (↑(nat_lit 0) : Int).natAbs, mag (if 1 = 1 then 0 else 1)]]; let c16 : Prop := 0 < 1; let c12 : Nat := mdN n (zz z); let c7 : Int := (↑(mdP n (zz z)) : Int); let c23 : Prop := Kn c12 c7.toNat fun i ↦ ratV (rat (mdK n (zz z) i) 64); let c17 : Prop := allRat (fun i ↦ rat (mdK n (zz z) i) 64) c12 sK; let c8 : Nat := c12 - mdP n (zz z) - 1; let c1 : Rat := atV c12 (fun i ↦ ratV (rat (mdK n (zz z) i) 64)) i; let c26 : Nat := c8 + 1; let c24 : Prop := ivOut c12 (fun i ↦ ratV (rat (mdK n (zz z) i) 64)) c1; let c22 : Int := suE c12 (fun i ↦ ratV (rat (mdK n (zz z) i) 64)) c7.toNat c8 c1; let c15 : Int := ivE c12 (fun i ↦ ratV (rat (mdK n (zz z) i) 64)) c1; let c14 : List Prop := [c16, c17, (258 : Nat) ≤ sK, c23, (0 : Int) ≤ c7, c7 ≤ (6 : Int), c12 < c19]; let c10 : List Prop := [(258 : Nat) ≤ sK, c23, (0 : Int) ≤ c7, c7 ≤ (6 : Int), c12 < c19, c16]; let c5 : Nat := ivl c12 (fun i ↦ ratV (rat (mdK n (zz z) i) 64)) c1; let c25 : Prop := (bif true then c15 == c15 else false) = true; let c21 : List Prop := c16 :: c17 :: allRat (fun i ↦ rat (mdC n (zz z) (i + 0)) 64) c8 sK :: c10; let c20 : Int := suE c12 (fun i ↦ ratV (rat (mdK n (zz z) i) 64)) c7.toNat c26 c1; let c9 : Int := if c24 then (0 : Int) else (↑c5 : Int) - (↑c7.toNat : Int); let c6 : List Prop := c16 :: c17 :: allRat (fun i ↦ if i + 0 < c8 then rat (mdC n (zz z) (i + 0)) 64 else nth c18 c28 (i + 0 - c8 + 0)) c26 sK :: c10; let c4 : Rat := suV' c12 (fun i ↦ ratV (rat (mdK n (zz z) i) 64)) c7.toNat c8 (fun i ↦ ratV (rat (mdC n (zz z) (i + 0)) 64)) c1 (vB (fun i ↦ ratV (rat (mdK n (zz z) i) 64)) c5 c1 c7.toNat); let c3 : Nat := if c24 then 0 else c7.toNat + 1; let c2 : Rat := suV' c12 (fun i ↦ ratV (rat (mdK n (zz z) i) 64)) c7.toNat c26 (fun i ↦ ratV (if i + 0 < c8 then rat (mdC n (zz z) (i + 0)) 64 else nth c18 c28 (i + 0 - c8 + 0))) c1 (vB (fun i ↦ ratV (rat (mdK n (zz z) i) 64)) c5 c1 c7.toNat); let c13 : Prop := (bif true then sameL c3 (fun i ↦ ratV (rat (vB (fun i ↦ ratV (rat (mdK n (zz z) i) 64)) c5 c1 c7.toNat i) sV)) c3 fun i ↦ ratV (rat (vB (fun i ↦ ratV (rat (mdK n (zz z) i) 64)) c5 c1 c7.toNat i) sV) else false) = true; let c11 : Prop := allRat (fun j ↦ rat (vB (fun i ↦ ratV (rat (mdK n (zz z) i) 64)) c5 c1 c7.toNat j) sV) c3 sU; some (fork (!decide ((↑n : Int) ≤ (500 : Int))) c27 (must [DiceOK n (zz z) (0 : Int)] (must [allRat (fun i ↦ rat (mdK n (zz z) i) 64) c12 64, (0 : Nat) < c12, c12 < c19, c16] (must c14 (must c14 (must [(0 : Int) < (9 : Int), (9 : Int) < (2 : Int) ^ 62] (fork (m % (9 : Int) == (8 : Int)) (must [(1 : Nat) * 3 ≤ 2 ^ 24, c26 * ((56 : Nat) + 1) * 2 ≤ 2 ^ 47] (must c6 (must c6 (must [(c9 == c9) = true, c25, c11, c11, c3 < c19, c3 < c19, c13, (bif true then c20 == c20 else false) = true, c16, c16, (bif true then decide (c2 = c2) else false) = true] c27)))) (must c21 (must c21 (must [(c9 == c9) = true, c25, c11, c11, c3 < c19, c3 < c19, c13, (bif true then c22 == c22 else false) = true, c16, c16, (bif true then decide (c4 = c4) else false) = true] c27)))))))))) := by kernel_rfl
theorem GL9_ok : GOK P GL9 := gok_plain (gok_cons s_mLight_ok (gok_cons s_aw9_ok (gok_cons s_md_ok (gok_cons s_9at_ok (gok_cons s_mMod_ok (gok_cons s_bVa_ok (gok_cons s_qVa_ok (gok_cons s_bSu_ok (gok_cons s_qSu_ok (gok_cons s_eSL_ok tRef_ok))))))))))
theorem sameL_self {n : Nat} {f : Nat → Rat} : sameL n f n f = true := decide_eq_true ⟨rfl, fun _ _ => rfl⟩
theorem allRat_zero {m : Nat} {c : Nat → Rat} {z : AV} : allRat (fun i => if i < m then .rat (c i) 64 else nth [.agg [.bool false, .mag 0, .mag 0]] z (i - m)) (m + 1) sK := fun i hi => by
  dsimp only
  by_cases h : i < m
  · rw [if_pos h]; exact avLe0_rat_more (by decide)
  · rw [if_neg h, show i - m = 0 by omega]; exact avLe0_zero (k := 1048575)
theorem ite_lt {c : Prop} [Decidable c] {a b m : Nat} (ha : a < m) (hb : b < m) : (if c then a else b) < m := by split <;> assumption
theorem dice0 {n : Nat} {z : Nat → Int} (h : n ≤ 500) : DiceOK n (zz z) 0 := ⟨fun i => rfl, by omega, by omega, by omega⟩
set_option maxHeartbeats 1000000 in
theorem M1_ok {n : Nat} {z : Nat → Int} {d0 d1 : Int} (K : Nat) : FOK P law09_BasisValues K [.tab 1 n (fun i => .int .i64 (z i)), .int .i64 d0, .int .i64 d1] [] (pres (.bool true) []) := by
  refine fok_tree (r := pres (.bool true) []) hT GL9_ok hm is_M1 rfl (of_decide_eq_true (by kernel_rfl)) rfl 60 M1_end (fun _ => ?_) K []
  simp only [ATree.all, allP, ratV_rat, Int.toNat_natCast, beq_self_eq_true, cond_true, decide_true, Nat.add_zero, sameL_self]
  refine ⟨fun _ => .refl _, fun hb => ?_⟩
  have hn : n ≤ 500 := by simp only [Bool.not_eq_false', decide_eq_true_eq] at hb; omega
  have hd := dice0 (z := z) hn
  have hp := mdP_ok (n := n) (f := zz z)
  obtain ⟨hkn, hN⟩ := md_ok hd
  generalize mdN n (zz z) = N at *
  generalize mdP n (zz z) = p at *
  generalize mdK n (zz z) = k at *
  generalize mdC n (zz z) = c at *
  have hl := hkn.len
  have h1 : sK = 1048576 := rfl
  (repeat' with_reducible first | refine And.intro ?_ ?_ | intro _)
  all_goals first | omega | exact trivial | exact hd | exact hkn | exact allRat_ls (by decide) | exact allRat_zero | exact .refl _ | exact allRat_ls (show sV ≤ sU by decide) | skip
  all_goals exact ite_lt (by omega) (by omega)
end Go.Am.B
