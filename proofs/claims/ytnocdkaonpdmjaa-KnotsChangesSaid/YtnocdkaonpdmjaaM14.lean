/- brepkernellaw08.KnotsChanges. -/
import Derived.Test.YtnocdkaonpdmjaaY48
import Derived.Test.YtnocdkaonpdmjaaB132
set_option linter.unusedVariables false
namespace Go.Am.B
open Go Go.Am.N AV ATree AEx IntKind
theorem is_M14 : FnIs P law08_KnotsChanges fn_law08_KnotsChanges (codeOf fn_law08_KnotsChanges) := fnIs get_law08_KnotsChanges (by kernel_rfl) (by kernel_rfl) (by kernel_rfl)
noncomputable def GL14 : Contracts := nG :: (made_Light, s_mLight) :: (law08_awake, s_aw8) :: (law08_made, s_8md) :: (made_Rat, s_mRat) :: (knots_Affine, s_kAf 64 64 452) :: (ref08_Affine, s_kAf 64 64 452) :: (knots_Greville, s_hGr) :: (ref08_Greville, s_hGr) :: (knots_Mirror, s_kMi 64 194) :: (ref08_Mirror, s_kMi 64 194) :: (ref02_SameList, s_eSL) :: []
theorem kch_end {n : Nat} {z : Nat → Int} {a b : Int} : funT T GL14 [15, 100043, 100048, 100057, 100064] 60 fn_law08_KnotsChanges (codeOf fn_law08_KnotsChanges) ⟨zipSlots 0 [.tab 1 n (zz z), .int .i64 a, .int .i64 b], [], 0⟩ =
    let c12 : Rat := ratM b (2 : Int); let c11 : Rat := ratM a (3 : Int); let c5 : Nat := 2 ^ 40; let c2 : Int := (↑(m8P n (zz z)) : Int); let c1 : Nat := m8N n (zz z); let c14 : Prop := c1 < c5; let c13 : Prop := c2 + (1 : Int) < (↑c1 : Int); let c9 : Nat := c1 - c2.toNat - 1; let c8 : Prop := allRat (fun i ↦ rat (mirF c1 (fun i ↦ ratV (rat (m8K n (zz z) i) 64)) i) 194) c1 sU; let c4 : Nat := affN c1 c11 c12; let c3 : Prop := allRat (fun i ↦ rat (m8K n (zz z) i) 64) c1 64; let c10 : List Prop := [c3, (64 : Nat) ≤ 64, (64 : Nat) ≤ 64, (1 : Nat) ≤ c1, c14]; let c7 : Prop := allRat (fun i ↦ rat (grev (fun i ↦ ratV (rat (m8K n (zz z) i) 64)) c2.toNat i) 512) c9 sU; let c6 : Prop := allRat (fun i ↦ rat (affF c1 (fun i ↦ ratV (rat (m8K n (zz z) i) 64)) c11 c12 i) 452) c4 sU; some (fork (!decide ((↑n : Int) ≤ (500 : Int))) (leaf ret [AV.bool true]) (must [DiceOK n (zz z) (0 : Int)] (must c10 (must c10 (must [(affE c11 c12 == affE c11 c12) = true, c6, c6, c4 < c5, c4 < c5, (bif true then sameL c4 (fun i ↦ ratV (rat (affF c1 (fun i ↦ ratV (rat (m8K n (zz z) i) 64)) c11 c12 i) 452)) c4 fun i ↦ ratV (rat (affF c1 (fun i ↦ ratV (rat (m8K n (zz z) i) 64)) c11 c12 i) 452) else false) = true, c3, (1 : Int) ≤ c2, c2 ≤ (6 : Int), c14, c13, c3, (1 : Int) ≤ c2, c2 ≤ (6 : Int), c14, c13, c7, c7, c9 < c5, c9 < c5, (bif true then sameL c9 (fun i ↦ ratV (rat (grev (fun i ↦ ratV (rat (m8K n (zz z) i) 64)) c2.toNat i) 512)) c9 fun i ↦ ratV (rat (grev (fun i ↦ ratV (rat (m8K n (zz z) i) 64)) c2.toNat i) 512) else false) = true, c3, c14, c3, c14, c8, c8, c14, c14, (bif true then sameL c1 (fun i ↦ ratV (rat (mirF c1 (fun i ↦ ratV (rat (m8K n (zz z) i) 64)) i) 194)) c1 fun i ↦ ratV (rat (mirF c1 (fun i ↦ ratV (rat (m8K n (zz z) i) 64)) i) 194) else false) = true] (leaf ret [AV.bool true])))))) := by kernel_rfl
theorem GL14_ok : GOK P GL14 := gok_plain (gok_cons s_mLight_ok (gok_cons s_aw8_ok (gok_cons s_8md_ok (gok_cons s_mRat_ok (gok_cons (s_kAf_ok (by omega) (by omega)) (gok_cons (s_hAf_ok (by omega) (by omega)) (gok_cons s_kGr_ok (gok_cons s_hGr_ok (gok_cons (s_kMi_ok (by omega) (by omega)) (gok_cons (s_hMi_ok (by omega) (by omega)) (gok_cons s_eSL_ok gok_nil)))))))))))
theorem sameL_self {n : Nat} {f : Nat → Rat} : sameL n f n f = true := decide_eq_true ⟨rfl, fun _ _ => rfl⟩
theorem dice0 {n : Nat} {z : Nat → Int} (h : n ≤ 500) : DiceOK n (zz z) 0 := ⟨fun i => rfl, by omega, by omega, by omega⟩
theorem M14_ok {n : Nat} {z : Nat → Int} {a b : Int} (K : Nat) : FOK P law08_KnotsChanges K [.tab 1 n (fun i => .int .i64 (z i)), .int .i64 a, .int .i64 b] [] (pres (.bool true) []) := by
  refine fok_tree (r := pres (.bool true) []) hT GL14_ok hm is_M14 rfl (of_decide_eq_true (by kernel_rfl)) rfl 60 kch_end (fun _ => ?_) K []
  simp only [ATree.all, allP]
  refine ⟨fun _ => .refl _, fun h => ?_⟩
  simp only [Bool.not_eq_false', decide_eq_true_eq] at h
  have hd := dice0 (z := z) (show n ≤ 500 by omega)
  have hp := m8P_ok (n := n) (f := zz z)
  obtain ⟨hkn, hN⟩ := m8_ok hd
  generalize m8N n (zz z) = N at hkn hN ⊢
  generalize m8P n (zz z) = p at hkn hp hN ⊢
  generalize m8K n (zz z) = k at hkn ⊢
  have hl := hkn.len
  have ha : affN N (ratM a 3) (ratM b 2) ≤ N := by unfold affN; split <;> omega
  have hp1 := hkn.p1
  have hp5 : p ≤ 5 := hp.2.1
  clear hp
  refine ⟨hd, ?_⟩
  (repeat' with_reducible refine And.intro ?_ ?_)
  all_goals first | omega | exact allRat_ls (by decide) | exact sameL_self | exact beq_self_eq_true _ | exact avLe0.refl _ | skip
end Go.Am.B
