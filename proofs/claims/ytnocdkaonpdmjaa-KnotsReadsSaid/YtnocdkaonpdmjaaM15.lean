/- brepkernellaw08.KnotsReads. -/
import Derived.Test.YtnocdkaonpdmjaaY48
import Derived.Test.YtnocdkaonpdmjaaB85
set_option linter.unusedVariables false
namespace Go.Am.B
open Go Go.Am.N AV ATree AEx IntKind
theorem is_M15 : FnIs P law08_KnotsReads fn_law08_KnotsReads (codeOf fn_law08_KnotsReads) := fnIs get_law08_KnotsReads (by kernel_rfl) (by kernel_rfl) (by kernel_rfl)
noncomputable def GL15 : Contracts := nG :: (made_Light, s_mLight) :: (law08_awake, s_aw8) :: (law08_made, s_8md) :: (made_Rat, s_mRat) :: (made_Mod, s_mMod) :: (knots_Interval, s_kIv) :: (ref08_Interval, s_kIv) :: (knots_Times, s_kTm) :: (ref08_Times, s_kTm) :: (knots_Distinct, s_dis) :: (ref08_Distinct, s_dis) :: (knots_Insert, s_kIn 64 66) :: (ref08_Insert, s_kIn 64 66) :: (ref02_SameList, s_eSL) :: []
theorem kre_end {n : Nat} {z : Nat → Int} {a b : Int} : funT T GL15 [16, 28, 100053, 100058, 100067, 100074, 100083] 60 fn_law08_KnotsReads (codeOf fn_law08_KnotsReads) ⟨zipSlots 0 [.tab 1 n (zz z), .int .i64 a, .int .i64 b], [], 0⟩ =
    let c28 : ATree (List AV) := leaf ret [AV.bool true]; let c27 : Rat := ratM a b; let c25 : Prop := 64 ≤ sK; let c22 : Prop := 64 ≤ 64; let c11 : Prop := 0 < 1; let c5 : Nat := 2 ^ 40; let c1 : Nat := m8N n (zz z); let c26 : Int := (↑c1 : Int); let c24 : Prop := c1 < c5; let c21 : Int := ivE c1 (fun i ↦ ratV (rat (m8K n (zz z) i) 64)) c27; let c18 : Int := (↑(ivI c1 (fun i ↦ ratV (rat (m8K n (zz z) i) 64)) c27) : Int); let c17 : Int := (↑(tmsN (fun i ↦ ratV (rat (m8K n (zz z) i) 64)) c27 c1) : Int); let c16 : Nat := c1 + 1; let c14 : Nat := insP (fun i ↦ ratV (rat (m8K n (zz z) i) 64)) c27 c1; let c13 : Prop := allRat (fun i ↦ rat (m8K n (zz z) i) 64) c1 sJ; let c12 : Prop := allRat (fun i ↦ rat (m8K n (zz z) i) 64) c1 64; let c9 : Prop := allRat (fun i ↦ rat (m8K n (zz z) i) 64) c1 sK; let c3 : Nat := dsN (fun i ↦ ratV (rat (m8K n (zz z) i) 64)) c1; let c8 : Prop := allRat (fun i ↦ rat (insK (fun i ↦ ratV (rat (m8K n (zz z) i) 64)) c27 c14 i) 66) c16 sU; let c7 : Prop := (bif true then sameL c3 (fun i ↦ ratV (rat (dsF (fun i ↦ ratV (rat (m8K n (zz z) i) 64)) c1 i) sK)) c3 fun i ↦ ratV (rat (dsF (fun i ↦ ratV (rat (m8K n (zz z) i) 64)) c1 i) sK) else false) = true; let c6 : Prop := allRat (fun i ↦ rat (dsF (fun i ↦ ratV (rat (m8K n (zz z) i) 64)) c1 i) sK) c3 sU; let c4 : Rat := m8K n (zz z) (a % c26).toNat; let c2 : List Prop := [c11, c9, c25, Kn c1 (↑(m8P n (zz z)) : Int).toNat fun i ↦ ratV (rat (m8K n (zz z) i) 64), (0 : Int) ≤ (↑(m8P n (zz z)) : Int), c24]; let c23 : Int := ivE c1 (fun i ↦ ratV (rat (m8K n (zz z) i) 64)) c4; let c20 : Int := (↑(ivI c1 (fun i ↦ ratV (rat (m8K n (zz z) i) 64)) c4) : Int); let c19 : Int := (↑(tmsN (fun i ↦ ratV (rat (m8K n (zz z) i) 64)) c4 c1) : Int); let c15 : Nat := insP (fun i ↦ ratV (rat (m8K n (zz z) i) 64)) c4 c1; let c10 : Prop := allRat (fun i ↦ rat (insK (fun i ↦ ratV (rat (m8K n (zz z) i) 64)) c4 c15 i) 66) c16 sU; some (fork (!decide ((↑n : Int) ≤ (500 : Int))) c28 (must [DiceOK n (zz z) (0 : Int)] (must [c11] (must [(3 : Int) ≠ (0 : Int)] (fork (b.tmod (3 : Int) == (0 : Int)) (must [(0 : Int) < c26, c26 < (2 : Int) ^ 62, (0 : Int) ≤ a % c26 ∧ (a % c26).toNat < c1, c11] (must c2 (must c2 (must [(c20 == c20) = true, (bif true then c23 == c23 else false) = true, c11, c9, c25, c24, c11, c9, c25, c24, (bif true then c19 == c19 else false) = true, c13, c24, c13, c24, c6, c6, c3 < c5, c3 < c5, c7, c11, c12, c22, c24, c11, c12, c22, c24, c10, c10, c16 < c5, c16 < c5, (bif true then sameL c16 (fun i ↦ ratV (rat (insK (fun i ↦ ratV (rat (m8K n (zz z) i) 64)) c4 c15 i) 66)) c16 fun i ↦ ratV (rat (insK (fun i ↦ ratV (rat (m8K n (zz z) i) 64)) c4 c15 i) 66) else false) = true] c28)))) (must c2 (must c2 (must [(c18 == c18) = true, (bif true then c21 == c21 else false) = true, c11, c9, c25, c24, c11, c9, c25, c24, (bif true then c17 == c17 else false) = true, c13, c24, c13, c24, c6, c6, c3 < c5, c3 < c5, c7, c11, c12, c22, c24, c11, c12, c22, c24, c8, c8, c16 < c5, c16 < c5, (bif true then sameL c16 (fun i ↦ ratV (rat (insK (fun i ↦ ratV (rat (m8K n (zz z) i) 64)) c27 c14 i) 66)) c16 fun i ↦ ratV (rat (insK (fun i ↦ ratV (rat (m8K n (zz z) i) 64)) c27 c14 i) 66) else false) = true] c28)))))))) := by kernel_rfl
theorem GL15_ok : GOK P GL15 := gok_plain (gok_cons s_mLight_ok (gok_cons s_aw8_ok (gok_cons s_8md_ok (gok_cons s_mRat_ok (gok_cons s_mMod_ok (gok_cons s_kIv_ok (gok_cons s_hIv_ok (gok_cons s_kTm_ok (gok_cons s_hTm_ok (gok_cons s_kDi_ok (gok_cons s_hDi_ok (gok_cons (s_kIn_ok (by omega) (by omega)) (gok_cons (s_hIn_ok (by omega) (by omega)) (gok_cons s_eSL_ok gok_nil))))))))))))))
theorem sameL_self {n : Nat} {f : Nat → Rat} : sameL n f n f = true := decide_eq_true ⟨rfl, fun _ _ => rfl⟩
theorem dice0 {n : Nat} {z : Nat → Int} (h : n ≤ 500) : DiceOK n (zz z) 0 := ⟨fun i => rfl, by omega, by omega, by omega⟩
theorem M15_ok {n : Nat} {z : Nat → Int} {a b : Int} (K : Nat) : FOK P law08_KnotsReads K [.tab 1 n (fun i => .int .i64 (z i)), .int .i64 a, .int .i64 b] [] (pres (.bool true) []) := by
  refine fok_tree (r := pres (.bool true) []) hT GL15_ok hm is_M15 rfl (of_decide_eq_true (by kernel_rfl)) rfl 60 kre_end (fun _ => ?_) K []
  simp only [ATree.all, allP]
  refine ⟨fun _ => .refl _, fun h => ?_⟩
  simp only [Bool.not_eq_false', decide_eq_true_eq] at h
  have hd := dice0 (z := z) (show n ≤ 500 by omega)
  have hp := m8P_ok (n := n) (f := zz z)
  obtain ⟨hkn, hN⟩ := m8_ok hd
  generalize m8N n (zz z) = N at hkn hN ⊢
  generalize m8P n (zz z) = p at hkn hp hN ⊢
  generalize m8K n (zz z) = k at hkn ⊢
  have hl := hkn.len
  have hp1 := hkn.p1
  have hp5 : p ≤ 5 := hp.2.1
  clear hp
  have q1 := Int.emod_nonneg a (show (N : Int) ≠ 0 by omega)
  have q2 := Int.emod_lt_of_pos a (show 0 < (N : Int) by omega)
  have hds := dsN_le (k := k) (n := N)
  have hkk : Kn N ((p : Int)).toNat (fun i => ratV (rat (k i) 64)) := by rw [Int.toNat_natCast]; exact hkn
  have hds2 : dsN (fun i => ratV (rat (k i) 64)) N ≤ N := hds
  refine ⟨hd, by omega, by omega, fun _ => ?_, fun _ => ?_⟩
  all_goals
    (repeat' with_reducible refine And.intro ?_ ?_)
    all_goals first | omega | exact hkk | exact allRat_ls (by decide) | exact sameL_self | exact beq_self_eq_true _ | exact avLe0.refl _ | decide | skip
end Go.Am.B
