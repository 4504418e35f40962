/- brepkernellaw09.BasisDual. -/
import Derived.Test.YthnoegfjpmlndaaM2
import Derived.Test.YthnoegfjpmlndaaC5
import Derived.Test.YthnoegfjpmlndaaY50
set_option linter.unusedVariables false
namespace Go.Am.B
open Go Go.Am.N AV ATree AEx IntKind
theorem is_M4 : FnIs P law09_BasisDual fn_law09_BasisDual (codeOf fn_law09_BasisDual) := fnIs get_law09_BasisDual (by kernel_rfl) (by kernel_rfl) (by kernel_rfl)
def s_bBlA : Spec := fun K args pre => match s_bBlW K args pre with
  | some r => some r
  | none => s_bBl K args pre
noncomputable def GLd : Contracts := nG :: (made_Light, s_mLight) :: (law09_awake, s_aw9) :: (law09_made, s_md) :: (made_Mod, s_mMod) :: (made_Rat, s_mRat) :: (basis_Blossom, s_bBlA) :: (basis_Sum, s_bSu) :: (law09_with, s_9withW) :: (gWithin ++ (gMid ++ tRef))
abbrev rowG (m : Nat) (c : Nat → Rat) : AObj := ⟨true, false, 3, m, fun i => .rat (c i) 64⟩
abbrev duL1 : List Nat := [8, 2, 3, 9, 10, 11, 12, 13, 14]
abbrev duV1 (N m p : Nat) (k : Nat → Rat) (d e : Int) (j : Nat) (pc i : Int) : List AV := [.bool false, .int .i64 d, .int .i64 e, lsA k N 64, .int .i64 p, .own 0 3 0 m, .int .i64 j, .int .i64 pc, .int .i64 i]
noncomputable abbrev duC : Code := codeOf fn_law09_BasisDual
noncomputable abbrev duZ : Code := part duC [1,1,1,1,1,1]
abbrev duL2 : List Nat := [2, 3, 9, 10, 11, 13, 17, 18, 19]
abbrev duV2 (N m p : Nat) (k : Nat → Rat) (d e : Int) (pc : Nat) (v : AV) (i : Nat) : List AV := [.int .i64 d, .int .i64 e, lsA k N 64, .int .i64 p, .own 0 3 0 m, .int .i64 pc, .ptr 1 0 3 0 [], v, .int .i64 i]
theorem du_pre {n : Nat} {z : Nat → Int} {x d e : Int} : seeL T GLd [34] 60 duL1 (before duC [1,1,1,1,1,0,1]) ⟨zipSlots 0 [.tab 1 n (zz z), .int .i64 x, .int .i64 d, .int .i64 e], [], 0⟩ =
    let c2 : AV := tuple []; let c1 : Nat := mdN n (zz z) - mdP n (zz z) - 1; let c3 : Int := (↑c1 : Int); some (fork (!decide ((↑n : Int) ≤ (500 : Int))) (leaf ret ([AV.bool true, int i64 d, int i64 e, c2, c2, c2, c2, c2, c2], [])) (must [DiceOK n (zz z) (0 : Int)] (must [(0 : Int) < c3, c3 < (2 : Int) ^ 62] (leaf normal ([AV.bool false, int i64 d, int i64 e, tab 3 (mdN n (zz z)) fun i ↦ rat (mdK n (zz z) i) 64, int i64 (↑(mdP n (zz z)) : Int), own 20480 3 0 c1, int i64 (x % c3), int i64 (-1 : Int), int i64 (x % c3)], [((20480 : Nat), AObj.mk true true 3 c1 fun i ↦ rat (mdC n (zz z) i) 64)]))))) := by kernel_rfl
theorem du_b {N m p j : Nat} {k c : Nat → Rat} {d e pc i : Int} : seeL T GLd [51, 64] 60 duL1 [part duC [1,1,1,1,1,0,1,0,0]] ⟨zipL duL1 (duV1 N m p k d e j pc i), [(0, rowR m c)], 1⟩ =
    let c9 : AV := int i64 (↑j : Int); let c8 : AV := int i64 (↑p : Int); let c7 : Int := (2 : Int) ^ 63; let c6 : Int := (↑j : Int) + (↑p : Int); let c5 : AV := own 0 3 0 m; let c4 : Int := i + (1 : Int); let c3 : AV := tab 3 N fun i ↦ rat (k i) 64; let c2 : Nat × AObj := ((0 : Nat), AObj.mk true true 3 m fun i ↦ rat (c i) 64); let c1 : Prop := -c7 ≤ c4 ∧ c4 < c7; some (must [-c7 ≤ c6 ∧ c6 < c7] (fork (decide (i ≤ c6)) (must [(0 : Int) ≤ i ∧ i.toNat < N, c1, (0 : Int) ≤ c4 ∧ c4.toNat < N] (fork (!decide (k i.toNat = k c4.toNat)) (must [c1] (leaf normal ([AV.bool false, int i64 d, int i64 e, c3, c8, c5, c9, int i64 i, int i64 c4], [c2]))) (must [c1] (leaf normal ([AV.bool false, int i64 d, int i64 e, c3, c8, c5, c9, int i64 pc, int i64 c4], [c2]))))) (leaf (exit 0) ([AV.bool false, int i64 d, int i64 e, c3, c8, c5, c9, int i64 pc, int i64 i], [c2])))) := by kernel_rfl
theorem du_m {N m p j pc : Nat} {k c : Nat → Rat} {d e i : Int} : seeL T GLd [200084, 200092] 60 duL2 (before duZ [1,1,1,1,0,1]) ⟨zipL duL1 (duV1 N m p k d e j pc i), [(0, rowR m c)], 1⟩ =
    let c8 : Int := (↑j : Int); let c7 : Prop := 0 < 1; let c6 : Int := (↑p : Int); let c5 : Int := (↑pc : Int); let c4 : Int := (2 : Int) ^ 63; let c11 : Rat := c (c8.toNat + 0); let c9 : Int := c5 + (1 : Int); let c3 : Int := c8 + (1 : Int); let c1 : Int := c8 + c6 + (1 : Int); let c10 : Nat := c1.toNat - c3.toNat; let c2 : Rat := blR N (fun i ↦ ratV (rat (k i) 64)) c6.toNat m (fun i ↦ ratV (rat (c (i + 0)) 64)) c5 c10 fun i ↦ ratV (rat (k (i + c3.toNat)) 64); some (must [-c4 ≤ c3 ∧ c3 < c4, -c4 ≤ c8 + c6 ∧ c8 + c6 < c4, -c4 ≤ c1 ∧ c1 < c4, (0 : Int) ≤ c3 ∧ c3 ≤ c1 ∧ c1 ≤ c1 ∧ c1 ≤ (↑N : Int), allRat (fun i ↦ rat (k i) 64) N sK, allRat (fun i ↦ rat (c (i + 0)) 64) m sK, allRat (fun i ↦ rat (k (i + c3.toNat)) 64) c10 sK, Kn N c6.toNat fun i ↦ ratV (rat (k i) 64), (0 : Int) ≤ c6, c6 ≤ (6 : Int), N < 2 ^ 40, m < 2 ^ 40, -(2 : Int) ^ 40 < c5, c5 < (2 : Int) ^ 40, c7] (must [(blE N (fun i ↦ ratV (rat (k i) 64)) c6.toNat m c10 c5 != (0 : Int)) = false, c7, (0 : Int) ≤ c8 ∧ c8.toNat < m] (must [(bif false then true else !decide (c2 = c11)) = false] (must [(0 : Int) ≤ c5 ∧ c5.toNat < N, -c4 ≤ c9 ∧ c9 < c4, (0 : Int) ≤ c9 ∧ c9.toNat < N, c7, c7] (leaf normal ([int i64 d, int i64 e, tab 3 N fun i ↦ rat (k i) 64, int i64 c6, own 0 3 0 m, int i64 c5, ptr 172033 0 3 0 [], nil, int i64 (0 : Int)], [((172033 : Nat), AObj.mk false true 3 1 fun j ↦ if (j == 0) = true then deN (rat (k c5.toNat + partV d * (k c9.toNat - k c5.toNat)) ((64 : Nat) + ((64 : Nat) + ((64 : Nat) + 64 + 1)) + 1)) else rat 0 1), ((0 : Nat), AObj.mk true false 3 m fun i ↦ rat (c i) 64)])))))) := by kernel_rfl
theorem du_0 {N m p i pc : Nat} {k c : Nat → Rat} {d e : Int} {t : Rat} : seeL T GLd [107] 60 duL2 [part duZ [1,1,1,1,0,1,0,0]] ⟨zipL duL2 (duV2 N m p k d e pc .nil i), [(1, tP t 258), (0, rowG m c)], 3⟩ =
    let c7 : Int := (↑p : Int); let c6 : Int := (↑i : Int); let c5 : AV := own 0 3 0 m; let c3 : AV := tab 3 N fun i ↦ rat (k i) 64; let c2 : AV := ptr 1 0 3 0 []; let c1 : List (Nat × AObj) := [((1 : Nat), AObj.mk false true 3 1 fun x ↦ rat t 258), ((0 : Nat), AObj.mk true false 3 m fun i ↦ rat (c i) 64)]; let c4 : Int := c6 + (1 : Int); some (fork (decide (c6 < c7)) (must [(0 : Nat) < 1, (1 : Nat) * 3 ≤ 2 ^ 24, (0 : Nat) < 1 ∧ 1 * ((56 : Nat) + 1) * 2 ≤ 2 ^ 47] (must [-(2 : Int) ^ 63 ≤ c4 ∧ c4 < (2 : Int) ^ 63] (leaf normal ([int i64 d, int i64 e, c3, int i64 c7, c5, int i64 (↑pc : Int), c2, own 24579 3 0 1, int i64 c4], ((24579 : Nat), AObj.mk true true 3 1 fun i ↦ nth [rat t 258] (rat 0 1) (i + 0)) :: c1)))) (leaf (exit 2) ([int i64 d, int i64 e, c3, int i64 c7, c5, int i64 (↑pc : Int), c2, nil, int i64 c6], c1))) := by kernel_rfl
theorem du_S {N m p i j pc : Nat} {k c : Nat → Rat} {d e : Int} {t : Rat} : seeL T GLd [107] 60 duL2 [part duZ [1,1,1,1,0,1,0,0]] ⟨zipL duL2 (duV2 N m p k d e pc (.own 2 3 0 (j + 1)) i), [(2, rowS (j + 1) (fun _ => t) fun _ => 258), (1, tP t 258), (0, rowG m c)], 3⟩ =
    let c10 : Int := (↑p : Int); let c9 : Int := (↑i : Int); let c7 : AV := own 0 3 0 m; let c5 : AV := tab 3 N fun i ↦ rat (k i) 64; let c4 : AV := rat t 258; let c3 : AV := ptr 1 0 3 0 []; let c2 : Nat := j + 1; let c8 : Nat := c2 + 1; let c6 : Int := c9 + (1 : Int); let c1 : List (Nat × AObj) := [((1 : Nat), AObj.mk false true 3 1 fun x ↦ c4), ((0 : Nat), AObj.mk true false 3 m fun i ↦ rat (c i) 64)]; some (fork (decide (c9 < c10)) (must [(0 : Nat) < 1, (1 : Nat) * 3 ≤ 2 ^ 24, c8 * ((56 : Nat) + 1) * 2 ≤ 2 ^ 47] (must [-(2 : Int) ^ 63 ≤ c6 ∧ c6 < (2 : Int) ^ 63] (leaf normal ([int i64 d, int i64 e, c5, int i64 c10, c7, int i64 (↑pc : Int), c3, own 24579 3 0 c8, int i64 c6], ((24579 : Nat), AObj.mk true true 3 c8 fun i ↦ if i < c2 then c4 else nth [c4] (rat 0 1) (i - c2 + 0)) :: c1)))) (leaf (exit 2) ([int i64 d, int i64 e, c5, int i64 c10, c7, int i64 (↑pc : Int), c3, own 2 3 0 c2, int i64 c9], ((2 : Nat), AObj.mk true true 3 c2 fun i ↦ c4) :: c1))) := by kernel_rfl
theorem du_e {N m p i j pc : Nat} {k c : Nat → Rat} {d e : Int} {t : Rat} : endL T GLd [100181, 100185, 100189, 100194, 100201, 100206] 60 fn_law09_BasisDual [part duZ [1,1,1,1,1]] ⟨zipL duL2 (duV2 N m p k d e pc (.own 2 3 0 (j + 1)) i), [(2, rowS (j + 1) (fun _ => t) fun _ => 258), (1, tP t 258), (0, rowG m c)], 3⟩ =
    let c37 : Int := (↑p : Int); let c35 : Rat := ratM e (3 : Int); let c33 : Rat := (↑(1 : Int) : Rat) / (↑(2 : Int) : Rat); let c32 : Nat := 2 ^ 40; let c28 : Bool := 0 == 0; let c25 : Rat := ratV (rat t 258); let c24 : Int := (↑pc : Int); let c23 : Nat := 0 + Int.toNat (1 : Int); let c21 : AV := rat 0 1; let c18 : Int := (2 : Int) ^ 63; let c15 : Prop := allRat (fun i ↦ rat (k i) 64) N sK; let c10 : Prop := 0 < 1; let c8 : Nat := j + 1; let c7 : Nat := Int.toNat (0 : Int) + 0; let c38 : Prop := 1 ≤ c8; let c36 : Prop := c8 ≤ 64; let c31 : Int := (↑c8 : Int); let c30 : Prop := (0 : Int) ≤ (0 : Int) ∧ Int.toNat (0 : Int) < c8; let c26 : AV := rat c35 64; let c22 : Prop := c37 ≤ (6 : Int); let c16 : Nat := c37.toNat; let c14 : AV := deN (if c28 = true then deN (rat (ratM d (2 : Int)) 64) else c21); let c11 : AV := deN (rat ((c35 + ratM d (2 : Int)) * c33) ((64 : Nat) + 64 + 1 + 64)); let c9 : AV := rat (ratV (rat c25 sK)) sK; let c4 : List Prop := [N < c32, m < c32, -(2 : Int) ^ 40 < c24, c24 < (2 : Int) ^ 40, c10]; let c34 : List Prop := ((1 : Int) ≤ c37) :: c22 :: c4; let c27 : Rat := ratV (rat (ratV c9) sK); let c19 : Prop := Kn N c16 fun i ↦ ratV (rat (k i) 64); let c17 : Rat := blR N (fun i ↦ ratV (rat (k i) 64)) c16 m (fun i ↦ ratV (rat (c i) 64)) c24 c8 fun i ↦ c25; let c13 : AV := deN (if c28 = true then deN c26 else c21); let c12 : Rat := suV' N (fun i ↦ ratV (rat (k i) 64)) c16 m (fun i ↦ ratV (rat (ratV (rat (c (i + 0)) 64)) sK)) t (vB (fun i ↦ ratV (rat (k i) 64)) (ivl N (fun i ↦ ratV (rat (k i) 64)) t) t c16); let c3 : Nat := 0 + (c31.toNat - Int.toNat (1 : Int)); let c29 : Nat := c3 + 1; let c20 : AV := rat (bif c7 == c7 then c35 else c27) (bif c7 == c7 then 64 else sK); let c6 : Rat := blR N (fun i ↦ ratV (rat (k i) 64)) c16 m (fun i ↦ ratV (rat (ratV (rat (ratV (rat (ratV (rat (c i) 64)) sK)) sK)) sK)) c24 c8 (wiA (ratV c11) fun i ↦ c27); let c2 : Rat := blR N (fun i ↦ ratV (rat (k i) 64)) c16 m (fun i ↦ ratV (rat (ratV (rat (c i) 64)) sK)) c24 c8 (wiA (ratV c13) fun i ↦ ratV (rat c25 sK)); let c5 : Rat := (c2 + blR N (fun i ↦ ratV (rat (k i) 64)) c16 m (fun i ↦ ratV (rat (ratV (rat (ratV (rat (c i) 64)) sK)) sK)) c24 c8 (wiA (ratV c14) fun i ↦ ratV c9)) * c33; let c1 : Rat := blR N (fun i ↦ ratV (rat (k i) 64)) c16 m (fun i ↦ ratV (rat (ratV (rat (ratV (rat (ratV (rat (ratV (rat (c i) 64)) sK)) sK)) sK)) sK)) c24 c29 fun i ↦ ratV (if i < c3 then if i < 0 then nth [] c21 i else if (i - 0 + c23 == c7) = true then c26 else rat c27 sK else nth [c20] c21 (i - c3 + 0)); some (must ((c8 = c8) :: (m = m) :: c15 :: allRatK (fun i ↦ rat t 258) c8 sK :: allRatK (fun i ↦ rat (c i) 64) m sK :: c34) (must [c10, c15, allRat (fun i ↦ rat (ratV (rat (c (i + 0)) 64)) sK) m sK, (258 : Nat) ≤ sK, c19, (0 : Int) ≤ c37, c22, N < c32, c10] (must [c10, c10] (must (c10 :: (c8 = c8) :: (m = m) :: c15 :: allRatK (fun i ↦ rat c25 sK) c8 sK :: allRatK (fun i ↦ rat (ratV (rat (c i) 64)) sK) m sK :: c19 :: c22 :: c38 :: c36 :: avLe0 c13 (rat (ratV c13) sK) :: c4) (must (c10 :: (c8 = c8) :: (m = m) :: c15 :: allRatK (fun i ↦ c9) c8 sK :: allRatK (fun i ↦ rat (ratV (rat (ratV (rat (c i) 64)) sK)) sK) m sK :: c19 :: c22 :: c38 :: c36 :: avLe0 c14 (rat (ratV c14) sK) :: c4) (must (c10 :: c10 :: (-c18 ≤ (1 : Int)) :: ((1 : Int) < c18) :: (-c18 ≤ (2 : Int)) :: ((2 : Int) < c18) :: c10 :: (c8 = c8) :: (m = m) :: c15 :: allRatK (fun i ↦ rat (ratV c9) sK) c8 sK :: allRatK (fun i ↦ rat (ratV (rat (ratV (rat (ratV (rat (c i) 64)) sK)) sK)) sK) m sK :: c19 :: c22 :: c38 :: c36 :: avLe0 c11 (rat (ratV c11) sK) :: c4) (must [c10, c30, c7 < c8] (must [(0 : Nat) * 3 ≤ 2 ^ 24, (0 : Int) ≤ (1 : Int) ∧ (1 : Int) ≤ c31 ∧ c31 ≤ c31 ∧ c31 ≤ c31, c3 * ((56 : Nat) + 1) * 2 ≤ 2 ^ 47, c30, c7 < c8, (1 : Nat) * 3 ≤ 2 ^ 24, c29 * ((56 : Nat) + 1) * 2 ≤ 2 ^ 47] (must ((c29 = c29) :: (m = m) :: c15 :: allRatK (fun i ↦ if i < c3 then if i < 0 then nth [] c21 i else if (i - 0 + c23 == c7) = true then c26 else rat c27 sK else nth [c20] c21 (i - c3 + 0)) c29 sK :: allRatK (fun i ↦ rat (ratV (rat (ratV (rat (ratV (rat (ratV (rat (c i) 64)) sK)) sK)) sK)) sK) m sK :: c34) (must [(blE N (fun i ↦ ratV (rat (k i) 64)) c16 m c8 c24 == (0 : Int)) = true, (bif true then suE N (fun i ↦ ratV (rat (k i) 64)) c16 m t == (0 : Int) else false) = true, (bif true then blE N (fun i ↦ ratV (rat (k i) 64)) c16 m c29 c24 == (0 : Int) else false) = true, c10, c10, (bif true then decide (c17 = c12) else false) = true, c10, c10, -c18 ≤ (1 : Int), (1 : Int) < c18, -c18 ≤ (2 : Int), (2 : Int) < c18, c10, c10, (bif true then decide (c5 = c6) else false) = true, c10, c10, (bif true then decide (c1 = c2) else false) = true] (leaf ret [AV.bool true]))))))))))) := by kernel_rfl
theorem s_bBlA_ok : ∀ K args pre r, s_bBlA K args pre = some r → FOK P basis_Blossom K args pre r := by
  intro K args pre r h
  unfold s_bBlA at h
  split at h
  · rename_i r' h'
    simp only [Option.some.injEq] at h
    subst h
    exact s_bBlW_ok _ _ _ _ h'
  · exact s_bBl_ok _ _ _ _ h
theorem GLd_ok : GOK P GLd := gok_plain (gok_cons s_mLight_ok (gok_cons s_aw9_ok (gok_cons s_md_ok (gok_cons s_mMod_ok (gok_cons s_mRat_ok (gok_cons s_bBlA_ok (gok_cons s_bSu_ok (gok_cons s_9withW_ok (gok_app gWithin_ok (gok_app gMid_ok tRef_ok))))))))))
section plain
variable {n p P m : Nat} {k c : Nat → Rat}
theorem blR_is {l : Nat} {a : Nat → Rat} (hl : l = p) (hm : (m : Int) = (n : Int) - p - 1) (hP : p ≤ P) (hP2 : P + p + 1 < n) (hw : k P < k (P + 1)) : blE n k p m l (P : Int) = 0 ∧ blR n k p m c (P : Int) l a = bl k (P - p) p 0 (fun j => c (P - p + j)) (ascL a 0 p) p := by
  have he : blE n k p m l (P : Int) = 0 := blE_ok hm hl (by
    rintro (h | h | h)
    · omega
    · omega
    · rw [Int.toNat_natCast] at h; grind)
  refine ⟨he, ?_⟩
  unfold blR
  rw [if_pos he, Int.toNat_natCast, bR_list]
theorem du_dual (h : Kn n p k) (hm : (m : Int) = (n : Int) - p - 1) (hP : p ≤ P) (hP2 : P + p + 1 < n) (hw : k P < k (P + 1)) {J : Nat} (h1 : J ≤ P) (h2 : P ≤ J + p) : blR n k p m c (P : Int) p (fun i => k (i + (J + 1))) = c J := by
  rw [(blR_is rfl hm hP hP2 hw).2]
  have e : ascL (fun i => k (i + (J + 1))) 0 p = ascL k (P - p + (J - (P - p)) + 1) p := by
    have := ascL_shift (k := k) (c := J + 1) (l := p) (a := 0)
    rw [show (P - p + (J - (P - p)) + 1) = J + 1 + 0 by omega, ← this]
    exact ascL_congr fun i _ _ => by rw [Nat.add_comm]
  rw [e, dual (n := n) ⟨by omega, h.sorted, by rw [show P - p + p = P by omega]; exact hw⟩ (by omega) (by omega)]
  rw [show P - p + (J - (P - p)) = J by omega]
theorem du_diag (h : Kn n p k) (hm : (m : Int) = (n : Int) - p - 1) (hP : p ≤ P) (hP2 : P + p + 1 < n) (hw : k P < k (P + 1)) {t : Rat} (h1 : k P ≤ t) (h2 : t ≤ k (P + 1)) : suE n k p m t = 0 ∧ blR n k p m c (P : Int) p (fun _ => t) = suV' n k p m c t (vB k (ivl n k t) t p) := by
  have hp := h.p1
  have hin : ¬ ivOut n k t := by
    have a1 := h.mono (show 0 ≤ P by omega) (show P < n by omega)
    have a2 := h.mono (show P + 1 ≤ n - 1 by omega) (show n - 1 < n by omega)
    rintro (h3 | h3) <;> grind
  have hsu : suE n k p m t = 0 := by unfold suE; rw [if_neg (by omega)]; unfold ivE; rw [if_neg hin]
  refine ⟨hsu, ?_⟩
  have hiv := h.iv_in hin
  rw [(blR_is rfl hm hP hP2 hw).2, ← bR_list, diag_end P (by omega) t]
  unfold suV'
  rw [if_pos hsu]
  exact seam h hP hP2 hw h1 h2 (h.ivIs hin) (by omega) (by omega)
theorem ascL_first {u : Rat} {a : Nat → Rat} {l : Nat} : ascL (wiA u a) 0 (l + 1) = u :: ascL a 1 l := by
  rw [ascL]
  congr 1
  exact ascL_congr fun i h1 _ => by unfold wiA; rw [if_neg (by omega)]
theorem du_mid (hp1 : 1 ≤ p) (hm : (m : Int) = (n : Int) - p - 1) (hP : p ≤ P) (hP2 : P + p + 1 < n) (hw : k P < k (P + 1)) {u v : Rat} {a : Nat → Rat} :
    (blR n k p m c (P : Int) p (wiA u a) + blR n k p m c (P : Int) p (wiA v a)) * (1 / 2) = blR n k p m c (P : Int) p (wiA ((u + v) * (1 / 2)) a) := by
  obtain ⟨q, rfl⟩ : ∃ q, p = q + 1 := ⟨p - 1, by omega⟩
  rw [(blR_is rfl hm hP hP2 hw).2, (blR_is rfl hm hP hP2 hw).2, (blR_is rfl hm hP hP2 hw).2, ascL_first, ascL_first, ascL_first, bl_affine (by rw [ascL_length])]
theorem du_back (h : Kn n p k) (hm : (m : Int) = (n : Int) - p - 1) (hP : p ≤ P) (hP2 : P + p + 1 < n) (hw : k P < k (P + 1)) {u t : Rat} {a : Nat → Rat} (ha : ∀ i, i + 1 < p → a i = t) (hl : a (p - 1) = u) :
    blR n k p m c (P : Int) p a = blR n k p m c (P : Int) p (wiA u fun _ => t) := by
  have hp1 := h.p1
  rw [(blR_is rfl hm hP hP2 hw).2, (blR_is rfl hm hP hP2 hw).2]
  refine bl_perm (n := n) ⟨by omega, h.sorted, by rw [show P - p + p = P by omega]; exact hw⟩ (by omega) ?_ (by rw [ascL_length]; omega)
  obtain ⟨q, rfl⟩ : ∃ q, p = q + 1 := ⟨p - 1, by omega⟩
  rw [ascL_first, ascL_snoc, Nat.zero_add, show a q = u from hl]
  have e1 : ascL a 0 q = ascL (fun _ => t) 0 q := ascL_congr fun i _ hi => ha i (by omega)
  have e2 : ascL (fun _ => t) 1 q = ascL (fun _ => t) 0 q := by
    have := ascL_shift (k := fun _ => t) (c := 1) (l := q) (a := 0)
    exact this.symm
  rw [e1, e2]
  exact (List.perm_append_comm (l₁ := ascL (fun _ => t) 0 q) (l₂ := [u]))
end plain
set_option maxHeartbeats 1000000 in
theorem M4_ok {n : Nat} {z : Nat → Int} {x d e : Int} (K : Nat) : FOK P law09_BasisDual K [.tab 1 n (fun i => .int .i64 (z i)), .int .i64 x, .int .i64 d, .int .i64 e] [] (pres (.bool true) []) := by
  refine fok_down (r := pres (.bool true) []) hT is_M4 rfl (of_decide_eq_true (by kernel_rfl)) rfl (fun _ cx h0 => ?_) K []
  have hk := kept_nil h0
  have hret : RetV fn_law09_BasisDual duL1 (.bool true) ([AV.bool true, int i64 d, int i64 e, tuple [], tuple [], tuple [], tuple [], tuple [], tuple []], []) := ⟨[.bool true], by kernel_rfl, avLe0.refl _⟩
  have hpre := du_pre (n := n) (z := z) (x := x) (d := d) (e := e)
  dsimp only at hpre
  by_cases hn : n ≤ 500
  · have hd := dice0 (z := z) hn
    have hp := mdP_ok (n := n) (f := zz z)
    obtain ⟨hkn, hN⟩ := md_ok hd
    generalize mdN n (zz z) = N at hpre hkn hN
    generalize mdP n (zz z) = p at hpre hkn hp
    generalize mdK n (zz z) = k at hpre hkn
    generalize mdC n (zz z) = c at hpre
    have hl := hkn.len
    obtain ⟨m, hmm⟩ : ∃ m, m = N - p - 1 := ⟨_, rfl⟩
    have hmn : (m : Int) = (N : Int) - p - 1 := by omega
    rw [← hmm] at hpre
    have q1 := Int.emod_nonneg x (show (m : Int) ≠ 0 by omega)
    have q2 := Int.emod_lt_of_pos x (show 0 < (m : Int) by omega)
    obtain ⟨J, hJ⟩ : ∃ J : Nat, x % (m : Int) = (J : Int) := ⟨(x % (m : Int)).toNat, by omega⟩
    rw [hJ] at hpre q1 q2
    obtain ⟨PP, hW, w1, w2, w3, w4, w5⟩ := hkn.piece (j := J) (by omega)
    obtain ⟨t, ht⟩ : ∃ t, t = k PP + partV d * (k (PP + 1) - k PP) := ⟨_, rfl⟩
    have hwi := within_ok (d := d) (Rat.le_of_lt w3)
    rw [← ht] at hwi
    refine AWp.hloop0 hT GLd_ok hm (x := duC) [1,1,1,1,1,0,1] (i := 0) (y := part duC [1,1,1,1,1,0,1,0,0]) (by kernel_rfl) (by kernel_rfl) is_M4.dst hk (f1 := [34]) (f2 := [51, 64]) 60 duL1 1 (fun l : Nat => duV1 N m p k d e J (lastW k J l) ((J + l : Nat) : Int)) (fun _ => [(0, rowR m c)])
      (fun l => l ≤ p + 1) (fun l => l = p + 1) (fun l => p + 1 - l) (RetV fn_law09_BasisDual duL1 (.bool true)) ⟨_, hpre, ?_⟩ (fun l hl => ⟨_, du_b, ?_⟩) (fun l s' hl hle => ?_) (fun v s' hv hs' => hv.fin hs')
    · simp only [ATree.all, allP]
      exact ⟨fun h => hret, fun h => ⟨hd, by omega, 0, by omega, [(0, 20480)], rfl, rfl, rfl, objsQ_cons rfl rfl rfl (fun i hi => avQ_eq rfl rfl) trivial⟩⟩
    · have e1 : (((J + l : Nat) : Int) + 1).toNat = J + l + 1 := by omega
      have e2 : ((J + (l + 1) : Nat) : Int) = ((J + l : Nat) : Int) + 1 := by omega
      simp only [ATree.all, allP, decide_eq_true_eq, decide_eq_false_iff_not, Bool.not_eq_true', Bool.not_eq_false', e1, Int.toNat_natCast]
      refine ⟨by omega, fun h1 => ⟨⟨by omega, by omega, by omega⟩, fun h2 => ⟨by omega, l + 1, by omega, by dsimp only; omega, [(0, 0)], rfl, ?_, rfl, objsQ_cons rfl rfl rfl (fun i hi => avQ_eq rfl rfl) trivial⟩, fun h2 => ⟨by omega, l + 1, by omega, by dsimp only; omega, [(0, 0)], rfl, ?_, rfl, objsQ_cons rfl rfl rfl (fun i hi => avQ_eq rfl rfl) trivial⟩⟩, fun h1 => ⟨rfl, l, by omega, [(0, 0)], rfl, rfl, rfl, objsQ_cons rfl rfl rfl (fun i hi => avQ_eq rfl rfl) trivial⟩⟩
      · have e3 : lastW k J (l + 1) = ((J + l : Nat) : Int) := if_neg h2
        show _ = (duV1 N m p k d e J (lastW k J (l + 1)) ((J + (l + 1) : Nat) : Int)).map _
        rw [e2, e3]; rfl
      · have e3 : lastW k J (l + 1) = lastW k J l := if_pos h2
        show _ = (duV1 N m p k d e J (lastW k J (l + 1)) ((J + (l + 1) : Nat) : Int)).map _
        rw [e2, e3]; rfl
    · subst hl
      rw [show behind duC [1,1,1,1,1,0,1] = [duZ] from by kernel_rfl]
      refine AWpL.weak rfl hle (AWpL.one ?_)
      rw [hW]
      have hSK : sK = 1048576 := rfl
      have hdu := du_dual (c := c) hkn hmn w4 w5 w3 w1 (show PP ≤ J + p by omega)
      have hb0 := (blR_is (c := c) (a := fun _ => 0) (l := p) rfl hmn w4 w5 w3).1
      refine AWp.hloop0 hT GLd_ok hm (x := duZ) [1,1,1,1,0,1] (i := 2) (y := part duZ [1,1,1,1,0,1,0,0]) (by kernel_rfl) (by kernel_rfl) (by kernel_rfl) hk (f1 := [200084, 200092]) (f2 := [107]) 60 duL2 3 (fun i : Nat => duV2 N m p k d e PP (match i with
          | 0 => .nil
          | _ + 1 => .own 2 3 0 i) i) (fun i => match i with
          | 0 => [(1, tP t 258), (0, rowG m c)]
          | _ + 1 => [(2, rowS i (fun _ => t) fun _ => 258), (1, tP t 258), (0, rowG m c)])
        (fun i => i ≤ p) (fun i => i = p) (fun i => p - i) (fun _ => False) ⟨_, du_m, ?_⟩ (fun i hi => ?_) (fun i s' hi hle => ?_) (fun _ _ h => h.elim)
      · have e1 : ((J : Int) + (p : Int) + 1).toNat - (J + 1) = p := by omega
        have e2 : ((J : Int) + 1).toNat = J + 1 := by omega
        have e3 : ((PP : Int) + 1).toNat = PP + 1 := by omega
        simp only [ATree.all, allP, ratV_rat, Int.toNat_natCast, e2, e3, Nat.add_zero, cond_false]
        simp only [e1]
        refine ⟨⟨by omega, by omega, by omega, by omega, allRat_ls (by decide), allRat_ls (by decide), allRat_ls (by decide), hkn, by omega, by omega, by omega, by omega, by omega, by omega, by omega⟩, ⟨?_, by omega, by omega, by omega⟩, ?_, ⟨by omega, by omega, by omega, by omega, by omega⟩, 0, by omega, [(0, 0), (1, 172033)], rfl, rfl, rfl, objsQ_one rfl rfl (avQ_eq rfl ?_) (objsQ_cons rfl rfl rfl (fun i hi => avQ_eq rfl rfl) trivial)⟩
        · rw [show blE N (fun i => k i) p m p (PP : Int) = 0 from hb0]; rfl
        · rw [show blR N (fun i => k i) p m (fun i => c i) (PP : Int) p (fun i => k (i + (J + 1))) = c J from hdu]; simp
        · rw [ht]; rfl
      · cases i with
        | zero =>
          refine ⟨_, du_0, ?_⟩
          simp only [ATree.all, allP, decide_eq_true_eq, decide_eq_false_iff_not]
          exact ⟨fun h1 => ⟨by omega, by omega, 1, by omega, by dsimp only; omega, [(0, 0), (1, 1), (2, 24579)], rfl, rfl, rfl, objsQ_cons rfl rfl rfl (fun i hi => rowOne (y := fun _ => t) rfl (Nat.le_refl _) hi) (objsQ_one rfl rfl (avQ_eq rfl rfl) (objsQ_cons rfl rfl rfl (fun i hi => avQ_eq rfl rfl) trivial))⟩, fun h1 => by omega⟩
        | succ i =>
          refine ⟨_, du_S, ?_⟩
          simp only [ATree.all, allP, decide_eq_true_eq, decide_eq_false_iff_not]
          exact ⟨fun h1 => ⟨by omega, by omega, i + 2, by omega, by dsimp only; omega, [(0, 0), (1, 1), (2, 24579)], rfl, rfl, rfl, objsQ_cons rfl rfl rfl (fun j hj => rowAdd (x := fun _ => t) (y := fun _ => t) (fun _ _ => rfl) rfl (Nat.le_refl _) (Nat.le_refl _) hj) (objsQ_one rfl rfl (avQ_eq rfl rfl) (objsQ_cons rfl rfl rfl (fun i hi => avQ_eq rfl rfl) trivial))⟩,
            fun h1 => ⟨rfl, i + 1, by omega, [(0, 0), (1, 1), (2, 2)], rfl, rfl, rfl, objsQ_cons rfl rfl rfl (fun j hj => avQ_eq rfl rfl) (objsQ_one rfl rfl (avQ_eq rfl rfl) (objsQ_cons rfl rfl rfl (fun i hi => avQ_eq rfl rfl) trivial))⟩⟩
      · subst hi
        obtain ⟨q, rfl⟩ : ∃ q, i = q + 1 := ⟨i - 1, by omega⟩
        rw [show behind duZ [1,1,1,1,0,1] = [part duZ [1,1,1,1,1]] from by kernel_rfl]
        refine AWpL.weak rfl hle ((AWpL.fin hT GLd_ok hm 60 du_e (by kernel_rfl) ?_).mono fun _ _ h => .inl h)
        obtain ⟨hsu, hdi⟩ := du_diag (c := c) hkn hmn w4 w5 w3 hwi.1 hwi.2
        have hmi := fun (u v : Rat) => du_mid (n := N) (k := k) (c := c) (m := m) (a := fun _ => t) (show 1 ≤ q + 1 by omega) hmn w4 w5 w3 (u := u) (v := v)
        have hba := fun (a : Nat → Rat) (u : Rat) h1 h2 => du_back (c := c) (a := a) (t := t) (u := u) hkn hmn w4 w5 w3 h1 h2
        have r0 : ∀ {v : Rat} {s : Nat}, deN (.rat v s) = .rat v s := rfl
        have r1 : ∀ i : Nat, (i + 1 == 0) = false := fun _ => rfl
        have r2 : ((1 : Int) : Rat) / ((2 : Int) : Rat) = 1 / 2 := by decide +kernel
        have a1 := hba (fun i => ratV (if i < q then .rat t sK else nth [.rat (ratM e 3) 64] (.rat 0 1) (i - q))) (ratM e 3) (fun i hi => by
          show ratV (if i < q then _ else _) = t
          rw [if_pos (by omega)]; rfl) (by
          show ratV (if q + 1 - 1 < q then _ else _) = _
          rw [if_neg (by omega), show q + 1 - 1 - q = 0 by omega]; rfl)
        have a2 : allRatK (fun i => if i < q then .rat t sK else nth [.rat (ratM e 3) 64] (.rat 0 1) (i - q)) (q + 1) sK := fun i hi => by
          show keys (if i < q then _ else _) = [] ∧ avLe0 (if i < q then _ else _) (.rat (ratV (if i < q then _ else _)) sK)
          by_cases h : i < q
          · rw [if_pos h]; exact ⟨rfl, .refl _⟩
          · rw [if_neg h, show i - q = 0 by omega]; exact ⟨rfl, avLe0_rat_more (by decide)⟩
        have a3 : suE N (fun i => k i) (q + 1) m t = 0 := hsu
        have a4 : blE N (fun i => k i) (q + 1) m (q + 1) (PP : Int) = 0 := hb0
        have a5 := hmi (ratM e 3) (ratM d 2)
        simp only [ATree.all, allP, ratV_rat, Int.toNat_natCast, Nat.add_zero, r0, r1, r2, beq_self_eq_true, if_true, show Int.toNat 1 = 1 from rfl, show Int.toNat 0 = 0 from rfl, cond_true, Nat.add_sub_cancel, Nat.zero_add, Nat.sub_zero, Nat.not_lt_zero, if_false, Bool.false_eq_true, a3, a4, decide_eq_true_eq]
        (repeat' with_reducible refine And.intro ?_ ?_)
        all_goals first | omega | exact trivial | exact allRat_ls (by decide) | exact allRatK_ls (by decide) | exact hkn | exact res_tt | exact avLe0_rat_more (by decide) | exact a1 | exact a2 | exact a5 | exact hdi | exact decide_eq_true hdi | skip
  · refine AWp.hole [1,1,1,1,1,0,1] (by kernel_rfl) (AWpL.see hT GLd_ok hm 60 duL1 hpre (by kernel_rfl) ?_)
    simp only [ATree.all, allP]
    refine ⟨fun h s' hs' => hret.fin hs', fun h => by simp at h; omega⟩
end Go.Am.B
