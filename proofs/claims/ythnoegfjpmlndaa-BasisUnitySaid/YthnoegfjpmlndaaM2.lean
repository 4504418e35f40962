/- brepkernellaw09.BasisUnity. -/
import Derived.Test.YthnoegfjpmlndaaM1
set_option linter.unusedVariables false
namespace Go.Am.B
open Go Go.Am.N AV ATree AEx IntKind

theorem is_M2 : FnIs P law09_BasisUnity fn_law09_BasisUnity (codeOf fn_law09_BasisUnity) := fnIs get_law09_BasisUnity (by kernel_rfl) (by kernel_rfl) (by kernel_rfl)
noncomputable def GLu : Contracts := nG :: (made_Light, s_mLight) :: (law09_awake, s_aw9) :: (law09_made, s_md) :: (basis_Values, s_bVa) :: (basis_Sum, s_bSu) :: (ref08_Greville, s_hGr) :: (ref02_Int, tInt) :: (gWithin ++ GE0)
abbrev unL : List Nat := [4, 5, 6, 8, 10, 12, 13]
abbrev unV (N : Nat) (k : Nat → Rat) (p m j : Nat) (x : Nat → Rat) : List AV := [.bool false, lsA k N 64, .int .i64 p, .ptr 0 0 3 0 [], .tab 3 m (fun j => .rat (x j) sV), .ptr 1 0 3 0 [], .int .i64 j]
noncomputable abbrev unC : Code := codeOf fn_law09_BasisUnity
theorem un_pre {n : Nat} {z : Nat → Int} {i : Int} : seeL T GLu [18, 48, 54] 60 unL (before unC [1,1,1,1,1,1,1,0,1]) ⟨zipSlots 0 [.tab 1 n (zz z), .int .i64 i], [], 0⟩ =
    let c19 : AV := rat 0 1; let c17 : Nat := Int.toNat (0 : Int); let c16 : Prop := 0 < 1; let c15 : AV := tuple []; let c14 : AV := ptr 102400 0 3 0 []; let c12 : Int := (2 : Int) ^ 63; let c11 : Nat := 64 + ((64 : Nat) + ((64 : Nat) + 64 + 1)) + 1; let c6 : Nat := mdN n (zz z); let c5 : Int := (↑(mdP n (zz z)) : Int); let c18 : Int := c5 + (1 : Int); let c13 : AV := tab 3 c6 fun i ↦ rat (mdK n (zz z) i) 64; let c10 : Int := (↑c6 : Int) - (1 : Int); let c1 : Rat := mdK n (zz z) c17 + partV i * (mdK n (zz z) c10.toNat - mdK n (zz z) c17); let c9 : Nat := if ivOut c6 (fun i ↦ ratV (rat (mdK n (zz z) i) 64)) c1 then 0 else c5.toNat + 1; let c8 : Bool := ivE c6 (fun i ↦ ratV (rat (mdK n (zz z) i) 64)) c1 != (0 : Int); let c3 : List (Nat × AObj) := [((102400 : Nat), AObj.mk false true 3 1 fun j ↦ if (j == 0) = true then deN (rat c1 c11) else c19)]; let c2 : AV := tab 3 c9 fun j ↦ rat (vB (fun i ↦ ratV (rat (mdK n (zz z) i) 64)) (ivl c6 (fun i ↦ ratV (rat (mdK n (zz z) i) 64)) c1) c1 c5.toNat j) 68719476736; let c7 : ATree (List AV × Store) := leaf ret ([AV.bool false, c13, int i64 c5, c14, c2, c15, c15], c3); let c4 : ATree (List AV × Store) := leaf normal ([AV.bool false, c13, int i64 c5, c14, c2, ptr 192512 0 3 0 [], int i64 (0 : Int)], ((192512 : Nat), AObj.mk false true 3 1 fun x ↦ c19) :: c3); some (fork (!decide ((↑n : Int) ≤ (500 : Int))) (leaf ret ([AV.bool true, c15, c15, c15, c15, c15, c15], [])) (must [DiceOK n (zz z) (0 : Int)] (must [(0 : Int) ≤ (0 : Int) ∧ c17 < c6, -c12 ≤ c10 ∧ c10 < c12, (0 : Int) ≤ c10 ∧ c10.toNat < c6, c16, c16] (must [c16, allRat (fun i ↦ rat (mdK n (zz z) i) 64) c6 sK, c11 ≤ sK, Kn c6 c5.toNat fun i ↦ ratV (rat (mdK n (zz z) i) 64), (0 : Int) ≤ c5, c5 ≤ (6 : Int), c6 < 2 ^ 40] (fork c8 (must [c8 = true] (fork true c7 c4)) (must [c8 = false, -c12 ≤ c18 ∧ c18 < c12] (fork (bif false then true else (↑c9 : Int) != c18) c7 c4))))))) := by kernel_rfl
theorem un_b {N p m j s : Nat} {k x : Nat → Rat} {t q : Rat} : seeL T GLu [58, 66] 60 unL [part unC [1,1,1,1,1,1,1,0,1,0,0]] ⟨zipL unL (unV N k p m j x), [(1, tP q s), (0, tP t 258)], 2⟩ =
    let c8 : Nat := 2 ^ 41; let c7 : AV := tab 3 N fun i ↦ rat (k i) 64; let c6 : AV := ptr 1 0 3 0 []; let c5 : AV := ptr 0 0 3 0 []; let c4 : AV := tab 3 m fun j ↦ rat (x j) 68719476736; let c3 : Nat × AObj := ((0 : Nat), AObj.mk false true 3 1 fun x ↦ rat t 258); let c2 : Int := (↑j : Int); let c10 : Int := c2 + (1 : Int); let c9 : Prop := (0 : Int) ≤ c2 ∧ c2.toNat < m; let c1 : List AV × Store := ([AV.bool false, c7, int i64 (↑p : Int), c5, c4, c6, int i64 c2], [((1 : Nat), AObj.mk false true 3 1 fun x ↦ rat q s), c3]); some (fork (decide (c2 < (↑m : Int))) (must [c9, sV < c8] (fork (decide (sgnR (x c2.toNat) < (0 : Int))) (leaf ret c1) (must [(0 : Nat) < 1, c9, s < c8, sV < c8, (0 : Nat) < 1] (must [-(2 : Int) ^ 63 ≤ c10 ∧ c10 < (2 : Int) ^ 63] (leaf normal ([AV.bool false, c7, int i64 (↑p : Int), c5, c4, c6, int i64 c10], [((1 : Nat), AObj.mk false true 3 1 fun j ↦ if (j == 0) = true then deN (oAdd (q, s) (x c2.toNat, sV)) else rat q s), c3])))))) (leaf (exit 0) c1)) := by kernel_rfl
theorem un_e {N p m j s : Nat} {k x : Nat → Rat} {t q : Rat} : endL T GLu [100086, 100090, 100095] 60 fn_law09_BasisUnity [part unC [1,1,1,1,1,1,1,1]] ⟨zipL unL (unV N k p m j x), [(1, tP q s), (0, tP t 258)], 2⟩ =
    let c7 : Prop := N < 2 ^ 40; let c5 : Int := (↑p : Int); let c4 : Nat := 2 ^ 41; let c3 : Prop := 0 < 1; let c2 : Nat := c5.toNat; let c6 : Nat := N - c2 - 1; let c1 : Rat := suV' N (fun i ↦ ratV (rat (k i) 64)) c2 c6 (fun i ↦ ratV (rat (grev (fun i ↦ ratV (rat (k i) 64)) c2 i) 512)) t (vB (fun i ↦ ratV (rat (k i) 64)) (ivl N (fun i ↦ ratV (rat (k i) 64)) t) t c2); some (must [allRat (fun i ↦ rat (k i) 64) N 64, (1 : Int) ≤ c5, c5 ≤ (6 : Int), c7, c5 + (1 : Int) < (↑N : Int), c3, allRat (fun i ↦ rat (k i) 64) N sK, allRat (fun i ↦ rat (grev (fun i ↦ ratV (rat (k i) 64)) c2 i) 512) c6 sK, (258 : Nat) ≤ sK, Kn N c2 fun i ↦ ratV (rat (k i) 64), (0 : Int) ≤ c5, c5 ≤ (6 : Int), c7, c3] (must [c3, s < c4, Max.max 1 (bitsN (Int.natAbs (1 : Int))) < c4, decide (q = (↑(1 : Int) : Rat)) = true, (bif true then suE N (fun i ↦ ratV (rat (k i) 64)) c2 c6 t == (0 : Int) else false) = true, c3, c3, sU < c4, (258 : Nat) < c4, (bif true then decide (c1 = t) else false) = true] (leaf ret [AV.bool true]))) := by kernel_rfl
theorem GLu_ok : GOK P GLu := gok_plain (gok_cons s_mLight_ok (gok_cons s_aw9_ok (gok_cons s_md_ok (gok_cons s_bVa_ok (gok_cons s_bSu_ok (gok_cons s_hGr_ok (gok_cons (tInt_ok eInt_ok) (gok_app gWithin_ok GE0_ok))))))))
theorem partV_ok {d : Int} : 0 ≤ partV d ∧ partV d ≤ 1 := by
  unfold partV
  have h1 : 1 ≤ partM d := by
    unfold partM
    have := Int.emod_nonneg (IntKind.i64.wrap (d.tdiv 17)) (show (12 : Int) ≠ 0 by omega)
    omega
  generalize partM d = m at *
  have h2 := Int.emod_nonneg d (show m + 1 ≠ 0 by omega)
  have h3 := Int.emod_lt_of_pos d (show 0 < m + 1 by omega)
  generalize d % (m + 1) = x at *
  have e1 : (0 : Rat) ≤ (x : Rat) := by exact_mod_cast h2
  have e2 : (x : Rat) ≤ (m : Rat) := by exact_mod_cast (show x ≤ m by omega)
  have e3 : (0 : Rat) < (m : Rat) := by exact_mod_cast (show 0 < m by omega)
  have e4 : (x : Rat) / (m : Rat) * (m : Rat) = (x : Rat) := Rat.div_mul_cancel (by intro h; rw [h] at e3; exact absurd e3 (by decide))
  generalize (x : Rat) / (m : Rat) = q at *
  generalize (x : Rat) = u at *
  generalize (m : Rat) = v at *
  refine ⟨?_, ?_⟩
  · rcases Rat.le_total (a := 0) (b := q) with h | h
    · exact h
    · by_cases hq : q = 0
      · rw [hq]; exact Rat.le_refl
      · have := Rat.mul_pos (a := -q) (b := v) (by grind) e3
        grind
  · rcases Rat.le_total (a := q) (b := 1) with h | h
    · exact h
    · by_cases hq : q = 1
      · rw [hq]; exact Rat.le_refl
      · have := Rat.mul_pos (a := q - 1) (b := v) (by grind) e3
        grind
/-- A part of a span lies in it. -/
theorem within_ok {a b : Rat} {d : Int} (h : a ≤ b) : a ≤ a + partV d * (b - a) ∧ a + partV d * (b - a) ≤ b := by
  obtain ⟨h1, h2⟩ := partV_ok (d := d)
  generalize partV d = q at *
  have e1 := Rat.mul_nonneg h1 (show 0 ≤ b - a by grind)
  have e2 := Rat.mul_nonneg (show 0 ≤ 1 - q by grind) (show 0 ≤ b - a by grind)
  constructor <;> grind
theorem Kn.in_within {n p : Nat} {k : Nat → Rat} (h : Kn n p k) {d : Int} : ¬ ivOut n k (k 0 + partV d * (k (n - 1) - k 0)) := by
  have hl := h.len
  obtain ⟨h1, h2⟩ := within_ok (d := d) (h.mono (show 0 ≤ n - 1 by omega) (show n - 1 < n by omega))
  rintro (h3 | h3) <;> grind
theorem Kn.ivIs {n p : Nat} {k : Nat → Rat} (h : Kn n p k) {t : Rat} (hin : ¬ ivOut n k t) : IsIvl n k t (ivl n k t) := by
  have h1 : ¬ t < k 0 := fun h => hin (.inl h)
  have h2 : ¬ k (n - 1) < t := fun h => hin (.inr h)
  exact (h.ivl_ok (by grind) (by grind)).1
theorem sgn_nn {x : Rat} (h : 0 ≤ x) : ¬ sgnR x < (0 : Int) := by
  unfold sgnR
  split
  · grind
  · split <;> decide
theorem res_tt : resOK [.bool true] (.bool true) := avLe0.refl _
set_option maxHeartbeats 1000000 in
theorem M2_ok {n : Nat} {z : Nat → Int} {d0 : Int} (K : Nat) : FOK P law09_BasisUnity K [.tab 1 n (fun i => .int .i64 (z i)), .int .i64 d0] [] (pres (.bool true) []) := by
  refine fok_down (r := pres (.bool true) []) hT is_M2 rfl (of_decide_eq_true (by kernel_rfl)) rfl (fun _ c h0 => ?_) K []
  have hk := kept_nil h0
  by_cases hn : n ≤ 500
  · have hd := dice0 (z := z) hn
    have hp := mdP_ok (n := n) (f := zz z)
    obtain ⟨hkn, hN⟩ := md_ok hd
    have hin := hkn.in_within (d := d0)
    have hl := hkn.len
    have hiv := hkn.iv_in hin
    have hIs := hkn.ivIs hin
    obtain ⟨t, ht⟩ : ∃ t, t = mdK n (zz z) 0 + partV d0 * (mdK n (zz z) (mdN n (zz z) - 1) - mdK n (zz z) 0) := ⟨_, rfl⟩
    rw [← ht] at hin hiv hIs
    have hE : ivE (mdN n (zz z)) (mdK n (zz z)) t = 0 := by unfold ivE; rw [if_neg hin]
    refine AWp.hloop hT GLu_ok hm [1,1,1,1,1,1,1,0,1] (i := 0) (y := part unC [1,1,1,1,1,1,1,0,1,0,0]) (z := part unC [1,1,1,1,1,1,1,1]) (by kernel_rfl) (by kernel_rfl) (by kernel_rfl) is_M2.dst hk (f1 := [18, 48, 54]) (f2 := [58, 66]) 60 unL 2
      (fun j : Nat => unV (mdN n (zz z)) (mdK n (zz z)) (mdP n (zz z)) (mdP n (zz z) + 1) j (vB (mdK n (zz z)) (ivl (mdN n (zz z)) (mdK n (zz z)) t) t (mdP n (zz z)))) (fun j => [(1, tP (sumR j (vB (mdK n (zz z)) (ivl (mdN n (zz z)) (mdK n (zz z)) t) t (mdP n (zz z)))) (zsU j)), (0, tP t 258)])
      (fun j => j ≤ mdP n (zz z) + 1) (fun j => j = mdP n (zz z) + 1) (fun j => mdP n (zz z) + 1 - j) (RetV fn_law09_BasisUnity unL (.bool true)) ⟨_, un_pre, ?_⟩ (fun j hj => ⟨_, un_b, ?_⟩) (fun j hj => ?_) (fun v s' hv hs' => hv.fin hs')
    · have e1 : ((mdN n (zz z) : Int) - 1).toNat = mdN n (zz z) - 1 := by omega
      simp only [ATree.all, allP, ratV_rat, Int.toNat_natCast, Int.toNat_zero, e1, ← ht, Nat.add_zero]
      refine ⟨fun h => by simp at h; omega, fun _ => ⟨hd, by omega, ⟨by omega, allRat_ls (by decide), by decide, hkn, by omega, by omega, by omega⟩, fun hb => ?_, fun hb => ⟨⟨by exact hb, by omega⟩, fun hb2 => ?_, fun hb2 => ?_⟩⟩⟩
      · exact absurd hE (by simpa using hb)
      · exfalso
        simp only [cond_false, bne_iff_ne, ne_eq] at hb2
        refine hb2 ?_
        simp only [show ivOut (mdN n (zz z)) (fun i => mdK n (zz z) i) t = ivOut (mdN n (zz z)) (mdK n (zz z)) t from rfl, if_neg hin]; omega
      · simp only [show ivOut (mdN n (zz z)) (fun i => mdK n (zz z) i) t = ivOut (mdN n (zz z)) (mdK n (zz z)) t from rfl, if_neg hin]
        exact ⟨0, by omega, [(0, 102400), (1, 192512)], rfl, rfl, rfl, objsQ_one rfl rfl (avQ_eq rfl rfl) (objsQ_one rfl rfl (.inr ⟨rfl, avLe0_rat_up rfl (by decide)⟩) trivial)⟩
    · have h2 : sV = 68719476736 := rfl
      have h3 : zsU j = 1 + j * 137438953472 := rfl
      have hnn := vB_nonneg hIs.at_ hIs.lo hIs.hi (d := mdP n (zz z)) (by omega) (by omega) j
      simp only [ATree.all, allP, decide_eq_true_eq, decide_eq_false_iff_not, Int.toNat_natCast]
      refine ⟨fun h4 => ⟨⟨by omega, by omega⟩, fun h5 => absurd h5 (sgn_nn hnn), fun _ => ⟨⟨by omega, by omega, by omega, by omega, by omega⟩, by omega, ?_⟩⟩, fun h4 => ⟨rfl, j, by omega, [(0, 0), (1, 1)], rfl, rfl, rfl, objsQ_one rfl rfl (avQ_eq rfl rfl) (objsQ_one rfl rfl (avQ_eq rfl rfl) trivial)⟩⟩
      exact ⟨j + 1, by omega, by dsimp only; omega, [(0, 0), (1, 1)], rfl, rfl, rfl, objsQ_one rfl rfl (.inr ⟨rfl, avLe0_rat_up rfl (by show zsU j + sV + 1 ≤ 1 + (j + 1) * 137438953472; omega)⟩) (objsQ_one rfl rfl (avQ_eq rfl rfl) trivial)⟩
    · subst hj
      refine AWp.ofL ((AWpL.fin hT GLu_ok hm 60 un_e (by kernel_rfl) ?_).mono fun _ _ h => .inl h)
      have h3 : zsU (mdP n (zz z) + 1) = 1 + (mdP n (zz z) + 1) * 137438953472 := rfl
      have h4 : sU = 1099511627776 := rfl
      have hsu : suE (mdN n (zz z)) (mdK n (zz z)) (mdP n (zz z)) (mdN n (zz z) - mdP n (zz z) - 1) t = 0 := by
        unfold suE; rw [if_neg (by omega)]; exact hE
      have hval : suV' (mdN n (zz z)) (mdK n (zz z)) (mdP n (zz z)) (mdN n (zz z) - mdP n (zz z) - 1) (grev (mdK n (zz z)) (mdP n (zz z))) t (vB (mdK n (zz z)) (ivl (mdN n (zz z)) (mdK n (zz z)) t) t (mdP n (zz z))) = t := by
        unfold suV'
        rw [if_pos hsu]
        have h5 := vB_param hIs.at_ (t := t) (d := mdP n (zz z)) (by omega) (by omega)
        have hp0 : ((mdP n (zz z) : Int) : Rat) ≠ 0 := by
          have : (mdP n (zz z) : Int) ≠ 0 := by omega
          exact_mod_cast this
        have e : ∀ j, grev (mdK n (zz z)) (mdP n (zz z)) (ivl (mdN n (zz z)) (mdK n (zz z)) t - mdP n (zz z) + j) * vB (mdK n (zz z)) (ivl (mdN n (zz z)) (mdK n (zz z)) t) t (mdP n (zz z)) j =
            ((1 : Int) : Rat) / ((mdP n (zz z) : Int) : Rat) * (kS (mdK n (zz z)) (ivl (mdN n (zz z)) (mdK n (zz z)) t - mdP n (zz z) + j + 1) (mdP n (zz z)) * vB (mdK n (zz z)) (ivl (mdN n (zz z)) (mdK n (zz z)) t) t (mdP n (zz z)) j) := fun j => by unfold grev; grind
        rw [sumR_congr fun j _ => e j, sumR_mul, h5]
        have e2 : ((1 : Int) : Rat) / ((mdP n (zz z) : Int) : Rat) * ((mdP n (zz z) : Int) : Rat) = ((1 : Int) : Rat) := Rat.div_mul_cancel hp0
        rw [show ((mdP n (zz z) : Nat) : Rat) = ((mdP n (zz z) : Int) : Rat) from rfl]
        generalize ((mdP n (zz z) : Int) : Rat) = w at *
        rw [show ((1 : Int) : Rat) = 1 from rfl] at *
        generalize (1 : Rat) / w = y at *
        grind
      have hval2 : suV' (mdN n (zz z)) (fun i => mdK n (zz z) i) (mdP n (zz z)) (mdN n (zz z) - mdP n (zz z) - 1) (fun i => grev (fun i => mdK n (zz z) i) (mdP n (zz z)) i) t (vB (fun i => mdK n (zz z) i) (ivl (mdN n (zz z)) (fun i => mdK n (zz z) i) t) t (mdP n (zz z))) = t := hval
      have hsu2 : suE (mdN n (zz z)) (fun i => mdK n (zz z) i) (mdP n (zz z)) (mdN n (zz z) - mdP n (zz z) - 1) t = 0 := hsu
      simp only [ATree.all, allP, ratV_rat, Int.toNat_natCast, cond_true, hval2, hsu2, bits1, beq_self_eq_true, decide_true, vB_unity]
      (repeat' with_reducible refine And.intro ?_ ?_)
      all_goals first | omega | exact trivial | exact allRat_ls (by decide) | exact hkn | exact res_tt | decide
  · refine AWp.hole [1,1,1,1,1,1,1,0,1] (by kernel_rfl) (AWpL.see hT GLu_ok hm 60 unL un_pre (by kernel_rfl) ?_)
    simp only [ATree.all, allP]
    refine ⟨fun h s' hs' => .inl (fin_view (us := [.bool true]) (.inr rfl) hs' (by kernel_rfl) res_tt), fun h => by simp at h; omega⟩
end Go.Am.B
