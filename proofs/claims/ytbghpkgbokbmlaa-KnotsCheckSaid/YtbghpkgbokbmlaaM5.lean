/- brepkernellaw08.KnotsCheck. -/
import Derived.Test.YtbghpkgbokbmlaaY48
set_option linter.unusedVariables false
namespace Go.Am.B
open Go Go.Am.N AV ATree AEx IntKind
theorem is_M5 : FnIs P law08_KnotsCheck fn_law08_KnotsCheck (codeOf fn_law08_KnotsCheck) := fnIs get_law08_KnotsCheck (by kernel_rfl) (by kernel_rfl) (by kernel_rfl)
noncomputable def GL8 : Contracts := nG :: (made_Light, s_mLight) :: (law08_awake, s_aw8) :: (law08_made, s_8md) :: (knots_Check, s_chk) :: (ref08_Check, s_chk) :: (knots_Poles, tPol) :: (ref08_Poles, tPol) :: (made_Mod, s_mMod) :: (made_Rat, s_mRat) :: (ref02_Int, s_eInt) :: []
noncomputable abbrev kcC : Code := codeOf fn_law08_KnotsCheck
noncomputable abbrev kcX : Code := part kcC [1,1,1,1,1,1,1,1,1]
abbrev kcL1 : List Nat := [10, 4, 12, 13, 14, 15, 16]
abbrev kcV1 (mo : Int) (p N m : Nat) (v : AV) (i : Int) : List AV := [.bool false, .int .i64 mo, .int .i64 p, .own 0 3 0 N, .own 1 3 0 m, v, .int .i64 i]
abbrev kcL2 : List Nat := [10, 12, 13, 14, 15, 17]
abbrev kcV2 (p N m l : Nat) (i : Int) : List AV := [.bool false, .int .i64 p, .own 0 3 0 N, .own 1 3 0 m, .own 2 3 0 l, .int .i64 i]
abbrev kcO (N m : Nat) (x k : Nat → Rat) : Store := [(1, rowR m k), (0, rowR N x)]
theorem kc_pre {n : Nat} {z : Nat → Int} {dg a to mo : Int} : seeL T GL8 [20, 200031, 200040, 200048] 60 kcL1 (before kcC [1,1,1,1,1,1,1,1,0,1]) ⟨zipSlots 0 [.tab 1 n (zz z), .int .i64 dg, .int .i64 a, .int .i64 to, .int .i64 mo], [], 0⟩ =
    let c15 : AV := tuple []; let c13 : Prop := 0 * 3 ≤ 2 ^ 24; let c8 : Int := (2 : Int) ^ 40; let c3 : Int := (↑(m8P n (zz z)) : Int); let c1 : Nat := m8N n (zz z); let c14 : Int := (↑c1 : Int) - c3 - (1 : Int); let c11 : Prop := allRat (fun i ↦ rat (m8K n (zz z) i) 64) c1 sK; let c10 : Nat := 0 + c1; let c9 : Int := chkE c1 (fun i ↦ ratV (rat (m8K n (zz z) i) 64)) dg; let c6 : Prop := c1 < 2 ^ 40; let c5 : Prop := allRat (fun i ↦ rat (m8K n (zz z) i) 64) c1 sJ; let c2 : Int := (↑c1 : Int) + (1 : Int); let c7 : Nat := 0 + ((a % c2).toNat - Int.toNat (0 : Int)); let c4 : Int := (↑c10 : Int); let c12 : Nat := (a % c4).toNat + 0; some (fork (!decide ((↑n : Int) ≤ (500 : Int))) (leaf ret ([AV.bool true, int i64 mo, c15, c15, c15, c15, c15], [])) (must [DiceOK n (zz z) (0 : Int)] (must [c5, c6, (chkE c1 (fun i ↦ ratV (rat (m8K n (zz z) i) 64)) c3 != (0 : Int)) = false, c11, c6, -c8 < c3, c3 < c8, c11, c6, -c8 < c3, c3 < c8, (bif false then true else c14 != c14) = false, c5, c6, c5, c6] (must [(bif false then true else c9 != c9) = false] (must [c13, c10 * ((56 : Nat) + 1) * 2 ≤ 2 ^ 47] (must [(0 : Int) < c4, c4 < (2 : Int) ^ 62, (0 : Int) ≤ a % c4 ∧ (a % c4).toNat < c10, c12 < c10] (must [c13, -(2 : Int) ^ 63 ≤ c2 ∧ c2 < (2 : Int) ^ 63, (0 : Int) < c2, c2 < (2 : Int) ^ 62, (0 : Int) ≤ (0 : Int) ∧ (0 : Int) ≤ a % c2 ∧ a % c2 ≤ a % c2 ∧ a % c2 ≤ (↑c1 : Int), c7 * ((56 : Nat) + 1) * 2 ≤ 2 ^ 47] (leaf normal ([AV.bool false, int i64 mo, int i64 c3, own 143360 3 0 c10, own 221184 3 0 c7, nil, int i64 (0 : Int)], [((221184 : Nat), AObj.mk true true 3 c7 fun i ↦ rat (m8K n (zz z) (i - 0 + Int.toNat (0 : Int))) 64), ((143360 : Nat), AObj.mk true true 3 c10 fun j ↦ rat (bif j == c12 then ratM to (1 : Int) else m8K n (zz z) (j - 0)) (bif j == c12 then 64 else 64))]))))))))) := by kernel_rfl
theorem kc_0 {N m p : Nat} {x k : Nat → Rat} {mo : Int} : seeL T GL8 [73] 60 kcL1 [part kcC [1,1,1,1,1,1,1,1,0,1,0,0]] ⟨zipL kcL1 (kcV1 mo p N m .nil 0), kcO N m x k, 3⟩ =
    let c5 : AV := own 0 3 0 N; let c4 : AV := own 1 3 0 m; let c3 : Int := (36 : Int) + mo % (10 : Int); let c2 : Int := (2 : Int) ^ 63; let c1 : List (Nat × AObj) := [((1 : Nat), AObj.mk true true 3 m fun i ↦ rat (k i) 64), ((0 : Nat), AObj.mk true true 3 N fun i ↦ rat (x i) 64)]; some (must [(0 : Int) < (10 : Int), (10 : Int) < (2 : Int) ^ 62, -c2 ≤ c3 ∧ c3 < c2] (fork (decide ((0 : Int) < c3)) (must [-c2 ≤ (0 : Int), (0 : Int) < c2, (1 : Nat) * 3 ≤ 2 ^ 24, (0 : Nat) < 1 ∧ 1 * ((56 : Nat) + 1) * 2 ≤ 2 ^ 47] (must [-c2 ≤ (0 : Int) + (1 : Int) ∧ (0 : Int) + (1 : Int) < c2] (leaf normal ([AV.bool false, int i64 mo, int i64 (↑p : Int), c5, c4, own 36867 3 0 1, int i64 (1 : Int)], ((36867 : Nat), AObj.mk true true 3 1 fun i ↦ nth [rat (↑(0 : Int) : Rat) (Max.max 1 (bitsN (Int.natAbs (0 : Int))))] (rat 0 1) (i + 0)) :: c1)))) (leaf (exit 0) ([AV.bool false, int i64 mo, int i64 (↑p : Int), c5, c4, nil, int i64 (0 : Int)], c1)))) := by kernel_rfl
theorem kc_S {N m p i : Nat} {x k c : Nat → Rat} {mo : Int} : seeL T GL8 [73] 60 kcL1 [part kcC [1,1,1,1,1,1,1,1,0,1,0,0]] ⟨zipL kcL1 (kcV1 mo p N m (.own 2 3 0 (i + 1)) ((i + 1 : Nat) : Int)), (2, rowR (i + 1) c) :: kcO N m x k, 3⟩ =
    let c7 : AV := own 0 3 0 N; let c6 : AV := own 1 3 0 m; let c5 : Int := (36 : Int) + mo % (10 : Int); let c4 : Nat := i + 1; let c3 : Int := (2 : Int) ^ 63; let c2 : List (Nat × AObj) := [((1 : Nat), AObj.mk true true 3 m fun i ↦ rat (k i) 64), ((0 : Nat), AObj.mk true true 3 N fun i ↦ rat (x i) 64)]; let c8 : Nat := c4 + 1; let c1 : Int := (↑c4 : Int); let c9 : Int := c1 + (1 : Int); some (must [(0 : Int) < (10 : Int), (10 : Int) < (2 : Int) ^ 62, -c3 ≤ c5 ∧ c5 < c3] (fork (decide (c1 < c5)) (must [-c3 ≤ c1, c1 < c3, (1 : Nat) * 3 ≤ 2 ^ 24, c8 * ((56 : Nat) + 1) * 2 ≤ 2 ^ 47] (must [-c3 ≤ c9 ∧ c9 < c3] (leaf normal ([AV.bool false, int i64 mo, int i64 (↑p : Int), c7, c6, own 36867 3 0 c8, int i64 c9], ((36867 : Nat), AObj.mk true true 3 c8 fun i ↦ if i < c4 then rat (c i) 64 else nth [rat (↑c1 : Rat) (Max.max 1 (bitsN c1.natAbs))] (rat 0 1) (i - c4 + 0)) :: c2)))) (leaf (exit 0) ([AV.bool false, int i64 mo, int i64 (↑p : Int), c7, c6, own 2 3 0 c4, int i64 c1], ((2 : Nat), AObj.mk true true 3 c4 fun i ↦ rat (c i) 64) :: c2)))) := by kernel_rfl
theorem kc_m {N m p i : Nat} {x k c : Nat → Rat} {mo : Int} : seeL T GL8 [] 60 kcL2 (before kcX [0,1]) ⟨zipL kcL1 (kcV1 mo p N m (.own 2 3 0 (i + 1)) ((i + 1 : Nat) : Int)), (2, rowR (i + 1) c) :: kcO N m x k, 3⟩ =
    some (leaf normal ([AV.bool false, int i64 (↑p : Int), own 0 3 0 N, own 1 3 0 m, own 2 3 0 (i + 1), int i64 (0 : Int)], [((2 : Nat), AObj.mk true true 3 (i + 1) fun i ↦ rat (c i) 64), ((1 : Nat), AObj.mk true true 3 m fun i ↦ rat (k i) 64), ((0 : Nat), AObj.mk true true 3 N fun i ↦ rat (x i) 64)])) := by kernel_rfl
theorem kc_2 {N m p l i : Nat} {x k c : Nat → Rat} : seeL T GL8 [83] 60 kcL2 [part kcX [0,1,0,0]] ⟨zipL kcL2 (kcV2 p N m l i), (2, rowR l c) :: kcO N m x k, 3⟩ =
    let c12 : Int := (↑i : Int); let c11 : Int := (↑p : Int); let c10 : AV := rat 0 1; let c8 : AV := own 1 3 0 m; let c7 : AV := own 0 3 0 N; let c5 : Prop := 1 * 3 ≤ 2 ^ 24; let c4 : Int := (2 : Int) ^ 63; let c3 : Nat := 1 + l; let c2 : Int := (↑l : Int) - (1 : Int); let c1 : List (Nat × AObj) := [((1 : Nat), AObj.mk true true 3 m fun i ↦ rat (k i) 64), ((0 : Nat), AObj.mk true true 3 N fun i ↦ rat (x i) 64)]; let c9 : Nat := c3 + 1; let c6 : Int := c12 + (1 : Int); some (fork (decide (c12 < c11)) (must [c5, c3 * ((56 : Nat) + 1) * 2 ≤ 2 ^ 47, -c4 ≤ c2 ∧ c2 < c4, (0 : Int) ≤ c2 ∧ c2.toNat < l, c2.toNat + 0 < l, c5, c9 * ((56 : Nat) + 1) * 2 ≤ 2 ^ 47] (must [-c4 ≤ c6 ∧ c6 < c4] (leaf normal ([AV.bool false, int i64 c11, c7, c8, own 57347 3 0 c9, int i64 c6], ((57347 : Nat), AObj.mk true true 3 c9 fun i ↦ if i < c3 then if i < 1 then nth [agg [AV.bool (decide ((0 : Rat) < 0)), mag (↑(nat_lit 0) : Int).natAbs, mag (if 1 = 1 then 0 else 1)]] c10 i else rat (c (i - 1 + 0)) 64 else nth [rat (c (c2.toNat + 0)) 64] c10 (i - c3 + 0)) :: c1)))) (leaf (exit 2) ([AV.bool false, int i64 c11, c7, c8, own 2 3 0 l, int i64 c12], ((2 : Nat), AObj.mk true true 3 l fun i ↦ rat (c i) 64) :: c1))) := by kernel_rfl
theorem kc_e {N m p l i : Nat} {x k c : Nat → Rat} : endL T GL8 [100105, 100114, 100123] 60 fn_law08_KnotsCheck [part kcX [1]] ⟨zipL kcL2 (kcV2 p N m l i), (2, rowR l c) :: kcO N m x k, 3⟩ =
    let c7 : Prop := allRat (fun i ↦ rat (k (i + 0)) 64) m sJ; let c6 : Prop := allRat (fun i ↦ rat (x (i + 0)) 64) N sJ; let c5 : Prop := allRat (fun i ↦ rat (c (i + 0)) 64) l sJ; let c4 : Int := chkE N (fun i ↦ ratV (rat (x (i + 0)) 64)) (↑p : Int); let c3 : Int := chkE m (fun i ↦ ratV (rat (k (i + 0)) 64)) (↑p : Int); let c2 : Int := chkE l (fun i ↦ ratV (rat (c (i + 0)) 64)) (↑p : Int); let c1 : Nat := 2 ^ 40; some (must [c6, N < c1, c6, N < c1, (c4 == c4) = true, c7, m < c1, c7, m < c1, (bif true then c3 == c3 else false) = true, c5, l < c1, c5, l < c1, (bif true then c2 == c2 else false) = true] (leaf ret [AV.bool true])) := by kernel_rfl
theorem GL8_ok : GOK P GL8 := gok_plain (gok_cons s_mLight_ok (gok_cons s_aw8_ok (gok_cons s_8md_ok (gok_cons s_kCh_ok (gok_cons s_hCh_ok (gok_cons tPolk_ok (gok_cons tPolh_ok (gok_cons s_mMod_ok (gok_cons s_mRat_ok (gok_cons s_eInt_ok gok_nil))))))))))
theorem rowSz {rl : List (Nat × Nat)} {l i s s' s2 : Nat} {x y : Nat → Rat} {t : Rat} (hx : ∀ i, i < l → x i = y i) (ht : t = y l) (h1 : s ≤ s2) (h2 : Sz (y l) s2) (hi : i < l + 1) : avQ rl (if i < l then .rat (x i) s else nth [.rat t s'] (.rat 0 1) (i - l + 0)) (.rat (y i) s2) := by
  by_cases h : i < l
  · rw [if_pos h, hx i h]; exact .inr ⟨rfl, avLe0_rat_up rfl h1⟩
  · have : i = l := by omega
    subst this
    rw [if_neg h, Nat.sub_self]
    exact .inr ⟨rfl, avLe0_rat_eq ht h2⟩
theorem dice0 {n : Nat} {z : Nat → Int} (h : n ≤ 500) : DiceOK n (zz z) 0 := ⟨fun i => rfl, by omega, by omega, by omega⟩
def zIt (i : Nat) : Rat := ((i : Int) : Rat)
theorem M5_ok {n : Nat} {z : Nat → Int} {dg a to mo : Int} (K : Nat) : FOK P law08_KnotsCheck K [.tab 1 n (fun i => .int .i64 (z i)), .int .i64 dg, .int .i64 a, .int .i64 to, .int .i64 mo] [] (pres (.bool true) []) := by
  refine fok_down (r := pres (.bool true) []) hT is_M5 rfl (of_decide_eq_true (by kernel_rfl)) rfl (fun _ cx h0 => ?_) K []
  have hk := kept_nil h0
  have hret : RetV fn_law08_KnotsCheck kcL1 (.bool true) ([AV.bool true, int i64 mo, tuple [], tuple [], tuple [], tuple [], tuple []], []) := ⟨[.bool true], by kernel_rfl, avLe0.refl _⟩
  have hpre := kc_pre (n := n) (z := z) (dg := dg) (a := a) (to := to) (mo := mo)
  dsimp only at hpre
  by_cases hn : n ≤ 500
  · have hd := dice0 (z := z) hn
    have hp := m8P_ok (n := n) (f := zz z)
    obtain ⟨hkn, hN⟩ := m8_ok hd
    simp only [Nat.zero_add, Nat.sub_zero, Nat.add_zero, Int.toNat_zero] at hpre
    generalize m8N n (zz z) = N at hpre hkn hN
    generalize m8P n (zz z) = p at hpre hkn hp hN
    generalize m8K n (zz z) = k at hpre hkn
    have hl := hkn.len
    have q1 := Int.emod_nonneg a (show (N : Int) ≠ 0 by omega)
    have q2 := Int.emod_lt_of_pos a (show 0 < (N : Int) by omega)
    have r1 := Int.emod_nonneg a (show (N : Int) + 1 ≠ 0 by omega)
    have r2 := Int.emod_lt_of_pos a (show 0 < (N : Int) + 1 by omega)
    have s1 := Int.emod_nonneg mo (show (10 : Int) ≠ 0 by omega)
    have s2 := Int.emod_lt_of_pos mo (show 0 < (10 : Int) by omega)
    obtain ⟨m, hm'⟩ : ∃ m, m = (a % ((N : Int) + 1)).toNat := ⟨_, rfl⟩
    rw [← hm'] at hpre
    obtain ⟨M, hM⟩ : ∃ M : Nat, (M : Int) = 36 + mo % 10 := ⟨(36 + mo % 10).toNat, by omega⟩
    obtain ⟨x, hx⟩ : ∃ x : Nat → Rat, x = fun j => bif j == (a % (N : Int)).toNat then ratM to 1 else k j := ⟨_, rfl⟩
    have hc0 : chkE N k (p : Int) = 0 := hkn.chk (by omega) (by omega)
    have oq : ∀ {rl : List (Nat × Nat)} {os : Store} {a b : Nat} {f g : Nat → AV}, look 1 rl = some a → look 0 rl = some b → look a os = some ⟨true, true, 3, m, f⟩ → look b os = some ⟨true, true, 3, N, g⟩ → (∀ i, f i = .rat (k i) 64) → (∀ i, avQ rl (g i) (.rat (x i) 64)) → objsQ rl os (kcO N m x k) := fun h1 h2 h3 h4 h5 h6 => objsQ_cons h1 h3 rfl (fun i hi => by rw [h5]; exact avQ_eq rfl rfl) (objsQ_cons h2 h4 rfl (fun i hi => h6 i) trivial)
    refine AWp.hloop0 hT GL8_ok hm (x := kcC) [1,1,1,1,1,1,1,1,0,1] (i := 0) (y := part kcC [1,1,1,1,1,1,1,1,0,1,0,0]) (by kernel_rfl) (by kernel_rfl) is_M5.dst hk (f1 := [20, 200031, 200040, 200048]) (f2 := [73]) 60 kcL1 3 (fun i : Nat => kcV1 mo p N m (match i with
        | 0 => .nil
        | _ + 1 => .own 2 3 0 i) i) (fun i => match i with
        | 0 => kcO N m x k
        | _ + 1 => (2, rowR i zIt) :: kcO N m x k) (fun i => i ≤ M) (fun i => i = M) (fun i => M - i) (RetV fn_law08_KnotsCheck kcL1 (.bool true)) ⟨_, hpre, ?_⟩ (fun i hi => ?_) (fun i s' hi hle => ?_) (fun v s' hv hs' => hv.fin hs')
    · simp only [ATree.all, allP, ratV_rat]
      refine ⟨fun h => hret, fun h => ⟨hd, ⟨allRat_ls (by decide), by omega, bne_eq_false_iff_eq.2 hc0, allRat_ls (by decide), by omega, by omega, by omega, allRat_ls (by decide), by omega, by omega, by omega, bne_eq_false_iff_eq.2 rfl, allRat_ls (by decide), by omega, allRat_ls (by decide), by omega⟩, bne_eq_false_iff_eq.2 rfl, by omega, by omega, by omega, 0, Nat.zero_le _, [(1, 221184), (0, 143360)], rfl, rfl, rfl, oq rfl rfl rfl rfl (fun _ => rfl) fun i => ?_⟩⟩
      exact .inr ⟨rfl, avLe0_rat_up (by rw [hx]) (by cases (i == (a % (N : Int)).toNat) <;> exact Nat.le_refl _)⟩
    · cases i with
      | zero =>
        refine ⟨_, kc_0, ?_⟩
        simp only [ATree.all, allP, decide_eq_true_eq, decide_eq_false_iff_not]
        refine ⟨by omega, fun h => ⟨by omega, by omega, 1, by omega, by dsimp only; omega, [(2, 36867), (1, 1), (0, 0)], rfl, rfl, rfl, objsQ_cons rfl rfl rfl (fun i hi => ?_) (oq rfl rfl rfl rfl (fun _ => rfl) fun i => avQ_eq rfl rfl)⟩, fun h => by omega⟩
        have : i = 0 := by omega
        subst this
        exact .inr ⟨rfl, avLe0_rat_eq rfl (Sz_small (y := 0) (by omega) (by omega))⟩
      | succ i =>
        refine ⟨_, kc_S, ?_⟩
        simp only [ATree.all, allP, decide_eq_true_eq, decide_eq_false_iff_not]
        refine ⟨by omega, fun h => ⟨by omega, by omega, i + 2, by omega, by dsimp only; omega, [(2, 36867), (1, 1), (0, 0)], rfl, rfl, rfl, objsQ_cons rfl rfl rfl (fun j hj => rowSz (y := zIt) (fun _ _ => rfl) rfl (Nat.le_refl _) (Sz_small (y := 0) (by omega) (by omega)) hj) (oq rfl rfl rfl rfl (fun _ => rfl) fun i => avQ_eq rfl rfl)⟩, fun h => ⟨rfl, i + 1, by omega, [(2, 2), (1, 1), (0, 0)], rfl, rfl, rfl, objsQ_cons rfl rfl rfl (fun j hj => avQ_eq rfl rfl) (oq rfl rfl rfl rfl (fun _ => rfl) fun i => avQ_eq rfl rfl)⟩⟩
    · obtain ⟨j, rfl⟩ : ∃ j, i = j + 1 := ⟨i - 1, by omega⟩
      rw [show behind kcC [1,1,1,1,1,1,1,1,0,1] = [kcX] from by kernel_rfl]
      refine AWpL.weak rfl hle (AWpL.one ?_)
      refine AWp.hloop0 hT GL8_ok hm (x := kcX) [0,1] (i := 2) (y := part kcX [0,1,0,0]) (by kernel_rfl) (by kernel_rfl) (by kernel_rfl) hk (f1 := []) (f2 := [83]) 60 kcL2 3 (fun a : Nat × (Nat → Rat) => kcV2 p N m (M + 2 * a.1) a.1) (fun a => (2, rowR (M + 2 * a.1) a.2) :: kcO N m x k) (fun a => a.1 ≤ p) (fun a => a.1 = p) (fun a => p - a.1) (fun _ => False) ⟨_, kc_m, ?_⟩ (fun ⟨i, c⟩ h1 => ⟨_, kc_2, ?_⟩) (fun ⟨i, c⟩ s' h1 hle => ?_) (fun _ _ h => h.elim)
      · simp only [ATree.all, allP]
        refine ⟨(0, zIt), Nat.zero_le _, [(2, 2), (1, 1), (0, 0)], rfl, ?_, rfl, objsQ_cons rfl rfl (by dsimp only; omega) (fun j hj => avQ_eq rfl rfl) (oq rfl rfl rfl rfl (fun _ => rfl) fun i => avQ_eq rfl rfl)⟩
        show _ = (kcV2 p N m (M + 2 * 0) 0).map _
        rw [show M + 2 * 0 = j + 1 by omega]; rfl
      · simp only [ATree.all, allP, decide_eq_true_eq, decide_eq_false_iff_not]
        refine ⟨fun h => ⟨by omega, by omega, (i + 1, fun j => if j < 1 + (M + 2 * i) then if j < 1 then 0 else c (j - 1) else c (M + 2 * i - 1)), by dsimp only; omega, by dsimp only; omega, [(2, 57347), (1, 1), (0, 0)], rfl, ?_, rfl, objsQ_cons rfl rfl (by dsimp only; omega) (fun j hj => ?_) (oq rfl rfl rfl rfl (fun _ => rfl) fun i => avQ_eq rfl rfl)⟩, fun h => ⟨rfl, (i, c), by dsimp only at h1 ⊢; omega, [(2, 2), (1, 1), (0, 0)], rfl, rfl, rfl, objsQ_cons rfl rfl rfl (fun j hj => avQ_eq rfl rfl) (oq rfl rfl rfl rfl (fun _ => rfl) fun i => avQ_eq rfl rfl)⟩⟩
        · show _ = (kcV2 p N m (M + 2 * (i + 1)) ((i + 1 : Nat) : Int)).map _
          rw [show M + 2 * (i + 1) = 1 + (M + 2 * i) + 1 by omega]; rfl
        · dsimp only at hj ⊢
          by_cases h2 : j < 1 + (M + 2 * i)
          · rw [if_pos h2, if_pos h2]
            by_cases h3 : j < 1
            · have : j = 0 := by omega
              subst this
              exact .inr ⟨rfl, avLe0_zero (k := 63)⟩
            · rw [if_neg h3, if_neg h3]; exact avQ_eq rfl rfl
          · rw [if_neg h2, if_neg h2]
            have : j - (1 + (M + 2 * i)) + 0 = 0 := by omega
            rw [this, show ((M + 2 * i : Nat) : Int) - 1 = ((M + 2 * i - 1 : Nat) : Int) by omega]
            exact avQ_eq rfl rfl
      · rw [show behind kcX [0,1] = [part kcX [1]] from by kernel_rfl]
        refine AWpL.weak rfl hle ((AWpL.fin hT GL8_ok hm 60 kc_e (by kernel_rfl) ?_).mono fun _ _ h => .inl h)
        simp only [ATree.all, allP]
        have h1 : i ≤ p := Nat.le_of_eq h1
        exact ⟨⟨allRat_ls (by decide), by omega, allRat_ls (by decide), by omega, beq_self_eq_true _, allRat_ls (by decide), by omega, allRat_ls (by decide), by omega, beq_self_eq_true _, allRat_ls (by decide), by omega, allRat_ls (by decide), by omega, beq_self_eq_true _⟩, .refl _⟩
  · exact AWp.hole [1,1,1,1,1,1,1,1,0,1] (by kernel_rfl) (AWpL.see hT GL8_ok hm 60 kcL1 hpre (dst_before is_M5.dst) (by
      simp only [ATree.all, allP]
      refine ⟨fun _ s' hs' => hret.fin hs', fun h => ?_⟩
      simp only [Bool.not_eq_false', decide_eq_true_eq] at h
      omega))
end Go.Am.B
