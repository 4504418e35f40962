/- brepkernellaw08.KnotsStay. -/
import Derived.Test.YtnocdkaonpdmjaaY49
import Derived.Test.YtnocdkaonpdmjaaY48
set_option linter.unusedVariables false
namespace Go.Am.B
open Go Go.Am.N AV ATree AEx IntKind
theorem is_M16 : FnIs P law08_KnotsStay fn_law08_KnotsStay (codeOf fn_law08_KnotsStay) := fnIs get_law08_KnotsStay (by kernel_rfl) (by kernel_rfl) (by kernel_rfl)
noncomputable def GL16 : Contracts := nG :: (made_Light, s_mLight) :: (law08_awake, s_aw8) :: (law08_made, s_8md) :: (knots_Mirror, s_kMiG) :: (knots_Affine, s_kAfG) :: (knots_Greville, s_hGr) :: (knots_Interval, s_kIv) :: (knots_Check, s_chk) :: (ref02_SameList, s_eSL) :: (knots_Insert, s_kInG) :: (knots_Times, s_kTm) :: (gWithin ++ GE0)
noncomputable abbrev ksC : Code := codeOf fn_law08_KnotsStay
abbrev ksL : List Nat := [4, 5, 6, 7, 8, 10, 12, 13, 14, 16]
abbrev ksV (N p xn yn nI j : Nat) (k m x y g : Nat → Rat) (sx sy : Nat) : List AV := [.bool false, lsA k N 64, .int .i64 p, lsA m N 194, lsA x xn sx, lsA y yn sy, lsA g (N - p - 1) 512, .ptr 0 0 3 0 [], .int .i64 nI, .int .i64 j]
theorem ks_pre {n : Nat} {z : Nat → Int} {a : Int} : seeL T GL16 [19, 200076, 200080, 200084, 200094, 200098, 200103, 200111] 60 ksL (before ksC [1,1,1,1,1,1,1,1,1,1,0,1]) ⟨zipSlots 0 [.tab 1 n (zz z), .int .i64 a], [], 0⟩ =
    let c29 : Int := (-1 : Int); let c25 : Prop := 0 < 1; let c23 : AV := tuple []; let c20 : Nat := Max.max 1 (bitsN (Int.natAbs (5 : Int))); let c17 : Nat := 64 + ((64 : Nat) + ((64 : Nat) + 64 + 1)) + 1; let c16 : Rat := (↑(5 : Int) : Rat); let c15 : Nat := 2 ^ 40; let c12 : Nat := 2 ^ 30; let c10 : Nat := szV (rat (m8K n (zz z) 0) 64); let c7 : Rat := m8K n (zz z) (Int.toNat (0 : Int)); let c5 : Int := (2 : Int) ^ 63; let c4 : Int := (↑(m8P n (zz z)) : Int); let c3 : Nat := m8N n (zz z); let c28 : Nat := c3 - c4.toNat - 1; let c24 : Nat := Max.max 1 (bitsN c29.natAbs); let c22 : Prop := (0 : Int) ≤ (0 : Int) ∧ Int.toNat (0 : Int) < c3; let c19 : Prop := allRat (fun i ↦ rat (m8K n (zz z) i) 64) c3 c10; let c18 : Int := (↑c3 : Int); let c14 : Rat := (↑c29 : Rat); let c26 : Prop := -c5 ≤ c18 - c4 ∧ c18 - c4 < c5; let c11 : Int := c18 - c4 - (1 : Int); let c9 : Nat := affN c3 c14 c16; let c6 : Int := c18 - (1 : Int); let c1 : Nat := 4 * c10 + 3 * Max.max c24 c20 + 4; let c27 : Prop := (0 : Int) ≤ c6 ∧ c6.toNat < c3; let c13 : Rat := m8K n (zz z) c6.toNat; let c8 : Nat := szV (rat (affF c3 (fun i ↦ ratV (rat (m8K n (zz z) i) 64)) c14 c16 0) c1); let c21 : Rat := c7 + partV a * (c13 - c7); let c2 : Int := (↑(ivI c3 (fun i ↦ ratV (rat (m8K n (zz z) i) 64)) c21) : Int); some (fork (!decide ((↑n : Int) ≤ (500 : Int))) (leaf ret ([AV.bool true, c23, c23, c23, c23, c23, c23, c23, c23, c23], [])) (must [DiceOK n (zz z) (0 : Int)] (must [c19, c3 < c15, c10 < c12] (must [-c5 ≤ c29, c29 < c5, -c5 ≤ (5 : Int), (5 : Int) < c5, c19, (1 : Nat) ≤ c3, c3 < c15, c10 < c12, c24 < c12, c20 < c12] (must [c22, -c5 ≤ c6 ∧ c6 < c5, c27, allRat (fun i ↦ rat (affF c3 (fun i ↦ ratV (rat (m8K n (zz z) i) 64)) c14 c16 i) c1) c9 c8, (1 : Nat) ≤ c9, c9 < c15, c8 < c12, (64 : Nat) < c12, (64 : Nat) < c12] (must [allRat (fun i ↦ rat (m8K n (zz z) i) 64) c3 64, (1 : Int) ≤ c4, c4 ≤ (6 : Int), c3 < c15, c4 + (1 : Int) < c18] (must [c22, -c5 ≤ c6 ∧ c6 < c5, c27, c25, c25] (must [c25, allRat (fun i ↦ rat (m8K n (zz z) i) 64) c3 sK, c17 ≤ sK, Kn c3 c4.toNat fun i ↦ ratV (rat (m8K n (zz z) i) 64), (0 : Int) ≤ c4, c3 < c15] (must [(c18 != c18) = false, (bif false then true else affE c14 c16 != (0 : Int)) = false, (bif false then true else affE c7 c13 != (0 : Int)) = false, c26, -c5 ≤ c11 ∧ c11 < c5, (bif false then true else (↑c28 : Int) != c11) = false, (bif false then true else ivE c3 (fun i ↦ ratV (rat (m8K n (zz z) i) 64)) c21 != (0 : Int)) = false, (bif false then true else decide (c2 < c4)) = false, c26, -c5 ≤ c11 ∧ c11 < c5] (must [(bif false then true else decide (c2 ≥ c11)) = false] (leaf normal ([AV.bool false, tab 3 c3 fun i ↦ rat (m8K n (zz z) i) 64, int i64 c4, tab 3 c3 fun i ↦ rat (mirF c3 (fun i ↦ ratV (rat (m8K n (zz z) i) 64)) i) ((3 : Nat) * c10 + 2), tab 3 c9 fun i ↦ rat (affF c3 (fun i ↦ ratV (rat (m8K n (zz z) i) 64)) c14 c16 i) c1, tab 3 (affN c9 c7 c13) fun i ↦ rat (affF c9 (fun i ↦ ratV (rat (affF c3 (fun i ↦ ratV (rat (m8K n (zz z) i) 64)) c14 c16 i) c1)) c7 c13 i) ((4 : Nat) * c8 + 3 * Max.max 64 64 + 4), tab 3 c28 fun i ↦ rat (grev (fun i ↦ ratV (rat (m8K n (zz z) i) 64)) c4.toNat i) 512, ptr 225280 0 3 0 [], int i64 c2, int i64 (1 : Int)], [((225280 : Nat), AObj.mk false true 3 1 fun j ↦ if (j == 0) = true then deN (rat c21 c17) else rat 0 1)])))))))))))) := by kernel_rfl
theorem ks_b {N p xn yn nI j sx sy st : Nat} {k m x y g : Nat → Rat} {t : Rat} : seeL T GL16 [115, 200128] 60 ksL [part ksC [1,1,1,1,1,1,1,1,1,1,0,1,0,0]] ⟨zipL ksL (ksV N p xn yn nI j k m x y g sx sy), [(0, tP t st)], 1⟩ =
    let c12 : Prop := 512 < 2 ^ 41; let c11 : AV := tab 3 xn fun i ↦ rat (x i) sx; let c10 : AV := tab 3 yn fun i ↦ rat (y i) sy; let c9 : AV := tab 3 N fun i ↦ rat (k i) 64; let c8 : AV := tab 3 N fun i ↦ rat (m i) 194; let c7 : AV := ptr 0 0 3 0 []; let c4 : Int := (2 : Int) ^ 63; let c3 : Nat × AObj := ((0 : Nat), AObj.mk false true 3 1 fun x ↦ rat t st); let c2 : Nat := N - p - 1; let c1 : Int := (↑j : Int); let c14 : Int := c1 + (1 : Int); let c6 : AV := tab 3 c2 fun i ↦ rat (g i) 512; let c5 : Int := c1 - (1 : Int); let c13 : Int := cmpR (g c5.toNat) (g c1.toNat); some (fork (decide (c1 < (↑c2 : Int))) (must [-c4 ≤ c5 ∧ c5 < c4, (0 : Int) ≤ c5 ∧ c5.toNat < c2, (0 : Int) ≤ c1 ∧ c1.toNat < c2, c12, c12] (must [decide (c13 > (0 : Int)) = false] (must [-c4 ≤ c14 ∧ c14 < c4] (leaf normal ([AV.bool false, c9, int i64 (↑p : Int), c8, c11, c10, c6, c7, int i64 (↑nI : Int), int i64 c14], [c3]))))) (leaf (exit 0) ([AV.bool false, c9, int i64 (↑p : Int), c8, c11, c10, c6, c7, int i64 (↑nI : Int), int i64 c1], [c3]))) := by kernel_rfl
theorem ks_e {N p xn yn nI j sx sy st : Nat} {k m x y g : Nat → Rat} {t : Rat} : endL T GL16 [100133, 100139, 100145, 100150, 100159, 100174, 100183, 100193, 100206, 100218] 60 fn_law08_KnotsStay [part ksC [1,1,1,1,1,1,1,1,1,1,1]] ⟨zipL ksL (ksV N p xn yn nI j k m x y g sx sy), [(0, tP t st)], 1⟩ =
    let c18 : Nat := N - p - 1; let c16 : Prop := allRat (fun i ↦ rat (k i) 64) N sU; let c15 : Nat := 2 ^ 30; let c14 : Nat := insP (fun i ↦ ratV (rat (k i) 64)) t N; let c12 : Nat := (↑nI : Int).toNat; let c11 : Prop := 0 < 1; let c10 : Nat := Int.toNat (0 : Int); let c9 : Nat := szV (rat (k 0) 64); let c8 : Int := (↑N : Int) - (1 : Int); let c7 : Nat := szV (rat (m 0) 194); let c6 : Int := (↑(tmsN (fun i ↦ ratV (rat (k i) 64)) t N) : Int) + (1 : Int); let c5 : Nat := 2 ^ 40; let c4 : Nat := 2 ^ 41; let c3 : Int := (2 : Int) ^ 63; let c1 : Int := (↑nI : Int) + (1 : Int); let c22 : Nat := Max.max c9 st + 2; let c21 : Int := cmpR (k c12) (k c1.toNat); let c20 : Nat := 3 * c7 + 2; let c19 : Prop := (0 : Int) ≤ c1 ∧ c1.toNat < N; let c17 : Prop := (0 : Int) ≤ (↑nI : Int) ∧ c12 < N; let c13 : Prop := 64 < c4; let c2 : Int := (↑c18 : Int) - (1 : Int); some (must [allRat (fun i ↦ rat (m i) 194) N sJ, N < c5, (chkE N (fun i ↦ ratV (rat (m i) 194)) (↑p : Int) == (0 : Int)) = true, allRat (fun i ↦ rat (x i) sx) xn sJ, xn < c5, (bif true then chkE xn (fun i ↦ ratV (rat (x i) sx)) (↑p : Int) == (0 : Int) else false) = true, allRat (fun i ↦ rat (m i) 194) N c7, N < c5, c7 < c15, allRat (fun i ↦ rat (mirF N (fun i ↦ ratV (rat (m i) 194)) i) c20) N sU, c16, N < c5, N < c5, (bif true then sameL N (fun i ↦ ratV (rat (mirF N (fun i ↦ ratV (rat (m i) 194)) i) c20)) N fun i ↦ ratV (rat (k i) 64) else false) = true, allRat (fun i ↦ rat (y i) sy) yn sU, c16, yn < c5, N < c5, (bif true then sameL yn (fun i ↦ ratV (rat (y i) sy)) N fun i ↦ ratV (rat (k i) 64) else false) = true, (0 : Int) ≤ (0 : Int) ∧ c10 < c18, (0 : Int) ≤ (0 : Int) ∧ c10 < N, (512 : Nat) < c4, c13, (bif true then decide (g c10 = k c10) else false) = true, -c3 ≤ c2 ∧ c2 < c3, (0 : Int) ≤ c2 ∧ c2.toNat < c18, -c3 ≤ c8 ∧ c8 < c3, (0 : Int) ≤ c8 ∧ c8.toNat < N, (512 : Nat) < c4, c13, (bif true then decide (g c2.toNat = k c8.toNat) else false) = true, c17, c11, c13, st < c4, (bif true then decide (cmpR (k c12) t ≤ (0 : Int)) else false) = true, c11, -c3 ≤ c1 ∧ c1 < c3, c19, st < c4, c13, (bif true then decide (cmpR t (k c1.toNat) ≤ (0 : Int)) else false) = true, c17, -c3 ≤ c1 ∧ c1 < c3, c19, c13, c13, (bif true then decide (c21 < (0 : Int)) else false) = true, c11, allRat (fun i ↦ rat (k i) 64) N c9, N < c5, c9 < c15, st < c15, c11, allRat (fun i ↦ rat (insK (fun i ↦ ratV (rat (k i) 64)) t c14 i) c22) (N + 1) sK, st ≤ sK, N + 1 < c5, c11, allRat (fun i ↦ rat (k i) 64) N sK, st ≤ sK, N < c5, -c3 ≤ c6 ∧ c6 < c3, (bif true then (↑(tmsN (fun i ↦ ratV (rat (insK (fun i ↦ ratV (rat (k i) 64)) t c14 i) c22)) t (N + 1)) : Int) == c6 else false) = true] (leaf ret [AV.bool true])) := by kernel_rfl
theorem GL16_ok : GOK P GL16 := gok_plain (gok_cons s_mLight_ok (gok_cons s_aw8_ok (gok_cons s_8md_ok (gok_cons s_kMiG_ok (gok_cons s_kAfG_ok (gok_cons s_kGr_ok (gok_cons s_kIv_ok (gok_cons s_kCh_ok (gok_cons s_eSL_ok (gok_cons s_kInG_ok (gok_cons s_kTm_ok (gok_app gWithin_ok GE0_ok))))))))))))
theorem sameL_of {n : Nat} {f g : Nat → Rat} (h : ∀ i, i < n → f i = g i) : sameL n f n g = true := decide_eq_true ⟨rfl, h⟩
theorem dice0 {n : Nat} {z : Nat → Int} (h : n ≤ 500) : DiceOK n (zz z) 0 := ⟨fun i => rfl, by omega, by omega, by omega⟩
theorem szV_rat {q : Rat} {s : Nat} : szV (.rat q s) = s := rfl
theorem res_tt : resOK [.bool true] (.bool true) := avLe0.refl _
theorem cmpR_up {a b : Rat} (h : a ≤ b) : ¬ cmpR a b > (0 : Int) := fun h' => Rat.not_lt.2 h (cmpR_gt.1 h')
theorem cmpR_dn {a b : Rat} (h : a ≤ b) : cmpR a b ≤ (0 : Int) := cmpR_le0.2 h
theorem cmpR_no {a b : Rat} (h : a < b) : cmpR a b < (0 : Int) := cmpR_lt.2 h
set_option maxHeartbeats 1000000 in
theorem M16_ok {n : Nat} {z : Nat → Int} {a : Int} (K : Nat) : FOK P law08_KnotsStay K [.tab 1 n (fun i => .int .i64 (z i)), .int .i64 a] [] (pres (.bool true) []) := by
  refine fok_down (r := pres (.bool true) []) hT is_M16 rfl (of_decide_eq_true (by kernel_rfl)) rfl (fun _ c h0 => ?_) K []
  have hk := kept_nil h0
  by_cases hn : n ≤ 500
  · have hd := dice0 (z := z) hn
    have hp := m8P_ok (n := n) (f := zz z)
    obtain ⟨hkn, hN⟩ := m8_ok hd
    obtain ⟨N, eN⟩ : ∃ N, N = m8N n (zz z) := ⟨_, rfl⟩
    obtain ⟨p, ep⟩ : ∃ p, p = m8P n (zz z) := ⟨_, rfl⟩
    obtain ⟨k, ek⟩ : ∃ k, k = m8K n (zz z) := ⟨_, rfl⟩
    rw [← eN, ← ep, ← ek] at hkn
    rw [← eN, ← ep] at hN
    rw [← ep] at hp
    have hp5 : p ≤ 5 := hp.2.1
    clear hp
    have hp1 := hkn.p1
    have hl := hkn.len
    have hin := hkn.in_within (d := a)
    obtain ⟨t, ht⟩ : ∃ t, t = k 0 + partV a * (k (N - 1) - k 0) := ⟨_, rfl⟩
    rw [← ht] at hin
    have hiv := hkn.iv_in hin
    have hIs := hkn.ivIs hin
    have hends := hkn.ends
    have h15 : ((-1 : Int) : Rat) < ((5 : Int) : Rat) := by decide
    have hkx := hkn.affine h15
    have hE : ivE N k t = 0 := by unfold ivE; rw [if_neg hin]
    have hI : ivI N k t = ivl N k t := by unfold ivI; rw [if_neg hin]
    have ax : affN N ((-1 : Int) : Rat) ((5 : Int) : Rat) = N := by unfold affN; rw [if_neg (Rat.not_le.2 h15)]
    have ay : affN N (k 0) (k (N - 1)) = N := by unfold affN; rw [if_neg (Rat.not_le.2 hends)]
    have bx : affE ((-1 : Int) : Rat) ((5 : Int) : Rat) = 0 := by unfold affE; rw [if_neg (Rat.not_le.2 h15)]
    have by' : affE (k 0) (k (N - 1)) = 0 := by unfold affE; rw [if_neg (Rat.not_le.2 hends)]
    refine AWp.hloop hT GL16_ok hm [1,1,1,1,1,1,1,1,1,1,0,1] (i := 0) (y := part ksC [1,1,1,1,1,1,1,1,1,1,0,1,0,0]) (z := part ksC [1,1,1,1,1,1,1,1,1,1,1]) (by kernel_rfl) (by kernel_rfl) (by kernel_rfl) is_M16.dst hk (f1 := [19, 200076, 200080, 200084, 200094, 200098, 200103, 200111]) (f2 := [115, 200128]) 60 ksL 1
      (fun j : Nat => ksV N p N N (ivl N k t) j k (mirF N k) (affF N k ((-1 : Int) : Rat) ((5 : Int) : Rat)) (affF N (affF N k ((-1 : Int) : Rat) ((5 : Int) : Rat)) (k 0) (k (N - 1))) (grev k p) 269 1272) (fun _ => [(0, tP t 258)])
      (fun j => 1 ≤ j ∧ j ≤ N - p - 1) (fun j => j = N - p - 1) (fun j => N - p - 1 - j) (RetV fn_law08_KnotsStay ksL (.bool true)) ⟨_, ks_pre, ?_⟩ (fun j hj => ⟨_, ks_b, ?_⟩) (fun j hj => ?_) (fun v s' hv hs' => hv.fin hs')
    · have e1 : ((N : Int) - 1).toNat = N - 1 := by omega
      rw [← eN, ← ep, ← ek]
      simp only [ATree.all, allP, ratV_rat, Int.toNat_natCast, Int.toNat_zero, e1, ← ht, Nat.add_zero, ax, bx, ay, by', cond_false, cond_true, szV_rat]
      have hI' : ivI N (fun i => k i) t = ivl N k t := hI
      have hE' : ivE N (fun i => k i) t = 0 := hE
      simp only [hI', hE']
      refine ⟨fun h => by simp at h; omega, fun _ => ⟨hd, ?_⟩⟩
      (repeat' with_reducible refine And.intro ?_ ?_)
      all_goals first | omega | exact allRat_ls (by decide) | exact hkn | exact bne_self_eq_false _ | decide | exact bne_eq_false_iff_eq.2 (by omega) | exact decide_eq_false (by omega) | skip
      exact ⟨1, ⟨by omega, by omega⟩, [(0, 225280)], rfl, rfl, rfl, objsQ_one rfl rfl (avQ_eq rfl rfl) trivial⟩
    · obtain ⟨hj1, hj2⟩ := hj
      have e1 : ((j : Int) - 1).toNat = j - 1 := by omega
      simp only [ATree.all, allP, decide_eq_true_eq, decide_eq_false_iff_not, Int.toNat_natCast, e1]
      refine ⟨fun h4 => ⟨⟨by omega, by omega, by omega, by decide, by decide⟩, ?_, by omega, j + 1, by omega, by dsimp only; omega, [(0, 0)], rfl, rfl, rfl, objsQ_one rfl rfl (avQ_eq rfl rfl) trivial⟩, fun h4 => ⟨rfl, j, by omega, [(0, 0)], rfl, rfl, rfl, objsQ_one rfl rfl (avQ_eq rfl rfl) trivial⟩⟩
      have := hkn.grev_up (i := j - 1) (by omega)
      rw [show j - 1 + 1 = j by omega] at this
      exact cmpR_up this
    · subst hj
      refine AWp.ofL ((AWpL.fin hT GL16_ok hm 60 ks_e (by kernel_rfl) ?_).mono fun _ _ h => .inl h)
      simp only [ATree.all, allP, ratV_rat, Int.toNat_natCast, Int.toNat_zero, cond_true, szV_rat, show (((N - p - 1 : Nat) : Int) - 1).toNat = N - p - 1 - 1 by omega, show ((N : Int) - 1).toNat = N - 1 by omega, show (((ivl N k t : Nat) : Int) + 1).toNat = ivl N k t + 1 by omega]
      (repeat' with_reducible refine And.intro ?_ ?_)
      all_goals first | omega | exact allRat_ls (by decide) | exact res_tt | decide | exact decide_eq_true hkn.grev_first | exact decide_eq_true hkn.grev_last | exact decide_eq_true (cmpR_dn hIs.lo) | exact decide_eq_true (cmpR_dn hIs.hi) | exact decide_eq_true (cmpR_no hIs.at_) | exact sameL_of fun i hi => mirF_twice hi | exact sameL_of fun i hi => affF_back hends h15 | skip
      · exact beq_iff_eq.2 (hkn.mirror.chk (by omega) (by omega))
      · exact beq_iff_eq.2 (hkx.chk (by omega) (by omega))
      · exact decide_eq_true (cmpR_no hIs.at_.wide)
      · have := tmsN_le (k := fun i => k i) (t := t) (n := N)
        omega
      · have := tms_ins (k := k) (t := t) (q := insP k t N) (n := N) insP_le
        exact beq_iff_eq.2 (by show ((tmsN (insK k t (insP k t N)) t (N + 1) : Nat) : Int) = ((tmsN k t N : Nat) : Int) + 1; omega)
  · refine AWp.hole [1,1,1,1,1,1,1,1,1,1,0,1] (by kernel_rfl) (AWpL.see hT GL16_ok hm 60 ksL ks_pre (by kernel_rfl) ?_)
    simp only [ATree.all, allP]
    refine ⟨fun h s' hs' => .inl (fin_view (us := [.bool true]) (.inr rfl) hs' (by kernel_rfl) res_tt), fun h => by simp at h; omega⟩
end Go.Am.B
