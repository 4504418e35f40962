/- knots.Times, ref08.Times; knots.copied. -/
import Derived.Test.YtbghpkgbokbmlaaGreatY45
import Derived.Test.YtbghpkgbokbmlaaGreatC8
import Derived.Test.YtbghpkgbokbmlaaGreatZ2
import Derived.Test.YtbghpkgbokbmlaaGreatC2
import Derived.Test.YtbghpkgbokbmlaaGreatB33
set_option linter.unusedVariables false
namespace Go.Am.B
open Go Go.Am.N AV ATree AEx IntKind
theorem is_hTm : FnIs P ref08_Times fn_ref08_Times (codeOf fn_ref08_Times) := fnIs get_ref08_Times (by kernel_rfl) (by kernel_rfl) (by kernel_rfl)
abbrev sJ : Nat := 4000
abbrev htL : List Nat := [0, 3, 5, 6]
abbrev htV (n : Nat) (k : Nat → Rat) (c i : Nat) : List AV := [ls k n, .ptr 0 0 3 0 [], .int .i64 c, .int .i64 i]
noncomputable abbrev htC : Code := codeOf fn_ref08_Times
theorem ht_pre {n : Nat} {k : Nat → Rat} {t : Rat} : seeL T nRef [] 60 htL (before htC [1,1,0,1]) ⟨zipSlots 0 [ls k n, .rat t sK], [], 0⟩ =
    some (leaf normal ([tab 3 n fun i ↦ rat (k i) 4096, ptr 0 0 (deN (rat t sK)).size 0 [], int i64 (0 : Int), int i64 (0 : Int)], [((0 : Nat), AObj.mk false true (deN (rat t sK)).size 1 fun x ↦ rat t 4096)])) := by kernel_rfl
theorem ht_b {n c i : Nat} {k : Nat → Rat} {t : Rat} : seeL T nRef [10, 18] 60 htL [part htC [1,1,0,1,0,0]] ⟨zipL htL (htV n k c i), [(0, tP t sK)], 1⟩ =
    let c7 : Int := (↑c : Int) + (1 : Int); let c6 : Int := (↑i : Int); let c5 : AV := ptr 0 0 3 0 []; let c4 : AV := tab 3 n fun i ↦ rat (k i) 4096; let c3 : Int := (2 : Int) ^ 63; let c1 : Nat × AObj := ((0 : Nat), AObj.mk false true 3 1 fun x ↦ rat t 4096); let c2 : Int := c6 + (1 : Int); some (fork (decide (c6 < (↑n : Int))) (must [(0 : Int) ≤ c6 ∧ c6.toNat < n, (0 : Nat) < 1] (fork (decide (k c6.toNat = t)) (must [-c3 ≤ c7 ∧ c7 < c3] (must [-c3 ≤ c2 ∧ c2 < c3] (leaf normal ([c4, c5, int i64 c7, int i64 c2], [c1])))) (must [-c3 ≤ c2 ∧ c2 < c3] (leaf normal ([c4, c5, int i64 (↑c : Int), int i64 c2], [c1]))))) (leaf (exit 0) ([c4, c5, int i64 (↑c : Int), int i64 c6], [c1]))) := by kernel_rfl
theorem ht_e {n c i : Nat} {k : Nat → Rat} {t : Rat} : endL T nRef [] 60 fn_ref08_Times [part htC [1,1,1]] ⟨zipL htL (htV n k c i), [(0, tP t sK)], 1⟩ =
    some (leaf ret [int i64 (↑c : Int)]) := by kernel_rfl
theorem tms_yes {k : Nat → Rat} {t : Rat} {i : Nat} (h : k i = t) : tmsN k t (i + 1) = tmsN k t i + 1 := by rw [tmsN, if_pos h]
theorem tms_no {k : Nat → Rat} {t : Rat} {i : Nat} (h : ¬ k i = t) : tmsN k t (i + 1) = tmsN k t i := by rw [tmsN, if_neg h]; rfl
theorem hTm_ok {n : Nat} {k : Nat → Rat} {t : Rat} (hn : n < 2 ^ 40) (K : Nat) : FOK P ref08_Times K [ls k n, .rat t sK] [] (pres (.int .i64 (tmsN k t n)) []) := by
  refine fok_loop (r := pres (.int .i64 (tmsN k t n)) []) hT nRef_ok hm is_hTm rfl (of_decide_eq_true (by kernel_rfl)) rfl [1,1,0,1] (i := 0) (y := part htC [1,1,0,1,0,0]) (z := part htC [1,1,1]) (by kernel_rfl) (by kernel_rfl) (by kernel_rfl) (f1 := []) (f2 := [10, 18]) (f3 := []) 60 htL 1
    (fun i : Nat => htV n k (tmsN k t i) i) (fun _ => [(0, tP t sK)]) (fun i => i ≤ n) (fun i => i = n) (fun i => n - i) (fun _ => ⟨⟨_, ht_pre, ?_⟩, fun i hi => ⟨_, ht_b, ?_⟩, fun i hi => ⟨_, ht_e, ?_⟩⟩) K []
  · simp only [ATree.all, allP]
    exact ⟨0, Nat.zero_le _, [(0, 0)], rfl, rfl, rfl, objsQ_one rfl rfl (avQ_eq rfl rfl) trivial⟩
  · have h1 := tmsN_le (k := k) (t := t) (n := i)
    simp only [ATree.all, allP, decide_eq_true_eq, decide_eq_false_iff_not, Int.toNat_natCast, Nat.add_zero]
    refine ⟨fun h2 => ⟨by omega, fun h3 => ⟨by omega, by omega, i + 1, by omega, by dsimp only; omega, [(0, 0)], rfl, ?_, rfl, objsQ_one rfl rfl (avQ_eq rfl rfl) trivial⟩, fun h3 => ⟨by omega, i + 1, by omega, by dsimp only; omega, [(0, 0)], rfl, ?_, rfl, objsQ_one rfl rfl (avQ_eq rfl rfl) trivial⟩⟩, fun h2 => ⟨rfl, i, by omega, [(0, 0)], rfl, rfl, rfl, objsQ_one rfl rfl (avQ_eq rfl rfl) trivial⟩⟩
    · show _ = (htV n k (tmsN k t (i + 1)) (i + 1)).map _
      rw [tms_yes h3]; rfl
    · show _ = (htV n k (tmsN k t (i + 1)) (i + 1)).map _
      rw [tms_no h3]; rfl
  · subst hi
    simp only [ATree.all, allP]
    exact .refl _
abbrev kTmL : KindL ((Nat × (Nat → Rat)) × Rat × Unit) := kC (kL sK) (kC (kRs sK) kN)
noncomputable def s_kTm : Spec := spL kTmL (fun a => .int .i64 (tmsN a.1.2 a.2.1 a.1.1)) fun a => [a.1.1 < 2 ^ 40]
theorem s_hTm_ok : ∀ K args pre r, s_kTm K args pre = some r → FOK P ref08_Times K args pre r := spL_ok fun ⟨⟨n, k⟩, t, _⟩ K hn => hTm_ok hn K
end Go.Am.B

/- slices.CompactFunc of numbers; knots.Distinct. -/
namespace Go.Am.B
open Go Go.Am.N AV ATree AEx IntKind
end Go.Am.B

/- knots.Distinct, ref08.Distinct, slices.IsSortedFunc of numbers. -/
namespace Go.Am.B
open Go Go.Am.N AV ATree AEx IntKind
theorem is_hDi : FnIs P ref08_Distinct fn_ref08_Distinct (codeOf fn_ref08_Distinct) := fnIs get_ref08_Distinct (by kernel_rfl) (by kernel_rfl) (by kernel_rfl)
noncomputable abbrev hdC : Code := codeOf fn_ref08_Distinct
abbrev hdL : List Nat := [0, 3, 4]
abbrev hdV (n : Nat) (k : Nat → Rat) (v : AV) (i : Int) : List AV := [lsA k n sJ, v, .int .i64 i]
abbrev rowJ (m : Nat) (k : Nat → Rat) : AObj := ⟨true, true, 3, m, fun i => .rat (k i) sJ⟩
theorem hd_pre {n : Nat} {k : Nat → Rat} : seeL T nRef [] 60 hdL (before hdC [1,1,0,1]) ⟨zipSlots 0 [lsA k n sJ], [], 0⟩ =
    some (leaf normal ([tab 3 n fun i ↦ rat (k i) 4000, nil, int i64 (0 : Int)], [])) := by kernel_rfl
theorem hd_0 {n : Nat} {k : Nat → Rat} : seeL T nRef [8, 13, 25] 60 hdL [part hdC [1,1,0,1,0,0]] ⟨zipL hdL (hdV n k .nil 0), [], 1⟩ =
    let c6 : Int := (2 : Int) ^ 63; let c5 : Nat := Int.toNat (0 : Int); let c4 : Int := (0 : Int) - (1 : Int); let c3 : AV := tab 3 n fun i ↦ rat (k i) 4000; let c8 : Prop := (0 : Int) ≤ (0 : Int) ∧ c5 < n; let c2 : Prop := -c6 ≤ (0 : Int) + (1 : Int) ∧ (0 : Int) + (1 : Int) < c6; let c7 : ATree (List AV × Store) := must [c2] (leaf normal ([c3, nil, int i64 (1 : Int)], [])); let c1 : ATree (List AV × Store) := must [c8, (1 : Nat) * 3 ≤ 2 ^ 24, (0 : Nat) < 1 ∧ 1 * ((56 : Nat) + 1) * 2 ≤ 2 ^ 47] (must [c2] (leaf normal ([c3, own 102401 3 0 1, int i64 (1 : Int)], [((102401 : Nat), AObj.mk true true 3 1 fun i ↦ nth [rat (k c5) sJ] (rat 0 1) (i + 0))]))); some (fork (decide ((0 : Int) < (↑n : Int))) (fork true (must [((0 : Int) == (0 : Int)) = true] (fork true c1 c7)) (must [((0 : Int) == (0 : Int)) = false, c8, -c6 ≤ c4 ∧ c4 < c6, (0 : Int) ≤ c4 ∧ c4.toNat < n] (fork (bif false then true else !decide (k c5 = k c4.toNat)) c1 c7))) (leaf (exit 0) ([c3, nil, int i64 (0 : Int)], []))) := by kernel_rfl
theorem hd_S {n l i : Nat} {k x : Nat → Rat} : seeL T nRef [8, 13, 25] 60 hdL [part hdC [1,1,0,1,0,0]] ⟨zipL hdL (hdV n k (.own 0 3 0 (l + 1)) ((i + 1 : Nat) : Int)), [(0, rowJ (l + 1) x)], 1⟩ =
    let c6 : AV := tab 3 n fun i ↦ rat (k i) 4000; let c5 : Nat := l + 1; let c4 : Int := (2 : Int) ^ 63; let c2 : Int := (↑(i + 1) : Int); let c12 : Nat := c5 + 1; let c11 : Prop := (0 : Int) ≤ c2 ∧ c2.toNat < n; let c10 : AV := own 0 3 0 c5; let c9 : Int := c2 + (1 : Int); let c8 : Int := c2 - (1 : Int); let c7 : Nat × AObj := ((0 : Nat), AObj.mk true true 3 c5 fun i ↦ rat (x i) 4000); let c3 : ATree (List AV × Store) := must [-c4 ≤ c9 ∧ c9 < c4] (leaf normal ([c6, c10, int i64 c9], [c7])); let c1 : ATree (List AV × Store) := must [c11, (1 : Nat) * 3 ≤ 2 ^ 24, c12 * ((56 : Nat) + 1) * 2 ≤ 2 ^ 47] (must [-c4 ≤ c9 ∧ c9 < c4] (leaf normal ([c6, own 102401 3 0 c12, int i64 c9], [((102401 : Nat), AObj.mk true true 3 c12 fun i ↦ if i < c5 then rat (x i) sJ else nth [rat (k c2.toNat) sJ] (rat 0 1) (i - c5 + 0))]))); some (fork (decide (c2 < (↑n : Int))) (fork false (must [(c2 == (0 : Int)) = true] (fork true c1 c3)) (must [(c2 == (0 : Int)) = false, c11, -c4 ≤ c8 ∧ c8 < c4, (0 : Int) ≤ c8 ∧ c8.toNat < n] (fork (bif false then true else !decide (k c2.toNat = k c8.toNat)) c1 c3))) (leaf (exit 0) ([c6, c10, int i64 c2], [c7]))) := by kernel_rfl
theorem hd_e0 {n : Nat} {k : Nat → Rat} : endL T nRef [] 60 fn_ref08_Distinct [part hdC [1,1,1]] ⟨zipL hdL (hdV n k .nil 0), [], 1⟩ =
    some (leaf ret [nil]) := by kernel_rfl
theorem hd_eS {n l i : Nat} {k x : Nat → Rat} : endL T nRef [] 60 fn_ref08_Distinct [part hdC [1,1,1]] ⟨zipL hdL (hdV n k (.own 0 3 0 (l + 1)) ((i + 1 : Nat) : Int)), [(0, rowJ (l + 1) x)], 1⟩ =
    some (leaf ret [tab 3 (l + 1) fun i ↦ rat (x (i + 0)) 4000]) := by kernel_rfl
noncomputable def s_dis : Spec := spL (kC (kL sJ) kN) (fun a => ls (dsF a.1.2 a.1.1) (dsN a.1.2 a.1.1)) fun a => [a.1.1 < 2 ^ 40]
theorem s_hDi_ok : ∀ K args pre r, s_dis K args pre = some r → FOK P ref08_Distinct K args pre r := spL_ok fun ⟨⟨n, k⟩, _⟩ K hn => by
  have hn : n < 2 ^ 40 := hn
  refine fok_loop (r := pres (ls (dsF k n) (dsN k n)) []) hT nRef_ok hm is_hDi rfl (of_decide_eq_true (by kernel_rfl)) rfl [1,1,0,1] (i := 0) (y := part hdC [1,1,0,1,0,0]) (z := part hdC [1,1,1]) (by kernel_rfl) (by kernel_rfl) (by kernel_rfl) (f1 := []) (f2 := [8, 13, 25]) (f3 := []) 60 hdL 1
    (fun i : Nat => hdV n k (match i with
      | 0 => .nil
      | _ + 1 => .own 0 3 0 (dsN k i)) i) (fun i => match i with
      | 0 => []
      | _ + 1 => [(0, rowJ (dsN k i) (dsF k i))]) (fun i => i ≤ n) (fun i => i = n) (fun i => n - i) (fun _ => ⟨⟨_, hd_pre, ?_⟩, fun i hi => ?_, fun i hi => ?_⟩) K []
  · simp only [ATree.all, allP]
    exact ⟨0, Nat.zero_le _, ReOK.vals rfl⟩
  · cases i with
    | zero =>
      refine ⟨_, hd_0, ?_⟩
      simp only [ATree.all, allP, decide_eq_true_eq, decide_eq_false_iff_not]
      have e1 : dsN k 1 = 1 := by simp [dsN, isNew]
      have e2 : dsF k 1 0 = k 0 := by simp [dsF, dsN, isNew, setK]
      (repeat' with_reducible first | refine And.intro ?_ ?_ | intro _)
      all_goals first | omega | decide | exact absurd ‹true = false› (by decide) | skip
      · refine ⟨1, by omega, by dsimp only; omega, [(0, 102401)], rfl, ?_, rfl, objsQ_cons rfl rfl e1.symm (fun j hj => ?_) trivial⟩
        · show _ = (hdV n k (.own 0 3 0 (dsN k 1)) 1).map _
          rw [e1]; rfl
        · have hj : j = 0 := by rw [e1] at hj; omega
          subst hj
          exact avQ_eq rfl (by rw [e2]; rfl)
      · exact ⟨rfl, 0, by omega, ReOK.vals rfl⟩
    | succ i =>
      obtain ⟨l, hl⟩ : ∃ l, dsN k (i + 1) = l + 1 := ⟨dsN k (i + 1) - 1, by have := (ds_ends (k := k) (n := i)).1; omega⟩
      dsimp only
      rw [hl]
      refine ⟨_, hd_S, ?_⟩
      simp only [ATree.all, allP, decide_eq_true_eq, decide_eq_false_iff_not]
      have e3 : ((i + 1 : Nat) : Int).toNat = i + 1 := by omega
      have e4 : (((i + 1 : Nat) : Int) - 1).toNat = i := by omega
      have hle := dsN_le (k := k) (n := i + 1)
      (repeat' with_reducible first | refine And.intro ?_ ?_ | intro _)
      all_goals first | omega | exact absurd ‹false = true› (by decide) | exact absurd ‹true = false› (by decide) | skip
      · simp
        omega
      · rename_i hne
        rw [e3, e4, cond_false, Bool.not_eq_true', decide_eq_false_iff_not] at hne
        have hnew : isNew k (i + 1) := isNew_succ.2 hne
        have e5 : dsN k (i + 1 + 1) = l + 1 + 1 := by rw [dsN_new hnew, hl]
        refine ⟨i + 2, by omega, by dsimp only; omega, [(0, 102401)], rfl, ?_, rfl, objsQ_cons rfl rfl e5.symm (fun j hj => ?_) trivial⟩
        · show _ = (hdV n k (.own 0 3 0 (dsN k (i + 1 + 1))) ((i + 1 + 1 : Nat) : Int)).map _
          rw [e5]; rfl
        · rw [e5] at hj
          refine rowAdd (y := dsF k (i + 1 + 1)) (fun x hx => ?_) ?_ (Nat.le_refl _) (Nat.le_refl _) hj
          · rw [show dsF k (i + 1 + 1) = setK (dsF k (i + 1)) (dsN k (i + 1)) (k (i + 1)) from if_pos hnew, hl, setK_ne (by omega)]
          · rw [show dsF k (i + 1 + 1) = setK (dsF k (i + 1)) (dsN k (i + 1)) (k (i + 1)) from if_pos hnew, hl, setK_same, e3]
      · rename_i heq
        rw [e3, e4, cond_false, Bool.not_eq_false', decide_eq_true_eq] at heq
        have hold : ¬ isNew k (i + 1) := fun h => isNew_succ.1 h heq
        have e5 : dsN k (i + 1 + 1) = l + 1 := by rw [dsN_old hold, hl]
        refine ⟨i + 2, by omega, by dsimp only; omega, [(0, 0)], rfl, ?_, rfl, objsQ_cons rfl rfl e5.symm (fun j hj => avQ_eq rfl ?_) trivial⟩
        · show _ = (hdV n k (.own 0 3 0 (dsN k (i + 1 + 1))) ((i + 1 + 1 : Nat) : Int)).map _
          rw [e5]; rfl
        · show _ = AV.rat (dsF k (i + 1 + 1) j) sJ
          rw [show dsF k (i + 1 + 1) = dsF k (i + 1) from if_neg hold]
      · refine ⟨rfl, i + 1, by omega, [(0, 0)], rfl, ?_, rfl, objsQ_cons rfl rfl hl.symm (fun j hj => avQ_eq rfl rfl) trivial⟩
        show _ = (hdV n k (.own 0 3 0 (dsN k (i + 1))) ((i + 1 : Nat) : Int)).map _
        rw [hl]; rfl
  · cases i with
    | zero =>
      refine ⟨_, hd_e0, ?_⟩
      simp only [ATree.all, allP]
      subst hi
      exact avLe0_nil_tab (by omega)
    | succ i =>
      obtain ⟨l, hl⟩ : ∃ l, dsN k (i + 1) = l + 1 := ⟨dsN k (i + 1) - 1, by have := (ds_ends (k := k) (n := i)).1; omega⟩
      dsimp only
      rw [hl]
      refine ⟨_, hd_eS, ?_⟩
      simp only [ATree.all, allP]
      subst hi
      exact (avLe0_tab_eq (g := fun j => .rat (dsF k (i + 1) j) sJ) hl.symm fun j hj => rfl).trans (avLe0_tab fun j hj => avLe0_rat_more (by decide))
end Go.Am.B

/- knots.Check, ref08.Check. -/
namespace Go.Am.B
open Go Go.Am.N AV ATree AEx IntKind
theorem is_hCh : FnIs P ref08_Check fn_ref08_Check (codeOf fn_ref08_Check) := fnIs get_ref08_Check (by kernel_rfl) (by kernel_rfl) (by kernel_rfl)
noncomputable def GhC : Contracts := (ref08_Poles, tPol) :: (ref08_Distinct, s_dis) :: (ref08_Times, s_kTm) :: tRef
noncomputable abbrev hcC : Code := codeOf fn_ref08_Check
abbrev hcL1 : List Nat := [4, 0, 1, 5]
abbrev hcV1 (n : Nat) (k : Nat → Rat) (p : Int) (i : Nat) : List AV := [.int .i64 0, lsA k n sJ, .int .i64 p, .int .i64 i]
abbrev hcL2 : List Nat := [4, 0, 1, 6, 7]
abbrev hcV2 (n : Nat) (k : Nat → Rat) (p : Int) (d : Nat) (f : Nat → Rat) (i : Nat) : List AV := [.int .i64 0, lsA k n sJ, .int .i64 p, lsA f d sK, .int .i64 i]
noncomputable abbrev hcX : Code := part hcC [1,1,1,1,1]
theorem hc_pre {n : Nat} {k : Nat → Rat} {p : Int} : seeL T GhC [11, 14, 20, 24] 60 hcL1 (before hcC [1,1,1,1,0,1]) ⟨zipSlots 0 [lsA k n sJ, .int .i64 p], [], 0⟩ =
    let c7 : Int := (↑n : Int) - p - (1 : Int); let c6 : AV := int i64 (1 : Int); let c5 : Bool := decide (p < (1 : Int)); let c4 : Int := i64.wrap (i64.wrap ((2 : Int) * p) + (2 : Int)); let c3 : AV := tab 3 n fun i ↦ rat (k i) 4000; let c2 : List AV := [c3, int i64 p, tuple []]; let c1 : ATree (List AV × Store) := fork (decide ((↑n : Int) < c4)) (leaf ret (int i64 (5 : Int) :: c2, [])) (must [allRat (fun i ↦ rat (k i) sJ) n sK, n < 2 ^ 40, -(2 : Int) ^ 40 < p, p < (2 : Int) ^ 40] (fork (decide (c7 > (40 : Int))) (leaf ret (int i64 (2 : Int) :: c2, [])) (leaf normal ([int i64 (0 : Int), c3, int i64 p, c6], [])))); some (fork c5 (must [c5 = true] (fork true (leaf ret (c6 :: c2, [])) c1)) (must [c5 = false] (fork (bif false then true else decide (p > (6 : Int))) (leaf ret (c6 :: c2, [])) c1))) := by kernel_rfl
theorem hc_1 {n i : Nat} {k : Nat → Rat} {p : Int} : seeL T GhC [28, 41] 60 hcL1 [part hcC [1,1,1,1,0,1,0,0]] ⟨zipL hcL1 (hcV1 n k p i), [], 1⟩ =
    let c3 : Int := (↑i : Int); let c2 : AV := tab 3 n fun i ↦ rat (k i) 4000; let c1 : Int := i64.wrap (c3 - (1 : Int)); let c4 : Int := cmpR (k c3.toNat) (k c1.toNat); some (fork (decide (c3 < (↑n : Int))) (must [(0 : Int) ≤ c3 ∧ c3.toNat < n, (0 : Int) ≤ c1 ∧ c1.toNat < n] (fork (decide (c4 < (0 : Int))) (leaf ret ([int i64 (5 : Int), c2, int i64 p, int i64 c3], [])) (leaf normal ([int i64 (0 : Int), c2, int i64 p, int i64 (i64.wrap (c3 + (1 : Int)))], [])))) (leaf (exit 0) ([int i64 (0 : Int), c2, int i64 p, int i64 c3], []))) := by kernel_rfl
theorem hc_m {n i : Nat} {k : Nat → Rat} {p : Int} : seeL T GhC [] 60 hcL2 (before hcX [1,0,1]) ⟨zipL hcL1 (hcV1 n k p i), [], 1⟩ =
    some (must [allRat (fun i ↦ rat (k i) sJ) n sJ, n < 2 ^ 40] (leaf normal ([int i64 (0 : Int), tab 3 n fun i ↦ rat (k i) 4000, int i64 p, tab 3 (dsN (fun i ↦ ratV (rat (k i) sJ)) n) fun i ↦ rat (dsF (fun i ↦ ratV (rat (k i) sJ)) n i) 4096, int i64 (0 : Int)], []))) := by kernel_rfl
theorem hc_2 {n d i : Nat} {k f : Nat → Rat} {p : Int} : seeL T GhC [47, 58, 65, 71, 77, 80, 87, 92] 60 hcL2 [part hcX [1,0,1,0,0]] ⟨zipL hcL2 (hcV2 n k p d f i), [], 1⟩ =
    let c33 : AV := tab 3 n fun i ↦ rat (k i) 4000; let c32 : AV := tab 3 d fun i ↦ rat (f i) 4096; let c26 : Prop := false = true; let c24 : Prop := true = true; let c17 : Prop := false = false; let c16 : Prop := true = false; let c7 : Int := (↑i : Int); let c6 : Int := i64.wrap (p + (1 : Int)); let c5 : Int := i64.wrap ((↑d : Int) - (1 : Int)); let c15 : List AV := [c33, int i64 p, c32, int i64 c7]; let c14 : ATree (List AV × Store) := leaf normal ([int i64 (0 : Int), c33, int i64 p, c32, int i64 (i64.wrap (c7 + (1 : Int)))], []); let c13 : Bool := c7 == (0 : Int); let c12 : Bool := bif false then true else c7 == c5; let c10 : Bool := decide (c7 > (0 : Int)); let c8 : Bool := bif true then decide (c7 < c5) else false; let c3 : Int := (↑(tmsN (fun i ↦ ratV (rat (k i) sJ)) (f c7.toNat) n) : Int); let c31 : ATree (List AV × Store) := leaf ret (int i64 (5 : Int) :: c15, []); let c29 : Prop := c12 = true; let c28 : Prop := c12 = false; let c25 : List Prop := [c10 = false, c17]; let c22 : Prop := c13 = true; let c21 : List Prop := [c10 = true, c8 = true]; let c20 : List Prop := [c10 = true, c8 = false]; let c19 : Prop := c13 = false; let c18 : List Prop := [c10 = false, c26]; let c11 : Bool := bif true then c3 != c6 else false; let c9 : Bool := bif false then true else decide (c3 > c6); let c30 : Prop := c11 = true; let c27 : Prop := c11 = false; let c23 : Prop := c9 = false; let c4 : ATree (List AV × Store) := fork true c31 c14; let c2 : ATree (List AV × Store) := fork false c31 c14; let c1 : ATree (List AV × Store) := fork (bif false then true else bif true then decide (c3 > p) else false) c31 c14; some (fork (decide (c7 < (↑d : Int))) (must [(0 : Int) ≤ c7 ∧ c7.toNat < d, allRat (fun i ↦ rat (k i) sJ) n sK, sK ≤ sK, n < 2 ^ 40] (fork c13 (fork true (fork c11 (fork true (must [c22, c24, c30, c24] c4) (fork c10 (fork c8 (must (c22 :: c24 :: c30 :: c16 :: c21) c1) (must (c22 :: c24 :: c30 :: c16 :: c20) c2)) (fork false (must (c22 :: c24 :: c30 :: c16 :: c18) c1) (must (c22 :: c24 :: c30 :: c16 :: c25) c2)))) (fork c9 (must [c22, c24, c27, c9 = true] c4) (fork c10 (fork c8 (must (c22 :: c24 :: c27 :: c23 :: c21) c1) (must (c22 :: c24 :: c27 :: c23 :: c20) c2)) (fork false (must (c22 :: c24 :: c27 :: c23 :: c18) c1) (must (c22 :: c24 :: c27 :: c23 :: c25) c2))))) (fork false (fork true (must [c22, c16, c26, c24] c4) (fork c10 (fork c8 (must (c22 :: c16 :: c26 :: c16 :: c21) c1) (must (c22 :: c16 :: c26 :: c16 :: c20) c2)) (fork false (must (c22 :: c16 :: c26 :: c16 :: c18) c1) (must (c22 :: c16 :: c26 :: c16 :: c25) c2)))) (fork c9 (must [c22, c16, c17, c9 = true] c4) (fork c10 (fork c8 (must (c22 :: c16 :: c17 :: c23 :: c21) c1) (must (c22 :: c16 :: c17 :: c23 :: c20) c2)) (fork false (must (c22 :: c16 :: c17 :: c23 :: c18) c1) (must (c22 :: c16 :: c17 :: c23 :: c25) c2)))))) (fork c12 (fork c11 (fork true (must [c19, c29, c30, c24] c4) (fork c10 (fork c8 (must (c19 :: c29 :: c30 :: c16 :: c21) c1) (must (c19 :: c29 :: c30 :: c16 :: c20) c2)) (fork false (must (c19 :: c29 :: c30 :: c16 :: c18) c1) (must (c19 :: c29 :: c30 :: c16 :: c25) c2)))) (fork c9 (must [c19, c29, c27, c9 = true] c4) (fork c10 (fork c8 (must (c19 :: c29 :: c27 :: c23 :: c21) c1) (must (c19 :: c29 :: c27 :: c23 :: c20) c2)) (fork false (must (c19 :: c29 :: c27 :: c23 :: c18) c1) (must (c19 :: c29 :: c27 :: c23 :: c25) c2))))) (fork false (fork true (must [c19, c28, c26, c24] c4) (fork c10 (fork c8 (must (c19 :: c28 :: c26 :: c16 :: c21) c1) (must (c19 :: c28 :: c26 :: c16 :: c20) c2)) (fork false (must (c19 :: c28 :: c26 :: c16 :: c18) c1) (must (c19 :: c28 :: c26 :: c16 :: c25) c2)))) (fork c9 (must [c19, c28, c17, c9 = true] c4) (fork c10 (fork c8 (must (c19 :: c28 :: c17 :: c23 :: c21) c1) (must (c19 :: c28 :: c17 :: c23 :: c20) c2)) (fork false (must (c19 :: c28 :: c17 :: c23 :: c18) c1) (must (c19 :: c28 :: c17 :: c23 :: c25) c2)))))))) (leaf (exit 2) (int i64 (0 : Int) :: c15, []))) := by kernel_rfl
theorem hc_e {n d i : Nat} {k f : Nat → Rat} {p : Int} : endL T GhC [95] 60 fn_ref08_Check [part hcX [1,1]] ⟨zipL hcL2 (hcV2 n k p d f i), [], 1⟩ =
    some (fork (decide ((↑d : Int) < (2 : Int))) (leaf ret [int i64 (5 : Int)]) (leaf ret [int i64 (0 : Int)])) := by kernel_rfl
theorem GhC_ok : GOK P GhC := gok_cons tPolh_ok (gok_cons s_hDi_ok (gok_cons s_hTm_ok tRef_ok))
def inR (n : Nat) (p : Int) : Prop := 1 ≤ p ∧ p ≤ 6 ∧ 2 * p + 2 ≤ (n : Int) ∧ (n : Int) - p - 1 ≤ 40
theorem hCh_ok {n : Nat} {k : Nat → Rat} {p : Int} (hn : n < 2 ^ 40) (K : Nat) : FOK P ref08_Check K [lsA k n sJ, .int .i64 p] [] (pres (.int .i64 (chkE n k p)) []) := by
  refine fok_down (r := pres (.int .i64 (chkE n k p)) []) hT is_hCh rfl (of_decide_eq_true (by kernel_rfl)) rfl (fun _ cx h0 => ?_) K []
  have hk := kept_nil h0
  refine AWp.hloop0 hT GhC_ok hm [1,1,1,1,0,1] (i := 0) (y := part hcC [1,1,1,1,0,1,0,0]) (by kernel_rfl) (by kernel_rfl) is_hCh.dst hk (f1 := [11, 14, 20, 24]) (f2 := [28, 41]) 60 hcL1 1 (fun i : Nat => hcV1 n k p i) (fun _ => []) (fun i => 1 ≤ i ∧ i ≤ n ∧ inR n p ∧ ∀ j, j + 1 < i → k j ≤ k (j + 1)) (fun _ => inR n p ∧ sortedN n k) (fun i => n - i) (RetV fn_ref08_Check hcL1 (.int .i64 (chkE n k p))) ⟨_, hc_pre, ?_⟩ (fun i ⟨h1, h2, h3, h4⟩ => ⟨_, hc_1, ?_⟩) (fun i s' ⟨h1, h2⟩ hle => ?_) (fun v s' hv hs' => hv.fin hs')
  · have r : ∀ {e : Int}, chkE n k p = e → RetV fn_ref08_Check hcL1 (.int .i64 (chkE n k p)) ([.int .i64 e, lsA k n sJ, .int .i64 p, .tuple []], []) := fun h => ⟨[.int .i64 _], by kernel_rfl, avLe0_int h.symm⟩
    by_cases hp : 1 ≤ p ∧ p ≤ 6
    · have e1 : i64.wrap (i64.wrap (2 * p) + 2) = 2 * p + 2 := by rw [wrap_i64 (show -2 ^ 63 ≤ 2 * p by omega) (by omega)]; exact wrap_i64 (by omega) (by omega)
      simp only [ATree.all, allP, decide_eq_true_eq, decide_eq_false_iff_not, Bool.not_eq_true', Bool.not_eq_false', cond_true, cond_false, Int.toNat_natCast, Int.toNat_zero, ratV_rat, e1]
      (repeat' with_reducible first | refine And.intro ?_ ?_ | intro _)
      all_goals first | exact absurd ‹true = false› (by decide) | exact absurd ‹false = true› (by decide) | omega | (exfalso; omega) | exact allRat_ls (by decide) | assumption | exact r (chkE_short (by omega) (by omega)) | exact r (chkE_size (by omega) (by omega) (by omega)) | exact ⟨1, ⟨Nat.le_refl _, by omega, ⟨by omega, by omega, by omega, by omega⟩, fun j hj => by omega⟩, ReOK.vals rfl⟩ | skip
      skip
    · simp only [ATree.all, allP, decide_eq_true_eq, decide_eq_false_iff_not, Bool.not_eq_true', Bool.not_eq_false', cond_true, cond_false, Int.toNat_natCast]
      (repeat' with_reducible first | refine And.intro ?_ ?_ | intro _)
      all_goals first | exact absurd ‹true = false› (by decide) | exact absurd ‹false = true› (by decide) | omega | (exfalso; omega) | exact r (chkE_arg (by omega)) | skip
      skip
  · have hq := h3
    unfold inR at hq
    have e1 : i64.wrap ((i : Int) + 1) = ((i + 1 : Nat) : Int) := by rw [wrap_i64 (by omega) (by omega)]; rfl
    have e2 : i64.wrap ((i : Int) - 1) = (i : Int) - 1 := wrap_i64 (by omega) (by omega)
    have e3 : ((i : Int) - 1).toNat = i - 1 := by omega
    simp only [ATree.all, allP, decide_eq_true_eq, decide_eq_false_iff_not, Int.toNat_natCast, cmpR_lt, e1, e2, e3]
    refine ⟨fun hi => ⟨by omega, fun hlt => ⟨[.int .i64 5], by kernel_rfl, avLe0_int (chkE_bad (by omega) (by omega) (by omega) fun h => ?_).symm⟩, fun hge => ⟨i + 1, ⟨by omega, by omega, h3, fun j hj => ?_⟩, by dsimp only; omega, ReOK.vals rfl⟩⟩, fun hi => ⟨rfl, i, ⟨h3, fun j hj => h4 j (by omega)⟩, ReOK.vals rfl⟩⟩
    · have := h.1 (i - 1) (by omega)
      rw [show i - 1 + 1 = i by omega] at this
      grind
    · by_cases he : j + 1 = i
      · subst he
        rw [Nat.add_sub_cancel] at hge
        grind
      · exact h4 j (by omega)
  rw [show behind hcC [1,1,1,1,0,1] = [hcX] from by kernel_rfl]
  refine AWpL.weak rfl hle (AWpL.one ?_)
  refine AWp.hloop0 hT GhC_ok hm (x := hcX) [1,0,1] (i := 2) (y := part hcX [1,0,1,0,0]) (by kernel_rfl) (by kernel_rfl) (by kernel_rfl) hk (f1 := []) (f2 := [47, 58, 65, 71, 77, 80, 87, 92]) 60 hcL2 1 (fun i : Nat => hcV2 n k p (dsN k n) (dsF k n) i) (fun _ => []) (fun i => i ≤ dsN k n ∧ ∀ j, j < i → ¬ badJ n k p.toNat j) (fun _ => ∀ j, j < dsN k n → ¬ badJ n k p.toNat j) (fun i => dsN k n - i) (RetV fn_ref08_Check hcL2 (.int .i64 (chkE n k p))) ⟨_, hc_m, ?_⟩ (fun i ⟨h3, h4⟩ => ⟨_, hc_2, ?_⟩) (fun i s' h3 hle => ?_) (fun v s' hv hs' => hv.fin hs')
  · simp only [ATree.all, allP]
    exact ⟨⟨allRat_ls (Nat.le_refl _), hn⟩, 0, ⟨Nat.zero_le _, fun j hj => absurd hj (Nat.not_lt_zero j)⟩, ReOK.vals rfl⟩
  · obtain ⟨q, rfl⟩ : ∃ q : Nat, p = (q : Int) := ⟨p.toNat, by have := h1.1; omega⟩
    have hq := h1
    unfold inR at hq
    have hd := dsN_le (k := k) (n := n)
    have e1 : i64.wrap ((q : Int) + 1) = ((q + 1 : Nat) : Int) := by rw [wrap_i64 (by omega) (by omega)]; rfl
    have e2 : i64.wrap ((i : Int) + 1) = ((i + 1 : Nat) : Int) := by rw [wrap_i64 (by omega) (by omega)]; rfl
    have e3 : i64.wrap ((dsN k n : Int) - 1) = (dsN k n : Int) - 1 := wrap_i64 (by omega) (by omega)
    have h4 : ∀ j, j < i → ¬ badJ n k q j := fun j hj => by have := h4 j hj; rwa [Int.toNat_natCast] at this
    obtain ⟨c, hc⟩ : ∃ c, tmsN k (dsF k n i) n = c := ⟨_, rfl⟩
    have hc' : tmsN (fun i => ratV (rat (k i) sJ)) (dsF k n i) n = c := hc
    have r : ∀ {v w x : AV}, (i = 0 ∨ i + 1 = dsN k n) ∧ c ≠ q + 1 ∨ q + 1 < c ∨ 0 < i ∧ i + 1 < dsN k n ∧ q < c → i < dsN k n → RetV fn_ref08_Check hcL2 (.int .i64 (chkE n k q)) ([.int .i64 5, v, w, x, .int .i64 i], []) := fun h hi => ⟨[.int .i64 5], by kernel_rfl, avLe0_int (chkE_bad (by omega) (by omega) (by omega) fun hk => hk.2.2 i hi ((badJ_iff (by omega) h2 hi).1 (by rw [Int.toNat_natCast]; unfold badJ; rw [hc]; exact h))).symm⟩
    have nx : ¬ ((i = 0 ∨ i + 1 = dsN k n) ∧ c ≠ q + 1 ∨ q + 1 < c ∨ 0 < i ∧ i + 1 < dsN k n ∧ q < c) → ∀ j, j < i + 1 → ¬ badJ n k ((q : Int)).toNat j := fun h j hj => by
      rw [Int.toNat_natCast]
      by_cases he : j = i
      · subst he; unfold badJ; rw [hc]; exact h
      · exact h4 j (by omega)
    simp only [ATree.all, allP, decide_eq_true_eq, decide_eq_false_iff_not, Bool.not_eq_true', Bool.not_eq_false', cond_true, cond_false, Int.toNat_natCast, hc', e1, e2, e3, bne_iff_ne, bne_eq_false_iff_eq, ne_eq, beq_iff_eq, beq_eq_false_iff_ne]
    clear hc hc'
    (repeat' with_reducible first | refine And.intro ?_ ?_ | intro _)
    all_goals first
      | exact absurd ‹true = false› (by decide)
      | exact absurd ‹false = true› (by decide)
      | omega
      | (exfalso; omega)
      | exact allRat_ls (by decide)
      | assumption
      | exact ⟨rfl, i, fun j hj => h4 j (by omega), ReOK.vals rfl⟩
      | exact r (by omega) (by omega)
      | exact ⟨i + 1, ⟨by omega, nx (by omega)⟩, by dsimp only; omega, ReOK.vals rfl⟩
      | skip
    skip
  · rw [show behind hcX [1,0,1] = [part hcX [1,1]] from by kernel_rfl]
    refine AWpL.weak rfl hle ((AWpL.fin hT GhC_ok hm 60 hc_e (by kernel_rfl) ?_).mono fun _ _ h => .inl h)
    have hq := h1
    unfold inR at hq
    have e : ∀ j, j < dsN k n → ¬ badK n k p.toNat (dsF k n j) := fun j hj h => h3 j hj ((badJ_iff (by omega) h2 hj).2 h)
    have e2 := ds_two (k := k) (n := n) (by omega) h2
    simp only [ATree.all, allP, decide_eq_true_eq, decide_eq_false_iff_not]
    refine ⟨fun h => avLe0_int (chkE_bad (by omega) (by omega) (by omega) fun hk => hk.2.1 (e2.1 (by omega))).symm, fun h => avLe0_int (chkE_ok (by omega) (by omega) (by omega) ⟨h2, fun h4 => h (by have := e2.2 h4; omega), e⟩).symm⟩
noncomputable def s_chk : Spec := spL (kC (kL sJ) (kC kI kN)) (fun a => .int .i64 (chkE a.1.1 a.1.2 a.2.1)) fun a => [a.1.1 < 2 ^ 40]
theorem s_hCh_ok : ∀ K args pre r, s_chk K args pre = some r → FOK P ref08_Check K args pre r := spL_ok fun ⟨⟨n, k⟩, p, _⟩ K hn => hCh_ok hn K
end Go.Am.B

/- Poles, lists of poles, curves, surfaces as arguments. -/
namespace Go.Am.B
open Go Go.Am.N AV
def plV : AV → Pl
  | .agg [.agg [x, y, z], w] => ⟨⟨ratV x, ratV y, ratV z⟩, ratV w⟩
  | _ => ⟨⟨0, 0, 0⟩, 0⟩
def allPl (f : Nat → AV) (n s : Nat) : Prop := ∀ i, i < n → avLe0 (f i) (plA (plV (f i)) s)
abbrev lpA (f : Nat → Pl) (n s : Nat) : AV := .tab 12 n (fun i => plA (f i) s)
theorem avLe0_plA' {u v : Pl} {n k : Nat} (h : u = v) (hk : n ≤ k) : avLe0 (plA u n) (plA v k) :=
  h ▸ avLe0_agg ⟨avLe0_vA rfl hk, avLe0_rat_up rfl hk, trivial⟩
theorem allPl_lp {f : Nat → Pl} {n s s' : Nat} (h : s ≤ s') : allPl (fun i => plA (f i) s) n s' := fun _ _ => avLe0_plA' rfl h
def lpOf : AV → Option (Nat × (Nat → AV))
  | .tab 12 n f => some (n, f)
  | .nil => some (0, fun _ => .nil)
  | _ => none
theorem lpOf_ok {v : AV} {n s : Nat} {f : Nat → AV} (h : lpOf v = some (n, f)) (ha : allPl f n s) : avLe0 v (lpA (fun i => plV (f i)) n s) := by
  unfold lpOf at h
  split at h
  · simp only [Option.some.injEq, Prod.mk.injEq] at h
    obtain ⟨rfl, rfl⟩ := h
    exact avLe0_tab ha
  · simp only [Option.some.injEq, Prod.mk.injEq] at h
    obtain ⟨rfl, rfl⟩ := h
    exact avLe0_nil_tab (by omega)
  · simp at h
def kLp (s : Nat) : Kind (Nat × (Nat → Pl)) := ⟨fun v => match lpOf v with
  | some (n, f) => some ((n, fun i => plV (f i)), [allPl f n s])
  | none => none, fun a => lpA a.2 a.1 s, fun {v a q} h hq => by
    split at h
    · rename_i h1
      simp only [Option.some.injEq, Prod.mk.injEq] at h
      obtain ⟨rfl, rfl⟩ := h
      exact lpOf_ok h1 hq
    · simp at h⟩
def kVs (s : Nat) : Kind V3 := ⟨fun v => match v with
  | .agg [x, y, z] => match ratOf x, ratOf y, ratOf z with
    | some (x, a), some (y, b), some (z, c) => some (⟨x, y, z⟩, [a ≤ s, b ≤ s, c ≤ s])
    | _, _, _ => none
  | _ => none, fun a => vA a s, fun {v a q} h hq => by
    split at h
    · split at h
      · rename_i h1 h2 h3
        simp only [Option.some.injEq, Prod.mk.injEq] at h
        obtain ⟨rfl, rfl⟩ := h
        exact avLe0_agg ⟨(ratOf_ok h1).trans (avLe0_rat_up rfl hq.1), (ratOf_ok h2).trans (avLe0_rat_up rfl hq.2.1), (ratOf_ok h3).trans (avLe0_rat_up rfl hq.2.2), trivial⟩
      · simp at h
    · simp at h⟩
abbrev hmA (h : Pl) (s : Nat) : AV := .agg [.rat h.n.x s, .rat h.n.y s, .rat h.n.z s, .rat h.d s]
def kHs (s : Nat) : Kind Pl := ⟨fun v => match v with
  | .agg [x, y, z, w] => match ratOf x, ratOf y, ratOf z, ratOf w with
    | some (x, a), some (y, b), some (z, c), some (w, d) => some (⟨⟨x, y, z⟩, w⟩, [a ≤ s, b ≤ s, c ≤ s, d ≤ s])
    | _, _, _, _ => none
  | _ => none, fun a => hmA a s, fun {v a q} h hq => by
    split at h
    · split at h
      · rename_i h1 h2 h3 h4
        simp only [Option.some.injEq, Prod.mk.injEq] at h
        obtain ⟨rfl, rfl⟩ := h
        exact avLe0_agg ⟨(ratOf_ok h1).trans (avLe0_rat_up rfl hq.1), (ratOf_ok h2).trans (avLe0_rat_up rfl hq.2.1), (ratOf_ok h3).trans (avLe0_rat_up rfl hq.2.2.1), (ratOf_ok h4).trans (avLe0_rat_up rfl hq.2.2.2), trivial⟩
      · simp at h
    · simp at h⟩
structure Cu where
  p : Int
  n : Nat
  k : Nat → Rat
  m : Nat
  f : Nat → Pl
abbrev cuA (c : Cu) (s r : Nat) : AV := .agg [.int .i64 c.p, lsA c.k c.n s, lpA c.f c.m r]
def kCu (s r : Nat) : Kind Cu := ⟨fun v => match v with
  | .agg [p, k, f] => match kI.read p, (kL s).read k, (kLp r).read f with
    | some (p, q1), some ((n, k), q2), some ((m, f), q3) => some (⟨p, n, k, m, f⟩, q1 ++ (q2 ++ q3))
    | _, _, _ => none
  | _ => none, fun a => cuA a s r, fun {v a q} h hq => by
    split at h
    · split at h
      · rename_i h1 h2 h3
        simp only [Option.some.injEq, Prod.mk.injEq] at h
        obtain ⟨rfl, rfl⟩ := h
        obtain ⟨q1, hq⟩ := allP_append.1 hq
        obtain ⟨q2, q3⟩ := allP_append.1 hq
        exact avLe0_agg ⟨kI.ok h1 q1, (kL s).ok h2 q2, (kLp r).ok h3 q3, trivial⟩
      · simp at h
    · simp at h⟩
structure Sf where
  u : Int
  v : Int
  a : Nat
  ku : Nat → Rat
  b : Nat
  kv : Nat → Rat
  n : Nat
  m : Nat
  f : Nat → Nat → Pl
end Go.Am.B

/- ref02: Valid, Valids, Bits; ref04.Valid; ref10: Short, shortPoles. -/
namespace Go.Am.B
open Go Go.Am.N AV ATree AEx IntKind
theorem is_fVal : FnIs P ref01_Valid fn_ref01_Valid (codeOf fn_ref01_Valid) := fnIs get_ref01_Valid (by kernel_rfl) (by kernel_rfl) (by kernel_rfl)
theorem is_eVal : FnIs P ref02_Valid fn_ref02_Valid (codeOf fn_ref02_Valid) := fnIs get_ref02_Valid (by kernel_rfl) (by kernel_rfl) (by kernel_rfl)
theorem is_eBits : FnIs P ref02_Bits fn_ref02_Bits (codeOf fn_ref02_Bits) := fnIs get_ref02_Bits (by kernel_rfl) (by kernel_rfl) (by kernel_rfl)
theorem is_eVals : FnIs P ref02_Valids fn_ref02_Valids (codeOf fn_ref02_Valids) := fnIs get_ref02_Valids (by kernel_rfl) (by kernel_rfl) (by kernel_rfl)
theorem is_gVal : FnIs P ref04_Valid fn_ref04_Valid (codeOf fn_ref04_Valid) := fnIs get_ref04_Valid (by kernel_rfl) (by kernel_rfl) (by kernel_rfl)
theorem is_jSh : FnIs P ref10_Short fn_ref10_Short (codeOf fn_ref10_Short) := fnIs get_ref10_Short (by kernel_rfl) (by kernel_rfl) (by kernel_rfl)
theorem is_jSp : FnIs P ref10_shortPoles fn_ref10_shortPoles (codeOf fn_ref10_shortPoles) := fnIs get_ref10_shortPoles (by kernel_rfl) (by kernel_rfl) (by kernel_rfl)
def s_fVal : Spec := pureSpec fun l => match l with
  | [.mag N] => some (pres (.bool true) [nl N < 2 ^ 40])
  | _ => none
def GeV : Contracts := [(ref01_Valid, s_fVal), (ref02_Den, s_eDen), (ref01_Gcd, s_fGcd)]
def s_eVal : Spec := pureSpec fun l => match l with
  | [.rat q n] => match Nat.ble n 8192 with
    | true => some (pres (.bool true) [])
    | false => none
  | _ => none
def bitsR (q : Rat) : Nat := max (bitsN q.num.natAbs) (bitsN q.den)
def s_eBits : Spec := pureSpec fun l => match l with
  | [.rat q n] => match Nat.ble n 8192 with
    | true => some (pres (.int .i64 ((min (bitsR q) n : Nat) : Int)) [])
    | false => none
  | _ => none
noncomputable def GVs : Contracts := [nG, (ref02_Valid, s_eVal)]
noncomputable def GBs : Contracts := [nG, (ref02_Bits, s_eBits)]
abbrev vsL : List Nat := [2, 0, 3]
abbrev vsV (n : Nat) (k : Nat → Rat) (i : Nat) : List AV := [.bool false, ls k n, .int .i64 i]
abbrev shV (n : Nat) (k : Nat → Rat) (i : Nat) : List AV := [.bool false, lsA k n 2048, .int .i64 i]
noncomputable abbrev vsC : Code := codeOf fn_ref02_Valids
noncomputable abbrev shC : Code := codeOf fn_ref10_Short
def s_jSh : Spec := spL (kC (kL 2048) kN) (fun _ => .bool true) fun a => [a.1.1 < 2 ^ 40]
noncomputable def GSp : Contracts := [nG, (ref10_Short, s_jSh)]
abbrev spV (n : Nat) (f : Nat → Pl) (i : Nat) : List AV := [.bool false, lpA f n 2048, .int .i64 i]
noncomputable abbrev spC : Code := codeOf fn_ref10_shortPoles
noncomputable def gVal : Contracts := [(ref04_Valid, aSpec T [sG, (ref02_Valid, s_eVal)] [] 60 fn_ref04_Valid)]
def GeB : Contracts := [(ref01_Bits, s_fBits), (ref02_Den, s_eDen)]
theorem fval_end {N : Nat} : funT T [] [6] 60 fn_ref01_Valid (codeOf fn_ref01_Valid) ⟨zipSlots 0 [.mag N], [], 0⟩ =
    let c2 : Bool := (↑(nl N) : Int) == (0 : Int); let c1 : Int := i64.wrap ((↑(nl N) : Int) - (1 : Int)); some (fork c2 (must [c2 = true] (leaf ret [AV.bool true])) (must [c2 = false, (0 : Int) ≤ c1 ∧ c1.toNat < nl N] (leaf ret [AV.bool (bif false then true else (↑(limb N c1.toNat) : Int) != (0 : Int))]))) := by kernel_rfl
theorem eval_end {q : Rat} {n : Nat} : funT T GeV [19, 27, 32, 35, 42, 51] 60 fn_ref02_Valid (codeOf fn_ref02_Valid) ⟨zipSlots 0 [.rat q n], [], 0⟩ =
    let c19 : Bool := bif !true then true else !true; let c17 : Nat := Int.toNat (0 : Int); let c13 : Bool := decide (q < 0); let c11 : Nat := q.num.natAbs; let c8 : ATree (List AV) := leaf ret [AV.bool false]; let c5 : Nat := 2 ^ 40; let c3 : Prop := 0 < 1; let c2 : Nat := if q.den = 1 then 0 else q.den; let c20 : Int := (↑(nl c2) : Int); let c16 : Prop := nl c2 < c5; let c15 : Prop := nl c11 < c5; let c14 : Bool := (↑(nl (c11.gcd q.den)) : Int) == (1 : Int); let c10 : Prop := (0 : Int) ≤ (0 : Int) ∧ c17 < nl c2; let c9 : Bool := bif c19 then true else false; let c6 : Bool := (↑(nl c11) : Int) == (0 : Int); let c4 : Bool := bif c19 then true else bif true then (↑(limb c2 c17) : Int) == (1 : Int) else false; let c22 : List Prop := [c3, c6 = true, c3, c13 = true]; let c18 : List Prop := [c3, c6 = true, c3, c13 = false, c3]; let c7 : Bool := c20 == (1 : Int); let c1 : ATree (List AV) := must [c3, c3, nl c11 < 2 ^ 38, nl q.den < 2 ^ 38] (fork c14 (must [c14 = true, (0 : Int) ≤ (0 : Int) ∧ c17 < nl (c11.gcd q.den)] (leaf ret [AV.bool (bif true then (↑(limb (c11.gcd q.den) c17) : Int) == (1 : Int) else false)])) (must [c14 = false] c8)); let c21 : ATree (List AV) := fork true c8 c1; let c12 : ATree (List AV) := fork (bif false then true else bif true then bif false then true else decide (c20 > (0 : Int)) else false) c8 c1; some (fork c7 (fork c4 (must [c3, c15, c3, c16, c3, c7 = true, c3, c10, c4 = true] c21) (fork c6 (fork c13 (must (c3 :: c15 :: c3 :: c16 :: c3 :: (c7 = true) :: c3 :: c10 :: (c4 = false) :: c22) c21) (must (c3 :: c15 :: c3 :: c16 :: c3 :: (c7 = true) :: c3 :: c10 :: (c4 = false) :: c18) c12)) (must [c3, c15, c3, c16, c3, c7 = true, c3, c10, c4 = false, c3, c6 = false] (fork false c8 c1)))) (fork false (must [c3, c15, c3, c16, c3, c7 = false, c9 = true] c21) (fork c6 (fork c13 (must (c3 :: c15 :: c3 :: c16 :: c3 :: (c7 = false) :: (c9 = false) :: c22) c21) (must (c3 :: c15 :: c3 :: c16 :: c3 :: (c7 = false) :: (c9 = false) :: c18) c12)) (must [c3, c15, c3, c16, c3, c7 = false, c9 = false, c3, c6 = false] (fork false c8 c1))))) := by kernel_rfl
theorem vs_pre {n : Nat} {k : Nat → Rat} : seeL T GVs [] 60 vsL (before vsC [1,0,1]) ⟨zipSlots 0 [ls k n], [], 0⟩ =
    some (leaf normal ([AV.bool false, tab 3 n fun i ↦ rat (k i) 4096, int i64 (0 : Int)], [])) := by kernel_rfl
theorem vs_b {n i : Nat} {k : Nat → Rat} : seeL T GVs [7] 60 vsL [part vsC [1,0,1,0,0]] ⟨zipL vsL (vsV n k i), [], 1⟩ =
    let c2 : AV := tab 3 n fun i ↦ rat (k i) 4096; let c1 : Int := (↑i : Int); let c3 : Int := c1 + (1 : Int); some (fork (decide (c1 < (↑n : Int))) (must [(0 : Int) ≤ c1 ∧ c1.toNat < n] (must [-(2 : Int) ^ 63 ≤ c3 ∧ c3 < (2 : Int) ^ 63] (leaf normal ([AV.bool false, c2, int i64 c3], [])))) (leaf (exit 0) ([AV.bool false, c2, int i64 c1], []))) := by kernel_rfl
theorem vs_e {n i : Nat} {k : Nat → Rat} : endL T GVs [] 60 fn_ref02_Valids [part vsC [1,1]] ⟨zipL vsL (vsV n k i), [], 1⟩ =
    some (leaf ret [AV.bool true]) := by kernel_rfl
theorem sh_pre {n : Nat} {k : Nat → Rat} : seeL T GBs [] 60 vsL (before shC [1,0,1]) ⟨zipSlots 0 [lsA k n 2048], [], 0⟩ =
    some (leaf normal ([AV.bool false, tab 3 n fun i ↦ rat (k i) 2048, int i64 (0 : Int)], [])) := by kernel_rfl
theorem sh_b {n i : Nat} {k : Nat → Rat} : seeL T GBs [7, 200015] 60 vsL [part shC [1,0,1,0,0]] ⟨zipL vsL (shV n k i), [], 1⟩ =
    let c3 : AV := tab 3 n fun i ↦ rat (k i) 2048; let c1 : Int := (↑i : Int); let c4 : Int := c1 + (1 : Int); let c2 : Int := (↑(Min.min (bitsR (k c1.toNat)) 2048) : Int); some (fork (decide (c1 < (↑n : Int))) (must [(0 : Int) ≤ c1 ∧ c1.toNat < n] (must [decide (c2 > (2048 : Int)) = false] (must [-(2 : Int) ^ 63 ≤ c4 ∧ c4 < (2 : Int) ^ 63] (leaf normal ([AV.bool false, c3, int i64 c4], []))))) (leaf (exit 0) ([AV.bool false, c3, int i64 c1], []))) := by kernel_rfl
theorem sh_e {n i : Nat} {k : Nat → Rat} : endL T GBs [] 60 fn_ref10_Short [part shC [1,1]] ⟨zipL vsL (shV n k i), [], 1⟩ =
    some (leaf ret [AV.bool true]) := by kernel_rfl
theorem sp_pre {n : Nat} {f : Nat → Pl} : seeL T GSp [] 60 vsL (before spC [1,0,1]) ⟨zipSlots 0 [lpA f n 2048], [], 0⟩ =
    some (leaf normal ([AV.bool false, tab 12 n fun i ↦ agg [agg [rat (f i).n.x 2048, rat (f i).n.y 2048, rat (f i).n.z 2048], rat (f i).d 2048], int i64 (0 : Int)], [])) := by kernel_rfl
theorem sp_b {n i : Nat} {f : Nat → Pl} : seeL T GSp [7] 60 vsL [part spC [1,0,1,0,0]] ⟨zipL vsL (spV n f i), [], 1⟩ =
    let c4 : Int := (↑(3 : Nat) : Int); let c3 : Int := (↑i : Int); let c1 : AV := tab 12 n fun i ↦ agg [agg [rat (f i).n.x 2048, rat (f i).n.y 2048, rat (f i).n.z 2048], rat (f i).d 2048]; let c6 : Int := c3 + (1 : Int); let c5 : V3 := (f c3.toNat).n; let c2 : Prop := (0 : Int) ≤ c3 ∧ c3.toNat < n; some (fork (decide (c3 < (↑n : Int))) (must [c2, (0 : Int) ≤ (0 : Int) ∧ (0 : Int) < c4, c2, (0 : Int) ≤ (1 : Int) ∧ (1 : Int) < c4, c2, (0 : Int) ≤ (2 : Int) ∧ (2 : Int) < c4, c2, (4 : Nat) * 3 ≤ 2 ^ 24, allRat (fun i ↦ nth [rat c5.x 2048, rat c5.y 2048, rat c5.z 2048, rat (f c3.toNat).d 2048] (rat 0 1) (i + 0)) 4 2048, (4 : Nat) < 2 ^ 40] (must [-(2 : Int) ^ 63 ≤ c6 ∧ c6 < (2 : Int) ^ 63] (leaf normal ([AV.bool false, c1, int i64 c6], [])))) (leaf (exit 0) ([AV.bool false, c1, int i64 c3], []))) := by kernel_rfl
theorem sp_e {n i : Nat} {f : Nat → Pl} : endL T GSp [] 60 fn_ref10_shortPoles [part spC [1,1]] ⟨zipL vsL (spV n f i), [], 1⟩ =
    some (leaf ret [AV.bool true]) := by kernel_rfl
theorem ebits_end {q : Rat} {n : Nat} : funT T GeB [] 60 fn_ref02_Bits (codeOf fn_ref02_Bits) ⟨zipSlots 0 [.rat q n], [], 0⟩ =
    let c3 : Nat := q.num.natAbs; let c2 : Int := (↑(bitsN q.den) : Int); let c1 : Int := (↑(bitsN c3) : Int); some (must [(0 : Nat) < 1, nl c3 < 2 ^ 40, nl c3 = nl c3, (0 : Nat) < 1, nl q.den < 2 ^ 40, nl q.den = nl q.den] (leaf ret [int i64 (if c1 < c2 then c2 else c1)])) := by kernel_rfl
theorem s_fVal_ok : ∀ K args pre r, s_fVal K args pre = some r → FOK P ref01_Valid K args pre r := by
  refine pureSpec_ok fun K args r hk hs _ => ?_
  split at hs
  · rename_i N
    simp only [Option.some.injEq] at hs
    subst hs
    refine fok_tree (r := pres (.bool true) [nl N < 2 ^ 40]) hT gok_nil hm is_fVal rfl (of_decide_eq_true (by kernel_rfl)) rfl 60 fval_end (fun need => ?_) K []
    have need : nl N < 2 ^ 40 := need
    have e : nl N ≠ 0 → i64.wrap ((nl N : Int) - 1) = (nl N : Int) - 1 := fun h => wrap_i64 (by omega) (by omega)
    simp only [ATree.all, allP, beq_iff_eq, beq_eq_false_iff_ne, ne_eq]
    refine ⟨fun h => ⟨h, .refl _⟩, fun h => ?_⟩
    have h0 : nl N ≠ 0 := by omega
    have hN : N ≠ 0 := fun h2 => h0 (by rw [h2]; rfl)
    rw [e h0, show ((nl N : Int) - 1).toNat = nl N - 1 by omega]
    refine ⟨⟨h, ⟨by omega, by omega⟩⟩, avLe0_bool ?_⟩
    rw [cond_false, bne_iff_ne]
    have := limb_top hN
    omega
  · simp at hs
theorem eVal_ok {q : Rat} {n : Nat} (hn : n ≤ 8192) (K : Nat) : FOK P ref02_Valid K [.rat q n] [] (pres (.bool true) []) := by
  refine fok_szp fun ⟨hq, _⟩ => ?_
  have hq : Sz q n := hq
  refine fok_tree (r := pres (.bool true) []) hT (gok_cons s_fVal_ok (gok_cons s_eDen_ok (gok_cons s_fGcd_ok gok_nil))) hm is_eVal rfl (of_decide_eq_true (by kernel_rfl)) rfl 60 eval_end (fun _ => ?_) K []
  have hg : Nat.gcd q.num.natAbs q.den = 1 := q.reduced
  obtain ⟨d, hd⟩ : ∃ d, d = if q.den = 1 then 0 else q.den := ⟨_, rfl⟩
  have k1 := nl_lt38 (n := n) hq.1 (by omega)
  have k2 := nl_lt38 (n := n) hq.2 (by omega)
  have k3 : nl d ≤ nl q.den := by rw [hd]; exact nl_mono denN_le
  have k4 : nl d = 1 → ¬ (limb d 0 : Int) = 1 := fun h1 h2 => by
    have h3 : d < 2 ^ 32 := by have := nl_spec.1 (show nl d ≤ 1 by omega); simpa using this
    have h4 : limb d 0 = d := by unfold limb; simp; omega
    rw [h4] at h2
    have h5 : d = 1 := by omega
    rw [hd] at h5
    split at h5 <;> omega
  have k5 : nl q.num.natAbs = 0 → ¬ q < 0 ∧ nl d = 0 := fun h1 => by
    have h2 : q.num.natAbs = 0 := by
      by_cases h : q.num.natAbs = 0
      · exact h
      · unfold nl at h1; rw [if_neg h] at h1; omega
    have h3 : q = 0 := Rat.num_eq_zero.1 (by omega)
    subst h3
    rw [hd]
    exact ⟨by decide, by decide⟩
  simp only [ATree.all, allP, hg, ← hd, show nl 1 = 1 from by decide, show limb 1 0 = 1 from by decide, Int.toNat_zero]
  by_cases h7 : nl d = 1
  · have h4 := k4 h7
    have h6 : nl q.num.natAbs ≠ 0 := fun h => by have := (k5 h).2; omega
    simp [h7, h4, h6]
    exact ⟨by omega, ⟨by omega, by omega⟩, .refl _⟩
  · by_cases h6 : nl q.num.natAbs = 0
    · obtain ⟨h8, h9⟩ := k5 h6
      simp [h9, h6, h8]
      exact ⟨by omega, .refl _⟩
    · simp [h7, h6]
      exact ⟨fun h => absurd h (by omega), fun h => ⟨⟨by omega, by omega, h⟩, ⟨by omega, by omega⟩, .refl _⟩⟩
theorem s_eVal_ok : ∀ K args pre r, s_eVal K args pre = some r → FOK P ref02_Valid K args pre r := by
  refine pureSpec_ok fun K args r hk hs _ => ?_
  split at hs
  · split at hs
    · rename_i hb
      simp only [Option.some.injEq] at hs
      subst hs
      exact eVal_ok (Nat.le_of_ble_eq_true hb) K
    · simp at hs
  · simp at hs
theorem s_eBits_ok : ∀ K args pre r, s_eBits K args pre = some r → FOK P ref02_Bits K args pre r := by
  refine pureSpec_ok fun K args r hk hs _ => ?_
  split at hs
  · rename_i q n
    split at hs
    · rename_i hb
      have hn := Nat.le_of_ble_eq_true hb
      simp only [Option.some.injEq] at hs
      subst hs
      refine fok_szp fun ⟨hq, _⟩ => ?_
      have hq : Sz q n := hq
      refine fok_tree (r := pres (.int .i64 ((min (bitsR q) n : Nat) : Int)) []) hT (gok_cons s_fBits_ok (gok_cons s_eDen_ok gok_nil)) hm is_eBits rfl (of_decide_eq_true (by kernel_rfl)) rfl 60 ebits_end (fun _ => ?_) K []
      have n1 := nl_lt38 (n := n) hq.1 (by omega)
      have n2 := nl_lt38 (n := n) hq.2 (by omega)
      have b1 := bitsN_le.2 hq.1
      have b2 := bitsN_le.2 hq.2
      simp only [ATree.all, allP]
      refine ⟨⟨by omega, by omega, trivial, by omega, by omega, trivial⟩, avLe0_int ?_⟩
      unfold bitsR
      split <;> omega
    · simp at hs
  · simp at hs
theorem GVs_ok : GOK P GVs := gok_plain (gok_cons s_eVal_ok gok_nil)
theorem GBs_ok : GOK P GBs := gok_plain (gok_cons s_eBits_ok gok_nil)
theorem eVals_ok {n : Nat} {k : Nat → Rat} (hn : n < 2 ^ 40) (K : Nat) : FOK P ref02_Valids K [ls k n] [] (pres (.bool true) []) := by
  refine fok_loop (r := pres (.bool true) []) hT GVs_ok hm is_eVals rfl (of_decide_eq_true (by kernel_rfl)) rfl [1,0,1] (i := 0) (y := part vsC [1,0,1,0,0]) (z := part vsC [1,1]) (by kernel_rfl) (by kernel_rfl) (by kernel_rfl) (f1 := []) (f2 := [7]) (f3 := []) 60 vsL 1
    (fun i : Nat => vsV n k i) (fun _ => []) (fun i => i ≤ n) (fun _ => True) (fun i => n - i) (fun _ => ⟨⟨_, vs_pre, ?_⟩, fun i hi => ⟨_, vs_b, ?_⟩, fun i hi => ⟨_, vs_e, ?_⟩⟩) K []
  · simp only [ATree.all, allP]
    exact ⟨0, Nat.zero_le _, ReOK.vals rfl⟩
  · simp only [ATree.all, allP, decide_eq_true_eq, decide_eq_false_iff_not]
    exact ⟨fun h => ⟨by omega, by omega, i + 1, by omega, by dsimp only; omega, ReOK.vals rfl⟩, fun h => ⟨rfl, i, trivial, ReOK.vals rfl⟩⟩
  · simp only [ATree.all, allP]
    exact .refl _
def s_eVals : Spec := spL (kC (kL sK) kN) (fun _ => .bool true) fun a => [a.1.1 < 2 ^ 40]
theorem s_eVals_ok : ∀ K args pre r, s_eVals K args pre = some r → FOK P ref02_Valids K args pre r := spL_ok fun ⟨⟨n, k⟩, _⟩ K hn => eVals_ok hn K
theorem jSh_ok {n : Nat} {k : Nat → Rat} (hn : n < 2 ^ 40) (K : Nat) : FOK P ref10_Short K [lsA k n 2048] [] (pres (.bool true) []) := by
  refine fok_loop (r := pres (.bool true) []) hT GBs_ok hm is_jSh rfl (of_decide_eq_true (by kernel_rfl)) rfl [1,0,1] (i := 0) (y := part shC [1,0,1,0,0]) (z := part shC [1,1]) (by kernel_rfl) (by kernel_rfl) (by kernel_rfl) (f1 := []) (f2 := [7, 200015]) (f3 := []) 60 vsL 1
    (fun i : Nat => shV n k i) (fun _ => []) (fun i => i ≤ n) (fun _ => True) (fun i => n - i) (fun _ => ⟨⟨_, sh_pre, ?_⟩, fun i hi => ⟨_, sh_b, ?_⟩, fun i hi => ⟨_, sh_e, ?_⟩⟩) K []
  · simp only [ATree.all, allP]
    exact ⟨0, Nat.zero_le _, ReOK.vals rfl⟩
  · simp only [ATree.all, allP, decide_eq_true_eq, decide_eq_false_iff_not]
    exact ⟨fun h => ⟨by omega, by omega, by omega, i + 1, by omega, by dsimp only; omega, ReOK.vals rfl⟩, fun h => ⟨rfl, i, trivial, ReOK.vals rfl⟩⟩
  · simp only [ATree.all, allP]
    exact .refl _
theorem s_jSh_ok : ∀ K args pre r, s_jSh K args pre = some r → FOK P ref10_Short K args pre r := spL_ok fun ⟨⟨n, k⟩, _⟩ K hn => jSh_ok hn K
theorem GSp_ok : GOK P GSp := gok_plain (gok_cons s_jSh_ok gok_nil)
theorem jSp_ok {n : Nat} {f : Nat → Pl} (hn : n < 2 ^ 40) (K : Nat) : FOK P ref10_shortPoles K [lpA f n 2048] [] (pres (.bool true) []) := by
  refine fok_loop (r := pres (.bool true) []) hT GSp_ok hm is_jSp rfl (of_decide_eq_true (by kernel_rfl)) rfl [1,0,1] (i := 0) (y := part spC [1,0,1,0,0]) (z := part spC [1,1]) (by kernel_rfl) (by kernel_rfl) (by kernel_rfl) (f1 := []) (f2 := [7]) (f3 := []) 60 vsL 1
    (fun i : Nat => spV n f i) (fun _ => []) (fun i => i ≤ n) (fun _ => True) (fun i => n - i) (fun _ => ⟨⟨_, sp_pre, ?_⟩, fun i hi => ⟨_, sp_b, ?_⟩, fun i hi => ⟨_, sp_e, ?_⟩⟩) K []
  · simp only [ATree.all, allP]
    exact ⟨0, Nat.zero_le _, ReOK.vals rfl⟩
  · simp only [ATree.all, allP, decide_eq_true_eq, decide_eq_false_iff_not]
    exact ⟨fun h => ⟨⟨by omega, by omega, by omega, by omega, by omega, by omega, by omega, by omega, fun j hj => by
      match j, hj with
      | 0, _ | 1, _ | 2, _ | 3, _ => exact .refl _, by omega⟩, by omega, i + 1, by omega, by dsimp only; omega, ReOK.vals rfl⟩, fun h => ⟨rfl, i, trivial, ReOK.vals rfl⟩⟩
  · simp only [ATree.all, allP]
    exact .refl _
def s_jSp : Spec := spL (kC (kLp 2048) kN) (fun _ => .bool true) fun a => [a.1.1 < 2 ^ 40]
theorem s_jSp_ok : ∀ K args pre r, s_jSp K args pre = some r → FOK P ref10_shortPoles K args pre r := spL_ok fun ⟨⟨n, f⟩, _⟩ K hn => jSp_ok hn K
theorem gVal_ok : GOK P gVal := gok_cons (aSpec_ok hT (gok_strict (gok_cons s_eVal_ok gok_nil)) hm is_gVal _ _) gok_nil
end Go.Am.B

/- ref09: part, function, Values. -/
namespace Go.Am.B
open Go Go.Am.N AV ATree AEx IntKind
theorem is_qPa : FnIs P ref09_part fn_ref09_part (codeOf fn_ref09_part) := fnIs get_ref09_part (by kernel_rfl) (by kernel_rfl) (by kernel_rfl)
theorem is_qFu : FnIs P ref09_function fn_ref09_function (codeOf fn_ref09_function) := fnIs get_ref09_function (by kernel_rfl) (by kernel_rfl) (by kernel_rfl)
theorem is_qVa : FnIs P ref09_Values fn_ref09_Values (codeOf fn_ref09_Values) := fnIs get_ref09_Values (by kernel_rfl) (by kernel_rfl) (by kernel_rfl)
def GEq : Contracts := (ref02_Quo, sp2 kR kR oQuo eNeed) :: GE0
abbrev sQ2 : Nat := 8193
def s_qPa : Spec := spL (kC (kRs sQ2) (kC (kRs sQ2) kN)) (fun a => .rat (a.1 / a.2.1) sF) fun _ => []
theorem qpa_end {a b : Rat} {n : Nat} : funT T GEq [] 60 fn_ref09_part (codeOf fn_ref09_part) ⟨zipSlots 0 [.rat a n, .rat b n], [], 0⟩ =
    let c2 : Prop := n < 2 ^ 41; let c1 : Prop := 0 < 1; some (must [c1, c1, c2, c2, c1] (must [c1, c1] (must [c1] (leaf ret [rat (a / b) (n + n)])))) := by kernel_rfl
theorem GEq_ok : GOK P GEq := gok_cons (sp2_ok fun _ _ K hn => eQuo_ok hn.1 hn.2 K) GE0_ok
theorem s_qPa_ok : ∀ K args pre r, s_qPa K args pre = some r → FOK P ref09_part K args pre r := spL_ok fun ⟨a, b, _⟩ K _ => by
  refine fok_tree (r := pres (.rat (a / b) sF) []) hT GEq_ok hm is_qPa rfl (of_decide_eq_true (by kernel_rfl)) rfl 60 qpa_end (fun _ => ?_) K []
  simp only [ATree.all, allP]
  have h1 : sQ2 = 8193 := rfl
  (repeat' with_reducible refine And.intro ?_ ?_)
  all_goals first | omega | exact (avLe0_rat_up rfl (show sQ2 + sQ2 ≤ sF by decide))
def s_qFu (d : Nat) : Spec := spL (kC (kL sK) (kC kI (kC kI (kC kI (kC (kRs sK) kN))))) (fun a => .rat (nC a.1.2 a.2.2.2.1.toNat a.2.2.2.2.1 d a.2.1.toNat) (SB d)) fun a => [a.2.2.1 = d, 0 ≤ a.2.1, 0 ≤ a.2.2.2.1, a.2.1 + d + 1 < a.1.1, a.1.1 < 2 ^ 40, a.2.2.2.1 < 2 ^ 40, d ≤ 6]
def GFu (d : Nat) : Contracts := nG :: (ref09_function, s_qFu d) :: (ref09_part, s_qPa) :: (ref02_Int, tInt) :: GE0
abbrev fuA (n : Nat) (k : Nat → Rat) (i d a : Nat) (t : Rat) : List AV := [ls k n, .int .i64 i, .int .i64 d, .int .i64 a, .rat t sK]
theorem qfu_0 {n i a : Nat} {k : Nat → Rat} {t : Rat} : funT T (nG :: (ref02_Int, tInt) :: GE0) [17] 60 fn_ref09_function (codeOf fn_ref09_function) ⟨zipSlots 0 (fuA n k i 0 a t), [], 0⟩ =
    let c1 : List Prop := [(0 : Nat) < 1]; some (fork ((↑i : Int) == (↑a : Int)) (must c1 (must c1 (leaf ret [rat (↑(1 : Int) : Rat) 1]))) (must c1 (must c1 (leaf ret [agg [AV.bool false, mag 0, mag 0]])))) := by kernel_rfl
theorem qfu_S {n i d a : Nat} {k : Nat → Rat} {t : Rat} : funT T (GFu d) [200014, 23, 29] 60 fn_ref09_function (codeOf fn_ref09_function) ⟨zipSlots 0 (fuA n k i (d + 1) a t), [], 0⟩ =
    let c22 : Prop := sK + sK + 1 ≤ sQ2; let c21 : Int := (↑d : Int); let c20 : Prop := n < 2 ^ 40; let c15 : Prop := allRat (fun i ↦ rat (k i) sK) n sK; let c14 : Int := (↑(d + 1) : Int); let c10 : Int := (↑a : Int); let c6 : Int := (↑i : Int); let c5 : Prop := 0 < 1; let c4 : Nat := 2 ^ 41; let c3 : Int := (2 : Int) ^ 63; let c19 : Prop := c10 < (2 : Int) ^ 40; let c17 : Prop := (0 : Int) ≤ c6 ∧ c6.toNat < n; let c16 : Bool := decide (c10 < c6); let c12 : List Prop := [sK < c4, sK < c4, c22, c22, c5]; let c11 : ATree (List AV) := must [c5] (must [c5] (leaf ret [agg [AV.bool false, mag 0, mag 0]])); let c9 : Int := c6 + (1 : Int); let c7 : Int := c14 - (1 : Int); let c2 : Int := c6 + c14; let c13 : Prop := -c3 ≤ c2 ∧ c2 < c3; let c8 : Int := c2 + (1 : Int); let c18 : Prop := (0 : Int) ≤ c8 ∧ c8.toNat < n; let c1 : ATree (List AV) := must (c5 :: c17 :: (sK < c4) :: (sK < c4) :: c13 :: ((0 : Int) ≤ c2 ∧ c2.toNat < n) :: c17 :: c12) (must (c13 :: (-c3 ≤ c8 ∧ c8 < c3) :: c18 :: c5 :: (sK < c4) :: (sK < c4) :: c13 :: (-c3 ≤ c8 ∧ c8 < c3) :: c18 :: (-c3 ≤ c9 ∧ c9 < c3) :: ((0 : Int) ≤ c9 ∧ c9.toNat < n) :: c12) (must [c5, -c3 ≤ c7 ∧ c7 < c3, c5, c15, sK ≤ sK, c7 = c21, (0 : Int) ≤ c6, (0 : Int) ≤ c10, c6 + c21 + (1 : Int) < (↑n : Int), c20, c19, d ≤ 6, sF < c4, SB d < c4, c5, -c3 ≤ c9 ∧ c9 < c3, -c3 ≤ c7 ∧ c7 < c3, c5, c15, sK ≤ sK, c7 = c21, (0 : Int) ≤ c9, (0 : Int) ≤ c10, c9 + c21 + (1 : Int) < (↑n : Int), c20, c19, d ≤ 6, sF < c4, SB d < c4, sF + SB d < c4, sF + SB d < c4, c5] (must [c5] (leaf ret [rat ((t - k c6.toNat) / (k c2.toNat - k c6.toNat) * nC (fun i ↦ ratV (rat (k i) sK)) c10.toNat t d c6.toNat + (k c8.toNat - t) / (k c8.toNat - k c9.toNat) * nC (fun i ↦ ratV (rat (k i) sK)) c10.toNat t d c9.toNat) (sF + SB d + (sF + SB d) + 1)])))); some (must [(c14 == (0 : Int)) = false] (fork c16 (must [c16 = true] (fork true c11 c1)) (must [c16 = false, c13] (fork (bif false then true else decide (c10 > c2)) c11 c1)))) := by kernel_rfl
def GVq (p : Nat) : Contracts := nG :: (ref08_Interval, s_kIv) :: (ref09_function, s_qFu p) :: GE0
abbrev qvL : List Nat := [0, 1, 5, 9, 11, 12, 6, 7, 8]
abbrev qvV (n : Nat) (k : Nat → Rat) (p a : Nat) (v : AV) (i : Int) : List AV := [ls k n, .int .i64 p, .ptr 0 0 3 0 [], .int .i64 a, v, .int .i64 i, .int .i64 0, .nil, .int .i64 0]
noncomputable abbrev qvC : Code := codeOf fn_ref09_Values
noncomputable abbrev qvY : Code := part qvC [1,1,1,1,0,1,0,0]
theorem qv_pre {n p : Nat} {k : Nat → Rat} {t : Rat} : seeL T (GVq p) [21] 60 qvL (before qvC [1,1,1,1,0,1]) ⟨zipSlots 0 [ls k n, .int .i64 p, .rat t sK], [], 0⟩ =
    let c7 : AV := int i64 (0 : Int); let c6 : Int := ivE n (fun i ↦ ratV (rat (k i) sK)) t; let c5 : Int := (↑p : Int); let c4 : AV := tab 3 n fun i ↦ rat (k i) 4096; let c3 : AV := ptr 0 0 (deN (rat t sK)).size 0 []; let c2 : Nat × AObj := ((0 : Nat), AObj.mk false true (deN (rat t sK)).size 1 fun x ↦ rat t 4096); let c1 : Int := (↑(ivI n (fun i ↦ ratV (rat (k i) sK)) t) : Int); some (must [(0 : Nat) < 1, allRat (fun i ↦ rat (k i) sK) n sK, sK ≤ sK, Kn n c5.toNat fun i ↦ ratV (rat (k i) sK), (0 : Int) ≤ c5, n < 2 ^ 40] (fork (c6 != (0 : Int)) (leaf ret ([c4, int i64 c5, c3, int i64 c1, tuple [], tuple [], c7, nil, int i64 c6], [c2])) (must [-(2 : Int) ^ 63 ≤ c1 - c5 ∧ c1 - c5 < (2 : Int) ^ 63] (leaf normal ([c4, int i64 c5, c3, int i64 c1, nil, int i64 (c1 - c5), c7, nil, c7], [c2]))))) := by kernel_rfl
theorem qv_0 {n p a : Nat} {k : Nat → Rat} {t : Rat} {i : Int} : seeL T (GVq p) [28] 60 qvL [qvY] ⟨zipL qvL (qvV n k p a .nil i), [(0, tP t sK)], 2⟩ =
    let c6 : Int := (↑p : Int); let c5 : Int := (↑a : Int); let c4 : AV := int i64 (0 : Int); let c3 : AV := ptr 0 0 3 0 []; let c2 : AV := tab 3 n fun i ↦ rat (k i) 4096; let c1 : Nat × AObj := ((0 : Nat), AObj.mk false true 3 1 fun x ↦ rat t 4096); some (fork (decide (i ≤ c5)) (must [(0 : Nat) < 1, allRat (fun i ↦ rat (k i) sK) n sK, sK ≤ sK, c6 = c6, (0 : Int) ≤ i, (0 : Int) ≤ c5, i + c6 + (1 : Int) < (↑n : Int), n < 2 ^ 40, c5 < (2 : Int) ^ 40, p ≤ 6, (1 : Nat) * 3 ≤ 2 ^ 24, (0 : Nat) < 1 ∧ 1 * ((56 : Nat) + 1) * 2 ≤ 2 ^ 47] (must [-(2 : Int) ^ 63 ≤ i + (1 : Int) ∧ i + (1 : Int) < (2 : Int) ^ 63] (leaf normal ([c2, int i64 c6, c3, int i64 c5, own 45058 3 0 1, int i64 (i + (1 : Int)), c4, nil, c4], [((45058 : Nat), AObj.mk true true 3 1 fun i_1 ↦ nth [rat (nC (fun i ↦ ratV (rat (k i) sK)) c5.toNat t p i.toNat) (SB p)] (rat 0 1) (i_1 + 0)), c1])))) (leaf (exit 0) ([c2, int i64 c6, c3, int i64 c5, nil, int i64 i, c4, nil, c4], [c1]))) := by kernel_rfl
theorem qv_S {n p a j : Nat} {k x : Nat → Rat} {t : Rat} {i : Int} : seeL T (GVq p) [28] 60 qvL [qvY] ⟨zipL qvL (qvV n k p a (.own 1 3 0 (j + 1)) i), [(1, rowS (j + 1) x fun _ => SB p), (0, tP t sK)], 2⟩ =
    let c7 : Int := (↑p : Int); let c6 : Int := (↑a : Int); let c5 : AV := int i64 (0 : Int); let c4 : AV := ptr 0 0 3 0 []; let c3 : AV := tab 3 n fun i ↦ rat (k i) 4096; let c2 : Nat := j + 1; let c1 : Nat × AObj := ((0 : Nat), AObj.mk false true 3 1 fun x ↦ rat t 4096); let c8 : Nat := c2 + 1; some (fork (decide (i ≤ c6)) (must [(0 : Nat) < 1, allRat (fun i ↦ rat (k i) sK) n sK, sK ≤ sK, c7 = c7, (0 : Int) ≤ i, (0 : Int) ≤ c6, i + c7 + (1 : Int) < (↑n : Int), n < 2 ^ 40, c6 < (2 : Int) ^ 40, p ≤ 6, (1 : Nat) * 3 ≤ 2 ^ 24, c8 * ((56 : Nat) + 1) * 2 ≤ 2 ^ 47] (must [-(2 : Int) ^ 63 ≤ i + (1 : Int) ∧ i + (1 : Int) < (2 : Int) ^ 63] (leaf normal ([c3, int i64 c7, c4, int i64 c6, own 45058 3 0 c8, int i64 (i + (1 : Int)), c5, nil, c5], [((45058 : Nat), AObj.mk true true 3 c8 fun i_1 ↦ if i_1 < c2 then rat (x i_1) (SB p) else nth [rat (nC (fun i ↦ ratV (rat (k i) sK)) c6.toNat t p i.toNat) (SB p)] (rat 0 1) (i_1 - c2 + 0)), c1])))) (leaf (exit 0) ([c3, int i64 c7, c4, int i64 c6, own 1 3 0 c2, int i64 i, c5, nil, c5], [((1 : Nat), AObj.mk true true 3 c2 fun i ↦ rat (x i) (SB p)), c1]))) := by kernel_rfl
theorem qv_e {n p a j : Nat} {k x : Nat → Rat} {t : Rat} {i : Int} : endL T (GVq p) [] 60 fn_ref09_Values [part qvC [1,1,1,1,1]] ⟨zipL qvL (qvV n k p a (.own 1 3 0 (j + 1)) i), [(1, rowS (j + 1) x fun _ => SB p), (0, tP t sK)], 2⟩ =
    let c1 : Int := (↑a : Int) - (↑p : Int); some (must [-(2 : Int) ^ 63 ≤ c1 ∧ c1 < (2 : Int) ^ 63] (leaf ret [int i64 c1, tab 3 (j + 1) fun i ↦ rat (x (i + 0)) (SB p), int i64 (0 : Int)])) := by kernel_rfl
theorem GFu0_ok : GOK P (nG :: (ref02_Int, tInt) :: GE0) := gok_plain (gok_cons (tInt_ok eInt_ok) GE0_ok)
theorem qFu_ok {n : Nat} {k : Nat → Rat} {t : Rat} (hn : n < 2 ^ 40) : ∀ d i a, i + d + 1 < n → a < 2 ^ 40 → d ≤ 6 → ∀ K, FOK P ref09_function K (fuA n k i d a t) [] (pres (.rat (nC k a t d i) (SB d)) [])
  | 0, i, a, hi, ha, hd, K => by
    refine fok_tree (r := pres (.rat (nC k a t 0 i) (SB 0)) []) hT GFu0_ok hm is_qFu rfl (of_decide_eq_true (by kernel_rfl)) rfl 60 qfu_0 (fun _ => ?_) K []
    simp only [ATree.all, allP, beq_iff_eq, beq_eq_false_iff_ne, ne_eq]
    refine ⟨fun h => ⟨by omega, by omega, ?_⟩, fun h => ⟨by omega, by omega, ?_⟩⟩
    · unfold nC; rw [if_pos (by omega)]; exact avLe0_rat_up rfl (by decide)
    · unfold nC; rw [if_neg (by omega)]; exact avLe0_zero (k := 65535)
  | d + 1, i, a, hi, ha, hd, K => by
    have hΓ : GOK P (GFu d) := gok_plain (gok_cons (spL_ok fun ⟨⟨n', k'⟩, i', d', a', t', _⟩ K hn' => by
      obtain ⟨h1, h2, h3, h4, h5, h6, h7⟩ := hn'
      simp only at h1 h2 h3 h4 h5 h6
      have := qFu_ok (n := n') (k := k') (t := t') h5 d i'.toNat a'.toNat (by omega) (by omega) h7 K
      unfold fuA at this
      rw [Int.toNat_of_nonneg h2, Int.toNat_of_nonneg h3] at this
      rw [h1]
      exact this) (gok_cons s_qPa_ok (gok_cons (tInt_ok eInt_ok) GE0_ok)))
    refine fok_tree (r := pres (.rat (nC k a t (d + 1) i) (SB (d + 1))) []) hT hΓ hm is_qFu rfl (of_decide_eq_true (by kernel_rfl)) rfl 60 qfu_S (fun _ => ?_) K []
    have h1 := SB_succ (d := d)
    have h2 := SB_lo (d := d)
    have h3 := SB_hi (d := d) (by omega)
    have h4 : sV = 268435456 := rfl
    have h5 := sF_is
    have h6 : sK = 4096 := rfl
    have h7 : sQ2 = 8193 := rfl
    simp only [ATree.all, allP, ratV_rat, beq_eq_false_iff_ne, ne_eq, decide_eq_true_eq, decide_eq_false_iff_not, cond_false, Int.toNat_natCast, show ((i : Int) + ((d + 1 : Nat) : Int)).toNat = i + (d + 1) by omega, show ((i : Int) + ((d + 1 : Nat) : Int) + 1).toNat = i + (d + 2) by omega, show ((i : Int) + 1).toNat = i + 1 by omega]
    rw [nC]
    (repeat' with_reducible first | refine And.intro ?_ ?_ | intro _)
    all_goals first | omega | exact allRat_ls (Nat.le_refl _) | exact absurd ‹true = false› (by decide) | (rw [if_pos (by omega)]; exact avLe0_zero (k := SB (d + 1) - 1)) | skip
    all_goals first | (rw [if_pos (by omega), show SB (d + 1) = SB (d + 1) - 1 + 1 by omega]; exact avLe0_zero) | skip
    rw [if_neg (by omega)]
    exact avLe0_rat_up rfl (by omega)
theorem GVq_ok {p : Nat} : GOK P (GVq p) := gok_plain (gok_cons s_hIv_ok (gok_cons (spL_ok fun ⟨⟨n', k'⟩, i', d', a', t', _⟩ K hn' => by
  obtain ⟨h1, h2, h3, h4, h5, h6, h7⟩ := hn'
  simp only at h1 h2 h3 h4 h5 h6
  have := qFu_ok (n := n') (k := k') (t := t') h5 p i'.toNat a'.toNat (by omega) (by omega) h7 K
  unfold fuA at this
  rw [Int.toNat_of_nonneg h2, Int.toNat_of_nonneg h3] at this
  rw [h1]
  exact this) GE0_ok))
theorem qVa_ok {n p : Nat} {k : Nat → Rat} {t : Rat} (h : Kn n p k) (hp6 : p ≤ 6) (hn : n < 2 ^ 40) (K : Nat) : FOK P ref09_Values K [ls k n, .int .i64 p, .rat t sK] [] (pres (vaRes n k p t) []) := by
  refine fok_loop (r := pres (vaRes n k p t) []) hT GVq_ok hm is_qVa rfl (of_decide_eq_true (by kernel_rfl)) rfl [1,1,1,1,0,1] (i := 0) (y := qvY) (z := part qvC [1,1,1,1,1]) (by kernel_rfl) (by kernel_rfl) (by kernel_rfl) (f1 := [21]) (f2 := [28]) (f3 := []) 60 qvL 2
    (fun j : Nat => qvV n k p (ivl n k t) (match j with
      | 0 => .nil
      | _ + 1 => .own 1 3 0 j) ((ivl n k t : Int) - p + j)) (fun j => match j with
      | 0 => [(0, tP t sK)]
      | _ + 1 => [(1, rowS j (fun j => nC k (ivl n k t) t p (ivl n k t - p + j)) fun _ => SB p), (0, tP t sK)])
    (fun j => j ≤ p + 1 ∧ ¬ ivOut n k t) (fun j => j = p + 1 ∧ ¬ ivOut n k t) (fun j => p + 1 - j) (fun _ => ⟨⟨_, qv_pre, ?_⟩, fun j ⟨hj, hin⟩ => ?_, fun j ⟨hj, hin⟩ => ?_⟩) K []
  · simp only [ATree.all, allP, ratV_rat, bne_iff_ne, ne_eq, bne_eq_false_iff_eq, Int.toNat_natCast]
    refine ⟨⟨by omega, allRat_ls (Nat.le_refl _), Nat.le_refl _, h, by omega, hn⟩, fun hout => ?_, fun hin => ?_⟩
    · have h1 := ivE_ne hout
      exact ⟨[.int .i64 0, .nil, .int .i64 (ivE n k t)], by kernel_rfl, by rw [show ivE n k t = 7 by unfold ivE; rw [if_pos h1]]; exact vaOut_out h1⟩
    · have hin := ivE_eq hin
      have hv := h.iv_in hin
      have hii : ivI n k t = ivl n k t := by unfold ivI; rw [if_neg hin]
      simp only [hii]
      exact ⟨by omega, 0, ⟨by omega, hin⟩, [(0, 0)], rfl, by simp only [Int.natCast_zero, Int.add_zero]; rfl, rfl, objsQ_one rfl rfl (avQ_eq rfl rfl) trivial⟩
  · have hv := h.iv_in hin
    cases j with
    | zero =>
      refine ⟨_, qv_0, ?_⟩
      simp only [ATree.all, allP, ratV_rat, decide_eq_true_eq, decide_eq_false_iff_not, Int.toNat_natCast, Int.natCast_zero, Int.add_zero]
      refine ⟨fun h1 => ⟨⟨by omega, allRat_ls (Nat.le_refl _), Nat.le_refl _, trivial, by omega, by omega, by omega, hn, by omega, by omega, by omega, by omega⟩, by omega, 1, ⟨by omega, hin⟩, by dsimp only; omega, [(0, 0), (1, 45058)], rfl, rfl, rfl, objsQ_cons rfl rfl rfl (fun i hi => rowOne (y := fun j => nC k (ivl n k t) t p (ivl n k t - p + j)) (by rw [show ((ivl n k t : Int) - p).toNat = ivl n k t - p by omega]; rfl) (Nat.le_refl _) hi) (objsQ_one rfl rfl (avQ_eq rfl rfl) trivial)⟩, fun h1 => by omega⟩
    | succ j =>
      refine ⟨_, qv_S, ?_⟩
      simp only [ATree.all, allP, ratV_rat, decide_eq_true_eq, decide_eq_false_iff_not, Int.toNat_natCast]
      refine ⟨fun h1 => ⟨⟨by omega, allRat_ls (Nat.le_refl _), Nat.le_refl _, trivial, by omega, by omega, by omega, hn, by omega, by omega, by omega, by omega⟩, by omega, j + 2, ⟨by omega, hin⟩, by dsimp only; omega, [(0, 0), (1, 45058)], rfl, by rw [show (ivl n k t : Int) - p + ((j + 1 : Nat) : Int) + 1 = (ivl n k t : Int) - p + ((j + 2 : Nat) : Int) by omega]; rfl, rfl,
        objsQ_cons rfl rfl rfl (fun i hi => rowAdd (y := fun j => nC k (ivl n k t) t p (ivl n k t - p + j)) (fun _ _ => rfl) (by rw [show ((ivl n k t : Int) - p + ((j + 1 : Nat) : Int)).toNat = ivl n k t - p + (j + 1) by omega]) (Nat.le_refl _) (Nat.le_refl _) hi) (objsQ_one rfl rfl (avQ_eq rfl rfl) trivial)⟩,
        fun h1 => ⟨rfl, j + 1, ⟨by omega, hin⟩, [(0, 0), (1, 1)], rfl, rfl, rfl, objsQ_cons rfl rfl rfl (fun i hi => avQ_eq rfl rfl) (objsQ_one rfl rfl (avQ_eq rfl rfl) trivial)⟩⟩
  · subst hj
    have hv := h.iv_in hin
    refine ⟨_, qv_e, ?_⟩
    simp only [ATree.all, allP]
    refine ⟨by omega, vaOut_in hin fun j hj => avLe0_rat_up ?_ (SB_hi hp6)⟩
    have hat : At n k (ivl n k t) := (h.ivl_ok (by have h1 : ¬ t < k 0 := fun h => hin (.inl h)
                                                   grind) (by have h1 : ¬ k (n - 1) < t := fun h => hin (.inr h)
                                                              grind)).1.at_
    exact (vB_nC hat hv.1 (by omega) j (by omega)).symm
theorem s_qVa_ok : ∀ K args pre r, s_bVa K args pre = some r → FOK P ref09_Values K args pre r := spL_ok fun ⟨⟨n, k⟩, p, t, _⟩ K hn => by
  obtain ⟨h1, h2, h3, h4⟩ := hn
  have h3 : p ≤ 6 := h3
  have := qVa_ok h1 (by simp only; omega) h4 K (t := t)
  rw [Int.toNat_of_nonneg h2] at this
  exact this
end Go.Am.B

/- ref10: Lift, Homogeneous, Drop, Eval. -/
namespace Go.Am.B
open Go Go.Am.N AV ATree AEx IntKind
theorem is_gSc : FnIs P ref04_Scale fn_ref04_Scale (codeOf fn_ref04_Scale) := fnIs get_ref04_Scale (by kernel_rfl) (by kernel_rfl) (by kernel_rfl)
theorem is_jLi : FnIs P ref10_Lift fn_ref10_Lift (codeOf fn_ref10_Lift) := fnIs get_ref10_Lift (by kernel_rfl) (by kernel_rfl) (by kernel_rfl)
theorem is_jDr : FnIs P ref10_Drop fn_ref10_Drop (codeOf fn_ref10_Drop) := fnIs get_ref10_Drop (by kernel_rfl) (by kernel_rfl) (by kernel_rfl)
theorem is_jHo : FnIs P ref10_Homogeneous fn_ref10_Homogeneous (codeOf fn_ref10_Homogeneous) := fnIs get_ref10_Homogeneous (by kernel_rfl) (by kernel_rfl) (by kernel_rfl)
theorem is_jEv : FnIs P ref10_Eval fn_ref10_Eval (codeOf fn_ref10_Eval) := fnIs get_ref10_Eval (by kernel_rfl) (by kernel_rfl) (by kernel_rfl)
noncomputable def gSc : Contracts := [(ref04_Scale, aSpec T (sG :: tRef) [] 60 fn_ref04_Scale)]
noncomputable def gLi : Contracts := [(ref10_Lift, aSpec T (sG :: gSc) [] 60 fn_ref10_Lift)]
noncomputable def GDr : Contracts := (ref02_Over, sp2 kR kR oOver eNeed) :: (ref04_Scale, aSpec T GE0 [] 60 fn_ref04_Scale) :: GE0
abbrev sH : Nat := 2147483648
abbrev sE : Nat := 4294967298
def dropP (h : Pl) : V3 := ⟨((1 : Int) : Rat) / h.d * h.n.x, ((1 : Int) : Rat) / h.d * h.n.y, ((1 : Int) : Rat) / h.d * h.n.z⟩
def s_jDr : Spec := spL (kC (kHs sH) kN) (fun a => .agg [vA (dropP a.1) sE, .rat a.1.d sH]) fun _ => []
noncomputable def GHo : Contracts := nG :: (ref09_Values, s_bVa) :: (gLi ++ GE0)
abbrev hoL : List Nat := [2, 4, 5, 6, 8, 9]
abbrev hoV (p i : Nat) (x : Nat → Rat) (j : Nat) : List AV := [.ptr 0 0 3 0 [], .ptr 1 0 12 0 [], .int .i64 ((i : Int) - p), .tab 3 (p + 1) (fun j => .rat (x j) sV), .ptr 2 0 12 0 [], .int .i64 j]
abbrev hmO (h : Pl) (s : Nat) : AObj := ⟨false, true, 12, 1, fun _ => hmA h s⟩
abbrev cuO (c : Cu) : AObj := ⟨false, true, 3, 1, fun _ => cuA c sK sK⟩
noncomputable abbrev hoC : Code := codeOf fn_ref10_Homogeneous
theorem dr_end {h : Pl} {s : Nat} : funT T GDr [] 60 fn_ref10_Drop (codeOf fn_ref10_Drop) ⟨zipSlots 0 [hmA h s], [], 0⟩ =
    let c9 : Prop := (0 : Int) ≤ (0 : Int); let c8 : Rat := (↑(1 : Int) : Rat) / h.d; let c7 : Int := (↑(4 : Nat) : Int); let c6 : Int := (↑(3 : Nat) : Int); let c4 : Nat := 2 ^ 41; let c3 : Int := i64.wrap ((0 : Int) + (1 : Int)); let c2 : Nat := Max.max 1 (bitsN (Int.natAbs (1 : Int))); let c1 : Prop := 0 < 1; let c11 : Int := i64.wrap (c3 + (1 : Int)); let c10 : Prop := (0 : Int) ≤ (3 : Int) ∧ (3 : Int) < c7; let c5 : Prop := (0 : Int) ≤ c11 ∧ c11 < c6; some (must [-(2 : Int) ^ 63 ≤ (1 : Int), (1 : Int) < (2 : Int) ^ 63, c10, c1, c2 < c4, s < c4, c9 ∧ (0 : Int) < c7, c1, (0 : Int) ≤ (1 : Int) ∧ (1 : Int) < c7, c1, (0 : Int) ≤ (2 : Int) ∧ (2 : Int) < c7, c1, c1, c9 ∧ (0 : Int) < c6, c1, c2 + s < c4, s < c4, c9 ∧ (0 : Int) < c6, c1, c1, (0 : Int) ≤ c3 ∧ c3 < c6, c1, c2 + s < c4, s < c4, (0 : Int) ≤ c3 ∧ c3 < c6, c1, c1, c5, c1, c2 + s < c4, s < c4, c5, c1, c1, c1, c1, c10, c1, c1] (must [c1] (leaf ret [agg [agg [rat (c8 * h.n.x) (c2 + s + s), rat (c8 * h.n.y) (c2 + s + s), rat (c8 * h.n.z) (c2 + s + s)], rat h.d s]]))) := by kernel_rfl
theorem ho_pre {c : Cu} {t : Rat} : seeL T GHo [] 60 hoL (before hoC [1,1,1,0,1]) ⟨zipSlots 0 [cuA c sK sK, .rat t sK], [], 0⟩ =
    let c6 : Nat := (deN (cuA c sK sK)).size; let c5 : Prop := 0 < 1; let c4 : Nat := ivl c.n (fun i ↦ ratV (rat (c.k i) sK)) t; let c3 : Prop := ivOut c.n (fun i ↦ ratV (rat (c.k i) sK)) t; let c2 : AV := rat 0 1; let c1 : AObj := AObj.mk false true 12 1 fun x ↦ agg [c2, c2, c2, c2]; some (must [c5, c5, c5, allRat (fun i ↦ rat (c.k i) sK) c.n sK, sK ≤ sK, Kn c.n c.p.toNat fun i ↦ ratV (rat (c.k i) sK), (0 : Int) ≤ c.p, c.p ≤ (6 : Int), c.n < 2 ^ 40] (leaf normal ([ptr 0 0 c6 0 [], ptr 8192 0 12 0 [], int i64 (if c3 then (0 : Int) else (↑c4 : Int) - (↑c.p.toNat : Int)), tab 3 (if c3 then 0 else c.p.toNat + 1) fun j ↦ rat (vB (fun i ↦ ratV (rat (c.k i) sK)) c4 t c.p.toNat j) 268435456, ptr 65536 0 12 0 [], int i64 (0 : Int)], [((65536 : Nat), c1), ((8192 : Nat), c1), ((0 : Nat), AObj.mk false true c6 1 fun x ↦ agg [int i64 c.p, tab 3 c.n fun i ↦ rat (c.k i) 4096, tab 12 c.m fun i ↦ agg [agg [rat (c.f i).n.x 4096, rat (c.f i).n.y 4096, rat (c.f i).n.z 4096], rat (c.f i).d 4096]])]))) := by kernel_rfl
theorem ho_b {c : Cu} {h : Pl} {p i j s : Nat} {x : Nat → Rat} : seeL T GHo [25] 60 hoL [part hoC [1,1,1,0,1,0,0]] ⟨zipL hoL (hoV p i x j), [(2, hmO h s), (1, hmO ⟨⟨0, 0, 0⟩, 0⟩ 1), (0, cuO c)], 3⟩ =
    let c30 : Nat := p + 1; let c28 : Int := (↑i : Int) - (↑p : Int); let c26 : AV := ptr 0 0 3 0 []; let c25 : AV := ptr 2 0 12 0 []; let c24 : AV := ptr 1 0 12 0 []; let c21 : Nat := sV + (sK + sK); let c19 : AV := rat 0 1; let c16 : Int := (↑j : Int); let c14 : Bool := 0 == 0; let c11 : Int := (0 : Int) + (1 : Int); let c10 : Int := (↑(4 : Nat) : Int); let c8 : Int := (2 : Int) ^ 63; let c7 : Prop := 0 < 1; let c6 : Nat := 2 ^ 41; let c32 : Rat := x c16.toNat; let c31 : Int := c16 + (1 : Int); let c23 : Prop := (0 : Int) ≤ c11 ∧ c11 < c10; let c18 : AV := tab 3 c30 fun j ↦ rat (x j) 268435456; let c17 : Prop := (0 : Int) ≤ (0 : Int) ∧ (0 : Int) < c10; let c12 : Prop := (0 : Int) ≤ c16 ∧ c16.toNat < c30; let c5 : Int := c28 + c16; let c4 : List (Nat × AObj) := [((1 : Nat), AObj.mk false true 12 1 fun x ↦ agg [c19, c19, c19, c19]), ((0 : Nat), AObj.mk false true 3 1 fun x ↦ agg [int i64 c.p, tab 3 c.n fun i ↦ rat (c.k i) 4096, tab 12 c.m fun i ↦ agg [agg [rat (c.f i).n.x 4096, rat (c.f i).n.y 4096, rat (c.f i).n.z 4096], rat (c.f i).d 4096]])]; let c3 : Int := c11 + (1 : Int); let c27 : Prop := (0 : Int) ≤ c3 ∧ c3 < c10; let c20 : Pl := c.f c5.toNat; let c15 : Int := c3 + (1 : Int); let c22 : Prop := (0 : Int) ≤ c15 ∧ c15 < c10; let c2 : AV := agg ((hmA h s).kids.set (Int.toNat (0 : Int)) (deN (oAdd (h.n.x, s) (c32 * (c20.d * c20.n.x), c21)))); let c29 : AV := if c14 = true then c2 else hmA h s; let c9 : AV := agg (c29.kids.set c11.toNat (deN (oAdd (h.n.y, s) (c32 * (c20.d * c20.n.y), c21)))); let c1 : AV := if c14 = true then c9 else c29; let c13 : AV := agg (c1.kids.set c3.toNat (deN (oAdd (h.n.z, s) (c32 * (c20.d * c20.n.z), c21)))); some (fork (decide (c16 < (↑c30 : Int))) (must [c7, -c8 ≤ c5 ∧ c5 < c8, (0 : Int) ≤ c5 ∧ c5.toNat < c.m, c7, c7, c7] (must [c17, c7, c12, c17, c7, sV < c6, sK + sK < c6, s < c6, c21 < c6, c17, c7] (must [-c8 ≤ c11 ∧ c11 < c8] (must [c23, c7, c12, c23, c7, sV < c6, sK + sK < c6, s < c6, c21 < c6, c23, c7] (must [-c8 ≤ c3 ∧ c3 < c8] (must [c27, c7, c12, c27, c7, sV < c6, sK + sK < c6, s < c6, c21 < c6, c27, c7] (must [-c8 ≤ c15 ∧ c15 < c8] (must [c22, c7, c12, c22, c7, sV < c6, sK < c6, s < c6, sV + sK < c6, c22, c7] (must [-c8 ≤ c15 + (1 : Int) ∧ c15 + (1 : Int) < c8] (must [-c8 ≤ c31 ∧ c31 < c8] (leaf normal ([c26, c24, int i64 c28, c18, c25, int i64 c31], ((2 : Nat), AObj.mk false true 12 1 fun j ↦ if (j == 0) = true then agg ((if c14 = true then c13 else c1).kids.set c15.toNat (deN (oAdd (h.d, s) (c32 * c20.d, sV + sK)))) else if (j == 0) = true then c13 else if (j == 0) = true then c9 else if (j == 0) = true then c2 else hmA h s) :: c4)))))))))))) (leaf (exit 0) ([c26, c24, int i64 c28, c18, c25, int i64 c16], ((2 : Nat), AObj.mk false true 12 1 fun x ↦ agg [rat h.n.x s, rat h.n.y s, rat h.n.z s, rat h.d s]) :: c4))) := by kernel_rfl
theorem ho_e {c : Cu} {h : Pl} {p i j s : Nat} {x : Nat → Rat} : endL T GHo [] 60 fn_ref10_Homogeneous [part hoC [1,1,1,1]] ⟨zipL hoL (hoV p i x j), [(2, hmO h s), (1, hmO ⟨⟨0, 0, 0⟩, 0⟩ 1), (0, cuO c)], 3⟩ =
    let c1 : Prop := 0 < 1; some (must [c1, c1] (must [c1] (leaf ret [agg [rat h.n.x s, rat h.n.y s, rat h.n.z s, rat h.d s]]))) := by kernel_rfl
def homS (c : Cu) (x : Nat → Rat) (b j : Nat) : Pl :=
  ⟨⟨sumR j fun j => x j * ((c.f (b + j)).d * (c.f (b + j)).n.x), sumR j fun j => x j * ((c.f (b + j)).d * (c.f (b + j)).n.y), sumR j fun j => x j * ((c.f (b + j)).d * (c.f (b + j)).n.z)⟩, sumR j fun j => x j * (c.f (b + j)).d⟩
def zH (j : Nat) : Nat := 1 + j * (sV + (sK + sK) + 1)
def homV (c : Cu) (t : Rat) : Pl := homS c (vB c.k (ivl c.n c.k t) t c.p.toNat) (ivl c.n c.k t - c.p.toNat) (c.p.toNat + 1)
theorem gSc_ok : GOK P gSc := gok_cons (aSpec_ok hT (gok_strict tRef_ok) hm is_gSc _ _) gok_nil
theorem gLi_ok : GOK P gLi := gok_cons (aSpec_ok hT (gok_strict gSc_ok) hm is_jLi _ _) gok_nil
theorem GDr_ok : GOK P GDr := gok_cons (sp2_ok fun _ _ K hn => eOver_ok hn.1 hn.2 K) (gok_cons (aSpec_ok hT GE0_ok hm is_gSc _ _) GE0_ok)
theorem s_jDr_ok : ∀ K args pre r, s_jDr K args pre = some r → FOK P ref10_Drop K args pre r := spL_ok fun ⟨h, _⟩ K _ => by
  refine fok_tree (r := pres (.agg [vA (dropP h) sE, .rat h.d sH]) []) hT GDr_ok hm is_jDr rfl (of_decide_eq_true (by kernel_rfl)) rfl 60 (dr_end (s := sH)) (fun _ => ?_) K []
  have e1 : i64.wrap ((0 : Int) + 1) = 1 := rfl
  have e2 : i64.wrap ((1 : Int) + 1) = 2 := rfl
  simp only [ATree.all, allP, bits1, e1, e2]
  have hs : sH = 2147483648 := rfl
  refine ⟨?_, by omega, avLe0_agg ⟨avLe0_agg ⟨avLe0_rat_up rfl (by show 1 + sH + sH ≤ 4294967298; omega), avLe0_rat_up rfl (by show 1 + sH + sH ≤ 4294967298; omega), avLe0_rat_up rfl (by show 1 + sH + sH ≤ 4294967298; omega), trivial⟩, .refl _, trivial⟩⟩
  (repeat' with_reducible refine And.intro ?_ ?_)
  all_goals omega
theorem GHo_ok : GOK P GHo := gok_plain (gok_cons s_qVa_ok (gok_app gLi_ok GE0_ok))
theorem jHo_ok {c : Cu} {t : Rat} (hk : Kn c.n c.p.toNat c.k) (h0 : 0 ≤ c.p) (h6 : c.p ≤ 6) (hn : c.n < 2 ^ 40) (hm2 : (c.m : Int) = (c.n : Int) - c.p - 1) (hin : ¬ ivOut c.n c.k t) (K : Nat) : FOK P ref10_Homogeneous K [cuA c sK sK, .rat t sK] [] (pres (hmA (homV c t) sH) []) := by
  refine fok_down (r := pres (hmA (homV c t) sH) []) hT is_jHo rfl (of_decide_eq_true (by kernel_rfl)) rfl (fun _ cx h00 => ?_) K []
  have hkp := kept_nil h00
  obtain ⟨q, hq⟩ : ∃ q, q = c.p.toNat := ⟨_, rfl⟩
  have hq2 : c.p = (q : Int) := by omega
  obtain ⟨i, hi⟩ : ∃ i, i = ivl c.n c.k t := ⟨_, rfl⟩
  obtain ⟨x, hx⟩ : ∃ x, x = vB c.k i t q := ⟨_, rfl⟩
  have hiv := hk.iv_in hin
  rw [← hi, ← hq] at hiv
  have hV : homV c t = homS c x (i - q) (q + 1) := by unfold homV; rw [← hi, ← hq, ← hx]
  rw [hV]
  have h1 : sK = 4096 := rfl
  have h2 : sV = 268435456 := rfl
  refine AWp.hloop hT GHo_ok hm (x := hoC) [1,1,1,0,1] (i := 0) (y := part hoC [1,1,1,0,1,0,0]) (z := part hoC [1,1,1,1]) (by kernel_rfl) (by kernel_rfl) (by kernel_rfl) is_jHo.dst hkp (f1 := []) (f2 := [25]) 60 hoL 3 (fun j : Nat => hoV q i x j) (fun j => [(2, hmO (homS c x (i - q) j) (zH j)), (1, hmO ⟨⟨0, 0, 0⟩, 0⟩ 1), (0, cuO c)]) (fun j => j ≤ q + 1) (fun j => j = q + 1) (fun j => q + 1 - j) (fun _ => False) ⟨_, ho_pre, ?_⟩ (fun j hj => ⟨_, ho_b, ?_⟩) (fun j hj => ?_) (fun _ _ h => h.elim)
  · simp only [ATree.all, allP]
    simp only [ratV_rat, show ivOut c.n (fun i => c.k i) t = ivOut c.n c.k t from rfl, if_neg hin]
    refine ⟨⟨by omega, by omega, by omega, allRat_ls (Nat.le_refl _), Nat.le_refl _, hk, h0, h6, hn⟩, 0, Nat.zero_le _, [(0, 0), (1, 8192), (2, 65536)], rfl, ?_, rfl, objsQ_one rfl rfl (avQ_eq rfl rfl) (objsQ_one rfl rfl (avQ_eq rfl rfl) (objsQ_one rfl rfl (avQ_eq rfl rfl) trivial))⟩
    show _ = (hoV q i x 0).map _
    rw [hx, hq, hi]; rfl
  · simp only [ATree.all, allP, decide_eq_true_eq, decide_eq_false_iff_not, show ((i : Int) - q + j).toNat = i - q + j by omega, Int.toNat_natCast]
    have hz : zH j = 1 + j * 268443649 := rfl
    have hz1 : zH (j + 1) = 1 + (j + 1) * 268443649 := rfl
    refine ⟨fun h => ?_, fun h => ⟨rfl, j, by omega, [(0, 0), (1, 1), (2, 2)], rfl, rfl, rfl, objsQ_one rfl rfl (avQ_eq rfl rfl) (objsQ_one rfl rfl (avQ_eq rfl rfl) (objsQ_one rfl rfl (avQ_eq rfl rfl) trivial))⟩⟩
    (repeat' with_reducible refine And.intro ?_ ?_)
    all_goals first | omega | skip
    exact ⟨j + 1, by omega, by dsimp only; omega, [(0, 0), (1, 1), (2, 2)], rfl, rfl, rfl, objsQ_one rfl rfl (.inr ⟨rfl, avLe0_agg ⟨avLe0_rat_up rfl (by omega), avLe0_rat_up rfl (by omega), avLe0_rat_up rfl (by omega), avLe0_rat_up rfl (by omega), trivial⟩⟩) (objsQ_one rfl rfl (avQ_eq rfl rfl) (objsQ_one rfl rfl (avQ_eq rfl rfl) trivial))⟩
  · subst hj
    refine AWp.ofL ((AWpL.fin hT GHo_ok hm 60 ho_e (by kernel_rfl) ?_).mono fun _ _ h => .inl h)
    simp only [ATree.all, allP]
    have hz : zH (q + 1) = 1 + (q + 1) * 268443649 := rfl
    exact ⟨⟨by omega, by omega⟩, by omega, avLe0_agg ⟨avLe0_rat_more (by show _ ≤ 2147483648; omega), avLe0_rat_more (by show _ ≤ 2147483648; omega), avLe0_rat_more (by show _ ≤ 2147483648; omega), avLe0_rat_more (by show _ ≤ 2147483648; omega), trivial⟩⟩
def s_jHo : Spec := spL (kC (kCu sK sK) (kC (kRs sK) kN)) (fun a => hmA (homV a.1 a.2.1) sH) fun a => [Kn a.1.n a.1.p.toNat a.1.k, 0 ≤ a.1.p, a.1.p ≤ 6, a.1.n < 2 ^ 40, (a.1.m : Int) = (a.1.n : Int) - a.1.p - 1, ¬ ivOut a.1.n a.1.k a.2.1]
noncomputable def GEv : Contracts := sG :: (ref08_Interval, s_kIv) :: (ref10_Homogeneous, s_jHo) :: (ref10_Drop, s_jDr) :: []
theorem s_jHo_ok : ∀ K args pre r, s_jHo K args pre = some r → FOK P ref10_Homogeneous K args pre r := spL_ok fun ⟨c, t, _⟩ K hn => jHo_ok hn.1 hn.2.1 hn.2.2.1 hn.2.2.2.1 hn.2.2.2.2.1 hn.2.2.2.2.2 K
theorem GEv_ok : GOK P GEv := gok_strict (gok_cons s_hIv_ok (gok_cons s_jHo_ok (gok_cons s_jDr_ok gok_nil)))
theorem ev_end {c : Cu} {t : Rat} : funT T GEv [18] 60 fn_ref10_Eval (codeOf fn_ref10_Eval) ⟨zipSlots 0 [cuA c sK sK, .rat t sK], [], 0⟩ =
    let c10 : Prop := c.n < 2 ^ 40; let c7 : Prop := allRat (fun i ↦ rat (c.k i) sK) c.n sK; let c5 : Int := ivE c.n (fun i ↦ ratV (rat (c.k i) sK)) t; let c4 : AV := rat 0 1; let c3 : Nat := c.p.toNat; let c1 : Nat := ivl c.n (fun i ↦ ratV (rat (c.k i) sK)) t; let c9 : Nat := c1 - c3; let c8 : Nat := c3 + 1; let c6 : Prop := Kn c.n c3 fun i ↦ ratV (rat (c.k i) sK); let c2 : Rat := (↑(1 : Int) : Rat) / sumR c8 fun j ↦ vB (fun i ↦ ratV (rat (c.k i) sK)) c1 t c3 j * ratV (rat (c.f (c9 + j)).d sK); some (must [c7, sK ≤ sK, c6, (0 : Int) ≤ c.p, c10] (fork (c5 != (0 : Int)) (must [(0 : Nat) < 1] (leaf ret [agg [c4, c4, c4], int i64 c5])) (must [c7, allPl (fun i ↦ plA (c.f i) sK) c.m sK, sK ≤ sK, c6, (0 : Int) ≤ c.p, c.p ≤ (6 : Int), c10, (↑c.m : Int) = (↑c.n : Int) - c.p - (1 : Int), ¬ivOut c.n (fun i ↦ ratV (rat (c.k i) sK)) t, sH ≤ sH, sH ≤ sH, sH ≤ sH, sH ≤ sH] (must [(0 : Nat) < 1] (leaf ret [agg [rat (c2 * sumR c8 fun j ↦ vB (fun i ↦ ratV (rat (c.k i) sK)) c1 t c3 j * (ratV (rat (c.f (c9 + j)).d sK) * ratV (rat (c.f (c9 + j)).n.x sK))) 4294967298, rat (c2 * sumR c8 fun j ↦ vB (fun i ↦ ratV (rat (c.k i) sK)) c1 t c3 j * (ratV (rat (c.f (c9 + j)).d sK) * ratV (rat (c.f (c9 + j)).n.y sK))) 4294967298, rat (c2 * sumR c8 fun j ↦ vB (fun i ↦ ratV (rat (c.k i) sK)) c1 t c3 j * (ratV (rat (c.f (c9 + j)).d sK) * ratV (rat (c.f (c9 + j)).n.z sK))) 4294967298], int i64 (0 : Int)]))))) := by kernel_rfl
def evP (c : Cu) (t : Rat) : V3 := if ivOut c.n c.k t then ⟨0, 0, 0⟩ else dropP (homV c t)
def s_jEv : Spec := spL (kC (kCu sK sK) (kC (kRs sK) kN)) (fun a => .tuple [vA (evP a.1 a.2.1) sE, .int .i64 (ivE a.1.n a.1.k a.2.1)]) fun a => [Kn a.1.n a.1.p.toNat a.1.k, 0 ≤ a.1.p, a.1.p ≤ 6, a.1.n < 2 ^ 40, (a.1.m : Int) = (a.1.n : Int) - a.1.p - 1]
theorem s_jEv_ok : ∀ K args pre r, s_jEv K args pre = some r → FOK P ref10_Eval K args pre r := spL_ok fun ⟨c, t, _⟩ K hn => by
  obtain ⟨hk, h0, h6, hn, hm2⟩ := hn
  have hk : Kn c.n c.p.toNat c.k := hk
  have h6 : c.p ≤ 6 := h6
  have hm2 : (c.m : Int) = (c.n : Int) - c.p - 1 := hm2
  refine fok_tree (r := pres (.tuple [vA (evP c t) sE, .int .i64 (ivE c.n c.k t)]) []) hT GEv_ok hm is_jEv rfl (of_decide_eq_true (by kernel_rfl)) rfl 60 ev_end (fun _ => ?_) K []
  simp only [ATree.all, allP, ratV_rat, bne_iff_ne, bne_eq_false_iff_eq, ne_eq, show ivOut c.n (fun i => c.k i) t = ivOut c.n c.k t from rfl, show ivE c.n (fun i => c.k i) t = ivE c.n c.k t from rfl]
  refine ⟨⟨allRat_ls (Nat.le_refl _), Nat.le_refl _, hk, h0, hn⟩, fun hout => ?_, fun hin => ?_⟩
  · have ho : ivOut c.n c.k t := by
      unfold ivE at hout
      by_cases ho : ivOut c.n c.k t
      · exact ho
      · rw [if_neg ho] at hout; exact absurd rfl hout
    refine ⟨by omega, ?_, .refl _, trivial⟩
    unfold evP
    rw [if_pos ho]
    exact avLe0_agg ⟨avLe0_rat_more (by decide), avLe0_rat_more (by decide), avLe0_rat_more (by decide), trivial⟩
  · have hi := ivE_eq hin
    refine ⟨⟨allRat_ls (Nat.le_refl _), allPl_lp (Nat.le_refl _), Nat.le_refl _, hk, h0, h6, hn, hm2, hi, by omega, by omega⟩, by omega, ?_, avLe0_int hin.symm, trivial⟩
    unfold evP
    rw [if_neg hi]
    exact .refl _
end Go.Am.B

/- shapes.ints, ref14.ints. -/
namespace Go.Am.B
open Go Go.Am.N AV ATree AEx IntKind
theorem is_sIn : FnIs P shapes_ints fn_shapes_ints (codeOf fn_shapes_ints) := fnIs get_shapes_ints (by kernel_rfl) (by kernel_rfl) (by kernel_rfl)
theorem is_nIn : FnIs P ref14_ints fn_ref14_ints (codeOf fn_ref14_ints) := fnIs get_ref14_ints (by kernel_rfl) (by kernel_rfl) (by kernel_rfl)
abbrev inA (n : Nat) (z : Nat → Int) : AV := .tab 1 n (fun i => .int .i64 (z i))
abbrev inO (n : Nat) (z : Nat → Int) : AObj := ⟨true, true, 3, n, fun i => .rat ((z i : Int) : Rat) 64⟩
noncomputable abbrev siC : Code := codeOf fn_shapes_ints
abbrev siL : List Nat := [3, 6, 7, 8]
abbrev siV (n : Nat) (z : Nat → Int) (v : AV) (i : Int) : List AV := [v, inA n z, .int .i64 n, .int .i64 i]
noncomputable abbrev niC : Code := codeOf fn_ref14_ints
abbrev niL : List Nat := [0, 3, 4]
abbrev niV (n : Nat) (z : Nat → Int) (v : AV) (i : Int) : List AV := [inA n z, v, .int .i64 i]
def GiS : Contracts := nG :: [(rational_Int, s_int)]
def GiN : Contracts := nG :: [(ref02_Int, s_eInt)]
theorem si_pre {n : Nat} {z : Nat → Int} : seeL T GiS [] 60 siL (before siC [1,1,0,1]) ⟨zipSlots 0 [inA n z], [], 0⟩ =
    some (leaf normal ([nil, tab 1 n fun i ↦ int i64 (z i), int i64 (↑n : Int), int i64 (0 : Int)], [])) := by kernel_rfl
theorem si_0 {n : Nat} {z : Nat → Int} : seeL T GiS [9] 60 siL [part siC [1,1,0,1,0,0]] ⟨zipL siL (siV n z .nil 0), [], 1⟩ =
    let c4 : Int := (↑n : Int); let c3 : AV := tab 1 n fun i ↦ int i64 (z i); let c2 : Int := (2 : Int) ^ 63; let c1 : Nat := Int.toNat (0 : Int); some (fork (decide ((0 : Int) < c4)) (must [(0 : Int) ≤ (0 : Int) ∧ c1 < n] (must [-c2 ≤ z c1, z c1 < c2, (1 : Nat) * 3 ≤ 2 ^ 24, (0 : Nat) < 1 ∧ 1 * ((56 : Nat) + 1) * 2 ≤ 2 ^ 47] (must [-c2 ≤ (0 : Int) + (1 : Int) ∧ (0 : Int) + (1 : Int) < c2] (leaf normal ([own 32769 3 0 1, c3, int i64 c4, int i64 (1 : Int)], [((32769 : Nat), AObj.mk true true 3 1 fun i ↦ nth [rat (↑(z c1) : Rat) (Max.max 1 (bitsN (z c1).natAbs))] (rat 0 1) (i + 0))]))))) (leaf (exit 0) ([nil, c3, int i64 c4, int i64 (0 : Int)], []))) := by kernel_rfl
theorem si_S {n i : Nat} {z : Nat → Int} : seeL T GiS [9] 60 siL [part siC [1,1,0,1,0,0]] ⟨zipL siL (siV n z (.own 0 3 0 (i + 1)) ((i + 1 : Nat) : Int)), [(0, inO (i + 1) z)], 1⟩ =
    let c8 : Int := (↑n : Int); let c4 : AV := tab 1 n fun i ↦ int i64 (z i); let c3 : Int := (2 : Int) ^ 63; let c2 : Nat := i + 1; let c5 : Nat := c2 + 1; let c1 : Int := (↑c2 : Int); let c7 : Int := z c1.toNat; let c6 : Int := c1 + (1 : Int); some (fork (decide (c1 < c8)) (must [(0 : Int) ≤ c1 ∧ c1.toNat < n] (must [-c3 ≤ c7, c7 < c3, (1 : Nat) * 3 ≤ 2 ^ 24, c5 * ((56 : Nat) + 1) * 2 ≤ 2 ^ 47] (must [-c3 ≤ c6 ∧ c6 < c3] (leaf normal ([own 32769 3 0 c5, c4, int i64 c8, int i64 c6], [((32769 : Nat), AObj.mk true true 3 c5 fun i ↦ if i < c2 then rat (↑(z i) : Rat) 64 else nth [rat (↑c7 : Rat) (Max.max 1 (bitsN c7.natAbs))] (rat 0 1) (i - c2 + 0))]))))) (leaf (exit 0) ([own 0 3 0 c2, c4, int i64 c8, int i64 c1], [((0 : Nat), AObj.mk true true 3 c2 fun i ↦ rat (↑(z i) : Rat) 64)]))) := by kernel_rfl
theorem si_e {n i : Nat} {z : Nat → Int} : seeL T GiS [] 60 [2] [part siC [1,1,1]] ⟨zipL siL (siV n z (.own 0 3 0 (i + 1)) ((i + 1 : Nat) : Int)), [(0, inO (i + 1) z)], 1⟩ =
    some (leaf ret ([own 0 3 0 (i + 1)], [((0 : Nat), AObj.mk true true 3 (i + 1) fun i ↦ rat (↑(z i) : Rat) 64)])) := by kernel_rfl
theorem si_f {n i : Nat} {z : Nat → Int} : endL T GiS [] 60 fn_shapes_ints [part siC [1,1,1]] ⟨zipL siL (siV n z (.own 0 3 0 (i + 1)) ((i + 1 : Nat) : Int)), [(0, inO (i + 1) z)], 1⟩ =
    some (leaf ret [tab 3 (i + 1) fun i ↦ rat (↑(z (i + 0)) : Rat) 64]) := by kernel_rfl
theorem ni_pre {n : Nat} {z : Nat → Int} : seeL T GiN [] 60 niL (before niC [1,1,0,1]) ⟨zipSlots 0 [inA n z], [], 0⟩ =
    some (leaf normal ([tab 1 n fun i ↦ int i64 (z i), nil, int i64 (0 : Int)], [])) := by kernel_rfl
theorem ni_0 {n : Nat} {z : Nat → Int} : seeL T GiN [8] 60 niL [part niC [1,1,0,1,0,0]] ⟨zipL niL (niV n z .nil 0), [], 1⟩ =
    let c3 : AV := tab 1 n fun i ↦ int i64 (z i); let c2 : Int := (2 : Int) ^ 63; let c1 : Nat := Int.toNat (0 : Int); some (fork (decide ((0 : Int) < (↑n : Int))) (must [(0 : Int) ≤ (0 : Int) ∧ c1 < n, -c2 ≤ z c1, z c1 < c2, (1 : Nat) * 3 ≤ 2 ^ 24, (0 : Nat) < 1 ∧ 1 * ((56 : Nat) + 1) * 2 ≤ 2 ^ 47] (must [-c2 ≤ (0 : Int) + (1 : Int) ∧ (0 : Int) + (1 : Int) < c2] (leaf normal ([c3, own 45057 3 0 1, int i64 (1 : Int)], [((45057 : Nat), AObj.mk true true 3 1 fun i ↦ nth [rat (↑(z c1) : Rat) (Max.max 1 (bitsN (z c1).natAbs))] (rat 0 1) (i + 0))])))) (leaf (exit 0) ([c3, nil, int i64 (0 : Int)], []))) := by kernel_rfl
theorem ni_S {n i : Nat} {z : Nat → Int} : seeL T GiN [8] 60 niL [part niC [1,1,0,1,0,0]] ⟨zipL niL (niV n z (.own 0 3 0 (i + 1)) ((i + 1 : Nat) : Int)), [(0, inO (i + 1) z)], 1⟩ =
    let c4 : AV := tab 1 n fun i ↦ int i64 (z i); let c3 : Int := (2 : Int) ^ 63; let c2 : Nat := i + 1; let c5 : Nat := c2 + 1; let c1 : Int := (↑c2 : Int); let c7 : Int := z c1.toNat; let c6 : Int := c1 + (1 : Int); some (fork (decide (c1 < (↑n : Int))) (must [(0 : Int) ≤ c1 ∧ c1.toNat < n, -c3 ≤ c7, c7 < c3, (1 : Nat) * 3 ≤ 2 ^ 24, c5 * ((56 : Nat) + 1) * 2 ≤ 2 ^ 47] (must [-c3 ≤ c6 ∧ c6 < c3] (leaf normal ([c4, own 45057 3 0 c5, int i64 c6], [((45057 : Nat), AObj.mk true true 3 c5 fun i ↦ if i < c2 then rat (↑(z i) : Rat) 64 else nth [rat (↑c7 : Rat) (Max.max 1 (bitsN c7.natAbs))] (rat 0 1) (i - c2 + 0))])))) (leaf (exit 0) ([c4, own 0 3 0 c2, int i64 c1], [((0 : Nat), AObj.mk true true 3 c2 fun i ↦ rat (↑(z i) : Rat) 64)]))) := by kernel_rfl
theorem ni_e {n i : Nat} {z : Nat → Int} : seeL T GiN [] 60 [2] [part niC [1,1,1]] ⟨zipL niL (niV n z (.own 0 3 0 (i + 1)) ((i + 1 : Nat) : Int)), [(0, inO (i + 1) z)], 1⟩ =
    some (leaf ret ([own 0 3 0 (i + 1)], [((0 : Nat), AObj.mk true true 3 (i + 1) fun i ↦ rat (↑(z i) : Rat) 64)])) := by kernel_rfl
theorem rowSzI {rl : List (Nat × Nat)} {l i s s' s2 : Nat} {x y : Nat → Rat} {t : Rat} (hx : ∀ i, i < l → x i = y i) (ht : t = y l) (h1 : s ≤ s2) (h2 : Sz (y l) s2) (hi : i < l + 1) : avQ rl (if i < l then .rat (x i) s else nth [.rat t s'] (.rat 0 1) (i - l + 0)) (.rat (y i) s2) := by
  by_cases h : i < l
  · rw [if_pos h, hx i h]; exact .inr ⟨rfl, avLe0_rat_up rfl h1⟩
  · have : i = l := by omega
    subst this
    rw [if_neg h, Nat.sub_self]
    exact .inr ⟨rfl, avLe0_rat_eq ht h2⟩
theorem GiS_ok : GOK P GiS := gok_plain (gok_cons s_int_ok gok_nil)
theorem GiN_ok : GOK P GiN := gok_plain (gok_cons s_eInt_ok gok_nil)
abbrev siVs (n : Nat) (z : Nat → Int) (i : Nat) : List AV := siV n z (match i with
  | 0 => .nil
  | _ + 1 => .own 0 3 0 i) i
abbrev siOs (z : Nat → Int) (i : Nat) : Store := match i with
  | 0 => []
  | _ + 1 => [(0, inO i z)]
theorem si_walk {P' : AEx → AState → Prop} {n : Nat} {z : Nat → Int} (hn : 0 < n) (hn2 : n < 2 ^ 20) (hz : ∀ i, i < n → -2 ^ 63 ≤ z i ∧ z i < 2 ^ 63) (c : Ctx) (hk : Kept [] c) (hD : AWp Go.Am.N.P c fn_shapes_ints.ntmps (part siC [1,1,1]) ⟨zipL siL (siVs n z n), siOs z n, 1⟩ P') : AWp Go.Am.N.P c fn_shapes_ints.ntmps siC ⟨zipSlots 0 [inA n z], [], 0⟩ P' := by
  have hs : ∀ i, i < n → Sz ((z i : Int) : Rat) 64 := fun i hi => Sz_small (y := 0) (hz i hi).1 (hz i hi).2
  refine AWp.hloop hT GiS_ok hm (x := siC) [1,1,0,1] (i := 0) (y := part siC [1,1,0,1,0,0]) (z := part siC [1,1,1]) (by kernel_rfl) (by kernel_rfl) (by kernel_rfl) is_sIn.dst hk (f1 := []) (f2 := [9]) 60 siL 1 (fun i : Nat => siVs n z i) (fun i => siOs z i) (fun i => i ≤ n) (fun i => i = n) (fun i => n - i) (fun _ => False) ⟨_, si_pre, ?_⟩ (fun i hi => ?_) (fun i hi => ?_) (fun _ _ h => h.elim)
  · simp only [ATree.all, allP]
    exact ⟨0, Nat.zero_le _, ReOK.vals rfl⟩
  · cases i with
    | zero =>
      refine ⟨_, si_0, ?_⟩
      simp only [ATree.all, allP, decide_eq_true_eq, decide_eq_false_iff_not]
      refine ⟨fun h => ⟨⟨by omega, by omega⟩, ⟨(hz 0 hn).1, (hz 0 hn).2, by omega, by omega, by omega⟩, by omega, 1, by omega, by dsimp only; omega, [(0, 32769)], rfl, rfl, rfl, objsQ_cons rfl rfl rfl (fun j hj => ?_) trivial⟩, fun h => by omega⟩
      have hj : j = 0 := by omega
      subst hj
      exact .inr ⟨rfl, avLe0_rat_eq rfl (hs 0 hn)⟩
    | succ i =>
      refine ⟨_, si_S, ?_⟩
      simp only [ATree.all, allP, decide_eq_true_eq, decide_eq_false_iff_not]
      have e : ((i + 1 : Nat) : Int).toNat = i + 1 := by omega
      simp only [e]
      refine ⟨fun h => ⟨⟨by omega, by omega⟩, ⟨(hz (i + 1) (by omega)).1, (hz (i + 1) (by omega)).2, by omega, by omega⟩, by omega, i + 2, by omega, by dsimp only; omega, [(0, 32769)], rfl, rfl, rfl, objsQ_cons rfl rfl rfl (fun j hj => rowSzI (x := fun i => ((z i : Int) : Rat)) (y := fun i => ((z i : Int) : Rat)) (fun _ _ => rfl) rfl (Nat.le_refl _) (hs (i + 1) (by omega)) hj) trivial⟩, fun h => ⟨rfl, i + 1, by omega, [(0, 0)], rfl, rfl, rfl, objsQ_cons rfl rfl rfl (fun j hj => avQ_eq rfl rfl) trivial⟩⟩
  · subst hi; exact hD
abbrev niVs (n : Nat) (z : Nat → Int) (i : Nat) : List AV := niV n z (match i with
  | 0 => .nil
  | _ + 1 => .own 0 3 0 i) i
theorem ni_walk {P' : AEx → AState → Prop} {n : Nat} {z : Nat → Int} (hn : 0 < n) (hn2 : n < 2 ^ 20) (hz : ∀ i, i < n → -2 ^ 63 ≤ z i ∧ z i < 2 ^ 63) (c : Ctx) (hk : Kept [] c) (hD : AWp Go.Am.N.P c fn_ref14_ints.ntmps (part niC [1,1,1]) ⟨zipL niL (niVs n z n), siOs z n, 1⟩ P') : AWp Go.Am.N.P c fn_ref14_ints.ntmps niC ⟨zipSlots 0 [inA n z], [], 0⟩ P' := by
  have hs : ∀ i, i < n → Sz ((z i : Int) : Rat) 64 := fun i hi => Sz_small (y := 0) (hz i hi).1 (hz i hi).2
  refine AWp.hloop hT GiN_ok hm (x := niC) [1,1,0,1] (i := 0) (y := part niC [1,1,0,1,0,0]) (z := part niC [1,1,1]) (by kernel_rfl) (by kernel_rfl) (by kernel_rfl) is_nIn.dst hk (f1 := []) (f2 := [8]) 60 niL 1 (fun i : Nat => niVs n z i) (fun i => siOs z i) (fun i => i ≤ n) (fun i => i = n) (fun i => n - i) (fun _ => False) ⟨_, ni_pre, ?_⟩ (fun i hi => ?_) (fun i hi => ?_) (fun _ _ h => h.elim)
  · simp only [ATree.all, allP]
    exact ⟨0, Nat.zero_le _, ReOK.vals rfl⟩
  · cases i with
    | zero =>
      refine ⟨_, ni_0, ?_⟩
      simp only [ATree.all, allP, decide_eq_true_eq, decide_eq_false_iff_not]
      refine ⟨fun h => ⟨⟨⟨by omega, by omega⟩, (hz 0 hn).1, (hz 0 hn).2, by omega, by omega, by omega⟩, by omega, 1, by omega, by dsimp only; omega, [(0, 45057)], rfl, rfl, rfl, objsQ_cons rfl rfl rfl (fun j hj => ?_) trivial⟩, fun h => by omega⟩
      have hj : j = 0 := by omega
      subst hj
      exact .inr ⟨rfl, avLe0_rat_eq rfl (hs 0 hn)⟩
    | succ i =>
      refine ⟨_, ni_S, ?_⟩
      simp only [ATree.all, allP, decide_eq_true_eq, decide_eq_false_iff_not]
      have e : ((i + 1 : Nat) : Int).toNat = i + 1 := by omega
      simp only [e]
      refine ⟨fun h => ⟨⟨⟨by omega, by omega⟩, (hz (i + 1) (by omega)).1, (hz (i + 1) (by omega)).2, by omega, by omega⟩, by omega, i + 2, by omega, by dsimp only; omega, [(0, 45057)], rfl, rfl, rfl, objsQ_cons rfl rfl rfl (fun j hj => rowSzI (x := fun i => ((z i : Int) : Rat)) (y := fun i => ((z i : Int) : Rat)) (fun _ _ => rfl) rfl (Nat.le_refl _) (hs (i + 1) (by omega)) hj) trivial⟩, fun h => ⟨rfl, i + 1, by omega, [(0, 0)], rfl, rfl, rfl, objsQ_cons rfl rfl rfl (fun j hj => avQ_eq rfl rfl) trivial⟩⟩
  · subst hi; exact hD
def chkInts : Nat → (Nat → AV) → Bool
  | 0, _ => true
  | n + 1, f => chkInts n f && match f n with
    | .int .i64 z => decide (-2 ^ 63 ≤ z) && decide (z < 2 ^ 63)
    | _ => false
def isPt (n : Nat) (f : Nat → AV) : Bool := Nat.beq n 3 && !(decide (intOf (f 0) = 0) && decide (intOf (f 1) = 0))
def okInts (n : Nat) (f : Nat → AV) : Bool := Nat.blt 0 n && Nat.blt n 100 && chkInts n f
def s_sIn : Spec := frzSpec fun K l => match l with
  | [.tab 1 n f] => match okInts n f, isPt n f with
    | true, true => some ⟨.tab 3 n (fun i => .rat ((intOf (f i) : Int) : Rat) 64), [], []⟩
    | true, false => some ⟨oneOr [.own K 3 0 n], [(K, inO n fun i => intOf (f i))], []⟩
    | _, _ => none
  | _ => none
def s_nIn : Spec := frzSpec fun K l => match l with
  | [.tab 1 n f] => match okInts n f with
    | true => some ⟨oneOr [.own K 3 0 n], [(K, inO n fun i => intOf (f i))], []⟩
    | false => none
  | _ => none
theorem chkInts_ok : ∀ {n : Nat} {f : Nat → AV}, chkInts n f = true → ∀ i, i < n → f i = .int .i64 (intOf (f i)) ∧ -2 ^ 63 ≤ intOf (f i) ∧ intOf (f i) < 2 ^ 63
  | 0, _, _, i, hi => by omega
  | n + 1, f, h, i, hi => by
    simp only [chkInts, Bool.and_eq_true] at h
    by_cases he : i = n
    · subst he
      have h2 := h.2
      split at h2
      · rename_i z hz
        simp only [Bool.and_eq_true, decide_eq_true_eq] at h2
        rw [hz]
        exact ⟨rfl, h2⟩
      · simp at h2
    · exact chkInts_ok h.1 i (by omega)
theorem okInts_ok {n : Nat} {f : Nat → AV} (h : okInts n f = true) : 0 < n ∧ n < 100 ∧ (∀ i, i < n → -2 ^ 63 ≤ intOf (f i) ∧ intOf (f i) < 2 ^ 63) ∧ avLes0 [.tab 1 n f] [inA n fun i => intOf (f i)] := by
  simp only [okInts, Bool.and_eq_true, Nat.blt_eq] at h
  exact ⟨h.1.1, h.1.2, fun i hi => (chkInts_ok h.2 i hi).2, avLe0_tab_eq rfl fun i hi => (chkInts_ok h.2 i hi).1, trivial⟩
theorem s_sIn_ok : ∀ K args pre r, s_sIn K args pre = some r → FOK P shapes_ints K args pre r := by
  refine frzSpec_ok fun K args r hk hs => ?_
  split at hs
  · rename_i n f
    split at hs
    · rename_i h1 h2
      obtain ⟨a1, a2, a3, a4⟩ := okInts_ok h1
      simp only [Option.some.injEq] at hs
      subst hs
      refine fok_weak (fok_down (r := pres (.tab 3 n (fun i => .rat ((intOf (f i) : Int) : Rat) 64)) []) hT is_sIn rfl (of_decide_eq_true (by kernel_rfl)) rfl (fun _ c h0 => si_walk a1 (by omega) a3 c (kept_nil h0) ?_) K []) hk a4 []
      obtain ⟨m, rfl⟩ : ∃ m, n = m + 1 := ⟨n - 1, by omega⟩
      refine AWp.ofL ((AWpL.fin hT GiS_ok hm 60 si_f (by kernel_rfl) ?_).mono fun _ _ h => .inl h)
      simp only [ATree.all, allP]
      exact .refl _
    · rename_i h1 h2
      obtain ⟨a1, a2, a3, a4⟩ := okInts_ok h1
      simp only [Option.some.injEq] at hs
      subst hs
      refine fok_newA hT is_sIn (fun _ => avLes_of0 hk rfl a4) (of_decide_eq_true (by kernel_rfl)) fun _ c hkp => si_walk a1 (by omega) a3 c hkp ?_
      obtain ⟨m, rfl⟩ : ∃ m, n = m + 1 := ⟨n - 1, by omega⟩
      refine AWp.see hT GiS_ok hm 60 [2] si_e (by kernel_rfl) fun s' hs' => ⟨.inr rfl, [2], _, [.own 0 3 0 (m + 1)], _, 0, _, hs', by kernel_rfl, ⟨⟨rfl, avLe_own (by simp [ren, look]) rfl rfl⟩, trivial⟩, rfl, objLe_of rfl fun i hi => avLe_pure rfl⟩
    · simp at hs
  · simp at hs
theorem s_nIn_ok : ∀ K args pre r, s_nIn K args pre = some r → FOK P ref14_ints K args pre r := by
  refine frzSpec_ok fun K args r hk hs => ?_
  split at hs
  · rename_i n f
    split at hs
    · rename_i h1
      obtain ⟨a1, a2, a3, a4⟩ := okInts_ok h1
      simp only [Option.some.injEq] at hs
      subst hs
      refine fok_newA hT is_nIn (fun _ => avLes_of0 hk rfl a4) (of_decide_eq_true (by kernel_rfl)) fun _ c hkp => ni_walk a1 (by omega) a3 c hkp ?_
      obtain ⟨m, rfl⟩ : ∃ m, n = m + 1 := ⟨n - 1, by omega⟩
      refine AWp.see hT GiN_ok hm 60 [2] ni_e (by kernel_rfl) fun s' hs' => ⟨.inr rfl, [2], _, [.own 0 3 0 (m + 1)], _, 0, _, hs', by kernel_rfl, ⟨⟨rfl, avLe_own (by simp [ren, look]) rfl rfl⟩, trivial⟩, rfl, objLe_of rfl fun i hi => avLe_pure rfl⟩
    · simp at hs
  · simp at hs
end Go.Am.B

/- ref10.Check. -/
namespace Go.Am.B
open Go Go.Am.N AV ATree AEx IntKind
theorem is_jCh : FnIs P ref10_Check fn_ref10_Check (codeOf fn_ref10_Check) := fnIs get_ref10_Check (by kernel_rfl) (by kernel_rfl) (by kernel_rfl)
noncomputable def GjC : Contracts := nG :: (ref02_Valids, s_eVals) :: (ref02_Valid, s_eVal) :: (ref08_Check, s_chk) :: (ref08_Poles, tPol) :: (ref10_Short, s_jSh) :: (ref10_shortPoles, s_jSp) :: (gVal ++ tRef)
noncomputable abbrev jcC : Code := codeOf fn_ref10_Check
noncomputable abbrev jcX : Code := part jcC [1,1,1]
abbrev jcL1 : List Nat := [1, 2, 3]
abbrev jcV (i : Nat) : List AV := [.ptr 0 0 3 0 [], .int .i64 0, .int .i64 i]
abbrev jcL2 : List Nat := [1, 2, 5]
abbrev jcO (c : Cu) : Store := [(0, ⟨false, true, 3, 1, fun _ => cuA c 2048 2048⟩)]
theorem jc_pre {c : Cu} : seeL T GjC [] 60 jcL1 (before jcC [1,1,0,1]) ⟨zipSlots 0 [cuA c 2048 2048], [], 0⟩ =
    let c1 : Nat := (deN (cuA c 2048 2048)).size; some (must [(0 : Nat) < 1, allRat (fun i ↦ rat (c.k i) 2048) c.n sK, c.n < 2 ^ 40] (leaf normal ([ptr 0 0 c1 0 [], int i64 (0 : Int), int i64 (0 : Int)], [((0 : Nat), AObj.mk false true c1 1 fun x ↦ agg [int i64 c.p, tab 3 c.n fun i ↦ rat (c.k i) 2048, tab 12 c.m fun i ↦ agg [agg [rat (c.f i).n.x 2048, rat (c.f i).n.y 2048, rat (c.f i).n.z 2048], rat (c.f i).d 2048]])]))) := by kernel_rfl
theorem jc_1 {c : Cu} {i : Nat} : seeL T GjC [14] 60 jcL1 [part jcC [1,1,0,1,0,0]] ⟨zipL jcL1 (jcV i), jcO c, 1⟩ =
    let c4 : Prop := 0 < 1; let c3 : AV := ptr 0 0 3 0 []; let c2 : Int := (↑i : Int); let c1 : List (Nat × AObj) := [((0 : Nat), AObj.mk false true 3 1 fun x ↦ agg [int i64 c.p, tab 3 c.n fun i ↦ rat (c.k i) 2048, tab 12 c.m fun i ↦ agg [agg [rat (c.f i).n.x 2048, rat (c.f i).n.y 2048, rat (c.f i).n.z 2048], rat (c.f i).d 2048]])]; let c6 : Int := c2 + (1 : Int); let c5 : Prop := (0 : Int) ≤ c2 ∧ c2.toNat < c.m; some (must [c4] (fork (decide (c2 < (↑c.m : Int))) (must [c4, c5, c4, c5] (must [-(2 : Int) ^ 63 ≤ c6 ∧ c6 < (2 : Int) ^ 63] (leaf normal ([c3, int i64 (0 : Int), int i64 c6], c1)))) (leaf (exit 0) ([c3, int i64 (0 : Int), int i64 c2], c1)))) := by kernel_rfl
theorem jc_m {c : Cu} {i : Nat} : seeL T GjC [200041, 200051] 60 jcL2 (before jcX [1,1,0,1]) ⟨zipL jcL1 (jcV i), jcO c, 1⟩ =
    let c2 : Prop := c.n < 2 ^ 40; let c1 : Prop := 0 < 1; some (must [c1, c1, allRat (fun i ↦ rat (c.k i) 2048) c.n sJ, c2] (must [(chkE c.n (fun i ↦ ratV (rat (c.k i) 2048)) c.p != (0 : Int)) = false] (must [c1, c1, c1, allRat (fun i ↦ rat (c.k i) 2048) c.n sK, c2, -(2 : Int) ^ 40 < c.p, c.p < (2 : Int) ^ 40] (must [((↑c.m : Int) != (↑c.n : Int) - c.p - (1 : Int)) = false] (leaf normal ([ptr 0 0 3 0 [], int i64 (0 : Int), int i64 (0 : Int)], [((0 : Nat), AObj.mk false true 3 1 fun x ↦ agg [int i64 c.p, tab 3 c.n fun i ↦ rat (c.k i) 2048, tab 12 c.m fun i ↦ agg [agg [rat (c.f i).n.x 2048, rat (c.f i).n.y 2048, rat (c.f i).n.z 2048], rat (c.f i).d 2048]])])))))) := by kernel_rfl
theorem jc_2 {c : Cu} {i : Nat} : seeL T GjC [56, 200066] 60 jcL2 [part jcX [1,1,0,1,0,0]] ⟨zipL jcL2 (jcV i), jcO c, 1⟩ =
    let c3 : AV := ptr 0 0 3 0 []; let c2 : Int := (↑i : Int); let c1 : List (Nat × AObj) := [((0 : Nat), AObj.mk false true 3 1 fun x ↦ agg [int i64 c.p, tab 3 c.n fun i ↦ rat (c.k i) 2048, tab 12 c.m fun i ↦ agg [agg [rat (c.f i).n.x 2048, rat (c.f i).n.y 2048, rat (c.f i).n.z 2048], rat (c.f i).d 2048]])]; let c4 : Int := c2 + (1 : Int); some (must [(0 : Nat) < 1] (fork (decide (c2 < (↑c.m : Int))) (must [(0 : Nat) < 1, (0 : Int) ≤ c2 ∧ c2.toNat < c.m] (must [decide (sgnR (c.f c2.toNat).d ≤ (0 : Int)) = false] (must [-(2 : Int) ^ 63 ≤ c4 ∧ c4 < (2 : Int) ^ 63] (leaf normal ([c3, int i64 (0 : Int), int i64 c4], c1))))) (leaf (exit 2) ([c3, int i64 (0 : Int), int i64 c2], c1)))) := by kernel_rfl
theorem jc_e {c : Cu} {i : Nat} : endL T GjC [] 60 fn_ref10_Check [part jcX [1,1,1]] ⟨zipL jcL2 (jcV i), jcO c, 1⟩ =
    some (must [(0 : Nat) < 1, allRat (fun i ↦ rat (c.k i) 2048) c.n 2048, c.n < 2 ^ 40, (0 : Nat) < 1, allPl (fun i ↦ plA (c.f i) 2048) c.m 2048, c.m < 2 ^ 40] (leaf ret [int i64 (0 : Int)])) := by kernel_rfl
theorem GjC_ok : GOK P GjC := gok_plain (gok_cons s_eVals_ok (gok_cons s_eVal_ok (gok_cons s_hCh_ok (gok_cons tPolh_ok (gok_cons s_jSh_ok (gok_cons s_jSp_ok (gok_app gVal_ok tRef_ok)))))))
theorem sgnR_pos {q : Rat} (h : 0 < q) : ¬ (sgnR q ≤ 0) := by unfold sgnR; grind
theorem jCh_ok {c : Cu} (hk : Kn c.n c.p.toNat c.k) (h0 : 0 ≤ c.p) (h6 : c.p ≤ 6) (hn : c.n ≤ c.p.toNat + 41) (hm2 : (c.m : Int) = (c.n : Int) - c.p - 1) (hw : ∀ i, i < c.m → 0 < (c.f i).d) (K : Nat) : FOK P ref10_Check K [cuA c 2048 2048] [] (pres (.int .i64 0) []) := by
  refine fok_down (r := pres (.int .i64 0) []) hT is_jCh rfl (of_decide_eq_true (by kernel_rfl)) rfl (fun _ cx h00 => ?_) K []
  have hkp := kept_nil h00
  have hc : chkE c.n c.k c.p = 0 := by
    have := hk.chk (by omega) hn
    rwa [Int.toNat_of_nonneg h0] at this
  refine AWp.hloop0 hT GjC_ok hm (x := jcC) [1,1,0,1] (i := 0) (y := part jcC [1,1,0,1,0,0]) (by kernel_rfl) (by kernel_rfl) is_jCh.dst hkp (f1 := []) (f2 := [14]) 60 jcL1 1 (fun i : Nat => jcV i) (fun _ => jcO c) (fun i => i ≤ c.m) (fun _ => True) (fun i => c.m - i) (fun _ => False) ⟨_, jc_pre, ?_⟩ (fun i hi => ⟨_, jc_1, ?_⟩) (fun i s' hi hle => ?_) (fun _ _ h => h.elim)
  · simp only [ATree.all, allP]
    exact ⟨⟨by omega, allRat_ls (by decide), by omega⟩, 0, Nat.zero_le _, [(0, 0)], rfl, rfl, rfl, objsQ_one rfl rfl (avQ_eq rfl rfl) trivial⟩
  · simp only [ATree.all, allP, decide_eq_true_eq, decide_eq_false_iff_not]
    exact ⟨by omega, fun h => ⟨⟨by omega, by omega, by omega, by omega⟩, by omega, i + 1, by omega, by dsimp only; omega, [(0, 0)], rfl, rfl, rfl, objsQ_one rfl rfl (avQ_eq rfl rfl) trivial⟩, fun h => ⟨rfl, i, trivial, [(0, 0)], rfl, rfl, rfl, objsQ_one rfl rfl (avQ_eq rfl rfl) trivial⟩⟩
  rw [show behind jcC [1,1,0,1] = [jcX] from by kernel_rfl]
  refine AWpL.weak rfl hle (AWpL.one ?_)
  refine AWp.hloop0 hT GjC_ok hm (x := jcX) [1,1,0,1] (i := 2) (y := part jcX [1,1,0,1,0,0]) (by kernel_rfl) (by kernel_rfl) (by kernel_rfl) hkp (f1 := [200041, 200051]) (f2 := [56, 200066]) 60 jcL2 1 (fun i : Nat => jcV i) (fun _ => jcO c) (fun i => i ≤ c.m) (fun _ => True) (fun i => c.m - i) (fun _ => False) ⟨_, jc_m, ?_⟩ (fun i hi => ⟨_, jc_2, ?_⟩) (fun i s' hi hle => ?_) (fun _ _ h => h.elim)
  · simp only [ATree.all, allP]
    exact ⟨⟨by omega, by omega, allRat_ls (by decide), by omega⟩, bne_eq_false_iff_eq.2 hc, ⟨by omega, by omega, by omega, allRat_ls (by decide), by omega, by omega, by omega⟩, bne_eq_false_iff_eq.2 hm2, 0, Nat.zero_le _, [(0, 0)], rfl, rfl, rfl, objsQ_one rfl rfl (avQ_eq rfl rfl) trivial⟩
  · simp only [ATree.all, allP, decide_eq_true_eq, decide_eq_false_iff_not]
    exact ⟨by omega, fun h => ⟨⟨by omega, by omega, by omega⟩, sgnR_pos (hw _ (by omega)), by omega, i + 1, by omega, by dsimp only; omega, [(0, 0)], rfl, rfl, rfl, objsQ_one rfl rfl (avQ_eq rfl rfl) trivial⟩, fun h => ⟨rfl, i, trivial, [(0, 0)], rfl, rfl, rfl, objsQ_one rfl rfl (avQ_eq rfl rfl) trivial⟩⟩
  · rw [show behind jcX [1,1,0,1] = [part jcX [1,1,1]] from by kernel_rfl]
    refine AWpL.weak rfl hle ((AWpL.fin hT GjC_ok hm 60 jc_e (by kernel_rfl) ?_).mono fun _ _ h => .inl h)
    simp only [ATree.all, allP]
    exact ⟨⟨by omega, allRat_ls (Nat.le_refl _), by omega, by omega, allPl_lp (Nat.le_refl _), by omega⟩, .refl _⟩
def s_jCh : Spec := spL (kC (kCu 2048 2048) kN) (fun _ => .int .i64 0) fun a => [Kn a.1.n a.1.p.toNat a.1.k, 0 ≤ a.1.p, a.1.p ≤ 6, a.1.n ≤ a.1.p.toNat + 41, (a.1.m : Int) = (a.1.n : Int) - a.1.p - 1, ∀ i, i < a.1.m → 0 < (a.1.f i).d]
theorem s_jCh_ok : ∀ K args pre r, s_jCh K args pre = some r → FOK P ref10_Check K args pre r := spL_ok fun ⟨c, _⟩ K hn => jCh_ok hn.1 hn.2.1 hn.2.2.1 hn.2.2.2.1 hn.2.2.2.2.1 hn.2.2.2.2.2 K
end Go.Am.B

/- ref09.Sum; contracts of sums. -/
namespace Go.Am.B
open Go Go.Am.N AV ATree AEx IntKind
end Go.Am.B

/- basis.Blossom. -/
namespace Go.Am.B
open Go Go.Am.N AV ATree AEx IntKind
end Go.Am.B

/- ref09.Polar, ref09.Blossom; contracts of polar forms. -/
namespace Go.Am.B
open Go Go.Am.N AV ATree AEx IntKind
end Go.Am.B

/- ref02: SameList, Mid, Text; ref08.Greville. -/
namespace Go.Am.B
open Go Go.Am.N AV ATree AEx IntKind
theorem is_eSL : FnIs P ref02_SameList fn_ref02_SameList (codeOf fn_ref02_SameList) := fnIs get_ref02_SameList (by kernel_rfl) (by kernel_rfl) (by kernel_rfl)
theorem is_eText : FnIs P ref02_Text fn_ref02_Text (codeOf fn_ref02_Text) := fnIs get_ref02_Text (by kernel_rfl) (by kernel_rfl) (by kernel_rfl)
theorem is_fText : FnIs P ref01_Text fn_ref01_Text (codeOf fn_ref01_Text) := fnIs get_ref01_Text (by kernel_rfl) (by kernel_rfl) (by kernel_rfl)
abbrev slL : List Nat := [0, 1, 4, 5]
abbrev slV (n m : Nat) (f g : Nat → Rat) (i : Nat) : List AV := [lsA f n sU, lsA g m sU, .bool false, .int .i64 i]
noncomputable abbrev slC : Code := codeOf fn_ref02_SameList
theorem sl_pre {n m : Nat} {f g : Nat → Rat} : seeL T nRef [10] 60 slL (before slC [1,1,0,1]) ⟨zipSlots 0 [lsA f n sU, lsA g m sU], [], 0⟩ =
    let c2 : AV := tab 3 m fun i ↦ rat (g i) 4294967296; let c1 : AV := tab 3 n fun i ↦ rat (f i) 4294967296; some (fork ((↑n : Int) != (↑m : Int)) (leaf ret ([c1, c2, AV.bool false, tuple []], [])) (leaf normal ([c1, c2, AV.bool false, int i64 (0 : Int)], []))) := by kernel_rfl
theorem sl_b {n m i : Nat} {f g : Nat → Rat} : seeL T nRef [14, 26] 60 slL [part slC [1,1,0,1,0,0]] ⟨zipL slL (slV n m f g i), [], 0⟩ =
    let c4 : AV := tab 3 m fun i ↦ rat (g i) 4294967296; let c3 : AV := tab 3 n fun i ↦ rat (f i) 4294967296; let c2 : Int := (↑i : Int); let c5 : Int := c2 + (1 : Int); let c1 : List AV × Store := ([c3, c4, AV.bool false, int i64 c2], []); some (fork (decide (c2 < (↑n : Int))) (must [(0 : Int) ≤ c2 ∧ c2.toNat < n, (0 : Int) ≤ c2 ∧ c2.toNat < m] (fork (!decide (f c2.toNat = g c2.toNat)) (leaf ret c1) (must [-(2 : Int) ^ 63 ≤ c5 ∧ c5 < (2 : Int) ^ 63] (leaf normal ([c3, c4, AV.bool false, int i64 c5], []))))) (leaf (exit 0) c1)) := by kernel_rfl
theorem sl_e {n m i : Nat} {f g : Nat → Rat} : endL T nRef [] 60 fn_ref02_SameList [part slC [1,1,1]] ⟨zipL slL (slV n m f g i), [], 0⟩ =
    some (leaf ret [AV.bool true]) := by kernel_rfl
def sameL (n : Nat) (f : Nat → Rat) (m : Nat) (g : Nat → Rat) : Bool := decide (n = m ∧ ∀ i, i < n → f i = g i)
theorem eSL_ok {n m : Nat} {f g : Nat → Rat} (hn : n < 2 ^ 40) (hm2 : m < 2 ^ 40) (K : Nat) : FOK P ref02_SameList K [lsA f n sU, lsA g m sU] [] (pres (.bool (sameL n f m g)) []) := by
  refine fok_loop (r := pres (.bool (sameL n f m g)) []) hT nRef_ok hm is_eSL rfl (of_decide_eq_true (by kernel_rfl)) rfl [1,1,0,1] (i := 0) (y := part slC [1,1,0,1,0,0]) (z := part slC [1,1,1]) (by kernel_rfl) (by kernel_rfl) (by kernel_rfl) (f1 := [10]) (f2 := [14, 26]) (f3 := []) 60 slL 0
    (fun i : Nat => slV n m f g i) (fun _ => []) (fun i => i ≤ n ∧ n = m ∧ ∀ j, j < i → f j = g j) (fun i => i = n ∧ n = m ∧ ∀ j, j < i → f j = g j) (fun i => n - i) (fun _ => ⟨⟨_, sl_pre, ?_⟩, fun i ⟨h1, h2, h3⟩ => ⟨_, sl_b, ?_⟩, fun i ⟨h1, h2, h3⟩ => ⟨_, sl_e, ?_⟩⟩) K []
  · simp only [ATree.all, allP, bne_iff_ne, ne_eq, bne_eq_false_iff_eq]
    exact ⟨fun h => ⟨[.bool false], by kernel_rfl, avLe0_bool (decide_eq_false (fun hh => h (by omega))).symm⟩, fun h => ⟨0, ⟨by omega, by omega, fun j hj => by omega⟩, .vals rfl⟩⟩
  · simp only [ATree.all, allP, decide_eq_true_eq, decide_eq_false_iff_not, Bool.not_eq_true', Bool.not_eq_false', Int.toNat_natCast]
    (repeat' with_reducible first | refine And.intro ?_ ?_ | intro _)
    all_goals first | omega | skip
    · rename_i a b
      exact ⟨[.bool false], by kernel_rfl, avLe0_bool (decide_eq_false (fun hh => b (hh.2 i (by omega)))).symm⟩
    · rename_i a b
      refine ⟨i + 1, ⟨by omega, h2, fun j hj => ?_⟩, by dsimp only; omega, .vals rfl⟩
      by_cases hj2 : j = i
      · subst hj2; exact b
      · exact h3 j (by omega)
    · exact ⟨rfl, i, ⟨by omega, h2, h3⟩, .vals rfl⟩
  · subst h1
    exact avLe0_bool (decide_eq_true ⟨h2, h3⟩).symm
def s_eSL : Spec := spL (kC (kL sU) (kC (kL sU) kN)) (fun a => .bool (sameL a.1.1 a.1.2 a.2.1.1 a.2.1.2)) fun a => [a.1.1 < 2 ^ 40, a.2.1.1 < 2 ^ 40]
theorem s_eSL_ok : ∀ K args pre r, s_eSL K args pre = some r → FOK P ref02_SameList K args pre r := spL_ok fun _ K hn => eSL_ok hn.1 hn.2 K
end Go.Am.B

/- brepkernelmade: Knots. -/
namespace Go.Am.B
open Go Go.Am.N AV ATree AEx IntKind
structure KSt where
  k : Nat → Rat
  t : Rat
  a : Int
theorem Sz_half {z : Int} (h1 : -2 ^ 63 ≤ z) (h2 : z < 2 ^ 63) : Sz ((z : Rat) / 2) 64 := by
  have := Sz_frac h1 h2 (y := 2) (by omega) (by omega) (by omega)
  simpa using this
theorem KG.sz {p j : Nat} {k : Nat → Rat} {t : Rat} (h : KG p j k t) (hj : j < 2 ^ 50) : Sz t 64 := by
  obtain ⟨z, e, h1, h2⟩ := h.half (p + j) (Nat.le_refl _)
  rw [h.top] at e
  rw [e]
  exact Sz_half (by omega) (by omega)
end Go.Am.B

/- brepkernelmade: Number. -/
namespace Go.Am.B
open Go Go.Am.N AV
theorem is_mNumber : FnIs P made_Dice_Number fn_made_Dice_Number (codeOf fn_made_Dice_Number) := fnIs get_made_Dice_Number (by kernel_rfl) (by kernel_rfl) (by kernel_rfl)
theorem mNumber_end {n : Nat} {z : Nat → Int} {a : Int} : funO T GP [] 60 fn_made_Dice_Number (codeOf fn_made_Dice_Number) ⟨zipSlots 0 [.ptr 0 0 2 0 []], [(0, diceO n (fun i => .int .i64 (z i)) a)], 1⟩ =
    some (ATree.must [DiceOK n (fun (i : Nat) ↦ int IntKind.i64 (z i)) a, (0 : Nat) < 1] (ATree.must [(0 : Nat) < 1] (ATree.leaf AEx.ret ([rat (numV n (fun (i : Nat) ↦ int IntKind.i64 (z i)) a) 64], some { row := false, wr := true, es := 2, len := 1, f := fun (x : Nat) ↦ agg [tab 1 n fun (i : Nat) ↦ int IntKind.i64 (z i), int IntKind.i64 (numA n (fun (i : Nat) ↦ int IntKind.i64 (z i)) a)] })))) := by kernel_rfl
theorem s_mNumber_ok : ∀ K args pre r, diceSpec g_number K args pre = some r → FOK P made_Dice_Number K args pre r := by
  refine diceSpec_ok fun {k n z a l v b q o} K hg ho hd hq => ?_
  unfold g_number at hg
  split at hg
  · simp only [Option.some.injEq, Prod.mk.injEq] at hg
    obtain ⟨rfl, rfl, rfl⟩ := hg
    refine fok_obj hT GP_ok hm is_mNumber rfl rfl (of_decide_eq_true (by kernel_rfl)) ho 60 mNumber_end (fun _ => ?_) K
    simp only [ATree.all, allP]
    exact ⟨⟨hd, by omega⟩, by omega, .refl _, _, rfl, rfl, diceLe rfl rfl⟩
  · simp at hg
end Go.Am.B

/- law09: made, at. -/
namespace Go.Am.B
open Go Go.Am.N AV ATree AEx IntKind
end Go.Am.B

/- ref02.Text of a few numbers; law09.awake. -/
namespace Go.Am.B
open Go Go.Am.N AV ATree AEx IntKind
def GBy : Contracts := [sG, (ref01_byLimb, s_fbyLimb)]
theorem tx_3 : funT T GBy [] 60 fn_ref01_Text (codeOf fn_ref01_Text) ⟨zipSlots 0 [.mag 3], [], 0⟩ =
    let c1 : Int := (↑(1 : Nat) : Int); some (must [nl 3 < 2 ^ 40, (0 : Int) < (1000000000 : Int), (1000000000 : Int) < (2 : Int) ^ 32] (must [(10 : Int) ≠ (0 : Int), (0 : Nat) < 1 ∧ 1 * ((1 : Nat) + 1) * 2 ≤ 2 ^ 47] (must [(10 : Int) ≠ (0 : Int)] (must [(0 : Int) ≤ c1 ∧ c1 ≤ c1 ∧ c1 ≤ (2 : Int) ^ 47 ∧ c1 * c1 ≤ (2 : Int) ^ 47] (leaf ret [str [UInt8.ofNat (u8.wrap (u32.wrap ((48 : Int) + (↑((3 : Nat) % Int.toNat (1000000000 : Int)) : Int).tmod (10 : Int)))).toNat]]))))) := by kernel_rfl
theorem GBy_ok : GOK P GBy := gok_strict (gok_cons s_fbyLimb_ok gok_nil)
theorem Kn.congr {n p : Nat} {k k' : Nat → Rat} (h : Kn n p k) (e : ∀ i, i < n → k i = k' i) : Kn n p k' := by
  have hp := h.p1
  have hl := h.len
  refine ⟨h.p1, h.len, fun i hi => ?_, fun i hi => ?_, fun i h1 h2 => ?_, fun i h1 h2 => ?_⟩
  · rw [← e i (by omega), ← e (i + 1) hi]; exact h.sorted i hi
  · rw [← e i (by omega), ← e 0 (by omega)]; exact h.first i hi
  · rw [← e i h2, ← e (n - 1) (by omega)]; exact h.last i h1 h2
  · rw [← e i (by omega), ← e (i + p) (by omega)]; exact h.mult i h1 h2
theorem kn622 {f : Nat → Rat} (h : ∀ i, i < 6 → f i = endK 2 0 (fun _ => ((0 : Int) : Rat)) ((0 : Int) : Rat) i) : Kn 6 2 f :=
  ((KG.start (p := 2) (by omega) (z := 0) (by omega) (by omega)).done : Kn (2 * 2 + 2 + 0) 2 _).congr fun i hi => (h i hi).symm
end Go.Am.B
