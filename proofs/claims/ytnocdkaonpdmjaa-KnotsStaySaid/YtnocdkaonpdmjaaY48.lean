/- knots.Times, ref08.Times; knots.copied. -/
import Derived.Test.YtnocdkaonpdmjaaY45
import Derived.Test.YtnocdkaonpdmjaaC8
import Derived.Test.YtnocdkaonpdmjaaZ2
import Derived.Test.YtnocdkaonpdmjaaB33
set_option linter.unusedVariables false
namespace Go.Am.B
open Go Go.Am.N AV ATree AEx IntKind
theorem is_kTm : FnIs P knots_Times fn_knots_Times (codeOf fn_knots_Times) := fnIs get_knots_Times (by kernel_rfl) (by kernel_rfl) (by kernel_rfl)
theorem is_kCd : FnIs P knots_copied fn_knots_copied (codeOf fn_knots_copied) := fnIs get_knots_copied (by kernel_rfl) (by kernel_rfl) (by kernel_rfl)
abbrev tmL : List Nat := [3, 5, 8, 9, 10]
abbrev tmV (n : Nat) (k : Nat → Rat) (c i : Nat) : List AV := [.ptr 0 0 3 0 [], .int .i64 c, ls k n, .int .i64 n, .int .i64 i]
noncomputable abbrev tmC : Code := codeOf fn_knots_Times
abbrev sJ : Nat := 4000
abbrev rowW (m : Nat) (k : Nat → Rat) : AObj := ⟨true, true, 3, m, fun i => .rat (k i) sK⟩
abbrev cdL : List Nat := [3, 9, 10, 11]
abbrev cdV (n : Nat) (k : Nat → Rat) (i : Nat) : List AV := [.own 0 3 0 i, lsA k n sJ, .int .i64 n, .int .i64 i]
noncomputable abbrev cdC : Code := codeOf fn_knots_copied
theorem tm_pre {n : Nat} {k : Nat → Rat} {t : Rat} : seeL T nRat [] 60 tmL (before tmC [1,1,0,1]) ⟨zipSlots 0 [ls k n, .rat t sK], [], 0⟩ =
    some (leaf normal ([ptr 0 0 (deN (rat t sK)).size 0 [], int i64 (0 : Int), tab 3 n fun i ↦ rat (k i) 4096, int i64 (↑n : Int), int i64 (0 : Int)], [((0 : Nat), AObj.mk false true (deN (rat t sK)).size 1 fun x ↦ rat t 4096)])) := by kernel_rfl
theorem tm_b {n c i : Nat} {k : Nat → Rat} {t : Rat} : seeL T nRat [11, 16] 60 tmL [part tmC [1,1,0,1,0,0]] ⟨zipL tmL (tmV n k c i), [(0, tP t sK)], 1⟩ =
    let c10 : Int := (↑n : Int); let c9 : Prop := 0 < 1; let c8 : Int := (↑c : Int) + (1 : Int); let c7 : AV := tab 3 n fun i ↦ rat (k i) 4096; let c5 : Int := (↑i : Int); let c4 : AV := ptr 0 0 3 0 []; let c2 : Int := (2 : Int) ^ 63; let c1 : Nat × AObj := ((0 : Nat), AObj.mk false true 3 1 fun x ↦ rat t 4096); let c6 : Int := c5 + (1 : Int); let c3 : List AV := [c7, int i64 c10, int i64 c6]; some (fork (decide (c5 < c10)) (must [(0 : Int) ≤ c5 ∧ c5.toNat < n, c9] (must [c9, c9] (fork (decide (k c5.toNat = t)) (must [-c2 ≤ c8 ∧ c8 < c2] (must [-c2 ≤ c6 ∧ c6 < c2] (leaf normal (c4 :: int i64 c8 :: c3, [c1])))) (must [-c2 ≤ c6 ∧ c6 < c2] (leaf normal (c4 :: int i64 (↑c : Int) :: c3, [c1])))))) (leaf (exit 0) ([c4, int i64 (↑c : Int), c7, int i64 c10, int i64 c5], [c1]))) := by kernel_rfl
theorem tm_e {n c i : Nat} {k : Nat → Rat} {t : Rat} : endL T nRat [] 60 fn_knots_Times [part tmC [1,1,1]] ⟨zipL tmL (tmV n k c i), [(0, tP t sK)], 1⟩ =
    some (leaf ret [int i64 (↑c : Int)]) := by kernel_rfl
theorem cd_pre {n : Nat} {k : Nat → Rat} : seeL T nRat [] 60 cdL (before cdC [1,1,0,1]) ⟨zipSlots 0 [lsA k n sJ], [], 0⟩ =
    let c1 : Int := (↑n : Int); some (must [(0 : Int) ≤ (0 : Int) ∧ (0 : Int) ≤ c1 ∧ c1 ≤ (2 : Int) ^ 47 ∧ c1 * (↑(56 : Nat) : Int) ≤ (2 : Int) ^ 47] (leaf normal ([own 12288 3 0 0, tab 3 n fun i ↦ rat (k i) 4000, int i64 c1, int i64 (0 : Int)], [((12288 : Nat), AObj.mk true true 3 0 fun x ↦ rat 0 1)]))) := by kernel_rfl
theorem cd_b {n i : Nat} {k : Nat → Rat} : seeL T nRat [12] 60 cdL [part cdC [1,1,0,1,0,0]] ⟨zipL cdL (cdV n k i), [(0, rowW i k)], 1⟩ =
    let c4 : Int := (↑n : Int); let c2 : AV := tab 3 n fun i ↦ rat (k i) 4000; let c1 : Int := (↑i : Int); let c3 : Int := c1 + (1 : Int); some (fork (decide (c1 < c4)) (must [(0 : Int) ≤ c1 ∧ c1.toNat < n, (0 : Nat) < 1] (must [(0 : Nat) < 1, (1 : Nat) * 3 ≤ 2 ^ 24, (i + 1) * ((56 : Nat) + 1) * 2 ≤ 2 ^ 47] (must [-(2 : Int) ^ 63 ≤ c3 ∧ c3 < (2 : Int) ^ 63] (leaf normal ([own 40961 3 0 (i + 1), c2, int i64 c4, int i64 c3], [((40961 : Nat), AObj.mk true true 3 (i + 1) fun i_1 ↦ if i_1 < i then rat (k i_1) sK else nth [rat (k c1.toNat + 0) (sJ + 1 + 1)] (rat 0 1) (i_1 - i + 0))]))))) (leaf (exit 0) ([own 0 3 0 i, c2, int i64 c4, int i64 c1], [((0 : Nat), AObj.mk true true 3 i fun i ↦ rat (k i) 4096)]))) := by kernel_rfl
theorem cd_e {n i : Nat} {k : Nat → Rat} : seeL T nRat [] 60 [2] [part cdC [1,1,1]] ⟨zipL cdL (cdV n k i), [(0, rowW i k)], 1⟩ =
    some (leaf ret ([own 0 3 0 i], [((0 : Nat), AObj.mk true true 3 i fun i ↦ rat (k i) 4096)])) := by kernel_rfl
theorem tms_yes {k : Nat → Rat} {t : Rat} {i : Nat} (h : k i = t) : tmsN k t (i + 1) = tmsN k t i + 1 := by rw [tmsN, if_pos h]
theorem tms_no {k : Nat → Rat} {t : Rat} {i : Nat} (h : ¬ k i = t) : tmsN k t (i + 1) = tmsN k t i := by rw [tmsN, if_neg h]; rfl
theorem kTm_ok {n : Nat} {k : Nat → Rat} {t : Rat} (hn : n < 2 ^ 40) (K : Nat) : FOK P knots_Times K [ls k n, .rat t sK] [] (pres (.int .i64 (tmsN k t n)) []) := by
  refine fok_loop (r := pres (.int .i64 (tmsN k t n)) []) hT nRat_ok hm is_kTm rfl (of_decide_eq_true (by kernel_rfl)) rfl [1,1,0,1] (i := 0) (y := part tmC [1,1,0,1,0,0]) (z := part tmC [1,1,1]) (by kernel_rfl) (by kernel_rfl) (by kernel_rfl) (f1 := []) (f2 := [11, 16]) (f3 := []) 60 tmL 1
    (fun i : Nat => tmV n k (tmsN k t i) i) (fun _ => [(0, tP t sK)]) (fun i => i ≤ n) (fun i => i = n) (fun i => n - i) (fun _ => ⟨⟨_, tm_pre, ?_⟩, fun i hi => ⟨_, tm_b, ?_⟩, fun i hi => ⟨_, tm_e, ?_⟩⟩) K []
  · simp only [ATree.all, allP]
    exact ⟨0, Nat.zero_le _, [(0, 0)], rfl, rfl, rfl, objsQ_one rfl rfl (avQ_eq rfl rfl) trivial⟩
  · have h1 := tmsN_le (k := k) (t := t) (n := i)
    simp only [ATree.all, allP, decide_eq_true_eq, decide_eq_false_iff_not, Int.toNat_natCast, Nat.add_zero]
    refine ⟨fun h2 => ⟨by omega, by omega, fun h3 => ⟨by omega, by omega, i + 1, by omega, by dsimp only; omega, [(0, 0)], rfl, ?_, rfl, objsQ_one rfl rfl (avQ_eq rfl rfl) trivial⟩, fun h3 => ⟨by omega, i + 1, by omega, by dsimp only; omega, [(0, 0)], rfl, ?_, rfl, objsQ_one rfl rfl (avQ_eq rfl rfl) trivial⟩⟩, fun h2 => ⟨rfl, i, by omega, [(0, 0)], rfl, rfl, rfl, objsQ_one rfl rfl (avQ_eq rfl rfl) trivial⟩⟩
    · show _ = (tmV n k (tmsN k t (i + 1)) (i + 1)).map _
      rw [tms_yes h3]; rfl
    · show _ = (tmV n k (tmsN k t (i + 1)) (i + 1)).map _
      rw [tms_no h3]; rfl
  · subst hi
    simp only [ATree.all, allP]
    exact .refl _
abbrev kTmL : KindL ((Nat × (Nat → Rat)) × Rat × Unit) := kC (kL sK) (kC (kRs sK) kN)
noncomputable def s_kTm : Spec := spL kTmL (fun a => .int .i64 (tmsN a.1.2 a.2.1 a.1.1)) fun a => [a.1.1 < 2 ^ 40]
theorem s_kTm_ok : ∀ K args pre r, s_kTm K args pre = some r → FOK P knots_Times K args pre r := spL_ok fun ⟨⟨n, k⟩, t, _⟩ K hn => kTm_ok hn K
theorem kCd_ok {args : List AV} {n : Nat} {k : Nat → Rat} {l : List Prop} (ha : allP l → avLes (ren []) args [lsA k n sJ]) (hn : allP l → n < 2 ^ 40) (K : Nat) : FOK P knots_copied K args [] ⟨oneOr [.own K 3 0 n], [(K, rowW n k)], l⟩ := by
  refine fok_newA hT is_kCd ha (of_decide_eq_true (by kernel_rfl)) fun need c hk => ?_
  have hn := hn need
  refine AWp.hloop hT nRat_ok hm [1,1,0,1] (i := 0) (y := part cdC [1,1,0,1,0,0]) (z := part cdC [1,1,1]) (by kernel_rfl) (by kernel_rfl) (by kernel_rfl) is_kCd.dst hk (f1 := []) (f2 := [12]) 60 cdL 1 (fun i : Nat => cdV n k i) (fun i => [(0, rowW i k)])
    (fun i => i ≤ n) (fun i => i = n) (fun i => n - i) (fun _ => False) ⟨_, cd_pre, ?_⟩ (fun i hi => ⟨_, cd_b, ?_⟩) (fun i hi => ?_) (fun _ _ h => h.elim)
  · simp only [ATree.all, allP]
    exact ⟨by omega, 0, Nat.zero_le _, [(0, 12288)], rfl, rfl, rfl, objsQ_cons rfl rfl rfl (fun i hi => absurd hi (Nat.not_lt_zero i)) trivial⟩
  · simp only [ATree.all, allP, decide_eq_true_eq, decide_eq_false_iff_not, Int.toNat_natCast, Nat.add_zero]
    exact ⟨fun h2 => ⟨by omega, by omega, by omega, i + 1, by omega, by dsimp only; omega, [(0, 40961)], rfl, rfl, rfl, objsQ_cons rfl rfl rfl (fun j hj => rowAdd (fun _ _ => rfl) (Rat.add_zero _) (Nat.le_refl _) (by decide) hj) trivial⟩, fun h2 => ⟨rfl, i, by omega, [(0, 0)], rfl, rfl, rfl, objsQ_cons rfl rfl rfl (fun j hj => avQ_eq rfl rfl) trivial⟩⟩
  · subst hi
    refine AWp.see hT nRat_ok hm 60 [2] cd_e (by kernel_rfl) fun s' hs' => ⟨.inr rfl, [2], _, [.own 0 3 0 i], _, 0, _, hs', by kernel_rfl, ⟨⟨rfl, avLe_own (by simp [ren, look]) rfl rfl⟩, trivial⟩, rfl, objLe_of rfl fun i hi => avLe_pure rfl⟩
noncomputable def s_kCd : Spec := frzSpec fun K l => match l with
  | [v] => match (kL sJ).read v with
    | some ((n, k), q) => some ⟨.own K 3 0 n, [(K, rowW n k)], q ++ [n < 2 ^ 40]⟩
    | none => none
  | _ => none
theorem s_kCd_ok : ∀ K args pre r, s_kCd K args pre = some r → FOK P knots_copied K args pre r := by
  refine frzSpec_ok fun K args r hk hs => ?_
  split at hs
  · rename_i v
    split at hs
    · rename_i n k q hv
      simp only [Option.some.injEq] at hs
      subst hs
      exact kCd_ok (fun hn => avLes_of0 hk (by cases v <;> first | rfl | simp [kL, lsOf] at hv) ⟨(kL sJ).ok hv (allP_append.1 hn).1, trivial⟩) (fun hn => (allP_append (a := q) (b := [n < 2 ^ 40]).1 hn).2) K
    · simp at hs
  · simp at hs
end Go.Am.B

/- Affine changes of knots: knots.Affine, ref08.Affine; ref08.Mirror. -/
namespace Go.Am.B
open Go Go.Am.N AV ATree AEx IntKind
theorem is_kAf : FnIs P knots_Affine fn_knots_Affine (codeOf fn_knots_Affine) := fnIs get_knots_Affine (by kernel_rfl) (by kernel_rfl) (by kernel_rfl)
def GAf : Contracts := nG :: (rational_Quo, sp2 kR kR oQuo rNeed) :: GR0
def affF (n : Nat) (k : Nat → Rat) (a b : Rat) (i : Nat) : Rat := a + (k i - k 0) / (k (n - 1) - k 0) * (b - a)
def mirF (n : Nat) (k : Nat → Rat) (i : Nat) : Rat := k 0 + k (n - 1) - k (n - 1 - i)
abbrev rowS1 (m : Nat) (k : Nat → Rat) (s : Nat) : AObj := ⟨true, true, 3, m, fun i => .rat (k i) s⟩
abbrev afL : List Nat := [0, 4, 5, 6, 7, 8, 17, 18, 19]
abbrev afV (n : Nat) (k : Nat → Rat) (s i : Nat) : List AV := [lsA k n s, .ptr 0 0 3 0 [], .ptr 1 0 3 0 [], .nil, .int .i64 0, .own 2 3 0 i, lsA k n s, .int .i64 n, .int .i64 i]
abbrev afO (i : Nat) (x : Nat → Rat) (a b : Rat) (r w : Nat) : Store := [(2, rowS1 i x w), (1, tP b r), (0, tP a r)]
noncomputable abbrev afC : Code := codeOf fn_knots_Affine
def affN (n : Nat) (a b : Rat) : Nat := if b ≤ a then 0 else n
def affE (a b : Rat) : Int := if b ≤ a then 7 else 0
abbrev affRes (n : Nat) (k : Nat → Rat) (a b : Rat) (w : Nat) : AV := .tuple [lsA (affF n k a b) (affN n a b) w, .int .i64 (affE a b)]
theorem af_pre {n s r : Nat} {k : Nat → Rat} {a b : Rat} : seeL T GAf [16] 60 afL (before afC [1,1,1,0,1]) ⟨zipSlots 0 [lsA k n s, .rat a r, .rat b r], [], 0⟩ =
    let c5 : Prop := r < 2 ^ 42; let c4 : AV := ptr 0 0 (deN (rat a r)).size 0 []; let c3 : AV := ptr 4096 0 (deN (rat b r)).size 0 []; let c2 : AV := tab 3 n fun i ↦ rat (k i) s; let c1 : List (Nat × AObj) := [((4096 : Nat), AObj.mk false true (deN (rat b r)).size 1 fun x ↦ rat b r), ((0 : Nat), AObj.mk false true (deN (rat a r)).size 1 fun x ↦ rat a r)]; some (must [(0 : Nat) < 1, (0 : Nat) < 1, c5, c5] (fork (decide (cmpR a b ≥ (0 : Int))) (leaf ret ([c2, c4, c3, nil, int i64 (7 : Int), tuple [], tuple [], tuple [], tuple []], c1)) (leaf normal ([c2, c4, c3, nil, int i64 (0 : Int), nil, c2, int i64 (↑n : Int), int i64 (0 : Int)], c1)))) := by kernel_rfl
theorem af_b {n s r w i : Nat} {k x : Nat → Rat} {a b : Rat} : seeL T GAf [20] 60 afL [part afC [1,1,1,0,1,0,0]] ⟨zipL afL (afV n k s i), afO i x a b r w, 3⟩ =
    let c13 : Nat := r + r + 1; let c12 : Int := (↑n : Int); let c11 : AV := ptr 1 0 3 0 []; let c10 : AV := ptr 0 0 3 0 []; let c9 : Nat := Int.toNat (0 : Int); let c8 : Int := (↑i : Int); let c7 : Int := (2 : Int) ^ 63; let c5 : AV := tab 3 n fun i ↦ rat (k i) s; let c4 : Nat := s + s + 1; let c3 : Prop := 0 < 1; let c2 : List (Nat × AObj) := [((1 : Nat), AObj.mk false true 3 1 fun x ↦ rat b r), ((0 : Nat), AObj.mk false true 3 1 fun x ↦ rat a r)]; let c1 : Nat := 2 ^ 42; let c15 : Int := c8 + (1 : Int); let c14 : Prop := (0 : Int) ≤ (0 : Int) ∧ c9 < n; let c6 : Int := c12 - (1 : Int); some (fork (decide (c8 < c12)) (must [(0 : Int) ≤ c8 ∧ c8.toNat < n, c3] (must [c3, c14, s < c1, s < c1, -c7 ≤ c6 ∧ c6 < c7, (0 : Int) ≤ c6 ∧ c6.toNat < n, c14, s < c1, s < c1, c4 < c1, c4 < c1, c3] (must [c3, c3, c3, c3, r < c1, r < c1, c4 + c4 < c1, c13 < c1, r < c1, c4 + c4 + c13 < c1, (1 : Nat) * 3 ≤ 2 ^ 24, (i + 1) * ((56 : Nat) + 1) * 2 ≤ 2 ^ 47] (must [-c7 ≤ c15 ∧ c15 < c7] (leaf normal ([c5, c10, c11, nil, int i64 (0 : Int), own 147459 3 0 (i + 1), c5, int i64 c12, int i64 c15], ((147459 : Nat), AObj.mk true true 3 (i + 1) fun i_1 ↦ if i_1 < i then rat (x i_1) w else nth [rat (a + (k c8.toNat - k c9) / (k c6.toNat - k c9) * (b - a)) (r + (c4 + c4 + c13) + 1)] (rat 0 1) (i_1 - i + 0)) :: c2)))))) (leaf (exit 0) ([c5, c10, c11, nil, int i64 (0 : Int), own 2 3 0 i, c5, int i64 c12, int i64 c8], ((2 : Nat), AObj.mk true true 3 i fun i ↦ rat (x i) w) :: c2))) := by kernel_rfl
theorem af_e {n s r w i : Nat} {k x : Nat → Rat} {a b : Rat} : endL T GAf [] 60 fn_knots_Affine [part afC [1,1,1,1]] ⟨zipL afL (afV n k s i), afO i x a b r w, 3⟩ =
    some (leaf ret [tab 3 i fun i ↦ rat (x (i + 0)) w, int i64 (0 : Int)]) := by kernel_rfl
theorem GAf_ok : GOK P GAf := gok_plain (gok_cons (sp2_ok fun _ _ K hn => rQuo_ok hn.1 hn.2 K) GR0_ok)
theorem affRes_no {n w : Nat} {k : Nat → Rat} {a b : Rat} (h : b ≤ a) : resOK [.nil, .int .i64 7] (affRes n k a b w) :=
  ⟨by unfold affN; rw [if_pos h]; exact avLe0_nil_tab (by decide), avLe0_int (by unfold affE; rw [if_pos h]), trivial⟩
theorem affRes_yes {n w : Nat} {k : Nat → Rat} {a b : Rat} (h : a < b) : resOK [lsA (affF n k a b) n w, .int .i64 0] (affRes n k a b w) := by
  have h' : ¬ b ≤ a := Rat.not_le.2 h
  exact ⟨by unfold affN; rw [if_neg h']; exact .refl _, avLe0_int (by unfold affE; rw [if_neg h']), trivial⟩
theorem kAf_ok {n s r w : Nat} {k : Nat → Rat} {a b : Rat} (h : 4 * s + 3 * r + 4 ≤ w) (hw : w < 2 ^ 40) (hn1 : 1 ≤ n) (hn : n < 2 ^ 40) (K : Nat) : FOK P knots_Affine K [lsA k n s, .rat a r, .rat b r] [] (pres (affRes n k a b w) []) := by
  have e0 : ((n : Int) - 1).toNat = n - 1 := by omega
  refine fok_loop (r := pres (affRes n k a b w) []) hT GAf_ok hm is_kAf rfl (of_decide_eq_true (by kernel_rfl)) rfl [1,1,1,0,1] (i := 0) (y := part afC [1,1,1,0,1,0,0]) (z := part afC [1,1,1,1]) (by kernel_rfl) (by kernel_rfl) (by kernel_rfl) (f1 := [16]) (f2 := [20]) (f3 := []) 60 afL 3
    (fun i : Nat => afV n k s i) (fun i => afO i (affF n k a b) a b r w) (fun i => i ≤ n ∧ a < b) (fun i => i = n ∧ a < b) (fun i => n - i) (fun _ => ⟨⟨_, af_pre, ?_⟩, fun i hi => ⟨_, af_b, ?_⟩, fun i hi => ⟨_, af_e, ?_⟩⟩) K []
  · simp only [ATree.all, allP, decide_eq_true_eq, decide_eq_false_iff_not, cmpR_ge]
    exact ⟨by omega, fun h1 => ⟨_, by kernel_rfl, affRes_no h1⟩, fun h1 => ⟨0, ⟨by omega, Rat.not_le.1 h1⟩, [(0, 0), (1, 4096)], rfl, rfl, rfl, objsQ_new rfl (by omega) (by omega) (objsQ_one rfl rfl (avQ_eq rfl rfl) (objsQ_one rfl rfl (avQ_eq rfl rfl) trivial))⟩⟩
  · simp only [ATree.all, allP, decide_eq_true_eq, decide_eq_false_iff_not, Int.toNat_natCast, Nat.add_zero, Int.toNat_zero, e0]
    exact ⟨fun h1 => ⟨by omega, by omega, by omega, by omega, i + 1, ⟨by omega, hi.2⟩, by dsimp only; omega, [(0, 0), (1, 1), (2, 147459)], rfl, rfl, rfl, objsQ_cons rfl rfl rfl (fun j hj => rowAdd (fun _ _ => rfl) rfl (Nat.le_refl _) (by omega) hj) (objsQ_one rfl rfl (avQ_eq rfl rfl) (objsQ_one rfl rfl (avQ_eq rfl rfl) trivial))⟩,
      fun h1 => ⟨rfl, i, ⟨by omega, hi.2⟩, [(0, 0), (1, 1), (2, 2)], rfl, rfl, rfl, objsQ_cons rfl rfl rfl (fun j hj => avQ_eq rfl rfl) (objsQ_one rfl rfl (avQ_eq rfl rfl) (objsQ_one rfl rfl (avQ_eq rfl rfl) trivial))⟩⟩
  · obtain ⟨rfl, hab⟩ := hi
    simp only [ATree.all, allP]
    exact affRes_yes hab
end Go.Am.B

/- slices.CompactFunc of numbers; knots.Distinct. -/
namespace Go.Am.B
open Go Go.Am.N AV ATree AEx IntKind
theorem is_cpF : FnIs P slices_CompactFunc_api_Rat_api_Rat fn_slices_CompactFunc_api_Rat_api_Rat (codeOf fn_slices_CompactFunc_api_Rat_api_Rat) := fnIs get_slices_CompactFunc_api_Rat_api_Rat (by kernel_rfl) (by kernel_rfl) (by kernel_rfl)
theorem is_kDi : FnIs P knots_Distinct fn_knots_Distinct (codeOf fn_knots_Distinct) := fnIs get_knots_Distinct (by kernel_rfl) (by kernel_rfl) (by kernel_rfl)
noncomputable abbrev cpFn : Func := fn_slices_CompactFunc_api_Rat_api_Rat
noncomputable abbrev cpC : Code := codeOf cpFn
noncomputable abbrev cpY : Code := part cpC [1,1,0,1,0,0]
noncomputable abbrev cpX : Code := part cpY [1,0,0]
noncomputable abbrev cpU : Code := part cpX [1,0]
abbrev cpL1 : List Nat := [4, 0, 1, 5]
abbrev cpV1 (n i : Nat) : List AV := [.nil, .own 0 3 0 n, .func rational_Same [], .int .i64 i]
abbrev cpLb : List Nat := [4, 0, 1, 5, 28]
abbrev cpVb (n i : Nat) (b : Bool) : List AV := [.nil, .own 0 3 0 n, .func rational_Same [], .int .i64 i, .bool b]
abbrev cpL2 : List Nat := [4, 0, 1, 5, 6, 7]
abbrev cpV2 (n m b j : Nat) : List AV := [.nil, .own 0 3 0 n, .func rational_Same [], .int .i64 m, .own 0 3 b (n - b), .int .i64 j]
theorem cp_pre {n : Nat} {k : Nat → Rat} : seeL T nRat [10] 60 cpL1 (before cpC [1,1,0,1]) ⟨zipSlots 0 [.own 0 3 0 n, .func rational_Same []], [(0, rowW n k)], 1⟩ =
    let c2 : Nat × AObj := ((0 : Nat), AObj.mk true true 3 n fun i ↦ rat (k i) 4096); let c1 : AV := own 0 3 0 n; some (fork (decide ((↑n : Int) < (2 : Int))) (leaf ret ([c1, c1, func rational_Same [], tuple []], [c2])) (leaf normal ([nil, c1, func rational_Same [], int i64 (1 : Int)], [c2]))) := by kernel_rfl
theorem cp_o {n i : Nat} {k : Nat → Rat} : seeL T nRat [15] 60 cpL1 (before cpY [1,0]) ⟨zipL cpL1 (cpV1 n i), [(0, rowW n k)], 1⟩ =
    let c1 : List AV × Store := ([nil, own 0 3 0 n, func rational_Same [], int i64 (↑i : Int)], [((0 : Nat), AObj.mk true true 3 n fun i ↦ rat (k i) 4096)]); some (fork (decide ((↑i : Int) < (↑n : Int))) (leaf normal c1) (leaf (exit 0) c1)) := by kernel_rfl
theorem cp_c {n i : Nat} {k : Nat → Rat} : seeL T nRat [] 60 cpLb (before cpX [1]) ⟨zipL cpL1 (cpV1 n i), [(0, rowW n k)], 1⟩ =
    let c4 : Int := (↑i : Int); let c2 : Nat := c4.toNat + 0; let c1 : Int := c4 - (1 : Int); let c3 : Nat := c1.toNat + 0; some (must [(0 : Int) ≤ c4 ∧ c4.toNat < n, c2 < n, -(2 : Int) ^ 63 ≤ c1 ∧ c1 < (2 : Int) ^ 63, (0 : Int) ≤ c1 ∧ c1.toNat < n, c3 < n] (leaf normal ([nil, own 0 3 0 n, func rational_Same [], int i64 c4, AV.bool (decide (k c2 = k c3))], [((0 : Nat), AObj.mk true true 3 n fun i ↦ rat (k i) 4096)]))) := by kernel_rfl
theorem cp_i {n i : Nat} {b : Bool} {k : Nat → Rat} : seeL T nRat [] 60 cpL2 (before cpU [1,0,1]) ⟨zipL cpLb (cpVb n i b), [(0, rowW n k)], 1⟩ =
    let c2 : Int := (↑i : Int); let c1 : Int := (↑n : Int); some (must [(0 : Int) ≤ c2 ∧ c2 ≤ c1 ∧ c1 ≤ c1 ∧ c1 ≤ c1] (leaf normal ([nil, own 0 3 0 n, func rational_Same [], int i64 c2, own 0 3 ((0 : Nat) + c2.toNat) (c1.toNat - c2.toNat), int i64 (1 : Int)], [((0 : Nat), AObj.mk true true 3 n fun i ↦ rat (k i) 4096)]))) := by kernel_rfl
theorem cp_b {n m b j : Nat} {k : Nat → Rat} : seeL T nRat [35, 49] 60 cpL2 [part cpU [1,0,1,0,0]] ⟨zipL cpL2 (cpV2 n m b j), [(0, rowW n k)], 1⟩ =
    let c11 : AV := func rational_Same []; let c7 : AV := own 0 3 b (n - b); let c6 : Nat × AObj := ((0 : Nat), AObj.mk true true 3 n fun i ↦ rat (k i) 4096); let c5 : Int := (↑m : Int); let c4 : AV := own 0 3 0 n; let c2 : Int := (2 : Int) ^ 63; let c1 : Int := (↑j : Int); let c13 : Int := c5 + (1 : Int); let c12 : Prop := (0 : Int) ≤ c1 ∧ c1.toNat < n - b; let c10 : Nat := c5.toNat + 0; let c9 : Nat := c1.toNat + b; let c8 : Int := c1 + (1 : Int); let c3 : Int := c1 - (1 : Int); some (fork (decide (c1 < (↑(n - b) : Int))) (must [c12, c9 < n, -c2 ≤ c3 ∧ c3 < c2, (0 : Int) ≤ c3 ∧ c3.toNat < n - b, c3.toNat + b < n] (fork (!decide (k c9 = k (c3.toNat + b))) (must [c12, c9 < n, (0 : Int) ≤ c5 ∧ c5.toNat < n, c10 < n] (must [-c2 ≤ c13 ∧ c13 < c2] (must [-c2 ≤ c8 ∧ c8 < c2] (leaf normal ([nil, c4, c11, int i64 c13, c7, int i64 c8], [((0 : Nat), AObj.mk true true 3 n fun j ↦ rat (bif j == c10 then k c9 else k j) (bif j == c10 then sK else sK))]))))) (must [-c2 ≤ c8 ∧ c8 < c2] (leaf normal ([nil, c4, c11, int i64 c5, c7, int i64 c8], [c6]))))) (leaf (exit 2) ([nil, c4, c11, int i64 c5, c7, int i64 c1], [c6]))) := by kernel_rfl
theorem cp_r {n m b j : Nat} {k : Nat → Rat} : seeL T nRat [] 60 cpL1 [part cpU [1,1]] ⟨zipL cpL2 (cpV2 n m b j), [(0, rowW n k)], 1⟩ =
    let c4 : Int := (↑n : Int); let c2 : Int := (↑m : Int); let c3 : Nat := 0 + c2.toNat; let c1 : Nat := c3 + (c4.toNat - c2.toNat); some (must [(0 : Int) ≤ c2 ∧ c2 ≤ c4 ∧ c4 ≤ c4 ∧ c4 ≤ c4] (must [(0 : Int) ≤ (0 : Int) ∧ (0 : Int) ≤ c2 ∧ c2 ≤ c2 ∧ c2 ≤ c4] (leaf ret ([own 0 3 0 (c2.toNat - Int.toNat (0 : Int)), own 0 3 0 n, func rational_Same [], int i64 c2], [((0 : Nat), AObj.mk true true 3 n fun i ↦ if c3 ≤ i ∧ i < c1 then rat 0 1 else rat (k i) sK)])))) := by kernel_rfl
theorem cp_f {n i : Nat} {b : Bool} {k : Nat → Rat} : seeL T nRat [] 60 cpL1 [part cpX [1,1], part cpY [1,1]] ⟨zipL cpLb (cpVb n i b), [(0, rowW n k)], 1⟩ =
    let c1 : Int := (↑i : Int) + (1 : Int); some (must [-(2 : Int) ^ 63 ≤ c1 ∧ c1 < (2 : Int) ^ 63] (leaf normal ([nil, own 0 3 0 n, func rational_Same [], int i64 c1], [((0 : Nat), AObj.mk true true 3 n fun i ↦ rat (k i) 4096)]))) := by kernel_rfl
theorem cp_e {n i : Nat} {k : Nat → Rat} : seeL T nRat [] 60 cpL1 [part cpC [1,1,1]] ⟨zipL cpL1 (cpV1 n i), [(0, rowW n k)], 1⟩ =
    let c1 : AV := own 0 3 0 n; some (leaf ret ([c1, c1, func rational_Same [], int i64 (↑i : Int)], [((0 : Nat), AObj.mk true true 3 n fun i ↦ rat (k i) 4096)])) := by kernel_rfl
def cpE (k : Nat → Rat) (n i : Nat) : Rat := if i < dsN k n then dsF k n i else 0
theorem cpE_all {k : Nat → Rat} {n : Nat} (h : ∀ j, j < n → isNew k j) {i : Nat} (hi : i < n) : dsN k n = n ∧ cpE k n i = k i := by
  obtain ⟨h1, h2⟩ := cpS_all h
  unfold cpE
  rw [h1, if_pos hi]
  exact ⟨rfl, h2 i hi⟩
theorem cp_ok {kk n : Nat} {k : Nat → Rat} (hn : n < 2 ^ 40) (c : Ctx) (hk : Kept [0] c) : AWp P c cpFn.ntmps cpC ⟨zipSlots 0 [.own 0 3 0 n, .func rational_Same []], [(0, rowW n k)], 1⟩ (EndW cpFn kk [.own kk 3 0 (dsN k n)] (rowW n (cpE k n))) := by
  have hall : ∀ {L : List Nat} {us : List AV}, (∀ j, j < n → isNew k j) → resV (zipL L us) cpFn.results.toList = some [.own 0 3 0 n] → RetW cpFn kk [.own kk 3 0 (dsN k n)] (rowW n (cpE k n)) L (us, [(0, rowW n k)]) := fun h1 h2 =>
    ⟨_, _, h2, ⟨⟨rfl, avLe_own (by simp [ren, look]) rfl (cpS_all h1).1.symm⟩, trivial⟩, look_head, rfl, rfl, rfl, rfl, fun i hi => by
      show avLe _ (.rat (k i) sK) (.rat (cpE k n i) sK)
      rw [(cpE_all h1 hi).2]; exact avLe_pure rfl⟩
  refine AWp.hloopW hT nRat_ok hm [1,1,0,1] (i := 0) (y := cpY) (z := part cpC [1,1,1]) (by kernel_rfl) (by kernel_rfl) (by kernel_rfl) is_cpF.dst hk (f1 := [10]) 60 cpL1 1 (fun i : Nat => cpV1 n i) (fun _ => [(0, rowW n k)]) (fun i => 1 ≤ i ∧ i ≤ n ∧ ∀ j, j < i → isNew k j) (fun i => i = n ∧ ∀ j, j < n → isNew k j) (fun i => n - i)
    (RetW cpFn kk [.own kk 3 0 (dsN k n)] (rowW n (cpE k n)) cpL1) ⟨_, cp_pre, ?_⟩ (fun i ⟨h1, h2, h3⟩ => ?_) (fun i ⟨h1, h2⟩ => ?_) (fun v s' hv hs' => hv.fin hs')
  · simp only [ATree.all, allP, decide_eq_true_eq, decide_eq_false_iff_not]
    exact ⟨fun h => hall (fun j hj => .inl (by omega)) (by kernel_rfl), fun h => ⟨1, ⟨by omega, by omega, fun j hj => .inl (by omega)⟩, [(0, 0)], rfl, rfl, rfl, objsQ_cons rfl rfl rfl (fun x hx => avQ_eq rfl rfl) trivial⟩⟩
  · refine AWp.into hT nRat_ok hm (y := cpY) (x1 := cpX) (zb := part cpY [1,1]) [1,0] (j := 1) (by kernel_rfl) (by kernel_rfl) (by kernel_rfl) (by kernel_rfl) hk (f1 := [15]) 60 cpL1 1 (fun _ : Unit => cpV1 n i) (fun _ => [(0, rowW n k)]) (fun _ => i < n) ⟨_, cp_o, ?_⟩ (fun _ hlt => ?_)
    · simp only [ATree.all, allP, decide_eq_true_eq, decide_eq_false_iff_not]
      exact ⟨fun h => ⟨(), by omega, [(0, 0)], rfl, rfl, rfl, objsQ_cons rfl rfl rfl (fun x hx => avQ_eq rfl rfl) trivial⟩, fun h s' hs' => ⟨rfl, i, ⟨by omega, fun j hj => h3 j (by omega)⟩, ReOK.le ⟨[(0, 0)], rfl, rfl, rfl, objsQ_cons rfl rfl rfl (fun x hx => avQ_eq rfl rfl) trivial⟩ hs' hk⟩⟩
    refine AWp.branch hT nRat_ok hm (x := cpX) (u := cpU) (v := part cpX [1,1]) (b := .tmp 28) [1] (by kernel_rfl) (by kernel_rfl) (by kernel_rfl) (by kernel_rfl) hk (f1 := []) 60 cpLb 1 (fun _ : Unit => cpVb n i (decide (k i = k (i - 1)))) (fun _ => [(0, rowW n k)]) (fun _ => True) ⟨_, cp_c, ?_⟩ (fun _ _ => ⟨decide (k i = k (i - 1)), rfl, fun hb => ?_, fun hb => ?_⟩)
    · simp only [ATree.all, allP]
      simp only [Int.toNat_natCast, Nat.add_zero, show ((i : Int) - 1).toNat = i - 1 by omega]
      exact ⟨⟨⟨by omega, by omega⟩, by omega, by omega, ⟨by omega, by omega⟩, by omega⟩, (), trivial, [(0, 0)], rfl, rfl, rfl, objsQ_cons rfl rfl rfl (fun x hx => avQ_eq rfl rfl) trivial⟩
    · have hold : ¬ isNew k i := fun h => by
        rcases h with h | h
        · omega
        · exact h (of_decide_eq_true hb)
      obtain ⟨s1, s2⟩ := cpS_start h3 hold
      refine AWp.hloop0 hT nRat_ok hm (x := cpU) [1,0,1] (i := 2) (y := part cpU [1,0,1,0,0]) (by kernel_rfl) (by kernel_rfl) (by kernel_rfl) hk (f1 := []) (f2 := [35, 49]) 60 cpL2 1 (fun j : Nat => cpV2 n (dsN k (i + j)) i j) (fun j => [(0, rowW n (cpS k (i + j)))]) (fun j => 1 ≤ j ∧ i + j ≤ n) (fun j => i + j = n) (fun j => n - j) (fun _ => False) ⟨_, cp_i, ?_⟩ (fun j ⟨j1, j2⟩ => ⟨_, cp_b, ?_⟩) (fun j s' hj hle => ?_) (fun _ _ h => h.elim)
      · simp only [ATree.all, allP]
        simp only [Int.toNat_natCast, Nat.zero_add]
        refine ⟨by omega, 1, ⟨by omega, by omega⟩, [(0, 0)], rfl, ?_, rfl, objsQ_cons rfl rfl rfl (fun x hx => avQ_eq rfl ?_) trivial⟩
        · show _ = (cpV2 n (dsN k (i + 1)) i 1).map _
          rw [s1]; rfl
        · rw [s2]
      · simp only [ATree.all, allP, decide_eq_true_eq, decide_eq_false_iff_not]
        have hd := dsN_lt hold (l := i + j) (by omega)
        have e1 : cpS k (i + j) (j + i) = k (i + j) := by rw [Nat.add_comm j i]; exact cpS_back (by omega)
        have e2 : cpS k (i + j) (((j : Int) - 1).toNat + i) = k (i + j - 1) := by rw [show ((j : Int) - 1).toNat + i = i + j - 1 by omega]; exact cpS_back (by omega)
        simp only [Int.toNat_natCast, Nat.add_zero, e1, e2, Bool.not_eq_true', Bool.not_eq_false', decide_eq_true_eq, decide_eq_false_iff_not]
        refine ⟨fun h => ⟨by omega, fun hne => ⟨by omega, by omega, by omega, j + 1, by omega, by dsimp only; omega, [(0, 0)], rfl, ?_, rfl, objsQ_cons rfl rfl rfl (fun x hx => ?_) trivial⟩, fun heq => ⟨by omega, j + 1, by omega, by dsimp only; omega, [(0, 0)], rfl, ?_, rfl, objsQ_cons rfl rfl rfl (fun x hx => ?_) trivial⟩⟩, fun h => ⟨rfl, j, by omega, [(0, 0)], rfl, rfl, rfl, objsQ_cons rfl rfl rfl (fun x hx => avQ_eq rfl rfl) trivial⟩⟩
        · show _ = (cpV2 n (dsN k (i + j + 1)) i (j + 1)).map _
          rw [dsN_new (l := i + j) (.inr hne)]; rfl
        · refine .inr ⟨rfl, avLe0_rat_up ?_ (by cases (x == dsN k (i + j)) <;> exact Nat.le_refl _)⟩
          show _ = cpS k (i + j + 1) x
          rw [cpS_new (.inr hne) (by omega)]
          by_cases hx2 : x = dsN k (i + j)
          · subst hx2; simp
          · have : (x == dsN k (i + j)) = false := by simpa using hx2
            rw [this, if_neg hx2]; rfl
        · have hold2 : ¬ isNew k (i + j) := fun h => by
            rcases h with h | h
            · omega
            · exact h heq
          show _ = (cpV2 n (dsN k (i + j + 1)) i (j + 1)).map _
          rw [dsN_old hold2]; rfl
        · have hold2 : ¬ isNew k (i + j) := fun h => by
            rcases h with h | h
            · omega
            · exact h heq
          exact avQ_eq rfl (by show _ = AV.rat (cpS k (i + j + 1) x) sK; rw [(cpS_old hold2).2])
      · rw [show behind cpU [1,0,1] = [part cpU [1,1]] from by kernel_rfl]
        refine AWpL.weak rfl hle (AWpL.see hT nRat_ok hm 60 cpL1 cp_r (by kernel_rfl) ?_)
        simp only [ATree.all, allP]
        rw [hj]
        have hd := dsN_le (k := k) (n := n)
        simp only [Int.toNat_natCast, Nat.zero_add]
        refine ⟨by omega, by omega, fun s' hs' => ⟨_, ⟨[.own 0 3 0 (dsN k n)], ⟨true, true, 3, n, fun i => if dsN k n ≤ i ∧ i < dsN k n + (n - dsN k n) then .rat 0 1 else .rat (cpS k n i) sK⟩, by kernel_rfl, ⟨⟨rfl, avLe_own (by simp [ren, look]) rfl rfl⟩, trivial⟩, rfl, ⟨rfl, rfl, rfl, rfl, fun x hx => ?_⟩⟩, hs'⟩⟩
        have hx : x < n := hx
        refine avLe_of0 (keys_ite rfl rfl) ?_
        show avLe0 (if _ then _ else _) (.rat (cpE k n x) sK)
        unfold cpE
        by_cases h : x < dsN k n
        · rw [if_neg (by omega), if_pos h]
          exact avLe0_of_eq (by unfold cpS; rw [if_pos h])
        · rw [if_pos (by omega), if_neg h]
          exact avLe0_rat_more (by decide)
    · have hnew : isNew k i := .inr (of_decide_eq_false hb)
      refine AWp.tail (fun s' hh => by have := hh.1; omega) (AWpL.see hT nRat_ok hm 60 cpL1 cp_f (by kernel_rfl) ?_)
      simp only [ATree.all, allP]
      refine ⟨by omega, fun s' hs' => ⟨i + 1, ⟨by omega, by omega, fun j hj => ?_⟩, by dsimp only; omega, ReOK.le ⟨[(0, 0)], rfl, rfl, rfl, objsQ_cons rfl rfl rfl (fun x hx => avQ_eq rfl rfl) trivial⟩ hs' hk⟩⟩
      by_cases he : j = i
      · subst he; exact hnew
      · exact h3 j (by omega)
  · subst h1
    refine AWp.see hT nRat_ok hm 60 cpL1 cp_e (by kernel_rfl) ?_
    simp only [ATree.all, allP]
    exact fun s' hs' => (hall h2 (by kernel_rfl)).fin hs'
def allRatW (f : Nat → AV) (n s : Nat) : Prop := ∀ i, i < n → keys (f i) = [] ∧ avLe0 (f i) (.rat (ratV (f i)) s)
theorem allRatW_ls {k : Nat → Rat} {n s s' : Nat} (h : s ≤ s') : allRatW (fun i => .rat (k i) s) n s' := fun _ _ => ⟨rfl, avLe0_rat_more h⟩
def s_cpF : Spec := fun _ args pre => match args, pre with
  | [.own k 3 0 n, .func g []], [(k', ⟨true, true, 3, m, f⟩)] => match Nat.beq g rational_Same && k' == k with
    | true => some ⟨oneOr [.own k 3 0 (dsN (fun i => ratV (f i)) n)], [(k, rowW n (cpE (fun i => ratV (f i)) n))], [m = n, allRatW f n sK, n < 2 ^ 40]⟩
    | false => none
  | _, _ => none
theorem s_cpF_ok : ∀ K args pre r, s_cpF K args pre = some r → FOK P slices_CompactFunc_api_Rat_api_Rat K args pre r := by
  intro K args pre r h
  unfold s_cpF at h
  split at h
  · rename_i k n g k' m f
    split at h
    · rename_i hc
      simp only [Bool.and_eq_true, beq_iff_eq] at hc
      obtain ⟨h1, h2⟩ := hc
      have h1 := Nat.eq_of_beq_eq_true h1
      subst h1 h2
      simp only [Option.some.injEq] at h
      subst h
      intro need
      have h0 := need
      obtain ⟨rfl, n1, n2⟩ := need
      exact fok_listW hT is_cpF (rest := [.func rational_Same []]) (o2 := ⟨true, true, 3, m, f⟩) (o := rowW m fun i => ratV (f i)) rfl rfl (of_decide_eq_true (by kernel_rfl)) (fun ρ => ⟨rfl, rfl, rfl, rfl, fun i hi => avLe_of0 (n1 i hi).1 (n1 i hi).2⟩) (fun _ c hk => cp_ok n2 c hk) K h0
    · simp at h
  · simp at h
end Go.Am.B

/- knots.Distinct, ref08.Distinct, slices.IsSortedFunc of numbers. -/
namespace Go.Am.B
open Go Go.Am.N AV ATree AEx IntKind
theorem is_srt : FnIs P slices_IsSortedFunc_api_Rat_api_Rat fn_slices_IsSortedFunc_api_Rat_api_Rat (codeOf fn_slices_IsSortedFunc_api_Rat_api_Rat) := fnIs get_slices_IsSortedFunc_api_Rat_api_Rat (by kernel_rfl) (by kernel_rfl) (by kernel_rfl)
noncomputable abbrev srC : Code := codeOf fn_slices_IsSortedFunc_api_Rat_api_Rat
abbrev srL : List Nat := [4, 0, 1, 5]
abbrev srV (n : Nat) (k : Nat → Rat) (i : Nat) : List AV := [.bool false, ls k n, .func rational_Cmp [], .int .i64 ((i : Int) - 1)]
noncomputable def GDi : Contracts := [(knots_copied, s_kCd), (slices_CompactFunc_api_Rat_api_Rat, s_cpF)]
theorem sr_pre {n : Nat} {k : Nat → Rat} : seeL T nRat [] 60 srL (before srC [1,0,1]) ⟨zipSlots 0 [ls k n, .func rational_Cmp []], [], 0⟩ =
    let c1 : Int := (↑n : Int) - (1 : Int); some (must [-(2 : Int) ^ 63 ≤ c1 ∧ c1 < (2 : Int) ^ 63] (leaf normal ([AV.bool false, tab 3 n fun i ↦ rat (k i) 4096, func rational_Cmp [], int i64 c1], []))) := by kernel_rfl
theorem sr_b {n i : Nat} {k : Nat → Rat} : seeL T nRat [10, 24] 60 srL [part srC [1,0,1,0,0]] ⟨zipL srL (srV n k i), [], 1⟩ =
    let c5 : AV := tab 3 n fun i ↦ rat (k i) 4096; let c4 : Int := (2 : Int) ^ 63; let c1 : Int := (↑i : Int) - (1 : Int); let c3 : List AV := [AV.bool false, c5, func rational_Cmp [], int i64 c1]; let c2 : Int := c1 - (1 : Int); let c6 : Int := cmpR (k c1.toNat) (k c2.toNat); some (fork (decide (c1 > (0 : Int))) (must [(0 : Int) ≤ c1 ∧ c1.toNat < n, -c4 ≤ c2 ∧ c2 < c4, (0 : Int) ≤ c2 ∧ c2.toNat < n] (fork (decide (c6 < (0 : Int))) (leaf ret (c3, [])) (must [-c4 ≤ c2 ∧ c2 < c4] (leaf normal ([AV.bool false, c5, func rational_Cmp [], int i64 c2], []))))) (leaf (exit 0) (c3, []))) := by kernel_rfl
theorem sr_e {n i : Nat} {k : Nat → Rat} : endL T nRat [] 60 fn_slices_IsSortedFunc_api_Rat_api_Rat [part srC [1,1]] ⟨zipL srL (srV n k i), [], 1⟩ =
    some (leaf ret [AV.bool true]) := by kernel_rfl
theorem di_e {n : Nat} {k : Nat → Rat} : funT T GDi [] 60 fn_knots_Distinct (codeOf fn_knots_Distinct) ⟨zipSlots 0 [lsA k n sJ], [], 0⟩ =
    let c1 : Prop := n < 2 ^ 40; some (must [allRat (fun i ↦ rat (k i) sJ) n sJ, c1, n = n, allRatW (fun i ↦ rat (ratV (rat (k i) sJ)) sK) n sK, c1] (leaf ret [tab 3 (dsN (fun i ↦ ratV (rat (ratV (rat (k i) sJ)) sK)) n) fun i ↦ rat (cpE (fun i ↦ ratV (rat (ratV (rat (k i) sJ)) sK)) n (i + 0)) 4096])) := by kernel_rfl
def kF (g : FuncId) : Kind Unit := ⟨fun v => match v with
  | .func f [] => match Nat.beq f g with
    | true => some ((), [])
    | false => none
  | _ => none, fun _ => .func g [], fun {v a q} h _ => by
    split at h
    · split at h
      · rename_i hb
        rw [Nat.eq_of_beq_eq_true hb]; exact .refl _
      · simp at h
    · simp at h⟩
noncomputable def dcd (p : Prop) : Bool := @decide p (Classical.propDecidable p)
theorem dcd_true {p : Prop} (h : p) : dcd p = true := @decide_eq_true p (Classical.propDecidable p) h
theorem dcd_false {p : Prop} (h : ¬ p) : dcd p = false := @decide_eq_false p (Classical.propDecidable p) h
theorem of_dcd {p : Prop} (h : dcd p = true) : p := @of_decide_eq_true p (Classical.propDecidable p) h
theorem of_dcd_false {p : Prop} (h : dcd p = false) : ¬ p := @of_decide_eq_false p (Classical.propDecidable p) h
theorem srt_ok {n : Nat} {k : Nat → Rat} (hn : n < 2 ^ 40) (K : Nat) : FOK P slices_IsSortedFunc_api_Rat_api_Rat K [ls k n, .func rational_Cmp []] [] (pres (.bool (dcd (sortedN n k))) []) := by
  refine fok_loop (r := pres (.bool (dcd (sortedN n k))) []) hT nRat_ok hm is_srt rfl (of_decide_eq_true (by kernel_rfl)) rfl [1,0,1] (i := 0) (y := part srC [1,0,1,0,0]) (z := part srC [1,1]) (by kernel_rfl) (by kernel_rfl) (by kernel_rfl) (f1 := []) (f2 := [10, 24]) (f3 := []) 60 srL 1
    (fun i : Nat => srV n k i) (fun _ => []) (fun i => i ≤ n ∧ ∀ j, i ≤ j + 1 → j + 1 < n → k j ≤ k (j + 1)) (fun _ => sortedN n k) (fun i => i) (fun _ => ⟨⟨_, sr_pre, ?_⟩, fun i ⟨h1, h2⟩ => ⟨_, sr_b, ?_⟩, fun i hi => ⟨_, sr_e, ?_⟩⟩) K []
  · simp only [ATree.all, allP]
    exact ⟨by omega, n, ⟨Nat.le_refl _, fun j h1 h2 => by omega⟩, ReOK.vals rfl⟩
  · simp only [ATree.all, allP, decide_eq_true_eq, decide_eq_false_iff_not, cmpR_lt]
    refine ⟨fun h => ⟨by omega, fun hlt => ⟨[.bool false], by kernel_rfl, avLe0_bool ?_⟩, fun hle => ⟨by omega, i - 1, ⟨by omega, fun j g1 g2 => ?_⟩, by dsimp only; omega, [], rfl, ?_, rfl, trivial⟩⟩, fun h => ⟨rfl, i, fun j hj => h2 j (by omega) hj, [], rfl, rfl, rfl, trivial⟩⟩
    · refine (dcd_false fun hs => ?_).symm
      have := hs (i - 2) (by omega)
      rw [show ((i : Int) - 1).toNat = i - 2 + 1 by omega, show ((i : Int) - 1 - 1).toNat = i - 2 by omega] at hlt
      grind
    · by_cases he : j + 2 = i
      · rw [show ((i : Int) - 1).toNat = j + 1 by omega, show ((i : Int) - 1 - 1).toNat = j by omega] at hle
        grind
      · exact h2 j (by omega) g2
    · show _ = [_, _, _, AV.int .i64 (((i - 1 : Nat) : Int) - 1)]
      rw [show ((i - 1 : Nat) : Int) - 1 = (i : Int) - 1 - 1 by omega]; rfl
  · simp only [ATree.all, allP]
    exact avLe0_bool (dcd_true hi).symm
noncomputable def s_srt : Spec := spL (kC (kL sK) (kC (kF rational_Cmp) kN)) (fun a => .bool (dcd (sortedN a.1.1 a.1.2))) fun a => [a.1.1 < 2 ^ 40]
theorem s_srt_ok : ∀ K args pre r, s_srt K args pre = some r → FOK P slices_IsSortedFunc_api_Rat_api_Rat K args pre r := spL_ok fun ⟨⟨n, k⟩, _, _⟩ K hn => srt_ok hn K
noncomputable def s_dis : Spec := spL (kC (kL sJ) kN) (fun a => ls (dsF a.1.2 a.1.1) (dsN a.1.2 a.1.1)) fun a => [a.1.1 < 2 ^ 40]
theorem GDi_ok : GOK P GDi := gok_cons s_kCd_ok (gok_cons s_cpF_ok gok_nil)
theorem s_kDi_ok : ∀ K args pre r, s_dis K args pre = some r → FOK P knots_Distinct K args pre r := spL_ok fun ⟨⟨n, k⟩, _⟩ K hn => by
  have hn : n < 2 ^ 40 := hn
  refine fok_tree (r := pres (ls (dsF k n) (dsN k n)) []) hT GDi_ok hm is_kDi rfl (of_decide_eq_true (by kernel_rfl)) rfl 60 di_e (fun _ => ?_) K []
  simp only [ATree.all, allP]
  exact ⟨⟨allRat_ls (Nat.le_refl _), hn, trivial, allRatW_ls (Nat.le_refl _), hn⟩, avLe0_tab_eq rfl fun i hi => by
    show AV.rat (cpE k n (i + 0)) sK = _
    have hi : i < dsN k n := hi
    rw [Nat.add_zero]; unfold cpE; rw [if_pos hi]⟩
end Go.Am.B

/- knots.Check, ref08.Check. -/
namespace Go.Am.B
open Go Go.Am.N AV ATree AEx IntKind
theorem is_kCh : FnIs P knots_Check fn_knots_Check (codeOf fn_knots_Check) := fnIs get_knots_Check (by kernel_rfl) (by kernel_rfl) (by kernel_rfl)
noncomputable def GkC : Contracts := (slices_IsSortedFunc_api_Rat_api_Rat, s_srt) :: (knots_Distinct, s_dis) :: (knots_Times, s_kTm) :: tRat
noncomputable abbrev chC : Code := codeOf fn_knots_Check
abbrev chL : List Nat := [0, 1, 4, 48, 49, 50]
abbrev chV (n : Nat) (k : Nat → Rat) (p : Int) (d : Nat) (f : Nat → Rat) (i : Nat) : List AV := [lsA k n sJ, .int .i64 p, .int .i64 0, lsA f d sK, .int .i64 d, .int .i64 i]
theorem ch_pre {n : Nat} {k : Nat → Rat} {p : Int} : seeL T GkC [18, 15, 22, 29, 35, 46] 60 chL (before chC [1,1,1,0,1]) ⟨zipSlots 0 [lsA k n sJ, .int .i64 p], [], 0⟩ =
    let c16 : Int := (↑n : Int); let c15 : Prop := allRat (fun i ↦ rat (k i) sJ) n sK; let c14 : Nat := Int.toNat (0 : Int); let c13 : Nat := dsN (fun i ↦ ratV (rat (k i) sJ)) n; let c11 : Bool := decide (p < (1 : Int)); let c10 : Int := i64.wrap (i64.wrap ((2 : Int) * p) + (2 : Int)); let c9 : Prop := n < 2 ^ 40; let c7 : List AV := [tuple [], tuple [], tuple []]; let c6 : Bool := !dcd (sortedN n fun i ↦ ratV (rat (k i) sJ)); let c3 : AV := tab 3 n fun i ↦ rat (k i) 4000; let c12 : List AV := c3 :: int i64 p :: int i64 (1 : Int) :: c7; let c8 : Int := i64.wrap (i64.wrap (c16 - p) - (1 : Int)); let c5 : Int := i64.wrap (c16 - (1 : Int)); let c4 : ATree (List AV × Store) := leaf ret (c3 :: int i64 p :: int i64 (5 : Int) :: c7, []); let c2 : ATree (List AV × Store) := must [allRat (fun i ↦ rat (k i) sJ) n sJ, c9] (leaf normal ([c3, int i64 p, int i64 (0 : Int), tab 3 c13 fun i ↦ rat (dsF (fun i ↦ ratV (rat (k i) sJ)) n i) 4096, int i64 (↑c13 : Int), int i64 (0 : Int)], [])); let c1 : ATree (List AV × Store) := fork (decide (c16 < c10)) c4 (fork (decide (c8 > (40 : Int))) (leaf ret (c3 :: int i64 p :: int i64 (2 : Int) :: c7, [])) (fork c6 (must [c15, c9, c6 = true] (fork true c4 c2)) (must [c15, c9, c6 = false, (0 : Int) ≤ (0 : Int) ∧ c14 < n, (0 : Int) ≤ c5 ∧ c5.toNat < n] (fork (bif false then true else decide (k c14 = k c5.toNat)) c4 c2)))); some (fork c11 (must [c11 = true] (fork true (leaf ret (c12, [])) c1)) (must [c11 = false] (fork (bif false then true else decide (p > (6 : Int))) (leaf ret (c12, [])) c1))) := by kernel_rfl
theorem ch_b {n d i : Nat} {k f : Nat → Rat} {p : Int} : seeL T GkC [51, 62, 73, 79, 82, 87] 60 chL [part chC [1,1,1,0,1,0,0]] ⟨zipL chL (chV n k p d f i), [], 1⟩ =
    let c18 : Int := (↑d : Int); let c16 : Prop := false = false; let c13 : Int := (↑i : Int); let c12 : Prop := 0 < 1; let c11 : AV := tab 3 d fun i ↦ rat (f i) 4096; let c10 : AV := tab 3 n fun i ↦ rat (k i) 4000; let c9 : Int := i64.wrap ((↑n : Int) - (1 : Int)); let c8 : Nat := Int.toNat (0 : Int); let c17 : Prop := (0 : Int) ≤ (0 : Int) ∧ c8 < n; let c14 : List AV := [c11, int i64 c18, int i64 c13]; let c7 : Rat := f c13.toNat; let c1 : ATree (List AV × Store) := leaf normal ([c10, int i64 p, int i64 (0 : Int), c11, int i64 c18, int i64 (i64.wrap (c13 + (1 : Int)))], []); let c15 : Bool := decide (c7 = k c8); let c4 : Int := (↑(tmsN (fun i ↦ ratV (rat (k i) sJ)) c7 n) : Int); let c3 : Bool := bif false then true else decide (c7 = k c9.toNat); let c2 : ATree (List AV × Store) := leaf ret (c10 :: int i64 p :: int i64 (5 : Int) :: c14, []); let c6 : ATree (List AV × Store) := fork (bif false then true else bif true then decide (c4 > p) else false) c2 c1; let c5 : Bool := bif true then c4 != i64.wrap (p + (1 : Int)) else false; some (fork (decide (c13 < c18)) (must [(0 : Int) ≤ c13 ∧ c13.toNat < d, c12] (must [c12, allRat (fun i ↦ rat (k i) sJ) n sK, sK ≤ sK, n < 2 ^ 40] (fork c15 (must [c12, c17, c15 = true] (fork true (fork c5 (must [true = true, c5 = true] (fork true c2 c1)) (fork false (must [true = true, c5 = false, (!true) = true] c6) (must [true = true, c5 = false, (!true) = false] (fork false c2 c1)))) (fork false (must [true = false, false = true] (fork true c2 c1)) (fork false (must [true = false, c16, (!true) = true] c6) (must [true = false, c16, (!true) = false] (fork false c2 c1)))))) (must [c12, c17, c15 = false, c12, (0 : Int) ≤ c9 ∧ c9.toNat < n] (fork c3 (fork c5 (must [c3 = true, c5 = true] (fork true c2 c1)) (fork (!c3) (must [c3 = true, c5 = false, (!c3) = true] c6) (must [c3 = true, c5 = false, (!c3) = false] (fork false c2 c1)))) (fork false (must [c3 = false, false = true] (fork true c2 c1)) (fork (!c3) (must [c3 = false, c16, (!c3) = true] c6) (must [c3 = false, c16, (!c3) = false] (fork false c2 c1))))))))) (leaf (exit 1) (c10 :: int i64 p :: int i64 (0 : Int) :: c14, []))) := by kernel_rfl
theorem ch_e {n d i : Nat} {k f : Nat → Rat} {p : Int} : endL T GkC [] 60 fn_knots_Check [part chC [1,1,1,1]] ⟨zipL chL (chV n k p d f i), [], 1⟩ =
    some (leaf ret [int i64 (0 : Int)]) := by kernel_rfl
theorem GkC_ok : GOK P GkC := gok_cons s_srt_ok (gok_cons s_kDi_ok (gok_cons s_kTm_ok tRat_ok))
def inR (n : Nat) (p : Int) : Prop := 1 ≤ p ∧ p ≤ 6 ∧ 2 * p + 2 ≤ (n : Int) ∧ (n : Int) - p - 1 ≤ 40
theorem kCh_ok {n : Nat} {k : Nat → Rat} {p : Int} (hn : n < 2 ^ 40) (K : Nat) : FOK P knots_Check K [lsA k n sJ, .int .i64 p] [] (pres (.int .i64 (chkE n k p)) []) := by
  refine fok_loop (r := pres (.int .i64 (chkE n k p)) []) hT GkC_ok hm is_kCh rfl (of_decide_eq_true (by kernel_rfl)) rfl [1,1,1,0,1] (i := 1) (y := part chC [1,1,1,0,1,0,0]) (z := part chC [1,1,1,1]) (by kernel_rfl) (by kernel_rfl) (by kernel_rfl) (f1 := [18, 15, 22, 29, 35, 46]) (f2 := [51, 62, 73, 79, 82, 87]) (f3 := []) 60 chL 1
    (fun i : Nat => chV n k p (dsN k n) (dsF k n) i) (fun _ => []) (fun i => i ≤ dsN k n ∧ inR n p ∧ sortedN n k ∧ k 0 ≠ k (n - 1) ∧ ∀ j, j < i → ¬ badK n k p.toNat (dsF k n j)) (fun _ => inR n p ∧ okK n k p.toNat) (fun i => dsN k n - i) (fun _ => ⟨⟨_, ch_pre, ?_⟩, fun i ⟨h1, h2, h3, h4, h5⟩ => ⟨_, ch_b, ?_⟩, fun i ⟨h1, h2⟩ => ⟨_, ch_e, ?_⟩⟩) K []
  · have r : ∀ {e : Int} {u : AV}, chkE n k p = e → RetV fn_knots_Check chL (.int .i64 (chkE n k p)) ([u, .int .i64 p, .int .i64 e, .tuple [], .tuple [], .tuple []], []) := fun h => ⟨[.int .i64 _], by kernel_rfl, avLe0_int h.symm⟩
    by_cases hp : 1 ≤ p ∧ p ≤ 6
    · have e1 : i64.wrap (i64.wrap (2 * p) + 2) = 2 * p + 2 := by rw [wrap_i64 (show -2 ^ 63 ≤ 2 * p by omega) (by omega)]; exact wrap_i64 (by omega) (by omega)
      have e2 : i64.wrap (i64.wrap ((n : Int) - p) - 1) = (n : Int) - p - 1 := by rw [wrap_i64 (show -2 ^ 63 ≤ (n : Int) - p by omega) (by omega)]; exact wrap_i64 (by omega) (by omega)
      have e3 : i64.wrap ((n : Int) - 1) = (n : Int) - 1 := wrap_i64 (by omega) (by omega)
      have e5 : ((n : Int) - 1).toNat = n - 1 := by omega
      simp only [ATree.all, allP, decide_eq_true_eq, decide_eq_false_iff_not, Bool.not_eq_true', Bool.not_eq_false', cond_true, cond_false, Int.toNat_natCast, Int.toNat_zero, ratV_rat, e1, e2, e3, e5]
      (repeat' with_reducible first | refine And.intro ?_ ?_ | intro _)
      all_goals first | exact absurd ‹true = false› (by decide) | exact absurd ‹false = true› (by decide) | omega | (exfalso; omega) | exact allRat_ls (by decide) | assumption | exact r (chkE_short (by omega) (by omega)) | exact r (chkE_size (by omega) (by omega) (by omega)) | exact r (chkE_bad (by omega) (by omega) (by omega) fun h => of_dcd_false ‹_› h.1) | exact r (chkE_bad (by omega) (by omega) (by omega) fun h => h.2.1 ‹_›) | exact ⟨0, ⟨Nat.zero_le _, ⟨by omega, by omega, by omega, by omega⟩, of_dcd ‹_›, ‹_›, fun j hj => absurd hj (Nat.not_lt_zero j)⟩, ReOK.vals rfl⟩ | skip
      skip
    · simp only [ATree.all, allP, decide_eq_true_eq, decide_eq_false_iff_not, Bool.not_eq_true', Bool.not_eq_false', cond_true, cond_false, Int.toNat_natCast]
      (repeat' with_reducible first | refine And.intro ?_ ?_ | intro _)
      all_goals first | exact absurd ‹true = false› (by decide) | exact absurd ‹false = true› (by decide) | omega | (exfalso; omega) | exact r (chkE_arg (by omega)) | skip
      skip
  · obtain ⟨q, rfl⟩ : ∃ q : Nat, p = (q : Int) := ⟨p.toNat, by have := h2.1; omega⟩
    have hq := h2
    unfold inR at hq
    have e1 : i64.wrap ((q : Int) + 1) = ((q + 1 : Nat) : Int) := by rw [wrap_i64 (by omega) (by omega)]; rfl
    have e2 : i64.wrap ((i : Int) + 1) = ((i + 1 : Nat) : Int) := by rw [wrap_i64 (by omega) (by have := dsN_le (k := k) (n := n); omega)]; rfl
    have e3 : i64.wrap ((n : Int) - 1) = (n : Int) - 1 := wrap_i64 (by omega) (by omega)
    have e5 : ((n : Int) - 1).toNat = n - 1 := by omega
    simp only [Int.toNat_natCast] at h5
    have hd := dsN_le (k := k) (n := n)
    have r : ∀ {u v w x y : AV}, badK n k q (dsF k n i) → i < dsN k n → RetV fn_knots_Check chL (.int .i64 (chkE n k q)) ([u, v, .int .i64 5, w, x, y], []) := fun h hi => ⟨[.int .i64 5], by kernel_rfl, avLe0_int (chkE_bad (by omega) (by omega) (by omega) fun hk => hk.2.2 i hi (by rw [Int.toNat_natCast]; exact h)).symm⟩
    have nx : ¬ badK n k q (dsF k n i) → i < dsN k n → ∀ j, j < i + 1 → ¬ badK n k q (dsF k n j) := fun h hi j hj => by
      by_cases he : j = i
      · subst he; exact h
      · exact h5 j (by omega)
    simp only [ATree.all, allP, decide_eq_true_eq, decide_eq_false_iff_not, Bool.not_eq_true', Bool.not_eq_false', cond_true, cond_false, Int.toNat_natCast, Int.toNat_zero, ratV_rat, e1, e2, e3, e5, bne_iff_ne, bne_eq_false_iff_eq, ne_eq]
    obtain ⟨c, hc⟩ : ∃ c, tmsN k (dsF k n i) n = c := ⟨_, rfl⟩
    have hc' : tmsN (fun i => k i) (dsF k n i) n = c := hc
    simp only [hc']
    have b1 : dsF k n i = k 0 → c ≠ q + 1 → badK n k q (dsF k n i) := fun h1 h2 => .inl ⟨.inl h1, by rw [hc]; exact h2⟩
    have b2 : dsF k n i = k (n - 1) → c ≠ q + 1 → badK n k q (dsF k n i) := fun h1 h2 => .inl ⟨.inr h1, by rw [hc]; exact h2⟩
    have b3 : ¬ dsF k n i = k 0 → ¬ dsF k n i = k (n - 1) → q < c → badK n k q (dsF k n i) := fun h1 h2 h3 => .inr ⟨fun h => h.elim h1 h2, by rw [hc]; exact h3⟩
    have g1 : dsF k n i = k 0 → c = q + 1 → ¬ badK n k q (dsF k n i) := by
      rintro h1 h2 (⟨_, h3⟩ | ⟨h3, _⟩)
      · exact h3 (by rw [hc]; exact h2)
      · exact h3 (.inl h1)
    have g2 : dsF k n i = k (n - 1) → c = q + 1 → ¬ badK n k q (dsF k n i) := by
      rintro h1 h2 (⟨_, h3⟩ | ⟨h3, _⟩)
      · exact h3 (by rw [hc]; exact h2)
      · exact h3 (.inr h1)
    have g3 : ¬ dsF k n i = k 0 → ¬ dsF k n i = k (n - 1) → c ≤ q → ¬ badK n k q (dsF k n i) := by
      rintro h1 h2 h3 (⟨h4, _⟩ | ⟨_, h4⟩)
      · exact h4.elim h1 h2
      · rw [hc] at h4; omega
    clear hc hc'
    (repeat' with_reducible first | refine And.intro ?_ ?_ | intro _)
    all_goals first | exact absurd ‹true = false› (by decide) | exact absurd ‹false = true› (by decide) | omega | (exfalso; omega) | exact allRat_ls (by decide) | assumption | skip
    all_goals first
      | exact absurd ‹dsF k n i = k (n - 1)› ‹_›
      | exact ⟨rfl, i, ⟨h2, h3, h4, fun j hj => h5 j (by omega)⟩, ReOK.vals rfl⟩
      | exact r (b1 ‹_› (by omega)) (by omega)
      | exact r (b2 ‹_› (by omega)) (by omega)
      | exact r (b3 ‹¬ _ = k 0› ‹_› (by have := of_decide_eq_true ‹decide _ = true›; omega)) (by omega)
      | exact ⟨i + 1, ⟨by omega, h2, h3, h4, nx (g1 ‹_› (by omega)) (by omega)⟩, by dsimp only; omega, ReOK.vals rfl⟩
      | exact ⟨i + 1, ⟨by omega, h2, h3, h4, nx (g2 ‹_› (by omega)) (by omega)⟩, by dsimp only; omega, ReOK.vals rfl⟩
      | exact ⟨i + 1, ⟨by omega, h2, h3, h4, nx (g3 ‹¬ _ = k 0› ‹_› (by have := of_decide_eq_false ‹decide _ = false›; omega)) (by omega)⟩, by dsimp only; omega, ReOK.vals rfl⟩
  · simp only [ATree.all, allP]
    exact avLe0_int (chkE_ok (by have := h1; unfold inR at this; omega) (by have := h1; unfold inR at this; omega) (by have := h1; unfold inR at this; omega) h2).symm
noncomputable def s_chk : Spec := spL (kC (kL sJ) (kC kI kN)) (fun a => .int .i64 (chkE a.1.1 a.1.2 a.2.1)) fun a => [a.1.1 < 2 ^ 40]
theorem s_kCh_ok : ∀ K args pre r, s_chk K args pre = some r → FOK P knots_Check K args pre r := spL_ok fun ⟨⟨n, k⟩, p, _⟩ K hn => kCh_ok hn K
end Go.Am.B

/- brepkernelmade: Knots. -/
namespace Go.Am.B
open Go Go.Am.N AV ATree AEx IntKind
theorem is_mKnots : FnIs P made_Dice_Knots fn_made_Dice_Knots (codeOf fn_made_Dice_Knots) := fnIs get_made_Dice_Knots (by kernel_rfl) (by kernel_rfl) (by kernel_rfl)
def GKn : Contracts := nG :: (made_Dice_Next, diceSpec g_next) :: (ref02_Int, s_eInt) :: (ref02_Frac, s_eFrac) :: GE0
abbrev knD (n : Nat) (z : Nat → Int) (a : Int) : AObj := diceO n (fun i => .int .i64 (z i)) a
abbrev tO (t : Rat) : AObj := ⟨false, true, 3, 1, fun _ => .rat t 64⟩
abbrev rowR (m : Nat) (k : Nat → Rat) : AObj := ⟨true, true, 3, m, fun i => .rat (k i) 64⟩
abbrev knL1 : List Nat := [0, 1, 2, 7, 8, 9]
abbrev knV1 (p m : Int) (v : AV) (i : Int) : List AV := [.ptr 0 0 2 0 [], .int .i64 p, .int .i64 m, .ptr 1 0 3 0 [], v, .int .i64 i]
noncomputable abbrev knC : Code := codeOf fn_made_Dice_Knots
noncomputable abbrev knX2 : Code := part knC [1,1,1,1]
noncomputable abbrev knX3 : Code := part knX2 [1]
abbrev knL2 : List Nat := [0, 1, 7, 8, 10]
abbrev knL3 : List Nat := [0, 1, 7, 8, 11]
abbrev knV2 (p : Int) (l : Nat) (i : Int) : List AV := [.ptr 0 0 2 0 [], .int .i64 p, .ptr 1 0 3 0 [], .own 2 3 0 l, .int .i64 i]
abbrev knO (n : Nat) (z : Nat → Int) (a : Int) (t : Rat) (l : Nat) (k : Nat → Rat) : Store := [(2, rowR l k), (1, tO t), (0, knD n z a)]
theorem ms_pre {n : Nat} {z : Nat → Int} {a p m : Int} : seeL T GKn [] 60 knL1 (before knC [1,1,1,0,1]) ⟨zipSlots 0 [.ptr 0 0 2 0 [], .int .i64 p, .int .i64 m], [(0, knD n z a)], 1⟩ =
    let c2 : Int := (2 : Int) ^ 63; let c1 : Int := nextV n (fun i ↦ int i64 (z i)) a (4 : Int) - (2 : Int); some (must [DiceOK n (fun i ↦ int i64 (z i)) a, (0 : Int) < (4 : Int), (4 : Int) < (2 : Int) ^ 62, -c2 ≤ c1 ∧ c1 < c2, -c2 ≤ c1, c1 < c2, (0 : Nat) < 1] (leaf normal ([ptr 0 0 2 0 [], int i64 p, int i64 m, ptr 20481 0 3 0 [], nil, int i64 (0 : Int)], [((20481 : Nat), AObj.mk false true 3 1 fun j ↦ if (j == 0) = true then deN (rat (↑c1 : Rat) (Max.max 1 (bitsN c1.natAbs))) else rat 0 1), ((0 : Nat), AObj.mk false true 2 1 fun x ↦ agg [tab 1 n fun i ↦ int i64 (z i), int i64 (nextA n a)])]))) := by kernel_rfl
theorem ms_10 {n : Nat} {z : Nat → Int} {a p m : Int} {t : Rat} : seeL T GKn [18] 60 knL1 [part knC [1,1,1,0,1,0,0]] ⟨zipL knL1 (knV1 p m .nil 0), [(1, tO t), (0, knD n z a)], 3⟩ =
    let c3 : AV := ptr 1 0 3 0 []; let c2 : AV := ptr 0 0 2 0 []; let c1 : List (Nat × AObj) := [((1 : Nat), AObj.mk false true 3 1 fun x ↦ rat t 64), ((0 : Nat), AObj.mk false true 2 1 fun x ↦ agg [tab 1 n fun i ↦ int i64 (z i), int i64 a])]; some (fork (decide ((0 : Int) ≤ p)) (must [(0 : Nat) < 1, (1 : Nat) * 3 ≤ 2 ^ 24, (0 : Nat) < 1 ∧ 1 * ((56 : Nat) + 1) * 2 ≤ 2 ^ 47] (must [-(2 : Int) ^ 63 ≤ (0 : Int) + (1 : Int) ∧ (0 : Int) + (1 : Int) < (2 : Int) ^ 63] (leaf normal ([c2, int i64 p, int i64 m, c3, own 24579 3 0 1, int i64 (1 : Int)], ((24579 : Nat), AObj.mk true true 3 1 fun i ↦ nth [rat t 64] (rat 0 1) (i + 0)) :: c1)))) (leaf (exit 0) ([c2, int i64 p, int i64 m, c3, nil, int i64 (0 : Int)], c1))) := by kernel_rfl
theorem ms_1S {n j : Nat} {z : Nat → Int} {a p m : Int} {t : Rat} {k : Nat → Rat} : seeL T GKn [18] 60 knL1 [part knC [1,1,1,0,1,0,0]] ⟨zipL knL1 (knV1 p m (.own 2 3 0 (j + 1)) ((j + 1 : Nat) : Int)), knO n z a t (j + 1) k, 3⟩ =
    let c4 : AV := ptr 1 0 3 0 []; let c3 : AV := ptr 0 0 2 0 []; let c2 : Nat := j + 1; let c1 : List (Nat × AObj) := [((1 : Nat), AObj.mk false true 3 1 fun x ↦ rat t 64), ((0 : Nat), AObj.mk false true 2 1 fun x ↦ agg [tab 1 n fun i ↦ int i64 (z i), int i64 a])]; let c7 : Nat := c2 + 1; let c6 : Int := (↑c2 : Int); let c5 : Int := c6 + (1 : Int); some (fork (decide (c6 ≤ p)) (must [(0 : Nat) < 1, (1 : Nat) * 3 ≤ 2 ^ 24, c7 * ((56 : Nat) + 1) * 2 ≤ 2 ^ 47] (must [-(2 : Int) ^ 63 ≤ c5 ∧ c5 < (2 : Int) ^ 63] (leaf normal ([c3, int i64 p, int i64 m, c4, own 24579 3 0 c7, int i64 c5], ((24579 : Nat), AObj.mk true true 3 c7 fun i ↦ if i < c2 then rat (k i) 64 else nth [rat t 64] (rat 0 1) (i - c2 + 0)) :: c1)))) (leaf (exit 0) ([c3, int i64 p, int i64 m, c4, own 2 3 0 c2, int i64 c6], ((2 : Nat), AObj.mk true true 3 c2 fun i ↦ rat (k i) 64) :: c1))) := by kernel_rfl
theorem ms_m {n j : Nat} {z : Nat → Int} {a p m : Int} {t : Rat} {k : Nat → Rat} : seeL T GKn [] 60 knL2 (before knX2 [0,1]) ⟨zipL knL1 (knV1 p m (.own 2 3 0 (j + 1)) ((j + 1 : Nat) : Int)), knO n z a t (j + 1) k, 3⟩ =
    let c1 : Int := m + (1 : Int); some (must [-(2 : Int) ^ 63 ≤ c1 ∧ c1 < (2 : Int) ^ 63, DiceOK n (fun i ↦ int i64 (z i)) a, (0 : Int) < c1, c1 < (2 : Int) ^ 62] (leaf normal ([ptr 0 0 2 0 [], int i64 p, ptr 1 0 3 0 [], own 2 3 0 (j + 1), int i64 (nextV n (fun i ↦ int i64 (z i)) a c1)], [((2 : Nat), AObj.mk true true 3 (j + 1) fun i ↦ rat (k i) 64), ((1 : Nat), AObj.mk false true 3 1 fun x ↦ rat t 64), ((0 : Nat), AObj.mk false true 2 1 fun x ↦ agg [tab 1 n fun i ↦ int i64 (z i), int i64 (nextA n a)])]))) := by kernel_rfl
theorem ms_2 {n l : Nat} {z : Nat → Int} {a p i : Int} {t : Rat} {k : Nat → Rat} : seeL T GKn [30, 38, 43, 53] 60 knL2 [part knX2 [0,1,0,0]] ⟨zipL knL2 (knV2 p l i), knO n z a t l k, 3⟩ =
    let c40 : Int := i - (1 : Int); let c39 : Nat := 64 + 64 + 1; let c35 : AV := rat t 64; let c34 : AV := rat 0 1; let c33 : Int := nextA n a; let c31 : Nat := l + 1; let c30 : Prop := (0 : Int) < (3 : Int); let c28 : Prop := DiceOK n (fun i ↦ int i64 (z i)) a; let c27 : Int := (↑l : Int); let c25 : AV := ptr 1 0 3 0 []; let c24 : AV := ptr 0 0 2 0 []; let c23 : Prop := 0 < 1; let c21 : Int := (2 : Int) ^ 62; let c20 : AV := tab 1 n fun i ↦ int i64 (z i); let c18 : Int := p + (1 : Int); let c16 : Prop := 64 < 2 ^ 41; let c7 : Int := nextV n (fun i ↦ int i64 (z i)) a (3 : Int); let c5 : Int := (2 : Int) ^ 63; let c43 : Int := nextA n c33; let c41 : Bool := c27 == c18; let c38 : Prop := DiceOK n (fun i ↦ int i64 (z i)) c33; let c37 : Prop := (3 : Int) < c21; let c32 : Prop := -c5 ≤ c18 ∧ c18 < c5; let c29 : Int := (1 : Int) + c7; let c26 : Nat × AObj := ((1 : Nat), AObj.mk false true 3 1 fun x ↦ c35); let c22 : Bool := bif false then true else decide (c7 > (0 : Int)); let c19 : List Prop := [-c5 ≤ c40 ∧ c40 < c5]; let c17 : Nat := (c27 - p).toNat + 0; let c15 : Nat × AObj := ((106499 : Nat), AObj.mk true true 3 c31 fun i ↦ if i < l then rat (k i) 64 else nth [c35] c34 (i - l + 0)); let c13 : List AV := [c24, int i64 p, c25, own 147459 3 0 c31, int i64 c40]; let c12 : List AV := [c24, int i64 p, c25, own 106499 3 0 c31, int i64 c40]; let c10 : Int := (1 : Int) + nextV n (fun i ↦ int i64 (z i)) c33 (2 : Int); let c9 : Int := (1 : Int) + nextV n (fun i ↦ int i64 (z i)) c33 (3 : Int); let c6 : List Prop := [c23, (1 : Nat) * 3 ≤ 2 ^ 24, c31 * ((56 : Nat) + 1) * 2 ≤ 2 ^ 47]; let c42 : Rat := (↑c29 : Rat) / (↑c10 : Rat); let c36 : Bool := bif false then true else decide (t = k c17); let c14 : List (Nat × AObj) := [c26, ((0 : Nat), AObj.mk false true 2 1 fun x ↦ agg [c20, int i64 a])]; let c11 : List Prop := [c23, -c5 ≤ c27 - p ∧ c27 - p < c5, (0 : Int) ≤ c27 - p ∧ (c27 - p).toNat < l, c17 < l, c16, c16]; let c8 : Int := (1 : Int) + nextV n (fun i ↦ int i64 (z i)) c43 (2 : Int); let c3 : ATree (List AV × Store) := must c6 (must c19 (leaf normal (c12, [c15, c26, ((0 : Nat), AObj.mk false true 2 1 fun x ↦ agg [c20, int i64 c33])]))); let c44 : Rat := (↑c9 : Rat) / (↑c8 : Rat); let c4 : ATree (List AV × Store) := must c6 (must c19 (leaf normal (c12, c15 :: c14))); let c2 : ATree (List AV × Store) := must [c23, c28, c30, c37, -c5 ≤ c29 ∧ c29 < c5, c38, (0 : Int) < (2 : Int), (2 : Int) < c21, -c5 ≤ c10 ∧ c10 < c5, -c5 ≤ c29, c29 < c5, -c5 ≤ c10, c10 < c5, c16, c16, c23] (must c6 (must c19 (leaf normal (c13, [((147459 : Nat), AObj.mk true true 3 c31 fun i ↦ if i < l then rat (k i) 64 else nth [rat (t + c42) c39] c34 (i - l + 0)), ((1 : Nat), AObj.mk false true 3 1 fun j ↦ if (j == 0) = true then deN (oAdd (t, (64 : Nat)) (c42, (64 : Nat))) else c35), ((0 : Nat), AObj.mk false true 2 1 fun x ↦ agg [c20, int i64 c43])])))); let c1 : ATree (List AV × Store) := must [c23, c38, c30, c37, -c5 ≤ c9 ∧ c9 < c5, DiceOK n (fun i ↦ int i64 (z i)) c43, (0 : Int) < (2 : Int), (2 : Int) < c21, -c5 ≤ c8 ∧ c8 < c5, -c5 ≤ c9, c9 < c5, -c5 ≤ c8, c8 < c5, c16, c16, c23] (must c6 (must c19 (leaf normal (c13, [((147459 : Nat), AObj.mk true true 3 c31 fun i ↦ if i < l then rat (k i) 64 else nth [rat (t + c44) c39] c34 (i - l + 0)), ((1 : Nat), AObj.mk false true 3 1 fun j ↦ if (j == 0) = true then deN (oAdd (t, (64 : Nat)) (c44, (64 : Nat))) else c35), ((0 : Nat), AObj.mk false true 2 1 fun x ↦ agg [c20, int i64 (nextA n c43)])])))); some (fork (decide (i > (0 : Int))) (fork c41 (fork true (must [c32, c41 = true, true = true] (fork true c2 c4)) (must (c32 :: (c41 = true) :: (true = false) :: c11) (fork c36 c2 c4))) (fork c22 (must [c32, c41 = false, c28, c30, c37, c22 = true] (fork true c1 c3)) (must (c32 :: (c41 = false) :: c28 :: c30 :: c37 :: (c22 = false) :: c11) (fork c36 c1 c3)))) (leaf (exit 2) ([c24, int i64 p, c25, own 2 3 0 l, int i64 i], ((2 : Nat), AObj.mk true true 3 l fun i ↦ rat (k i) 64) :: c14))) := by kernel_rfl
theorem ms_n {n l : Nat} {z : Nat → Int} {a p i : Int} {t : Rat} {k : Nat → Rat} : seeL T GKn [] 60 knL3 (before knX3 [1,0,1]) ⟨zipL knL2 (knV2 p l i), knO n z a t l k, 3⟩ =
    let c1 : Nat := Max.max 1 (bitsN (Int.natAbs (1 : Int))); some (must [(0 : Nat) < 1, -(2 : Int) ^ 63 ≤ (1 : Int), (1 : Int) < (2 : Int) ^ 63, (64 : Nat) < 2 ^ 41, c1 < 2 ^ 41, (0 : Nat) < 1] (leaf normal ([ptr 0 0 2 0 [], int i64 p, ptr 1 0 3 0 [], own 2 3 0 l, int i64 (0 : Int)], [((2 : Nat), AObj.mk true true 3 l fun i ↦ rat (k i) 64), ((1 : Nat), AObj.mk false true 3 1 fun j ↦ if (j == 0) = true then deN (oAdd (t, (64 : Nat)) ((↑(1 : Int) : Rat), c1)) else rat t 64), ((0 : Nat), AObj.mk false true 2 1 fun x ↦ agg [tab 1 n fun i ↦ int i64 (z i), int i64 a])]))) := by kernel_rfl
theorem ms_3 {n l : Nat} {z : Nat → Int} {a p i : Int} {t : Rat} {k : Nat → Rat} : seeL T GKn [72] 60 knL3 [part knX3 [1,0,1,0,0]] ⟨zipL knL3 (knV2 p l i), knO n z a t l k, 3⟩ =
    let c3 : AV := ptr 1 0 3 0 []; let c2 : AV := ptr 0 0 2 0 []; let c1 : List (Nat × AObj) := [((1 : Nat), AObj.mk false true 3 1 fun x ↦ rat t 64), ((0 : Nat), AObj.mk false true 2 1 fun x ↦ agg [tab 1 n fun i ↦ int i64 (z i), int i64 a])]; some (fork (decide (i ≤ p)) (must [(0 : Nat) < 1, (1 : Nat) * 3 ≤ 2 ^ 24, (l + 1) * ((56 : Nat) + 1) * 2 ≤ 2 ^ 47] (must [-(2 : Int) ^ 63 ≤ i + (1 : Int) ∧ i + (1 : Int) < (2 : Int) ^ 63] (leaf normal ([c2, int i64 p, c3, own 24579 3 0 (l + 1), int i64 (i + (1 : Int))], ((24579 : Nat), AObj.mk true true 3 (l + 1) fun i ↦ if i < l then rat (k i) 64 else nth [rat t 64] (rat 0 1) (i - l + 0)) :: c1)))) (leaf (exit 4) ([c2, int i64 p, c3, own 2 3 0 l, int i64 i], ((2 : Nat), AObj.mk true true 3 l fun i ↦ rat (k i) 64) :: c1))) := by kernel_rfl
theorem ms_end {n l : Nat} {z : Nat → Int} {a p i : Int} {t : Rat} {k : Nat → Rat} : endOL T GKn [] 60 fn_made_Dice_Knots [part knX3 [1,1]] ⟨zipL knL3 (knV2 p l i), knO n z a t l k, 3⟩ =
    some (leaf ret ([tab 3 l fun i ↦ rat (k (i + 0)) 64], some (AObj.mk false true 2 1 fun x ↦ agg [tab 1 n fun i ↦ int i64 (z i), int i64 a]))) := by kernel_rfl
structure KSt where
  k : Nat → Rat
  t : Rat
  a : Int
def knAdd (n : Nat) (f : Nat → AV) (t : Rat) (a : Int) : Rat := t + ((1 + nextV n f a 3 : Int) : Rat) / ((1 + nextV n f (nextA n a) 2 : Int) : Rat)
def knNext (n : Nat) (f : Nat → AV) (p j : Nat) (s : KSt) : KSt :=
  if j = 0 ∨ 0 < nextV n f s.a 3 ∨ s.t = s.k (j + 1) then
    ⟨setK s.k (p + 1 + j) (knAdd n f s.t (if j = 0 then s.a else nextA n s.a)), knAdd n f s.t (if j = 0 then s.a else nextA n s.a), nextA n (nextA n (if j = 0 then s.a else nextA n s.a))⟩
  else ⟨setK s.k (p + 1 + j) s.t, s.t, if j = 0 then s.a else nextA n s.a⟩
def knS (n : Nat) (f : Nat → AV) (p : Nat) (s0 : KSt) : Nat → KSt
  | 0 => s0
  | j + 1 => knNext n f p j (knS n f p s0 j)
def kn0 (n : Nat) (f : Nat → AV) (a : Int) : KSt := ⟨fun _ => ((nextV n f a 4 - 2 : Int) : Rat), ((nextV n f a 4 - 2 : Int) : Rat), nextA n (nextA n a)⟩
def knJ (n : Nat) (f : Nat → AV) (a : Int) (m : Nat) : Nat := (nextV n f (nextA n a) (m + 1)).toNat
def knE (n : Nat) (f : Nat → AV) (a : Int) (p m : Nat) : KSt := knS n f p (kn0 n f a) (knJ n f a m)
def knN (n : Nat) (f : Nat → AV) (a : Int) (p m : Nat) : Nat := 2 * p + 2 + knJ n f a m
def knK (n : Nat) (f : Nat → AV) (a : Int) (p m : Nat) : Nat → Rat := endK p (knJ n f a m) (knE n f a p m).k (knE n f a p m).t
def knA (n : Nat) (f : Nat → AV) (a : Int) (p m : Nat) : Int := (knE n f a p m).a
theorem knS_ok {n : Nat} {f : Nat → AV} {a : Int} {p : Nat} (hd : DiceOK n f a) (hp : 1 ≤ p) : ∀ j, KG p j (knS n f p (kn0 n f a) j).k (knS n f p (kn0 n f a) j).t ∧ DiceOK n f (knS n f p (kn0 n f a) j).a
  | 0 => by
    have h1 := nextV_lo (n := n) (f := f) (a := a) (m := 4) (by omega)
    have h2 := nextV_hi (n := n) (f := f) (a := a) (m := 4) (by omega)
    exact ⟨KG.start hp (by omega) (by omega), hd.next.next⟩
  | j + 1 => by
    obtain ⟨h1, h2⟩ := knS_ok hd hp j
    unfold knS knNext knAdd
    generalize knS n f p (kn0 n f a) j = s at *
    obtain ⟨k, t, b⟩ := s
    simp only at h1 h2 ⊢
    have hb : DiceOK n f (if j = 0 then b else nextA n b) := by split; exact h2; exact h2.next
    generalize (if j = 0 then b else nextA n b) = a1 at *
    split
    · have x1 := nextV_lo (n := n) (f := f) (a := a1) (m := 3) (by omega)
      have x2 := nextV_hi (n := n) (f := f) (a := a1) (m := 3) (by omega)
      have y1 := nextV_lo (n := n) (f := f) (a := nextA n a1) (m := 2) (by omega)
      have y2 := nextV_hi (n := n) (f := f) (a := nextA n a1) (m := 2) (by omega)
      refine ⟨h1.next (.inl ?_), hb.next.next⟩
      generalize nextV n f a1 3 = x at *
      generalize nextV n f (nextA n a1) 2 = y at *
      have key : ∃ z : Int, ((1 + x : Int) : Rat) / ((1 + y : Int) : Rat) = (z : Rat) / 2 ∧ 1 ≤ z ∧ z ≤ 6 := by
        rcases (show y = 0 ∨ y = 1 by omega) with h | h
        · subst h
          refine ⟨2 * (1 + x), ?_, by omega, by omega⟩
          have : ((2 * (1 + x) : Int) : Rat) = 2 * ((1 + x : Int) : Rat) := by simp
          rw [this]
          generalize ((1 + x : Int) : Rat) = w
          simp; grind
        · subst h
          exact ⟨1 + x, by simp, by omega, by omega⟩
      obtain ⟨z, e, z1, z2⟩ := key
      rw [e]
      refine ⟨?_, z, rfl, z2⟩
      have : (1 : Rat) ≤ (z : Rat) := by exact_mod_cast z1
      grind
    · rename_i hc
      have hc1 : ¬ j = 0 := fun h => hc (.inl h)
      have hc2 : ¬ t = k (j + 1) := fun h => hc (.inr (.inr h))
      exact ⟨h1.next (.inr ⟨rfl, by omega, hc2⟩), hb⟩
theorem Sz_half {z : Int} (h1 : -2 ^ 63 ≤ z) (h2 : z < 2 ^ 63) : Sz ((z : Rat) / 2) 64 := by
  have := Sz_frac h1 h2 (y := 2) (by omega) (by omega) (by omega)
  simpa using this
theorem KG.sz {p j : Nat} {k : Nat → Rat} {t : Rat} (h : KG p j k t) (hj : j < 2 ^ 50) : Sz t 64 := by
  obtain ⟨z, e, h1, h2⟩ := h.half (p + j) (Nat.le_refl _)
  rw [h.top] at e
  rw [e]
  exact Sz_half (by omega) (by omega)
theorem wsub {J j : Nat} (h : j < J) : ((J - j : Nat) : Int) - 1 = ((J - (j + 1) : Nat) : Int) := by omega
theorem rowNext {rl : List (Nat × Nat)} {l i : Nat} {k k' : Nat → Rat} {t : Rat} {s : Nat} (hk : k' = setK k l t) (ht : Sz t 64) (hi : i < l + 1) : avQ rl (if i < l then .rat (k i) 64 else nth [.rat t s] (.rat 0 1) (i - l + 0)) (.rat (k' i) 64) := by
  subst hk
  by_cases h : i < l
  · rw [if_pos h, setK_ne (by omega)]; exact avQ_eq rfl rfl
  · have : i = l := by omega
    subst this
    rw [if_neg h, setK_same, Nat.sub_self]
    exact .inr ⟨rfl, avLe0_rat_eq rfl ht⟩
theorem GKn_ok : GOK P GKn := gok_plain (gok_cons s_mNext_ok (gok_cons s_eInt_ok (gok_cons s_eFrac_ok GE0_ok)))
theorem mKnots_ok {k n p m : Nat} {z : Nat → Int} {a : Int} {o : AObj} (ho : ∀ ρ, objLe ρ o (knD n z a)) (h : DiceOK n (fun i => .int .i64 (z i)) a) (hp : 1 ≤ p) (hp2 : p < 1000) (hm2 : m < 1000) (K : Nat) :
    FOK P made_Dice_Knots K [.ptr k 0 2 0 [], .int .i64 p, .int .i64 m] [(k, o)] ⟨lsA (knK n (fun i => .int .i64 (z i)) a p m) (knN n (fun i => .int .i64 (z i)) a p m) 64, [(k, knD n z (knA n (fun i => .int .i64 (z i)) a p m))], []⟩ := by
  refine fok_objW hT is_mKnots rfl rfl (of_decide_eq_true (by kernel_rfl)) ho (fun _ c hk => ?_) K
  have a1 := nextV_lo (n := n) (f := fun i => .int .i64 (z i)) (a := a) (m := 4) (by omega)
  have a2 := nextV_hi (n := n) (f := fun i => .int .i64 (z i)) (a := a) (m := 4) (by omega)
  have b1 := nextV_lo (n := n) (f := fun i => .int .i64 (z i)) (a := nextA n a) (m := m + 1) (by omega)
  have b2 := nextV_hi (n := n) (f := fun i => .int .i64 (z i)) (a := nextA n a) (m := m + 1) (by omega)
  have hS := knS_ok h hp
  unfold knA knK knN knE at *
  obtain ⟨J, hJ⟩ : ∃ J, J = knJ n (fun i => .int .i64 (z i)) a m := ⟨_, rfl⟩
  have hJ2 : nextV n (fun i => .int .i64 (z i)) (nextA n a) (m + 1) = (J : Int) := by rw [hJ]; unfold knJ; omega
  rw [← hJ] at *
  have hJ3 : J < 1000 := by omega
  obtain ⟨S, hSd⟩ : ∃ S, S = knS n (fun i => .int .i64 (z i)) p (kn0 n (fun i => .int .i64 (z i)) a) := ⟨_, rfl⟩
  have h00 : S 0 = kn0 n (fun i => .int .i64 (z i)) a := by rw [hSd]; rfl
  have hS1 : ∀ j, S (j + 1) = knNext n (fun i => .int .i64 (z i)) p j (S j) := fun j => by rw [hSd]; rfl
  rw [← hSd] at hS ⊢
  clear hSd hJ
  obtain ⟨t0, ht0⟩ : ∃ t0 : Rat, t0 = ((nextV n (fun i => .int .i64 (z i)) a 4 - 2 : Int) : Rat) := ⟨_, rfl⟩
  unfold kn0 at h00
  rw [← ht0] at h00
  have hs0 : Sz t0 64 := by have := (hS 0).1.sz (by omega); rw [h00] at this; exact this
  refine AWp.hloop hT GKn_ok hm [1,1,1,0,1] (i := 0) (y := part knC [1,1,1,0,1,0,0]) (z := knX2) (by kernel_rfl) (by kernel_rfl) (by kernel_rfl) is_mKnots.dst hk (f1 := []) (f2 := [18]) 60 knL1 3
    (fun j : Nat => knV1 p m (match j with
      | 0 => .nil
      | _ + 1 => .own 2 3 0 j) j) (fun j => match j with
      | 0 => [(1, tO t0), (0, knD n z (nextA n a))]
      | _ + 1 => knO n z (nextA n a) t0 j (fun _ => t0)) (fun j => j ≤ p + 1) (fun j => j = p + 1) (fun j => p + 1 - j) (fun _ => False) ⟨_, ms_pre, ?_⟩ (fun j hj => ?_) (fun j hj => ?_) (fun _ _ h => h.elim)
  · simp only [ATree.all, allP]
    refine ⟨⟨h, by omega, by omega, by omega, by omega, by omega, by omega⟩, 0, by omega, [(0, 0), (1, 20481)], rfl, rfl, rfl, objsQ_one rfl rfl (.inr ⟨rfl, ?_⟩) (objsQ_one rfl rfl (avQ_eq rfl rfl) trivial)⟩
    rw [← ht0]
    exact avLe0_rat_eq rfl hs0
  · cases j with
    | zero =>
      refine ⟨_, ms_10, ?_⟩
      simp only [ATree.all, allP, decide_eq_true_eq, decide_eq_false_iff_not]
      refine ⟨fun _ => ⟨by omega, by omega, 1, by omega, by dsimp only; omega, [(0, 0), (1, 1), (2, 24579)], rfl, rfl, rfl, objsQ_cons rfl rfl rfl (fun i hi => ?_) (objsQ_one rfl rfl (avQ_eq rfl rfl) (objsQ_one rfl rfl (avQ_eq rfl rfl) trivial))⟩, fun h => by omega⟩
      have : i = 0 := by omega
      subst this
      exact avQ_eq rfl rfl
    | succ j =>
      refine ⟨_, ms_1S, ?_⟩
      simp only [ATree.all, allP, decide_eq_true_eq, decide_eq_false_iff_not]
      refine ⟨fun _ => ⟨by omega, by omega, j + 2, by omega, by dsimp only; omega, [(0, 0), (1, 1), (2, 24579)], rfl, rfl, rfl, objsQ_cons rfl rfl rfl (fun i hi => rowNext (by funext i; unfold setK; split <;> rfl) hs0 hi) (objsQ_one rfl rfl (avQ_eq rfl rfl) (objsQ_one rfl rfl (avQ_eq rfl rfl) trivial))⟩,
        fun _ => ⟨rfl, j + 1, by omega, [(0, 0), (1, 1), (2, 2)], rfl, rfl, rfl, objsQ_cons rfl rfl rfl (fun i hi => avQ_eq rfl rfl) (objsQ_one rfl rfl (avQ_eq rfl rfl) (objsQ_one rfl rfl (avQ_eq rfl rfl) trivial))⟩⟩
  subst hj
  refine AWp.hloop hT GKn_ok hm [0,1] (i := 2) (y := part knX2 [0,1,0,0]) (z := knX3) (by kernel_rfl) (by kernel_rfl) (by kernel_rfl) (by kernel_rfl) hk (f1 := []) (f2 := [30, 38, 43, 53]) 60 knL2 3
    (fun j : Nat => knV2 p (p + 1 + j) ((J - j : Nat) : Int)) (fun j => knO n z (S j).a (S j).t (p + 1 + j) (S j).k) (fun j => j ≤ J) (fun j => j = J) (fun j => J - j) (fun _ => False) ⟨_, ms_m, ?_⟩ (fun j hj => ?_) (fun j hj => ?_) (fun _ _ h => h.elim)
  · simp only [ATree.all, allP]
    rw [hJ2]
    refine ⟨⟨by omega, h.next, by omega, by omega⟩, 0, by omega, [(0, 0), (1, 1), (2, 2)], rfl, rfl, rfl, ?_⟩
    dsimp only
    rw [h00]
    exact objsQ_cons rfl rfl rfl (fun i hi => avQ_eq rfl rfl) (objsQ_one rfl rfl (avQ_eq rfl rfl) (objsQ_one rfl rfl (avQ_eq rfl rfl) trivial))
  · refine ⟨_, ms_2, ?_⟩
    have hj1 := hS1 j
    obtain ⟨hg, hd⟩ := hS j
    have hs1 : ∀ {j}, j < 2000 → Sz (S j).t 64 := fun hj => (hS _).1.sz (by omega)
    have hsj := hs1 (j := j) (by omega)
    have hsj1 := hs1 (j := j + 1) (by omega)
    have e1 : (((p + 1 + j : Nat) : Int) - (p : Int)).toNat + 0 = j + 1 := by omega
    simp only [ATree.all, allP, decide_eq_true_eq, decide_eq_false_iff_not, beq_iff_eq, beq_eq_false_iff_ne, e1, cond_false]
    have v3 := fun a => And.intro (nextV_lo (n := n) (f := fun i => .int .i64 (z i)) (a := a) (m := 3) (by omega)) (nextV_hi (n := n) (f := fun i => .int .i64 (z i)) (a := a) (m := 3) (by omega))
    have v2 := fun a => And.intro (nextV_lo (n := n) (f := fun i => .int .i64 (z i)) (a := a) (m := 2) (by omega)) (nextV_hi (n := n) (f := fun i => .int .i64 (z i)) (a := a) (m := 2) (by omega))
    have q1 := v3 (S j).a
    have q2 := v3 (nextA n (S j).a)
    have q3 := v2 (nextA n (S j).a)
    have q4 := v2 (nextA n (nextA n (S j).a))
    refine ⟨fun hi => ?_, fun hi => ⟨rfl, j, by omega, [(0, 0), (1, 1), (2, 2)], rfl, rfl, rfl, objsQ_cons rfl rfl rfl (fun i hi => avQ_eq rfl rfl) (objsQ_one rfl rfl (avQ_eq rfl rfl) (objsQ_one rfl rfl (avQ_eq rfl rfl) trivial))⟩⟩
    have hlt : j < J := by omega
    have fin : ∀ (key : Nat) (t : Rat) (s s2 : Nat) (b : Int) (g : Nat → AV), S (j + 1) = ⟨setK (S j).k (p + 1 + j) t, t, b⟩ → g 0 = .rat t s2 → (renOK 3 [(0, 0), (1, 1), (2, key)]) = true → (key == 1) = false → (key == 0) = false →
        Round [0] (fun j => knV2 p (p + 1 + j) ((J - j : Nat) : Int)) (fun j => knO n z (S j).a (S j).t (p + 1 + j) (S j).k) 3 (fun j => j ≤ J) (fun j => j = J) (fun j => J - j) 2 (fun _ => False) j normal
          ([ptr 0 0 2 0 [], int i64 p, ptr 1 0 3 0 [], own key 3 0 (p + 1 + j + 1), int i64 (((J - j : Nat) : Int) - 1)], [(key, ⟨true, true, 3, p + 1 + j + 1, fun i => if i < p + 1 + j then .rat ((S j).k i) 64 else nth [.rat t s] (.rat 0 1) (i - (p + 1 + j) + 0)⟩), (1, ⟨false, true, 3, 1, g⟩), (0, knD n z b)]) := by
      intro key t s s2 b g e1 e2 e3 hk1 hk0
      rw [e1] at hsj1
      refine ⟨j + 1, by omega, by dsimp only; omega, [(0, 0), (1, 1), (2, key)], by rw [e3]; rfl, by rw [wsub hlt]; rfl, rfl, ?_⟩
      dsimp only
      rw [e1]
      exact objsQ_cons rfl look_head rfl (fun i hi => rowNext rfl hsj1 hi) (objsQ_one rfl ((look_tail hk1).trans rfl) (.inr ⟨by rw [e2]; rfl, by rw [e2]; exact avLe0_rat_eq rfl hsj1⟩) (objsQ_one rfl ((look_tail hk0).trans rfl) (avQ_eq rfl rfl) trivial))
    refine ⟨fun hl => ?_, fun hl => ⟨fun hc => ?_, fun hc => ?_⟩⟩
    all_goals (repeat' with_reducible first | refine And.intro ?_ ?_ | intro _)
    all_goals first | omega | exact hd | exact hd.next | exact hd.next.next | skip
    all_goals try exact absurd ‹true = false› (by decide)
    · refine fin 147459 _ _ _ _ _ ?_ rfl rfl rfl rfl
      rw [hj1]; unfold knNext knAdd
      have hj0 : j = 0 := by omega
      rw [if_pos (.inl hj0), if_pos hj0]
    · refine fin 147459 _ _ _ _ _ ?_ rfl rfl rfl rfl
      rw [hj1]; unfold knNext knAdd
      have hj0 : j ≠ 0 := by omega
      rw [if_pos (.inr (.inl hc)), if_neg hj0]
    · refine fin 147459 _ _ _ _ _ ?_ rfl rfl rfl rfl
      rw [hj1]; unfold knNext knAdd
      have hj0 : j ≠ 0 := by omega
      rename_i hk
      rw [if_pos (.inr (.inr hk)), if_neg hj0]
    · refine fin 106499 _ _ _ _ _ ?_ rfl rfl rfl rfl
      rw [hj1]; unfold knNext knAdd
      have hj0 : j ≠ 0 := by omega
      rename_i hk
      rw [if_neg (by simp only [hj0, hk, or_false, false_or]; omega), if_neg hj0]
  subst hj
  have hs1 : Sz ((S j).t + 1) 64 := by
    obtain ⟨z, e, h1, h2⟩ := (hS j).1.half_done (p + 1 + j)
    unfold endK at e
    rw [if_neg (by omega)] at e
    rw [e]; exact Sz_half (by omega) (by omega)
  refine AWp.hloop hT GKn_ok hm [1,0,1] (i := 4) (y := part knX3 [1,0,1,0,0]) (z := part knX3 [1,1]) (by kernel_rfl) (by kernel_rfl) (by kernel_rfl) (by kernel_rfl) hk (f1 := []) (f2 := [72]) 60 knL3 3
    (fun i : Nat => knV2 p (p + 1 + j + i) i) (fun i => knO n z (S j).a ((S j).t + 1) (p + 1 + j + i) (endK p j (S j).k (S j).t)) (fun i => i ≤ p + 1) (fun i => i = p + 1) (fun i => p + 1 - i) (fun _ => False) ⟨_, ms_n, ?_⟩ (fun i hi => ?_) (fun i hi => ?_) (fun _ _ h => h.elim)
  · simp only [ATree.all, allP]
    refine ⟨⟨by omega, by omega, by omega, by omega, by decide, by omega⟩, 0, by omega, [(0, 0), (1, 1), (2, 2)], rfl, rfl, rfl, objsQ_cons rfl rfl rfl (fun i hi => ?_) (objsQ_one rfl rfl (.inr ⟨rfl, avLe0_rat_eq rfl hs1⟩) (objsQ_one rfl rfl (avQ_eq rfl rfl) trivial))⟩
    refine avQ_eq rfl ?_
    unfold endK
    rw [if_pos (by omega)]
  · refine ⟨_, ms_3, ?_⟩
    simp only [ATree.all, allP, decide_eq_true_eq, decide_eq_false_iff_not]
    refine ⟨fun _ => ⟨by omega, by omega, i + 1, by omega, by dsimp only; omega, [(0, 0), (1, 1), (2, 24579)], rfl, rfl, rfl, objsQ_cons rfl rfl rfl (fun i hi => rowNext ?_ hs1 hi) (objsQ_one rfl rfl (avQ_eq rfl rfl) (objsQ_one rfl rfl (avQ_eq rfl rfl) trivial))⟩,
      fun _ => ⟨rfl, i, by omega, [(0, 0), (1, 1), (2, 2)], rfl, rfl, rfl, objsQ_cons rfl rfl rfl (fun i hi => avQ_eq rfl rfl) (objsQ_one rfl rfl (avQ_eq rfl rfl) (objsQ_one rfl rfl (avQ_eq rfl rfl) trivial))⟩⟩
    funext x
    unfold setK endK
    split
    · rename_i hx; rw [if_neg (by omega)]
    · split <;> rfl
  · subst hi
    refine AWp.ofL (AWpL.finO hT GKn_ok hm 60 ms_end (by kernel_rfl) ⟨?_, _, rfl, rfl, diceLe rfl rfl⟩)
    exact avLe0_tab_eq (by omega) fun _ _ => rfl
def g_knots (n : Nat) (f : Nat → AV) (a : Int) (l : List AV) : Option (AV × Int × List Prop) := match l with
  | [.int .i64 p, .int .i64 m] => some (lsA (knK n f a p.toNat m.toNat) (knN n f a p.toNat m.toNat) 64, knA n f a p.toNat m.toNat, [1 ≤ p, p < 1000, 0 ≤ m, m < 1000])
  | _ => none
theorem s_mKnots_ok : ∀ K args pre r, diceSpec g_knots K args pre = some r → FOK P made_Dice_Knots K args pre r := by
  refine diceSpec_ok fun {k n z a l v b q o} K hg ho hd hq => ?_
  unfold g_knots at hg
  split at hg
  · rename_i p m
    simp only [Option.some.injEq, Prod.mk.injEq] at hg
    obtain ⟨rfl, rfl, rfl⟩ := hg
    obtain ⟨h1, h2, h3, h4⟩ := hq
    have h4 : m < 1000 := h4
    have := mKnots_ok (k := k) (p := p.toNat) (m := m.toNat) ho hd (by omega) (by omega) (by omega) K
    rw [Int.toNat_of_nonneg (by omega), Int.toNat_of_nonneg h3] at this
    exact this
  · simp at hg
end Go.Am.B

/- brepkernelmade: Number. -/
namespace Go.Am.B
open Go Go.Am.N AV
end Go.Am.B

/- law09: made, at. -/
namespace Go.Am.B
open Go Go.Am.N AV ATree AEx IntKind
theorem kn_ok {n : Nat} {f : Nat → AV} {a : Int} {p m : Nat} (h : DiceOK n f a) (hp : 1 ≤ p) : Kn (knN n f a p m) p (knK n f a p m) ∧ DiceOK n f (knA n f a p m) ∧ knN n f a p m ≤ 2 * p + 2 + m := by
  have h1 := knS_ok h hp (knJ n f a m)
  have b1 := nextV_lo (n := n) (f := f) (a := nextA n a) (m := m + 1) (by omega)
  have b2 := nextV_hi (n := n) (f := f) (a := nextA n a) (m := m + 1) (by omega)
  refine ⟨h1.1.done, h1.2, ?_⟩
  unfold knN knJ; omega
end Go.Am.B

/- ref02.Text of a few numbers; law09.awake. -/
namespace Go.Am.B
open Go Go.Am.N AV ATree AEx IntKind
def GBy : Contracts := [sG, (ref01_byLimb, s_fbyLimb)]
def tTx : Spec := pureSpec fun l => match l with
  | [.mag 1] => some (pres (.str [49]) [])
  | [.mag 2] => some (pres (.str [50]) [])
  | [.mag 3] => some (pres (.str [51]) [])
  | [.mag 4] => some (pres (.str [52]) [])
  | _ => none
def GTx : Contracts := [sG, (ref01_Text, tTx)]
def tTe : Spec := pureSpec fun l => match l with
  | [.rat q _] => match decide (q = 1 / 2), decide (q = 1 / 4), decide (q = 3 / 2) with
    | true, _, _ => some (pres (.str [49, 47, 50]) [])
    | false, true, _ => some (pres (.str [49, 47, 52]) [])
    | false, false, true => some (pres (.str [51, 47, 50]) [])
    | _, _, _ => none
  | _ => none
theorem tx_1 : funT T GBy [] 60 fn_ref01_Text (codeOf fn_ref01_Text) ⟨zipSlots 0 [.mag 1], [], 0⟩ =
    let c1 : Int := (↑(1 : Nat) : Int); some (must [nl 1 < 2 ^ 40, (0 : Int) < (1000000000 : Int), (1000000000 : Int) < (2 : Int) ^ 32] (must [(10 : Int) ≠ (0 : Int), (0 : Nat) < 1 ∧ 1 * ((1 : Nat) + 1) * 2 ≤ 2 ^ 47] (must [(10 : Int) ≠ (0 : Int)] (must [(0 : Int) ≤ c1 ∧ c1 ≤ c1 ∧ c1 ≤ (2 : Int) ^ 47 ∧ c1 * c1 ≤ (2 : Int) ^ 47] (leaf ret [str [UInt8.ofNat (u8.wrap (u32.wrap ((48 : Int) + (↑((1 : Nat) % Int.toNat (1000000000 : Int)) : Int).tmod (10 : Int)))).toNat]]))))) := by kernel_rfl
theorem tx_2 : funT T GBy [] 60 fn_ref01_Text (codeOf fn_ref01_Text) ⟨zipSlots 0 [.mag 2], [], 0⟩ =
    let c1 : Int := (↑(1 : Nat) : Int); some (must [nl 2 < 2 ^ 40, (0 : Int) < (1000000000 : Int), (1000000000 : Int) < (2 : Int) ^ 32] (must [(10 : Int) ≠ (0 : Int), (0 : Nat) < 1 ∧ 1 * ((1 : Nat) + 1) * 2 ≤ 2 ^ 47] (must [(10 : Int) ≠ (0 : Int)] (must [(0 : Int) ≤ c1 ∧ c1 ≤ c1 ∧ c1 ≤ (2 : Int) ^ 47 ∧ c1 * c1 ≤ (2 : Int) ^ 47] (leaf ret [str [UInt8.ofNat (u8.wrap (u32.wrap ((48 : Int) + (↑((2 : Nat) % Int.toNat (1000000000 : Int)) : Int).tmod (10 : Int)))).toNat]]))))) := by kernel_rfl
theorem tx_3 : funT T GBy [] 60 fn_ref01_Text (codeOf fn_ref01_Text) ⟨zipSlots 0 [.mag 3], [], 0⟩ =
    let c1 : Int := (↑(1 : Nat) : Int); some (must [nl 3 < 2 ^ 40, (0 : Int) < (1000000000 : Int), (1000000000 : Int) < (2 : Int) ^ 32] (must [(10 : Int) ≠ (0 : Int), (0 : Nat) < 1 ∧ 1 * ((1 : Nat) + 1) * 2 ≤ 2 ^ 47] (must [(10 : Int) ≠ (0 : Int)] (must [(0 : Int) ≤ c1 ∧ c1 ≤ c1 ∧ c1 ≤ (2 : Int) ^ 47 ∧ c1 * c1 ≤ (2 : Int) ^ 47] (leaf ret [str [UInt8.ofNat (u8.wrap (u32.wrap ((48 : Int) + (↑((3 : Nat) % Int.toNat (1000000000 : Int)) : Int).tmod (10 : Int)))).toNat]]))))) := by kernel_rfl
theorem tx_4 : funT T GBy [] 60 fn_ref01_Text (codeOf fn_ref01_Text) ⟨zipSlots 0 [.mag 4], [], 0⟩ =
    let c1 : Int := (↑(1 : Nat) : Int); some (must [nl 4 < 2 ^ 40, (0 : Int) < (1000000000 : Int), (1000000000 : Int) < (2 : Int) ^ 32] (must [(10 : Int) ≠ (0 : Int), (0 : Nat) < 1 ∧ 1 * ((1 : Nat) + 1) * 2 ≤ 2 ^ 47] (must [(10 : Int) ≠ (0 : Int)] (must [(0 : Int) ≤ c1 ∧ c1 ≤ c1 ∧ c1 ≤ (2 : Int) ^ 47 ∧ c1 * c1 ≤ (2 : Int) ^ 47] (leaf ret [str [UInt8.ofNat (u8.wrap (u32.wrap ((48 : Int) + (↑((4 : Nat) % Int.toNat (1000000000 : Int)) : Int).tmod (10 : Int)))).toNat]]))))) := by kernel_rfl
theorem te_12 : funT T GTx [] 60 fn_ref02_Text (codeOf fn_ref02_Text) ⟨zipSlots 0 [.agg [.bool false, .mag 1, .mag 2]], [], 0⟩ =
    some (leaf ret [str [(49 : UInt8), (47 : UInt8), (50 : UInt8)]]) := by kernel_rfl
theorem te_14 : funT T GTx [] 60 fn_ref02_Text (codeOf fn_ref02_Text) ⟨zipSlots 0 [.agg [.bool false, .mag 1, .mag 4]], [], 0⟩ =
    some (leaf ret [str [(49 : UInt8), (47 : UInt8), (52 : UInt8)]]) := by kernel_rfl
theorem te_32 : funT T GTx [] 60 fn_ref02_Text (codeOf fn_ref02_Text) ⟨zipSlots 0 [.agg [.bool false, .mag 3, .mag 2]], [], 0⟩ =
    some (leaf ret [str [(51 : UInt8), (47 : UInt8), (50 : UInt8)]]) := by kernel_rfl
theorem GBy_ok : GOK P GBy := gok_strict (gok_cons s_fbyLimb_ok gok_nil)
theorem tTx_ok : ∀ K args pre r, tTx K args pre = some r → FOK P ref01_Text K args pre r := by
  refine pureSpec_ok fun K args r hk hs _ => ?_
  have fin : ∀ {N : Nat} {t : ATree (List AV)} {l : List UInt8}, funT T GBy [] 60 fn_ref01_Text (codeOf fn_ref01_Text) ⟨zipSlots 0 [.mag N], [], 0⟩ = some t → (t.all fun _ us => resOK us (.str l)) → FOK P ref01_Text K [.mag N] [] (pres (.str l) []) := fun h1 h2 =>
    fok_tree (r := pres _ []) hT GBy_ok hm is_fText rfl (of_decide_eq_true (by kernel_rfl)) rfl 60 h1 (fun _ => h2) K []
  split at hs <;> simp only [Option.some.injEq, reduceCtorEq] at hs
  all_goals subst hs
  · exact fin tx_1 (by simp only [ATree.all, allP]; exact ⟨by decide, by decide, by decide, by decide, .refl _⟩)
  · exact fin tx_2 (by simp only [ATree.all, allP]; exact ⟨by decide, by decide, by decide, by decide, .refl _⟩)
  · exact fin tx_3 (by simp only [ATree.all, allP]; exact ⟨by decide, by decide, by decide, by decide, .refl _⟩)
  · exact fin tx_4 (by simp only [ATree.all, allP]; exact ⟨by decide, by decide, by decide, by decide, .refl _⟩)
theorem GTx_ok : GOK P GTx := gok_strict (gok_cons tTx_ok gok_nil)
theorem tTe_ok : ∀ K args pre r, tTe K args pre = some r → FOK P ref02_Text K args pre r := by
  refine pureSpec_ok fun K args r hk hs _ => ?_
  have fin : ∀ {q : Rat} {n a b : Nat} {t : ATree (List AV)} {l : List UInt8}, kids (.rat q n) = [.bool false, .mag a, .mag b] → funT T GTx [] 60 fn_ref02_Text (codeOf fn_ref02_Text) ⟨zipSlots 0 [.agg [.bool false, .mag a, .mag b]], [], 0⟩ = some t → (t.all fun _ us => resOK us (.str l)) → FOK P ref02_Text K [.rat q n] [] (pres (.str l) []) := fun h0 h1 h2 =>
    fok_weak (fok_tree (r := pres _ []) hT GTx_ok hm is_eText rfl (of_decide_eq_true (by kernel_rfl)) rfl 60 h1 (fun _ => h2) K []) rfl (show avLes0 [_] [_] from ⟨by rw [← h0]; exact avLe0_rat_agg, trivial⟩) []
  split at hs
  · rename_i q n
    split at hs
    all_goals simp only [Option.some.injEq, reduceCtorEq] at hs
    all_goals subst hs
    · obtain rfl : q = 1 / 2 := of_decide_eq_true ‹_›
      exact fin (by kernel_rfl) te_12 (.refl _)
    · obtain rfl : q = 1 / 4 := of_decide_eq_true ‹decide (q = 1 / 4) = true›
      exact fin (by kernel_rfl) te_14 (.refl _)
    · obtain rfl : q = 3 / 2 := of_decide_eq_true ‹decide (q = 3 / 2) = true›
      exact fin (by kernel_rfl) te_32 (.refl _)
  · simp at hs
theorem Kn.congr {n p : Nat} {k k' : Nat → Rat} (h : Kn n p k) (e : ∀ i, i < n → k i = k' i) : Kn n p k' := by
  have hp := h.p1
  have hl := h.len
  refine ⟨h.p1, h.len, fun i hi => ?_, fun i hi => ?_, fun i h1 h2 => ?_, fun i h1 h2 => ?_⟩
  · rw [← e i (by omega), ← e (i + 1) hi]; exact h.sorted i hi
  · rw [← e i (by omega), ← e 0 (by omega)]; exact h.first i hi
  · rw [← e i h2, ← e (n - 1) (by omega)]; exact h.last i h1 h2
  · rw [← e i (by omega), ← e (i + p) (by omega)]; exact h.mult i h1 h2
end Go.Am.B

/- law08: made, awake; rational.Make. -/
namespace Go.Am.B
open Go Go.Am.N AV ATree AEx IntKind
theorem is_rMake : FnIs P rational_Make fn_rational_Make (codeOf fn_rational_Make) := fnIs get_rational_Make (by kernel_rfl) (by kernel_rfl) (by kernel_rfl)
theorem is_8made : FnIs P law08_made fn_law08_made (codeOf fn_law08_made) := fnIs get_law08_made (by kernel_rfl) (by kernel_rfl) (by kernel_rfl)
theorem is_8awake : FnIs P law08_awake fn_law08_awake (codeOf fn_law08_awake) := fnIs get_law08_awake (by kernel_rfl) (by kernel_rfl) (by kernel_rfl)
theorem is_kGr : FnIs P knots_Greville fn_knots_Greville (codeOf fn_knots_Greville) := fnIs get_knots_Greville (by kernel_rfl) (by kernel_rfl) (by kernel_rfl)
abbrev zz (z : Nat → Int) : Nat → AV := fun i => .int .i64 (z i)
def GMd8 : Contracts := nG :: (made_Roll, s_mRoll) :: (made_Dice_Next, diceSpec g_next) :: (made_Dice_Knots, diceSpec g_knots) :: []
theorem rMake_end {x y : Int} : funT T GA [7] 60 fn_rational_Make (codeOf fn_rational_Make) ⟨zipSlots 0 [.int .i64 x, .int .i64 y], [], 0⟩ =
    let c3 : List Prop := [(0 : Nat) < 1]; let c2 : Int := (2 : Int) ^ 63; let c1 : Rat := sQ (decide (x < (0 : Int)) != decide (y < (0 : Int))) x.natAbs y.natAbs; some (fork (y == (0 : Int)) (must c3 (must c3 (leaf ret [agg [AV.bool false, mag 0, mag 0], int i64 (3 : Int)]))) (must ((-c2 ≤ x) :: (x < c2) :: (-c2 ≤ y) :: (y < c2) :: (nl x.natAbs < 2 ^ 40) :: (nl y.natAbs < 2 ^ 40) :: c3) (must c3 (leaf ret [rat c1 (rsz c1), int i64 (0 : Int)])))) := by kernel_rfl
theorem md8_end {n : Nat} {z : Nat → Int} : funT T GMd8 [] 60 fn_law08_made (codeOf fn_law08_made) ⟨zipSlots 0 [.tab 1 n (zz z)], [], 0⟩ =
    let c2 : Int := nextA n (0 : Int); let c1 : Int := (1 : Int) + nextV n (zz z) (0 : Int) (5 : Int); some (must [DiceOK n (zz z) (0 : Int), (0 : Int) < (5 : Int), (5 : Int) < (2 : Int) ^ 62, -(2 : Int) ^ 63 ≤ c1 ∧ c1 < (2 : Int) ^ 63] (must [DiceOK n (zz z) c2, (1 : Int) ≤ c1, c1 < (1000 : Int), (0 : Int) ≤ (6 : Int), (6 : Int) < (1000 : Int)] (leaf ret [tab 3 (knN n (zz z) c2 c1.toNat (Int.toNat (6 : Int))) fun i ↦ rat (knK n (zz z) c2 c1.toNat (Int.toNat (6 : Int)) i) 64, int i64 c1]))) := by kernel_rfl
theorem rMake_ok {x y : Int} (h1 : -2 ^ 63 ≤ x) (h2 : x < 2 ^ 63) (h3 : -2 ^ 63 ≤ y) (h4 : y < 2 ^ 63) (K : Nat) : FOK P rational_Make K [.int .i64 x, .int .i64 y] [] (pres (.tuple [.rat ((x : Rat) / (y : Rat)) 64, .int .i64 (if y = 0 then 3 else 0)]) []) := by
  refine fok_tree hT GA_ok hm is_rMake rfl (of_decide_eq_true (by kernel_rfl)) rfl 60 rMake_end (fun _ => ?_) K []
  simp only [ATree.all, allP, beq_iff_eq, beq_eq_false_iff_ne, ne_eq]
  refine ⟨fun hb => ⟨by omega, by omega, ?_, avLe0_int (by rw [if_pos hb]), trivial⟩, fun hb => ⟨⟨h1, h2, h3, h4, nl_lt_of (n := 64) (by omega) (by omega), nl_lt_of (n := 64) (by omega) (by omega), by omega⟩, by omega, avLe0_rat_eq (rat_div_int hb) (Sz_frac h1 h2 h3 h4 hb), avLe0_int (by rw [if_neg hb]), trivial⟩⟩
  rw [hb, show ((x : Rat) / ((0 : Int) : Rat)) = 0 by rw [Rat.intCast_zero, Rat.div_def, Rat.inv_zero, Rat.mul_zero]]
  exact avLe0_zero
def tMake : Spec := pureSpec fun l => match l with
  | [.int .i64 x, .int .i64 y] => match decide (-2 ^ 63 ≤ x ∧ x < 2 ^ 63 ∧ -2 ^ 63 ≤ y ∧ y < 2 ^ 63) with
    | true => some (pres (.tuple [.rat ((x : Rat) / (y : Rat)) 64, .int .i64 (if y = 0 then 3 else 0)]) [])
    | false => none
  | _ => none
noncomputable def gGrev : Contracts := [(knots_Greville, aSpec T (sG :: (rational_Make, tMake) :: (knots_Poles, aSpec T [sG] [] 20 fn_knots_Poles) :: tRat) [] 200 fn_knots_Greville)]
noncomputable def G8w : Contracts := sG :: (knots_Check, s_chk) :: (knots_Poles, aSpec T [sG] [] 20 fn_knots_Poles) :: (ref02_Text, tTe) :: (gGrev ++ tRef)
theorem aw8_end : funT T G8w [100021] 200 fn_law08_awake (codeOf fn_law08_awake) ⟨zipSlots 0 [], [], 0⟩ =
    let c30 : Int := i64.wrap ((0 : Int) + (1 : Int)); let c29 : Int := i64.wrap ((0 : Int) - (2 : Int)); let c19 : Nat := 2 ^ 47; let c18 : Nat := 56 + 1; let c16 : AV := rat 0 1; let c15 : Nat := 1 + 1; let c44 : Int := i64.wrap (c30 + (1 : Int)); let c43 : Prop := c15 * c18 * 2 ≤ c19; let c31 : Prop := 0 < 1 ∧ 1 * c18 * 2 ≤ c19; let c27 : Nat := c15 + 1; let c7 : Int := if (2 : Int) < c29 then (2 : Int) else c29; let c4 : Int := i64.wrap (c30 - (2 : Int)); let c42 : Prop := c27 * c18 * 2 ≤ c19; let c39 : Int := if (0 : Int) < c7 then c7 else (0 : Int); let c13 : Int := if (2 : Int) < c4 then (2 : Int) else c4; let c8 : Nat := c27 + 1; let c3 : Int := i64.wrap (c44 - (2 : Int)); let c1 : Int := i64.wrap (c44 + (1 : Int)); let c46 : Int := i64.wrap (c1 + (1 : Int)); let c45 : Prop := c8 * c18 * 2 ≤ c19; let c34 : Int := if (0 : Int) < c13 then c13 else (0 : Int); let c32 : Int := i64.wrap (c1 - (2 : Int)); let c28 : Nat := c8 + 1; let c26 : AV := rat (↑c39 : Rat) (Max.max 1 (bitsN c39.natAbs)); let c11 : Int := if (2 : Int) < c3 then (2 : Int) else c3; let c38 : Int := if (0 : Int) < c11 then c11 else (0 : Int); let c23 : AV := rat (↑c34 : Rat) (Max.max 1 (bitsN c34.natAbs)); let c17 : Nat := c28 + 1; let c9 : Int := if (2 : Int) < c32 then (2 : Int) else c32; let c6 : Int := i64.wrap (c46 - (2 : Int)); let c2 : Int := i64.wrap (c46 + (1 : Int)); let c41 : Nat := c17 + 1; let c40 : Int := if (0 : Int) < c9 then c9 else (0 : Int); let c33 : Int := i64.wrap (c2 - (2 : Int)); let c21 : AV := rat (↑c38 : Rat) (Max.max 1 (bitsN c38.natAbs)); let c12 : Int := if (2 : Int) < c6 then (2 : Int) else c6; let c5 : Int := i64.wrap (i64.wrap (c2 + (1 : Int)) - (2 : Int)); let c36 : Int := if (0 : Int) < c12 then c12 else (0 : Int); let c25 : AV := rat (↑c40 : Rat) (Max.max 1 (bitsN c40.natAbs)); let c14 : Int := if (2 : Int) < c5 then (2 : Int) else c5; let c10 : Int := if (2 : Int) < c33 then (2 : Int) else c33; let c37 : Int := if (0 : Int) < c10 then c10 else (0 : Int); let c35 : Int := if (0 : Int) < c14 then c14 else (0 : Int); let c22 : AV := rat (↑c36 : Rat) (Max.max 1 (bitsN c36.natAbs)); let c24 : AV := rat (↑c37 : Rat) (Max.max 1 (bitsN c37.natAbs)); let c20 : AV := rat (↑c35 : Rat) (Max.max 1 (bitsN c35.natAbs)); some (must [c31] (must [c43] (must [c42] (must [c45] (must [c28 * c18 * 2 ≤ c19] (must [c17 * c18 * 2 ≤ c19] (must [c41 * c18 * 2 ≤ c19] (must [c31, c43, c42, c45] (must [allRat (fun i ↦ if i + 0 < c17 then if i + 0 < c28 then if i + 0 < c8 then if i + 0 < c27 then if i + 0 < c15 then if i + 0 < 1 then nth [c26] c16 (i + 0 + 0) else nth [c23] c16 (i + 0 - 1 + 0) else nth [c21] c16 (i + 0 - c15 + 0) else nth [c25] c16 (i + 0 - c27 + 0) else nth [c22] c16 (i + 0 - c8 + 0) else nth [c24] c16 (i + 0 - c28 + 0) else nth [c20] c16 (i + 0 - c17 + 0)) c41 sJ, c41 < 2 ^ 40, (chkE c41 (fun i ↦ ratV (if i + 0 < c17 then if i + 0 < c28 then if i + 0 < c8 then if i + 0 < c27 then if i + 0 < c15 then if i + 0 < 1 then nth [c26] c16 (i + 0 + 0) else nth [c23] c16 (i + 0 - 1 + 0) else nth [c21] c16 (i + 0 - c15 + 0) else nth [c25] c16 (i + 0 - c27 + 0) else nth [c22] c16 (i + 0 - c8 + 0) else nth [c24] c16 (i + 0 - c28 + 0) else nth [c20] c16 (i + 0 - c17 + 0))) (2 : Int) == (0 : Int)) = true] (leaf ret [AV.bool true])))))))))) := by kernel_rfl
theorem tMake_ok : ∀ K args pre r, tMake K args pre = some r → FOK P rational_Make K args pre r := by
  refine pureSpec_ok fun K args r hk hs _ => ?_
  split at hs
  · split at hs
    · rename_i hc
      simp only [Option.some.injEq] at hs
      subst hs
      have := of_decide_eq_true hc
      exact rMake_ok this.1 this.2.1 this.2.2.1 this.2.2.2 K
    · simp at hs
  · simp at hs
theorem gGrev_ok : GOK P gGrev := gok_cons (aSpec_ok hT (gok_strict (gok_cons tMake_ok (gok_cons (aSpec_ok hT (gok_strict gok_nil) hm (fnIs get_knots_Poles (by kernel_rfl) (by kernel_rfl) (by kernel_rfl)) _ _) tRat_ok))) hm is_kGr _ _) gok_nil
def m8P (n : Nat) (f : Nat → AV) : Nat := (1 + nextV n f 0 5).toNat
def m8N (n : Nat) (f : Nat → AV) : Nat := knN n f (nextA n 0) (m8P n f) 6
def m8K (n : Nat) (f : Nat → AV) : Nat → Rat := knK n f (nextA n 0) (m8P n f) 6
theorem m8P_ok {n : Nat} {f : Nat → AV} : 1 ≤ m8P n f ∧ m8P n f ≤ 5 ∧ (m8P n f : Int) = 1 + nextV n f 0 5 := by
  have h1 := nextV_lo (n := n) (f := f) (a := 0) (m := 5) (by omega)
  have h2 := nextV_hi (n := n) (f := f) (a := 0) (m := 5) (by omega)
  unfold m8P; omega
theorem m8_ok {n : Nat} {f : Nat → AV} (h : DiceOK n f 0) : Kn (m8N n f) (m8P n f) (m8K n f) ∧ m8N n f ≤ 2 * m8P n f + 8 := by
  have h1 := kn_ok (p := m8P n f) (m := 6) h.next m8P_ok.1
  exact ⟨h1.1, Nat.le_trans h1.2.2 (by omega)⟩
def s_8md : Spec := pureSpec fun l => match l with
  | [.tab 1 n f] => some (pres (.tuple [lsA (m8K n f) (m8N n f) 64, .int .i64 (m8P n f)]) [DiceOK n f 0])
  | _ => none
theorem GMd8_ok : GOK P GMd8 := gok_plain (gok_cons s_mRoll_ok (gok_cons s_mNext_ok (gok_cons s_mKnots_ok gok_nil)))
theorem s_8md_ok : ∀ K args pre r, s_8md K args pre = some r → FOK P law08_made K args pre r := by
  refine pureSpec_ok fun K args r hk hs _ => ?_
  split at hs
  · rename_i n f
    simp only [Option.some.injEq] at hs
    subst hs
    intro need
    have hd : DiceOK n f 0 := need
    obtain ⟨z, rfl⟩ : ∃ z : Nat → Int, f = fun i => .int .i64 (z i) := ⟨fun i => intOf (f i), funext fun i => hd.ints i⟩
    have hd : DiceOK n (zz z) 0 := need
    have hp := m8P_ok (n := n) (f := zz z)
    refine (fok_tree (r := pres (.tuple [lsA (m8K n (zz z)) (m8N n (zz z)) 64, .int .i64 (m8P n (zz z))]) []) hT GMd8_ok hm is_8made rfl (of_decide_eq_true (by kernel_rfl)) rfl 60 md8_end (fun _ => ?_) K [] : FOK P law08_made K _ [] _) trivial
    simp only [ATree.all, allP, ← hp.2.2, Int.toNat_natCast]
    exact ⟨⟨hd, by omega, by omega, by omega⟩, ⟨hd.next, by omega, by omega, by omega, by omega⟩, .refl _, .refl _, trivial⟩
  · simp at hs
theorem kn7 : Kn 7 2 (endK 2 1 (setK (fun _ => ((0 : Int) : Rat)) 3 1) 1) :=
  ((KG.start (p := 2) (by omega) (z := 0) (by omega) (by omega)).next (t' := 1) (.inl ⟨by decide +kernel, 2, by decide +kernel, by omega⟩)).done
theorem G8w_ok : GOK P G8w := gok_strict (gok_cons s_kCh_ok (gok_cons (aSpec_ok hT (gok_strict gok_nil) hm (fnIs get_knots_Poles (by kernel_rfl) (by kernel_rfl) (by kernel_rfl)) _ _) (gok_cons tTe_ok (gok_app gGrev_ok tRef_ok))))
theorem aw8_ok (K : Nat) : FOK P law08_awake K [] [] (pres (.bool true) []) := by
  refine fok_tree (r := pres (.bool true) []) hT G8w_ok hm is_8awake rfl (of_decide_eq_true (by kernel_rfl)) rfl 200 aw8_end (fun _ => ?_) K []
  simp only [ATree.all, allP]
  (repeat' with_reducible first | refine And.intro ?_ ?_)
  all_goals first | omega | decide | skip
  · intro i hi
    match i, hi with
    | 0, _ | 1, _ | 2, _ | 3, _ | 4, _ | 5, _ | 6, _ => exact avLe0_rat_more (by decide)
  · refine beq_iff_eq.2 (Kn.chk (n := 7) (p := 2) (kn7.congr fun i hi => ?_) (by omega) (by omega))
    match i, hi with
    | 0, _ | 1, _ | 2, _ | 3, _ | 4, _ | 5, _ | 6, _ => decide +kernel
  · exact .refl _
def s_aw8 : Spec := pureSpec fun l => match l with
  | [] => some (pres (.bool true) [])
  | _ => none
theorem s_aw8_ok : ∀ K args pre r, s_aw8 K args pre = some r → FOK P law08_awake K args pre r := by
  refine pureSpec_ok fun K args r hk hs _ => ?_
  split at hs
  · simp only [Option.some.injEq] at hs
    subst hs
    exact aw8_ok K
  · simp at hs
end Go.Am.B

/- knots.Greville. -/
namespace Go.Am.B
open Go Go.Am.N AV ATree AEx IntKind
def s_rMk : Spec := spL (kC kI (kC kI kN)) (fun a => .tuple [.rat ((a.1 : Rat) / (a.2.1 : Rat)) 64, .int .i64 (if a.2.1 = 0 then 3 else 0)]) fun a => [-2 ^ 63 ≤ a.1, a.1 < 2 ^ 63, -2 ^ 63 ≤ a.2.1, a.2.1 < 2 ^ 63]
def GkG : Contracts := nG :: (knots_Poles, tPol) :: (rational_Make, s_rMk) :: GR0
noncomputable abbrev kgC : Code := codeOf fn_knots_Greville
noncomputable abbrev kgY : Code := part kgC [1,1,1,0,1,0,0]
noncomputable abbrev kgX : Code := part kgY [1,0,0]
abbrev kgL1 : List Nat := [0, 1, 5, 6, 8]
abbrev kgV1 (n : Nat) (k : Nat → Rat) (p i : Nat) : List AV := [gk k n, .int .i64 p, .own 1 3 0 i, .ptr 0 0 3 0 [], .int .i64 i]
abbrev kgO1 (i p : Nat) (x : Nat → Rat) : Store := [(1, rowS1 i x 512), (0, tP (((1 : Int) : Rat) / ((p : Int) : Rat)) 64)]
abbrev kgL2 : List Nat := [0, 1, 5, 6, 8, 9, 35, 36, 37]
abbrev kgV2 (n : Nat) (k : Nat → Rat) (p i j : Nat) : List AV := [gk k n, .int .i64 p, .own 1 3 0 i, .ptr 0 0 3 0 [], .int .i64 i, .ptr 2 0 3 0 [], .tab 3 p (fun j => .rat (k (j + (i + 1))) 64), .int .i64 p, .int .i64 j]
abbrev kgO2 (i p : Nat) (x : Nat → Rat) (q : Rat) (s : Nat) : Store := [(2, tP q s), (1, rowS1 i x 512), (0, tP (((1 : Int) : Rat) / ((p : Int) : Rat)) 64)]
theorem is_kGrv : FnIs P knots_Greville fn_knots_Greville (codeOf fn_knots_Greville) := fnIs get_knots_Greville (by kernel_rfl) (by kernel_rfl) (by kernel_rfl)
theorem kg_pre {n p : Nat} {k : Nat → Rat} : seeL T GkG [] 60 kgL1 (before kgC [1,1,1,0,1]) ⟨zipSlots 0 [gk k n, .int .i64 p], [], 0⟩ =
    let c2 : Int := (↑p : Int); let c1 : Int := (2 : Int) ^ 63; some (must [-c1 ≤ (1 : Int), (1 : Int) < c1, -c1 ≤ c2, c2 < c1, (0 : Nat) < 1] (leaf normal ([tab 3 n fun i ↦ rat (k i) 64, int i64 c2, nil, ptr 28672 0 3 0 [], int i64 (0 : Int)], [((28672 : Nat), AObj.mk false true 3 1 fun j ↦ if (j == 0) = true then deN (rat ((↑(1 : Int) : Rat) / (↑c2 : Rat)) 64) else rat 0 1)]))) := by kernel_rfl
theorem kg_o {n p i : Nat} {k x : Nat → Rat} : seeL T GkG [22, 25] 60 kgL1 (before kgY [1,0]) ⟨zipL kgL1 (kgV1 n k p i), kgO1 i p x, 2⟩ =
    let c8 : Prop := n < 2 ^ 40; let c6 : Prop := allRat (fun i ↦ rat (k i) 64) n sK; let c5 : Int := (↑i : Int); let c4 : Int := (↑p : Int); let c3 : Int := (2 : Int) ^ 40; let c2 : Int := (↑n : Int) - c4 - (1 : Int); let c1 : List AV × Store := ([tab 3 n fun i ↦ rat (k i) 64, int i64 c4, own 1 3 0 i, ptr 0 0 3 0 [], int i64 c5], [((0 : Nat), AObj.mk false true 3 1 fun x ↦ rat ((↑(1 : Int) : Rat) / (↑c4 : Rat)) 64), ((1 : Nat), AObj.mk true true 3 i fun i ↦ rat (x i) 512)]); let c7 : Bool := decide (c5 < c2); some (fork c7 (must [c6, c8, -c3 < c4, c4 < c3, c7 = true] (fork (bif true then decide (c4 > (0 : Int)) else false) (leaf normal c1) (leaf (exit 0) c1))) (must [c6, c8, -c3 < c4, c4 < c3, c7 = false] (fork false (leaf normal c1) (leaf (exit 0) c1)))) := by kernel_rfl
theorem kg_i {n p i : Nat} {k x : Nat → Rat} : seeL T GkG [] 60 kgL2 (before kgX [1,0,1]) ⟨zipL kgL1 (kgV1 n k p i), kgO1 i p x, 2⟩ =
    let c4 : Int := (↑i : Int) + (↑p : Int); let c3 : Int := (2 : Int) ^ 63; let c2 : Int := (↑i : Int) + (1 : Int); let c1 : Int := c4 + (1 : Int); some (must [-c3 ≤ c2 ∧ c2 < c3, -c3 ≤ c4 ∧ c4 < c3, -c3 ≤ c1 ∧ c1 < c3, (0 : Int) ≤ c2 ∧ c2 ≤ c1 ∧ c1 ≤ c1 ∧ c1 ≤ (↑n : Int)] (leaf normal ([tab 3 n fun i ↦ rat (k i) 64, int i64 (↑p : Int), own 1 3 0 i, ptr 0 0 3 0 [], int i64 (↑i : Int), ptr 2 0 3 0 [], tab 3 (c1.toNat - c2.toNat) fun i ↦ rat (k (i + c2.toNat)) 64, int i64 (↑(c1.toNat - c2.toNat) : Int), int i64 (0 : Int)], [((2 : Nat), AObj.mk false true 3 1 fun x ↦ rat 0 1), ((0 : Nat), AObj.mk false true 3 1 fun x ↦ rat ((↑(1 : Int) : Rat) / (↑(↑p : Int) : Rat)) 64), ((1 : Nat), AObj.mk true true 3 i fun i ↦ rat (x i) 512)]))) := by kernel_rfl
theorem kg_b {n p i j s : Nat} {k x : Nat → Rat} {q : Rat} : seeL T GkG [38] 60 kgL2 [part kgX [1,0,1,0,0]] ⟨zipL kgL2 (kgV2 n k p i j), kgO2 i p x q s, 3⟩ =
    let c11 : Int := (↑p : Int); let c9 : AV := own 1 3 0 i; let c8 : AV := tab 3 n fun i ↦ rat (k i) 64; let c7 : AV := ptr 2 0 3 0 []; let c6 : AV := ptr 0 0 3 0 []; let c4 : Prop := 0 < 1; let c3 : Int := (↑j : Int); let c2 : AV := tab 3 p fun j ↦ rat (k (j + (i + 1))) 64; let c10 : Int := c3 + (1 : Int); let c5 : AV := int i64 c11; let c1 : List (Nat × AObj) := [((0 : Nat), AObj.mk false true 3 1 fun x ↦ rat ((↑(1 : Int) : Rat) / (↑c11 : Rat)) 64), ((1 : Nat), AObj.mk true true 3 i fun i ↦ rat (x i) 512)]; some (fork (decide (c3 < c11)) (must [(0 : Int) ≤ c3 ∧ c3.toNat < p, c4] (must [c4, c4, s < 2 ^ 42, (64 : Nat) < 2 ^ 42, c4] (must [-(2 : Int) ^ 63 ≤ c10 ∧ c10 < (2 : Int) ^ 63] (leaf normal ([c8, c5, c9, c6, int i64 (↑i : Int), c7, c2, c5, int i64 c10], ((2 : Nat), AObj.mk false true 3 1 fun j ↦ if (j == 0) = true then deN (oAdd (q, s) (k (c3.toNat + (i + 1)), (64 : Nat))) else rat q s) :: c1))))) (leaf (exit 2) ([c8, c5, c9, c6, int i64 (↑i : Int), c7, c2, c5, int i64 c3], ((2 : Nat), AObj.mk false true 3 1 fun x ↦ rat q s) :: c1))) := by kernel_rfl
theorem kg_t {n p i j s : Nat} {k x : Nat → Rat} {q : Rat} : seeL T GkG [] 60 kgL1 (behind kgX [1,0,1] ++ [part kgY [1,1]]) ⟨zipL kgL2 (kgV2 n k p i j), kgO2 i p x q s, 3⟩ =
    let c2 : Rat := (↑(1 : Int) : Rat) / (↑(↑p : Int) : Rat); let c1 : Int := (↑i : Int) + (1 : Int); some (must [(0 : Nat) < 1, (0 : Nat) < 1, (64 : Nat) < 2 ^ 42, s < 2 ^ 42, (1 : Nat) * 3 ≤ 2 ^ 24, (i + 1) * ((56 : Nat) + 1) * 2 ≤ 2 ^ 47] (must [-(2 : Int) ^ 63 ≤ c1 ∧ c1 < (2 : Int) ^ 63] (leaf normal ([tab 3 n fun i ↦ rat (k i) 64, int i64 (↑p : Int), own 20483 3 0 (i + 1), ptr 0 0 3 0 [], int i64 c1], [((0 : Nat), AObj.mk false true 3 1 fun x ↦ rat c2 64), ((20483 : Nat), AObj.mk true true 3 (i + 1) fun i_1 ↦ if i_1 < i then rat (x i_1) 512 else nth [rat (c2 * q) ((64 : Nat) + s)] (rat 0 1) (i_1 - i + 0))])))) := by kernel_rfl
theorem kg_e {n p i : Nat} {k x : Nat → Rat} : endL T GkG [] 60 fn_knots_Greville [part kgC [1,1,1,1]] ⟨zipL kgL1 (kgV1 n k p i), kgO1 i p x, 2⟩ =
    some (leaf ret [tab 3 i fun i ↦ rat (x (i + 0)) 512]) := by kernel_rfl
theorem s_rMk_ok : ∀ K args pre r, s_rMk K args pre = some r → FOK P rational_Make K args pre r := spL_ok fun ⟨x, y, _⟩ K hn => rMake_ok hn.1 hn.2.1 hn.2.2.1 hn.2.2.2 K
theorem GkG_ok : GOK P GkG := gok_plain (gok_cons tPolk_ok (gok_cons s_rMk_ok GR0_ok))
theorem kGr_ok {n p : Nat} {k : Nat → Rat} (hp1 : 1 ≤ p) (hp6 : p ≤ 6) (hn : n < 2 ^ 40) (hpn : p + 1 < n) (K : Nat) : FOK P knots_Greville K [gk k n, .int .i64 p] [] (pres (lsA (grev k p) (n - p - 1) 512) []) := by
  refine fok_down (r := pres (lsA (grev k p) (n - p - 1) 512) []) hT is_kGrv rfl (of_decide_eq_true (by kernel_rfl)) rfl (fun _ cx h0 => ?_) K []
  have hk := kept_nil h0
  have hSK : sK = 4096 := rfl
  obtain ⟨N, hN⟩ : ∃ N, N = n - p - 1 := ⟨_, rfl⟩
  rw [← hN]
  have w : (n : Int) - (p : Int) - 1 = (N : Int) := by omega
  refine AWp.loop2 hT GkG_ok hm (x := kgC) [1,1,1,0,1] (i := 0) (y := kgY) (z := part kgC [1,1,1,1]) (by kernel_rfl) (by kernel_rfl) (by kernel_rfl) is_kGrv.dst [1,0] (j := 1) (x1 := kgX) (zb := part kgY [1,1]) (by kernel_rfl) (by kernel_rfl) (by kernel_rfl) [1,0,1] (i2 := 2) (y2 := part kgX [1,0,1,0,0]) (by kernel_rfl) (by kernel_rfl) rfl hk
    (f1 := []) (f2 := [22, 25]) (f3 := []) (f4 := [38]) (f5 := []) 60 kgL1 kgL2 2 3 (fun i : Nat => kgV1 n k p i) (fun i => kgO1 i p (grev k p)) (fun i => i ≤ N) (fun i => i = N) (fun i => N - i) (fun i => i < N) (fun _ => False) (fun _ => False)
    (fun i (j : Nat) => kgV2 n k p i j) (fun i j => kgO2 i p (grev k p) (kS k (i + 1) j) (grS j)) (fun _ j => j ≤ p) (fun _ j => j = p) (fun _ j => p - j)
    ⟨_, kg_pre, ?_⟩ (fun i hi => ⟨_, kg_o, ?_⟩) (fun i hi hG => ⟨_, kg_i, ?_⟩) (fun i hi hG j hj => ⟨_, kg_b, ?_⟩) (fun i hi hG j hj => ⟨_, kg_t, ?_⟩) (fun i hi => ?_) (fun _ _ h => h.elim) (fun _ _ h => h.elim)
  · simp only [ATree.all, allP]
    exact ⟨by omega, 0, by omega, [(0, 28672)], rfl, rfl, rfl, objsQ_new rfl (by omega) (by omega) (objsQ_one rfl rfl (avQ_eq rfl rfl) trivial)⟩
  · simp only [ATree.all, allP, decide_eq_true_eq, decide_eq_false_iff_not, w]
    have hal : allRat (fun i => rat (k i) 64) n sK := allRat_ls (by omega)
    have re : ReOK [] ([tab 3 n fun i => rat (k i) 64, int i64 p, own 1 3 0 i, ptr 0 0 3 0 [], int i64 i], [((0 : Nat), tP (((1 : Int) : Rat) / ((p : Int) : Rat)) 64), (1, rowS1 i (grev k p) 512)]) (kgV1 n k p i) (kgO1 i p (grev k p)) 2 :=
      ⟨[(0, 0), (1, 1)], rfl, rfl, rfl, objsQ_cons rfl rfl rfl (fun j hj => avQ_eq rfl rfl) (objsQ_one rfl rfl (avQ_eq rfl rfl) trivial)⟩
    refine ⟨fun h1 => ⟨⟨hal, by omega, by omega, by omega, h1⟩, fun h2 => ⟨by omega, re⟩, fun h2 => ?_⟩, fun h1 => ⟨⟨hal, by omega, by omega, by omega, h1⟩, fun h2 => absurd h2 (by decide), fun h2 => ⟨rfl, i, by omega, re⟩⟩⟩
    exfalso
    rw [cond_true, decide_eq_false_iff_not] at h2
    omega
  · simp only [ATree.all, allP]
    refine ⟨by omega, 0, by omega, [(0, 0), (1, 1), (2, 2)], rfl, ?_, rfl, objsQ_one rfl rfl (avQ_eq rfl rfl) (objsQ_cons rfl rfl rfl (fun j hj => avQ_eq rfl rfl) (objsQ_one rfl rfl (avQ_eq rfl rfl) trivial))⟩
    show _ = (kgV2 n k p i 0).map _
    rw [show ((i : Int) + p + 1).toNat - ((i : Int) + 1).toNat = p by omega, show ((i : Int) + 1).toNat = i + 1 by omega]; rfl
  · simp only [ATree.all, allP, decide_eq_true_eq, decide_eq_false_iff_not, Int.toNat_natCast, Nat.add_zero]
    have hg : grS j < 2 ^ 40 := by unfold grS; omega
    exact ⟨fun h1 => ⟨by omega, by omega, by omega, j + 1, by omega, by dsimp only; omega, [(0, 0), (1, 1), (2, 2)], rfl, rfl, rfl, objsQ_one rfl rfl (.inr ⟨rfl, avLe0_rat_up (show _ = kS k (i + 1) j + k (i + 1 + j) by rw [Nat.add_comm (i + 1) j]) (by unfold grS; omega)⟩) (objsQ_cons rfl rfl rfl (fun j hj => avQ_eq rfl rfl) (objsQ_one rfl rfl (avQ_eq rfl rfl) trivial))⟩,
      fun h1 => ⟨rfl, j, by omega, [(0, 0), (1, 1), (2, 2)], rfl, rfl, rfl, objsQ_one rfl rfl (avQ_eq rfl rfl) (objsQ_cons rfl rfl rfl (fun j hj => avQ_eq rfl rfl) (objsQ_one rfl rfl (avQ_eq rfl rfl) trivial))⟩⟩
  · subst hj
    simp only [ATree.all, allP]
    have hg : grS j + 64 ≤ 512 := by unfold grS; omega
    exact ⟨by omega, by omega, i + 1, by omega, by dsimp only; omega, [(0, 0), (1, 20483)], rfl, rfl, rfl, objsQ_cons rfl rfl rfl (fun x hx => rowAdd (fun _ _ => rfl) (Rat.mul_comm _ _) (Nat.le_refl _) (by omega) hx) (objsQ_one rfl rfl (avQ_eq rfl rfl) trivial)⟩
  · subst hi
    exact AWp.ofL ((AWpL.fin hT GkG_ok hm 60 kg_e (by kernel_rfl) (avLe0_tab fun _ _ => .refl _)).mono fun _ _ h => .inl h)
theorem s_kGr_ok : ∀ K args pre r, s_hGr K args pre = some r → FOK P knots_Greville K args pre r := spL_ok fun ⟨⟨n, k⟩, p, _⟩ K hn => by
  obtain ⟨h1, h2, h3, h4⟩ := hn
  have h4 : p + 1 < n := h4
  simp only at h1 h2 h3
  have := kGr_ok (p := p.toNat) (k := k) (by omega) (by omega) h3 (by omega) K
  rw [Int.toNat_of_nonneg (by omega)] at this
  exact this
end Go.Am.B

/- knots.Mirror: slices.Backward of numbers. -/
namespace Go.Am.B
open Go Go.Am.N AV ATree AEx IntKind
abbrev bkF : FuncId := slices_Backward_api_Rat_api_Rat
abbrev bk1 : FuncId := slices_Backward_api_Rat_api_Rat_1
noncomputable abbrev bkX : Code := codeOf fn_slices_Backward_api_Rat_api_Rat_1
theorem is_bkF : FnIs P bkF fn_slices_Backward_api_Rat_api_Rat (codeOf fn_slices_Backward_api_Rat_api_Rat) := fnIs get_slices_Backward_api_Rat_api_Rat (by kernel_rfl) (by kernel_rfl) (by kernel_rfl)
theorem is_bk1 : FnIs P bk1 fn_slices_Backward_api_Rat_api_Rat_1 bkX := fnIs get_slices_Backward_api_Rat_api_Rat_1 (by kernel_rfl) (by kernel_rfl) (by kernel_rfl)
theorem is_kMi : FnIs P knots_Mirror fn_knots_Mirror (codeOf fn_knots_Mirror) := fnIs get_knots_Mirror (by kernel_rfl) (by kernel_rfl) (by kernel_rfl)
def loadT (o : Oper) : Nat := match o.op with
  | .load t _ => t
  | _ => 0
def binT (o : Oper) : Nat := match o.op with
  | .binOp _ t _ _ _ => t
  | _ => 0
noncomputable abbrev bkS : Nat := loadT (opAt bkX [0] 0)
noncomputable abbrev bkE : Nat := loadT (opAt bkX [1,0,0,1,0,0,0] 5)
noncomputable abbrev bkI : Nat := binT (opAt bkX [0] 2)
def callTs (o : Oper) : Array TypeId := match o.op with
  | .call c => c.argTypes
  | _ => #[]
def unT (o : Oper) : Nat := match o.op with
  | .unOp _ t _ => t
  | _ => 0
theorem bk_code : BackCode bkX bkS bkE bkI := ⟨by kernel_rfl, ⟨by kernel_rfl, by kernel_rfl, by kernel_rfl⟩, ⟨by kernel_rfl, by kernel_rfl, by kernel_rfl⟩, ⟨by kernel_rfl, by kernel_rfl, by kernel_rfl⟩, ⟨by kernel_rfl, by kernel_rfl, by kernel_rfl⟩, ⟨by kernel_rfl, by kernel_rfl, by kernel_rfl⟩, ⟨by kernel_rfl, by kernel_rfl, by kernel_rfl⟩, ⟨by kernel_rfl, by kernel_rfl, by kernel_rfl⟩, ⟨by kernel_rfl, by kernel_rfl, by kernel_rfl⟩, ⟨by kernel_rfl, by kernel_rfl, by kernel_rfl⟩, ⟨by kernel_rfl, by kernel_rfl, by kernel_rfl⟩, ⟨by kernel_rfl, by kernel_rfl, by kernel_rfl⟩, ⟨by kernel_rfl, by kernel_rfl, by kernel_rfl⟩,
  ⟨callTs (opAt bkX [1,0,0,1,0,0,0] 6), by kernel_rfl, by kernel_rfl, by kernel_rfl⟩, ⟨unT (opAt bkX [1,0,0,1,0,0,0] 7), by kernel_rfl, by kernel_rfl, by kernel_rfl⟩, ⟨by kernel_rfl, by kernel_rfl, by kernel_rfl⟩, ⟨by kernel_rfl, by kernel_rfl, by kernel_rfl⟩, ⟨by kernel_rfl, by kernel_rfl, by kernel_rfl⟩⟩
theorem bk_iter {n s : Nat} {k : Nat → Rat} (hn : n < 2 ^ 62) : Iter2 P bk1 [.cref (lsA k n s)] n (fun i => .int .i64 ((n : Int) - 1 - i)) (fun i => .rat (k (n - 1 - i)) s) :=
  back_iter hT (tiS := (look bkS T).getD ⟨.bool, 0, 0, .nil⟩) (tiE := (look bkE T).getD ⟨.bool, 0, 0, .nil⟩) (by kernel_rfl) (by kernel_rfl) (by kernel_rfl) (by kernel_rfl) is_bk1.get is_bk1.body (by kernel_rfl) (by kernel_rfl) bk_code (f := fun i => .rat (k i) s) hn (by kernel_rfl) fun i hi => ⟨rfl, rfl⟩
noncomputable def GMi : Contracts := nG :: (bkF, aSpec T [sG] [] 20 fn_slices_Backward_api_Rat_api_Rat) :: GR0
abbrev miL : List Nat := [1, 3, 7]
abbrev miV (n : Nat) (k : Nat → Rat) (s : Nat) : List AV := [.ptr 0 0 1 0 [], .ptr 1 0 1 0 [], .func bk1 [.cref (lsA k n s)]]
abbrev miO (n : Nat) (k : Nat → Rat) (s i : Nat) (x : Nat → Rat) (w : Nat) : Store := [(2, rowS1 i x w), (1, ⟨false, true, 1, 1, fun _ => .own 2 3 0 i⟩), (0, ⟨false, true, 1, 1, fun _ => lsA k n s⟩)]
abbrev miLA : List Nat := [1, 3, 7, 5]
abbrev miVA (n : Nat) (k : Nat → Rat) (s : Nat) : List AV := [.ptr 0 0 1 0 [], .ptr 1 0 1 0 [], .func bk1 [.cref (lsA k n s)], .ptr 3 0 3 0 []]
noncomputable abbrev miC : Code := codeOf fn_knots_Mirror
def rangeParts : Code → Code × Code
  | .block _ (.rangeFunc _ _ x y) => (x, y)
  | _ => (.skip, .skip)
noncomputable abbrev miA : Code := (rangeParts (part miC [1,1,0,1])).1
noncomputable abbrev miB : Code := (rangeParts (part miC [1,1,0,1])).2
theorem mi_pre {n s : Nat} {k : Nat → Rat} : seeL T GMi [] 60 miL (before miC [1,1,0,1]) ⟨zipSlots 0 [lsA k n s], [], 0⟩ =
    let c1 : AV := tab 3 n fun i ↦ rat (k i) s; some (must [(0 : Nat) < 1] (leaf normal ([ptr 0 0 (deN (lsA k n s)).size 0 [], ptr 8192 0 1 0 [], func slices_Backward_api_Rat_api_Rat_1 [c1.cref]], [((8192 : Nat), AObj.mk false true 1 1 fun x ↦ nil), ((0 : Nat), AObj.mk false true (deN (lsA k n s)).size 1 fun x ↦ c1)]))) := by kernel_rfl
theorem mi_a {n s w i : Nat} {k x : Nat → Rat} {u : Int} {v : Rat} : seeL T GMi [] 60 miLA [miA] ⟨zipL (miL ++ [8, 9]) (miV n k s ++ [.int .i64 u, .rat v s]), miO n k s i x w, 3⟩ =
    let c1 : AV := tab 3 n fun i ↦ rat (k i) s; some (must [(0 : Nat) < 1] (leaf normal ([ptr 0 0 1 0 [], ptr 1 0 1 0 [], func slices_Backward_api_Rat_api_Rat_1 [c1.cref], ptr 3 0 3 0 []], [((2 : Nat), AObj.mk true true 3 i fun i ↦ rat (x i) w), ((3 : Nat), AObj.mk false true 3 1 fun j ↦ if (j == 0) = true then deN (rat v s) else rat 0 1), ((1 : Nat), AObj.mk false true 1 1 fun x ↦ own 2 3 0 i), ((0 : Nat), AObj.mk false true 1 1 fun x ↦ c1)]))) := by kernel_rfl
theorem mi_b {n s w i : Nat} {k x : Nat → Rat} {v : Rat} : seeL T GMi [] 60 miL [miB] ⟨zipL miLA (miVA n k s), (3, tP v s) :: miO n k s i x w, 4⟩ =
    let c4 : AV := tab 3 n fun i ↦ rat (k i) s; let c3 : Nat := 2 ^ 42; let c2 : Int := (↑n : Int) - (1 : Int); let c1 : Prop := 0 < 1; some (must [c1, c1, (0 : Int) ≤ (0 : Int) ∧ Int.toNat (0 : Int) < n, c1, c1, -(2 : Int) ^ 63 ≤ c2 ∧ c2 < (2 : Int) ^ 63, (0 : Int) ≤ c2 ∧ c2.toNat < n, s < c3, s < c3, c1, s + s + 1 < c3, s < c3, (1 : Nat) * 3 ≤ 2 ^ 24, (i + 1) * ((56 : Nat) + 1) * 2 ≤ 2 ^ 47, c1] (leaf normal ([ptr 0 0 1 0 [], ptr 1 0 1 0 [], func slices_Backward_api_Rat_api_Rat_1 [c4.cref]], [((57348 : Nat), AObj.mk true true 3 (i + 1) fun i_1 ↦ if i_1 < i then rat (x i_1) w else nth [rat (k (Int.toNat (0 : Int)) + k c2.toNat - v) (s + s + 1 + s + 1)] (rat 0 1) (i_1 - i + 0)), ((1 : Nat), AObj.mk false true 1 1 fun j ↦ if (j == 0) = true then deN (own (nat_lit 57347 + 1) 3 0 (i + 1)) else own 2 3 0 i), ((0 : Nat), AObj.mk false true 1 1 fun x ↦ c4)]))) := by kernel_rfl
theorem mi_e {n s w i : Nat} {k x : Nat → Rat} : endL T GMi [] 60 fn_knots_Mirror [part miC [1,1,1]] ⟨zipL miL (miV n k s), miO n k s i x w, 3⟩ =
    some (must [(0 : Nat) < 1] (leaf ret [tab 3 i fun i ↦ rat (x (i + 0)) w])) := by kernel_rfl
theorem GMi_ok : GOK P GMi := gok_plain (gok_cons (aSpec_ok hT (gok_strict gok_nil) hm is_bkF _ _) GR0_ok)
theorem kMi_ok {n s w : Nat} {k : Nat → Rat} (h : 3 * s + 2 ≤ w) (hw : w < 2 ^ 40) (hn : n < 2 ^ 40) (K : Nat) : FOK P knots_Mirror K [lsA k n s] [] (pres (lsA (mirF n k) n w) []) := by
  refine fok_downR (r := pres (lsA (mirF n k) n w) []) hT is_kMi rfl (of_decide_eq_true (by kernel_rfl)) rfl (fun _ cx hro hk => ?_) K []
  refine AWp.rangeL hT GMi_ok hm (x := miC) (assign := miA) (body := miB) (g := 7) (p0 := 8) (p1 := 9) [1,1,0,1] (i := 0) (by kernel_rfl) (by kernel_rfl) is_kMi.dst hro hk is_bk1.enters (bk_iter (s := s) (k := k) (by omega)) (of_decide_eq_true (by kernel_rfl)) (of_decide_eq_true (by kernel_rfl)) (by decide) (f1 := []) (f2 := []) (f3 := [])
    60 miL miLA (miV n k s) (fun _ => rfl) rfl (fun i => miO n k s i (mirF n k) w) 3 4 (fun _ => miVA n k s) (fun i => (3, tP (k (n - 1 - i)) s) :: miO n k s i (mirF n k) w) [0, 1] ⟨_, mi_pre, ?_⟩ (fun i hi => ⟨_, mi_a, ?_⟩) (fun i hi => ⟨_, mi_b, ?_⟩) ?_
  · simp only [ATree.all, allP]
    exact ⟨by omega, trivial, [(0, 0), (1, 8192)], rfl, rfl, rfl, objsQ_new rfl (by omega) (by omega) (objsQ_one rfl rfl (.inl (.inl ⟨rfl, rfl⟩)) (objsQ_one rfl rfl (avQ_eq rfl rfl) trivial))⟩
  · simp only [ATree.all, allP]
    exact ⟨by omega, trivial, [(0, 0), (1, 1), (2, 2), (3, 3)], rfl, rfl, rfl, objsQ_one rfl rfl (avQ_eq rfl rfl) (objsQ_cons rfl rfl rfl (fun _ _ => avQ_eq rfl rfl) (objsQ_one rfl rfl (.inl (.inl ⟨rfl, rfl⟩)) (objsQ_one rfl rfl (avQ_eq rfl rfl) trivial)))⟩
  · simp only [ATree.all, allP, Int.toNat_zero]
    refine ⟨by omega, trivial, [(0, 0), (1, 1), (2, 57348)], rfl, rfl, rfl, objsQ_cons rfl rfl rfl (fun j hj => rowAdd (fun _ _ => rfl) ?_ (Nat.le_refl _) (by omega) hj) (objsQ_one rfl rfl (.inl (.inl ⟨rfl, rfl⟩)) (objsQ_one rfl rfl (avQ_eq rfl rfl) trivial))⟩
    rw [show ((n : Int) - 1).toNat = n - 1 by omega]; rfl
  · rw [show behind miC [1,1,0,1] = [part miC [1,1,1]] from by kernel_rfl]
    exact (AWpL.fin hT GMi_ok hm 60 mi_e (by kernel_rfl) (by simp only [ATree.all, allP]; exact ⟨by omega, .refl _⟩)).mono fun _ _ h => .inl h
end Go.Am.B
