/- slices.Insert of one number into a list of just its capacity; knots.Insert, ref08.Insert. -/
import Derived.Test.YtnocdkaonpdmjaaY48
set_option linter.unusedVariables false
namespace Go.Am.B
open Go Go.Am.N AV ATree AEx IntKind
theorem avLe0_capd {c : Nat} {u v : AV} (hv : v.isAgg = false) (h : avLe0 u v) : avLe0 (.capd c u) (.capd c v) := by
  refine ⟨rfl, fun M w cs hc => ?_⟩
  cases hc with
  | capd _ h1 h2 => cases h2; exact .capd hv (h.2 _ _ _ h1) .nil
def kCap (s : Nat) : Kind (Nat × (Nat → Rat)) := ⟨fun v => match v with
  | .capd c v => match (kL s).read v with
    | some (a, q) => some (a, (c = a.1) :: q)
    | none => none
  | _ => none, fun a => .capd a.1 (lsA a.2 a.1 s), fun {v a q} h hq => by
    split at h
    · split at h
      · rename_i h1
        simp only [Option.some.injEq, Prod.mk.injEq] at h
        obtain ⟨rfl, rfl⟩ := h
        obtain ⟨q1, q2⟩ := allP_cons.1 hq
        subst q1
        exact avLe0_capd rfl ((kL s).ok h1 q2)
      · simp at h
    · simp at h⟩
abbrev siF : FuncId := slices_Insert_api_Rat_api_Rat
noncomputable abbrev siFn : Func := fn_slices_Insert_api_Rat_api_Rat
def insP (k : Nat → Rat) (t : Rat) : Nat → Nat
  | 0 => 0
  | n + 1 => if insP k t n = n ∧ k n ≤ t then n + 1 else insP k t n
def insK (k : Nat → Rat) (t : Rat) (p j : Nat) : Rat := if j < p then k j else if j = p then t else k (j - 1)
abbrev ccL : List Nat := [3, 9, 10, 11]
abbrev ccV (n : Nat) (k : Nat → Rat) (s i : Nat) : List AV := [.capd n (.own 0 3 0 i), lsA k n s, .int .i64 n, .int .i64 i]
abbrev cG0 : Contracts := cG :: GR0
abbrev kiL : List Nat := [0, 3, 5]
abbrev kiV (n : Nat) (k : Nat → Rat) (s i : Nat) : List AV := [lsA k n s, .ptr 0 0 3 0 [], .int .i64 i]
noncomputable abbrev kiC : Code := codeOf fn_knots_Insert
def s_siF (w : Nat) : Spec := spL (kC (kCap w) (kC kI (kC (kL w) kN))) (fun a => lsA (insK a.1.2 (a.2.2.1.2 0) a.2.1.toNat) (a.1.1 + 1) w) fun a => [0 ≤ a.2.1, a.2.1 ≤ a.1.1, a.2.2.1.1 = 1, a.1.1 < 2 ^ 40]
def s_kcC (s w : Nat) : Spec := spL (kC (kL s) kN) (fun a => .capd a.1.1 (lsA a.1.2 a.1.1 w)) fun a => [a.1.1 < 2 ^ 40]
def GkI (s w : Nat) : Contracts := cG :: (knots_copied, s_kcC s w) :: (siF, s_siF w) :: GR0
theorem is_siF : FnIs P siF siFn (codeOf siFn) := fnIs get_slices_Insert_api_Rat_api_Rat (by kernel_rfl) (by kernel_rfl) (by kernel_rfl)
theorem is_kIn : FnIs P knots_Insert fn_knots_Insert (codeOf fn_knots_Insert) := fnIs get_knots_Insert (by kernel_rfl) (by kernel_rfl) (by kernel_rfl)
theorem si_end {n i s : Nat} {k : Nat → Rat} {t : Rat} : funT T [cG] [22, 100031] 60 siFn (codeOf siFn) ⟨zipSlots 0 [.capd n (lsA k n s), .int .i64 i, lsA (fun _ => t) 1 s], [], 0⟩ =
    let c11 : Nat := Int.toNat (0 : Int); let c9 : Int := (↑n : Int); let c7 : Int := (2 : Int) ^ 63; let c4 : Int := (↑i : Int); let c14 : Nat := c4.toNat - c11; let c13 : Prop := (0 : Int) ≤ c4; let c12 : Nat := 0 + c4.toNat; let c3 : Int := c9 + (↑(1 : Nat) : Int); let c2 : Int := c4 + (↑(1 : Nat) : Int); let c10 : Nat := 0 + c2.toNat; let c1 : Nat := c14 + (c3 - c4).toNat; let c8 : Int := (↑c1 : Int); let c6 : Nat := c12 + Min.min 1 (c8.toNat - c4.toNat); let c5 : Nat := c10 + Min.min (c9.toNat - c4.toNat) (c8.toNat - c2.toNat); some (must [c13 ∧ c4 ≤ c9 ∧ c9 ≤ c9] (fork (c4 == c9) (must [n < n + 1 ∧ (n + 1) * ((56 : Nat) + 1) * 2 ≤ 2 ^ 47] (leaf ret [tab 3 (n + 1) fun i ↦ if i + 0 < n then rat (k (i + 0)) s else rat t s])) (must [-c7 ≤ c3 ∧ c3 < c7] (must [decide (c3 > c9) = true] (must [(0 : Int) ≤ (0 : Int) ∧ c13 ∧ c4 ≤ c9, -c7 ≤ c3 ∧ c3 < c7, -c7 ≤ c3 - c4 ∧ c3 - c4 < c7, (0 : Int) < c3 - c4 ∧ n - c11 < c1 ∧ c1 * ((56 : Nat) + 1) * 2 ≤ 2 ^ 47] (must [c13 ∧ c4 ≤ c8 ∧ c8 ≤ c8 ∧ c8 ≤ c8] (must [-c7 ≤ c2 ∧ c2 < c7, (0 : Int) ≤ c2 ∧ c2 ≤ c8 ∧ c8 ≤ c8 ∧ c8 ≤ c8, c13 ∧ c4 ≤ c9 ∧ c9 ≤ c9] (leaf ret [tab 3 c1 fun i ↦ if c10 ≤ i + 0 ∧ i + 0 < c5 then rat (k (i + 0 - c10 + c4.toNat)) s else if c12 ≤ i + 0 ∧ i + 0 < c6 then rat t s else if i + 0 < c14 then rat (k (i + 0 + c11)) s else rat 0 1])))))))) := by kernel_rfl
theorem cc_pre {n s : Nat} {k : Nat → Rat} : seeL T cG0 [] 60 ccL (before cdC [1,1,0,1]) ⟨zipSlots 0 [lsA k n s], [], 0⟩ =
    let c1 : Int := (↑n : Int); some (must [(0 : Int) ≤ (0 : Int) ∧ (0 : Int) ≤ c1 ∧ c1 ≤ (2 : Int) ^ 47 ∧ c1 * (↑(56 : Nat) : Int) ≤ (2 : Int) ^ 47] (leaf normal ([capd c1.toNat (own 12288 3 0 0), tab 3 n fun i ↦ rat (k i) s, int i64 c1, int i64 (0 : Int)], [((12288 : Nat), AObj.mk true true 3 0 fun x ↦ rat 0 1)]))) := by kernel_rfl
theorem cc_b {n i s w : Nat} {k x : Nat → Rat} : seeL T cG0 [12] 60 ccL [part cdC [1,1,0,1,0,0]] ⟨zipL ccL (ccV n k s i), [(0, rowS1 i x w)], 1⟩ =
    let c5 : Int := (↑n : Int); let c3 : Nat := i + 1; let c2 : AV := tab 3 n fun i ↦ rat (k i) s; let c1 : Int := (↑i : Int); let c4 : Int := c1 + (1 : Int); some (fork (decide (c1 < c5)) (must [(0 : Int) ≤ c1 ∧ c1.toNat < n, (0 : Nat) < 1] (must [(0 : Nat) < 1, s < 2 ^ 42, (1 : Nat) < 2 ^ 42, (1 : Nat) * 3 ≤ 2 ^ 24, c3 ≤ n, c3 * ((56 : Nat) + 1) * 2 ≤ 2 ^ 47] (must [-(2 : Int) ^ 63 ≤ c4 ∧ c4 < (2 : Int) ^ 63] (leaf normal ([capd n (own 40961 3 0 c3), c2, int i64 c5, int i64 c4], [((40961 : Nat), AObj.mk true true 3 c3 fun i_1 ↦ if i_1 < i then rat (x i_1) w else nth [rat (k c1.toNat + 0) (s + 1 + 1)] (rat 0 1) (i_1 - i + 0))]))))) (leaf (exit 0) ([capd n (own 0 3 0 i), c2, int i64 c5, int i64 c1], [((0 : Nat), AObj.mk true true 3 i fun i ↦ rat (x i) w)]))) := by kernel_rfl
theorem cc_e {n i s w : Nat} {k x : Nat → Rat} : endL T cG0 [] 60 fn_knots_copied [part cdC [1,1,1]] ⟨zipL ccL (ccV n k s i), [(0, rowS1 i x w)], 1⟩ =
    some (leaf ret [capd n (tab 3 i fun i ↦ rat (x (i + 0)) w)]) := by kernel_rfl
theorem ki_pre {n s r w : Nat} {k : Nat → Rat} {t : Rat} : seeL T (GkI s w) [] 60 kiL (before kiC [1,1,0]) ⟨zipSlots 0 [lsA k n s, .rat t r], [], 0⟩ =
    some (leaf normal ([tab 3 n fun i ↦ rat (k i) s, ptr 0 0 (deN (rat t r)).size 0 [], int i64 (0 : Int)], [((0 : Nat), AObj.mk false true (deN (rat t r)).size 1 fun x ↦ rat t r)])) := by kernel_rfl
theorem ki_b {n i s r w : Nat} {k : Nat → Rat} {t : Rat} : seeL T (GkI s w) [10, 18] 60 kiL [part kiC [1,1,0,0,0]] ⟨zipL kiL (kiV n k s i), [(0, tP t r)], 1⟩ =
    let c7 : AV := tab 3 n fun i ↦ rat (k i) s; let c5 : AV := ptr 0 0 3 0 []; let c4 : Nat × AObj := ((0 : Nat), AObj.mk false true 3 1 fun x ↦ rat t r); let c3 : Int := (↑i : Int); let c8 : Int := c3 + (1 : Int); let c6 : Bool := decide (c3 < (↑n : Int)); let c2 : ATree (List AV × Store) := leaf (exit 0) ([c7, c5, int i64 c3], [c4]); let c1 : ATree (List AV × Store) := must [-(2 : Int) ^ 63 ≤ c8 ∧ c8 < (2 : Int) ^ 63] (leaf normal ([c7, c5, int i64 c8], [c4])); some (fork c6 (must [c6 = true, (0 : Int) ≤ c3 ∧ c3.toNat < n, (0 : Nat) < 1, s < 2 ^ 42, r < 2 ^ 42] (fork (bif true then decide (cmpR (k c3.toNat) t ≤ (0 : Int)) else false) c1 c2)) (must [c6 = false] (fork false c1 c2))) := by kernel_rfl
theorem ki_e {n i s r w : Nat} {k : Nat → Rat} {t : Rat} : endL T (GkI s w) [] 60 fn_knots_Insert [part kiC [1,1,1]] ⟨zipL kiL (kiV n k s i), [(0, tP t r)], 1⟩ =
    let c3 : AV := rat 0 1; let c2 : Prop := n < 2 ^ 40; let c1 : AV := rat (t + 0) (r + 1 + 1); some (must [allRat (fun i ↦ rat (k i) s) n s, c2, (0 : Nat) < 1, r < 2 ^ 42, (1 : Nat) < 2 ^ 42, (1 : Nat) * 3 ≤ 2 ^ 24, n = n, allRat (fun i ↦ rat (ratV (rat (k i) s)) w) n w, allRat (fun i ↦ nth [c1] c3 (i + 0)) 1 w, (0 : Int) ≤ (↑i : Int), (↑i : Int) ≤ (↑n : Int), (1 : Nat) = 1, c2] (leaf ret [tab 3 (n + 1) fun i_1 ↦ rat (insK (fun i ↦ ratV (rat (ratV (rat (k i) s)) w)) (ratV (nth [c1] c3 ((0 : Nat) + 0))) (↑i : Int).toNat i_1) w])) := by kernel_rfl
theorem cG_ok {Γ : Contracts} (h : GOK P Γ) : GOK P (cG :: Γ) := gok_cons (fun _ _ _ _ h => nomatch h) h
theorem cmpR_le0 {a b : Rat} : cmpR a b ≤ (0 : Int) ↔ a ≤ b := by
  have := @cmpR_gt a b
  constructor
  · intro h
    exact Rat.not_lt.1 fun h' => by have := cmpR_gt.2 h'; omega
  · intro h
    have : ¬ cmpR a b > 0 := fun h' => Rat.not_lt.2 h (cmpR_gt.1 h')
    omega
theorem insP_le {k : Nat → Rat} {t : Rat} : ∀ {n : Nat}, insP k t n ≤ n
  | 0 => Nat.le_refl _
  | n + 1 => by
    have := insP_le (k := k) (t := t) (n := n)
    unfold insP; split <;> omega
theorem insP_go {k : Nat → Rat} {t : Rat} {n : Nat} (h : insP k t n = n) (h2 : k n ≤ t) : insP k t (n + 1) = n + 1 := by unfold insP; rw [if_pos ⟨h, h2⟩]
theorem insP_stop {k : Nat → Rat} {t : Rat} {i : Nat} (h : insP k t i = i) (h2 : t < k i) : ∀ {n : Nat}, i ≤ n → insP k t n = i
  | 0, hn => by have : i = 0 := by omega
                subst this; rfl
  | n + 1, hn => by
    by_cases he : i = n + 1
    · subst he; exact h
    · have ih := insP_stop h h2 (n := n) (by omega)
      unfold insP
      rw [if_neg, ih]
      rintro ⟨g1, g2⟩
      have : i = n := by omega
      subst this
      exact absurd h2 (Rat.not_lt.2 g2)
theorem si_ok {n i s : Nat} {k : Nat → Rat} {t : Rat} (hi : i ≤ n) (hn : n < 2 ^ 40) (K : Nat) : FOK P siF K [.capd n (lsA k n s), .int .i64 i, lsA (fun _ => t) 1 s] [] (pres (lsA (insK k t i) (n + 1) s) []) := by
  refine fok_tree (r := pres (lsA (insK k t i) (n + 1) s) []) hT (cG_ok gok_nil) hm is_siF rfl (of_decide_eq_true (by kernel_rfl)) rfl 60 si_end (fun _ => ?_) K []
  simp only [ATree.all, allP, decide_eq_true_eq, decide_eq_false_iff_not]
  have w1 : ((1 : Nat) : Int) = 1 := rfl
  simp only [w1, Int.toNat_natCast, Int.toNat_zero, Nat.sub_zero, Nat.zero_add, Nat.add_zero, beq_iff_eq, beq_eq_false_iff_ne, ne_eq, Int.ofNat_inj]
  refine ⟨by omega, fun h => ⟨by omega, avLe0_tab fun j hj => avLe0_of_eq ?_⟩, fun h => ?_⟩
  · subst h
    unfold insK
    by_cases h1 : j < i
    · rw [if_pos h1, if_pos h1]
    · rw [if_neg h1, if_neg h1, if_pos (by omega)]
  · have eN : i + ((n : Int) + 1 - i).toNat = n + 1 := by omega
    have e2 : ((i : Int) + 1).toNat = i + 1 := by omega
    simp only [eN, e2]
    refine ⟨by omega, by omega, by omega, by omega, by omega, avLe0_tab fun j hj => avLe0_of_eq ?_⟩
    unfold insK
    by_cases h1 : j < i
    · rw [if_neg (by omega), if_neg (by omega), if_pos h1, if_pos h1]
    · by_cases h2 : j = i
      · rw [if_neg (by omega), if_pos (by omega), if_neg h1, if_pos h2]
      · rw [if_pos (by omega), if_neg h1, if_neg h2, show j - (i + 1) + i = j - 1 by omega]
theorem cG0_ok : GOK P cG0 := cG_ok GR0_ok
theorem kcC_ok {n s w : Nat} {k : Nat → Rat} (h : s + 2 ≤ w) (hw : w < 2 ^ 40) (hn : n < 2 ^ 40) (K : Nat) : FOK P knots_copied K [lsA k n s] [] (pres (.capd n (lsA k n w)) []) := by
  refine fok_loop (r := pres (.capd n (lsA k n w)) []) hT cG0_ok hm is_kCd rfl (of_decide_eq_true (by kernel_rfl)) rfl [1,1,0,1] (i := 0) (y := part cdC [1,1,0,1,0,0]) (z := part cdC [1,1,1]) (by kernel_rfl) (by kernel_rfl) (by kernel_rfl) (f1 := []) (f2 := [12]) (f3 := []) 60 ccL 1
    (fun i : Nat => ccV n k s i) (fun i => [(0, rowS1 i k w)]) (fun i => i ≤ n) (fun i => i = n) (fun i => n - i) (fun _ => ⟨⟨_, cc_pre, ?_⟩, fun i hi => ⟨_, cc_b, ?_⟩, fun i hi => ⟨_, cc_e, ?_⟩⟩) K []
  · simp only [ATree.all, allP]
    exact ⟨by omega, 0, Nat.zero_le _, [(0, 12288)], rfl, by rw [Int.toNat_natCast]; rfl, rfl, objsQ_cons rfl rfl rfl (fun j hj => absurd hj (Nat.not_lt_zero j)) trivial⟩
  · simp only [ATree.all, allP, decide_eq_true_eq, decide_eq_false_iff_not, Int.toNat_natCast, Nat.add_zero]
    exact ⟨fun h1 => ⟨by omega, by omega, by omega, i + 1, by omega, by dsimp only; omega, [(0, 40961)], rfl, rfl, rfl, objsQ_cons rfl rfl rfl (fun j hj => rowAdd (fun _ _ => rfl) (Rat.add_zero _) (Nat.le_refl _) (by omega) hj) trivial⟩,
      fun h1 => ⟨rfl, i, by omega, [(0, 0)], rfl, rfl, rfl, objsQ_cons rfl rfl rfl (fun _ _ => avQ_eq rfl rfl) trivial⟩⟩
  · subst hi
    simp only [ATree.all, allP]
    exact .refl _
theorem s_kcC_ok {s w : Nat} (h : s + 2 ≤ w) (hw : w < 2 ^ 40) : ∀ K args pre r, s_kcC s w K args pre = some r → FOK P knots_copied K args pre r := spL_ok fun ⟨⟨n, k⟩, _⟩ K hn => kcC_ok h hw hn K
theorem s_siF_ok {w : Nat} : ∀ K args pre r, s_siF w K args pre = some r → FOK P siF K args pre r := spL_ok fun ⟨⟨n, k⟩, i, ⟨m, g⟩, _⟩ K hn => by
  obtain ⟨h1, h2, h3, h4⟩ := hn
  simp only at h1 h2 h3 h4
  subst h3
  have := fok_weak (si_ok (k := k) (t := g 0) (s := w) (i := i.toNat) (n := n) (by omega) h4 K) (args := [.capd n (lsA k n w), .int .i64 i, lsA g 1 w]) rfl ⟨.refl _, avLe0_int (by omega), avLe0_tab fun j hj => avLe0_of_eq (by rw [Nat.lt_one_iff.1 hj]), trivial⟩ []
  exact this
theorem GkI_ok {s w : Nat} (h : s + 2 ≤ w) (hw : w < 2 ^ 40) : GOK P (GkI s w) := cG_ok (gok_cons (s_kcC_ok h hw) (gok_cons s_siF_ok GR0_ok))
theorem kIn_ok {n s r w : Nat} {k : Nat → Rat} {t : Rat} (h : s + 2 ≤ w) (h2 : r + 2 ≤ w) (hw : w < 2 ^ 40) (hn : n < 2 ^ 40) (K : Nat) : FOK P knots_Insert K [lsA k n s, .rat t r] [] (pres (lsA (insK k t (insP k t n)) (n + 1) w) []) := by
  refine fok_loop (r := pres (lsA (insK k t (insP k t n)) (n + 1) w) []) hT (GkI_ok h hw) hm is_kIn rfl (of_decide_eq_true (by kernel_rfl)) rfl [1,1,0] (i := 0) (y := part kiC [1,1,0,0,0]) (z := part kiC [1,1,1]) (by kernel_rfl) (by kernel_rfl) (by kernel_rfl) (f1 := []) (f2 := [10, 18]) (f3 := []) 60 kiL 1
    (fun i : Nat => kiV n k s i) (fun _ => [(0, tP t r)]) (fun i => i ≤ n ∧ insP k t i = i) (fun i => i ≤ n ∧ i = insP k t n) (fun i => n - i) (fun _ => ⟨⟨_, ki_pre, ?_⟩, fun i hi => ⟨_, ki_b, ?_⟩, fun i hi => ⟨_, ki_e, ?_⟩⟩) K []
  · simp only [ATree.all, allP]
    exact ⟨0, ⟨Nat.zero_le _, rfl⟩, [(0, 0)], rfl, rfl, rfl, objsQ_one rfl rfl (avQ_eq rfl rfl) trivial⟩
  · simp only [ATree.all, allP, decide_eq_true_eq, decide_eq_false_iff_not, Int.toNat_natCast]
    simp only [cond_true, decide_eq_true_eq, decide_eq_false_iff_not, cmpR_le0]
    exact ⟨fun h1 => ⟨⟨h1, by omega, by omega, by omega, by omega⟩, fun h2 => ⟨by omega, i + 1, ⟨by omega, insP_go hi.2 h2⟩, by dsimp only; omega, [(0, 0)], rfl, rfl, rfl, objsQ_one rfl rfl (avQ_eq rfl rfl) trivial⟩,
        fun h2 => ⟨rfl, i, ⟨by omega, (insP_stop hi.2 (Rat.not_le.1 h2) (by omega)).symm⟩, [(0, 0)], rfl, rfl, rfl, objsQ_one rfl rfl (avQ_eq rfl rfl) trivial⟩⟩,
      fun h1 => ⟨h1, fun h => absurd h (by decide), fun _ => ⟨rfl, i, ⟨hi.1, by rw [show n = i by omega]; exact hi.2.symm⟩, [(0, 0)], rfl, rfl, rfl, objsQ_one rfl rfl (avQ_eq rfl rfl) trivial⟩⟩⟩
  · obtain ⟨hi, rfl⟩ := hi
    simp only [ATree.all, allP]
    refine ⟨⟨allRat_ls (Nat.le_refl _), by omega, by omega, by omega, by omega, by omega, trivial, allRat_ls (Nat.le_refl _), fun j hj => ?_, by omega, by omega, trivial, by omega⟩, avLe0_tab fun j hj => avLe0_of_eq ?_⟩
    · rw [Nat.lt_one_iff.1 hj]; exact avLe0_rat_more (by omega)
    · show AV.rat (insK k (t + 0) ((insP k t n : Nat) : Int).toNat j) w = _
      rw [Rat.add_zero, Int.toNat_natCast]
end Go.Am.B

/- Mirrored and affinely changed knots, insertions: plain laws; contracts for numbers of any sizes; parts of spans. -/
namespace Go.Am.B
open Go Go.Am.N AV ATree AEx IntKind
theorem Kn.mirror {n p : Nat} {k : Nat → Rat} (h : Kn n p k) : Kn n p (mirF n k) := by
  have h1 := h.p1
  have hl := h.len
  refine ⟨h1, hl, fun i hi => ?_, fun i hi => ?_, fun i h2 h3 => ?_, fun i h2 h3 => ?_⟩
  · have := h.sorted (n - 1 - (i + 1)) (by omega)
    rw [show n - 1 - (i + 1) + 1 = n - 1 - i by omega] at this
    unfold mirF; grind
  · unfold mirF
    rw [h.last (n - 1 - i) (by omega) (by omega), h.last (n - 1 - 0) (by omega) (by omega)]
  · unfold mirF
    rw [h.first (n - 1 - i) (by omega), h.first (n - 1 - (n - 1)) (by omega)]
  · have := h.mult (n - 1 - (i + p)) (by omega) (by omega)
    rw [show n - 1 - (i + p) + p = n - 1 - i by omega] at this
    unfold mirF; grind
theorem Kn.ends {n p : Nat} {k : Nat → Rat} (h : Kn n p k) : k 0 < k (n - 1) := by
  have h1 := h.p1
  have hl := h.len
  have := h.mult 1 (by omega) (by omega)
  have e1 := h.mono (show 0 ≤ 1 by omega) (show 1 < n by omega)
  have e2 := h.mono (show 1 + p ≤ n - 1 by omega) (show n - 1 < n by omega)
  grind
theorem affF_eq {n : Nat} {k : Nat → Rat} {a b : Rat} {i : Nat} : affF n k a b i = a + (k i - k 0) * ((k (n - 1) - k 0)⁻¹ * (b - a)) := by
  unfold affF; rw [Rat.div_def]; grind
theorem Kn.affine {n p : Nat} {k : Nat → Rat} {a b : Rat} (h : Kn n p k) (hab : a < b) : Kn n p (affF n k a b) := by
  have he := h.ends
  have hp : 0 < (k (n - 1) - k 0)⁻¹ * (b - a) := Rat.mul_pos (Rat.inv_pos.2 (by grind)) (by grind)
  have key : ∀ i j, k i ≤ k j → affF n k a b i ≤ affF n k a b j := fun i j hij => by
    rw [affF_eq, affF_eq]
    have := Rat.mul_le_mul_of_nonneg_right (show k i - k 0 ≤ k j - k 0 by grind) (Rat.le_of_lt hp)
    grind
  have keyL : ∀ i j, k i < k j → affF n k a b i < affF n k a b j := fun i j hij => by
    rw [affF_eq, affF_eq]
    have := Rat.mul_lt_mul_of_pos_right (show k i - k 0 < k j - k 0 by grind) hp
    grind
  have keyE : ∀ i j, k i = k j → affF n k a b i = affF n k a b j := fun i j hij => by unfold affF; rw [hij]
  exact ⟨h.p1, h.len, fun i hi => key _ _ (h.sorted i hi), fun i hi => keyE _ _ (h.first i hi), fun i h2 h3 => keyE _ _ (h.last i h2 h3), fun i h2 h3 => keyL _ _ (h.mult i h2 h3)⟩
theorem mirF_twice {n : Nat} {k : Nat → Rat} {i : Nat} (hi : i < n) : mirF n (mirF n k) i = k i := by
  unfold mirF
  rw [show n - 1 - (n - 1 - i) = i by omega, show n - 1 - 0 = n - 1 by omega, show n - 1 - (n - 1) = 0 by omega]
  grind
theorem affF_back {n : Nat} {k : Nat → Rat} {a b : Rat} {i : Nat} (hk : k 0 < k (n - 1)) (hab : a < b) : affF n (affF n k a b) (k 0) (k (n - 1)) i = k i := by
  rw [affF_eq, affF_eq, affF_eq, affF_eq]
  have e1 := Rat.mul_inv_cancel (k (n - 1) - k 0) (by grind)
  have e2 := Rat.mul_inv_cancel (b - a) (by grind)
  have e3 : (k (n - 1) - k 0) * ((k (n - 1) - k 0)⁻¹ * (b - a)) = b - a := by rw [← Rat.mul_assoc, e1, Rat.one_mul]
  rw [show a + (k (n - 1) - k 0) * ((k (n - 1) - k 0)⁻¹ * (b - a)) - (a + (k 0 - k 0) * ((k (n - 1) - k 0)⁻¹ * (b - a))) = b - a by rw [e3]; grind]
  generalize (k (n - 1) - k 0)⁻¹ = u at *
  generalize (b - a)⁻¹ = v at *
  have : (k i - k 0) * (u * (b - a)) * (v * (k (n - 1) - k 0)) = (k i - k 0) * (((k (n - 1) - k 0) * u) * ((b - a) * v)) := by grind
  rw [e1, e2] at this
  grind
theorem pInv {p : Nat} (hp : 1 ≤ p) : ((p : Nat) : Rat) * (((1 : Int) : Rat) / ((p : Int) : Rat)) = 1 ∧ 0 < (((1 : Int) : Rat) / ((p : Int) : Rat)) := by
  have h0 : (0 : Rat) < ((p : Int) : Rat) := by exact_mod_cast (show 0 < p by omega)
  have e : ((p : Nat) : Rat) = ((p : Int) : Rat) := by norm_cast
  rw [e, Rat.div_def, show ((1 : Int) : Rat) = 1 from rfl, Rat.one_mul]
  exact ⟨Rat.mul_inv_cancel _ (by grind), Rat.inv_pos.2 h0⟩
theorem Kn.grev_up {n p : Nat} {k : Nat → Rat} (h : Kn n p k) {i : Nat} (hi : i + 1 < n - p - 1) : grev k p i ≤ grev k p (i + 1) := by
  have hl := h.len
  exact Rat.mul_le_mul_of_nonneg_right (kS_mono h.sorted (by omega)) (Rat.le_of_lt (pInv h.p1).2)
theorem Kn.grev_first {n p : Nat} {k : Nat → Rat} (h : Kn n p k) : grev k p 0 = k 0 := by
  unfold grev
  rw [kS_const (t := k 0) fun i hi => h.first _ (by omega)]
  have := (pInv h.p1).1
  generalize ((1 : Int) : Rat) / ((p : Int) : Rat) = u at *
  have e : ((p : Nat) : Rat) * k 0 * u = ((p : Nat) : Rat) * u * k 0 := by grind
  rw [e, this, Rat.one_mul]
theorem Kn.grev_last {n p : Nat} {k : Nat → Rat} (h : Kn n p k) : grev k p (n - p - 1 - 1) = k (n - 1) := by
  have hl := h.len
  unfold grev
  rw [kS_const (t := k (n - 1)) fun i hi => h.last _ (by omega) (by omega)]
  have := (pInv h.p1).1
  generalize ((1 : Int) : Rat) / ((p : Int) : Rat) = u at *
  have e : ((p : Nat) : Rat) * k (n - 1) * u = ((p : Nat) : Rat) * u * k (n - 1) := by grind
  rw [e, this, Rat.one_mul]
theorem tms_ins {k : Nat → Rat} {t : Rat} {q : Nat} : ∀ {n : Nat}, q ≤ n → tmsN (insK k t q) t (n + 1) = tmsN k t n + 1
  | n, hq => by
    have e1 : ∀ m, m ≤ q → tmsN (insK k t q) t m = tmsN k t m := by
      intro m
      induction m with
      | zero => intro _; rfl
      | succ m ih =>
        intro hm
        have : insK k t q m = k m := by unfold insK; rw [if_pos (by omega)]
        simp only [tmsN, ih (by omega), this]
    have e2 : ∀ m, tmsN (insK k t q) t (q + m + 1) = tmsN k t (q + m) + 1 := by
      intro m
      induction m with
      | zero =>
        have : insK k t q q = t := by unfold insK; rw [if_neg (by omega), if_pos rfl]
        simp only [Nat.add_zero]
        rw [tms_yes this, e1 q (Nat.le_refl _)]
      | succ m ih =>
        have : insK k t q (q + (m + 1)) = k (q + m) := by unfold insK; rw [if_neg (by omega), if_neg (by omega)]; congr 1
        rw [show q + (m + 1) + 1 = q + m + 1 + 1 by omega]
        by_cases hh : k (q + m) = t
        · rw [tms_yes (i := q + m + 1) (this.trans hh), ih, show q + (m + 1) = q + m + 1 by omega, tms_yes hh]
        · rw [tms_no (i := q + m + 1) (fun h => hh (this.symm.trans h)), ih, show q + (m + 1) = q + m + 1 by omega, tms_no hh]
    have := e2 (n - q)
    rwa [show q + (n - q) = n by omega] at this
def szV : AV → Nat
  | .rat _ n => n
  | _ => 0
def kLg : Kind ((Nat × (Nat → Rat)) × Nat) := ⟨fun v => match lsOf v with
  | some (n, f) => some (((n, fun i => ratV (f i)), szV (f 0)), [allRat f n (szV (f 0))])
  | none => none, fun a => lsA a.1.2 a.1.1 a.2, fun {v a q} h hq => by
    split at h
    · rename_i h1
      simp only [Option.some.injEq, Prod.mk.injEq] at h
      obtain ⟨rfl, rfl⟩ := h
      exact lsOf_ok h1 hq
    · simp at h⟩
def s_kAfG : Spec := spL (kC kLg (kC kR (kC kR kN))) (fun a => affRes a.1.1.1 a.1.1.2 a.2.1.1 a.2.2.1.1 (4 * a.1.2 + 3 * max a.2.1.2 a.2.2.1.2 + 4)) fun a => [1 ≤ a.1.1.1, a.1.1.1 < 2 ^ 40, a.1.2 < 2 ^ 30, a.2.1.2 < 2 ^ 30, a.2.2.1.2 < 2 ^ 30]
def s_kMiG : Spec := spL (kC kLg kN) (fun a => lsA (mirF a.1.1.1 a.1.1.2) a.1.1.1 (3 * a.1.2 + 2)) fun a => [a.1.1.1 < 2 ^ 40, a.1.2 < 2 ^ 30]
def s_kInG : Spec := spL (kC kLg (kC kR kN)) (fun a => lsA (insK a.1.1.2 a.2.1.1 (insP a.1.1.2 a.2.1.1 a.1.1.1)) (a.1.1.1 + 1) (max a.1.2 a.2.1.2 + 2)) fun a => [a.1.1.1 < 2 ^ 40, a.1.2 < 2 ^ 30, a.2.1.2 < 2 ^ 30]
theorem s_kAfG_ok : ∀ K args pre q, s_kAfG K args pre = some q → FOK P knots_Affine K args pre q := spL_ok fun ⟨⟨⟨n, k⟩, s⟩, ⟨a, r⟩, ⟨b, r'⟩, _⟩ K hn => by
  obtain ⟨h1, h2, h3, h4, h5⟩ := hn
  simp only at h1 h2 h3 h4
  have h5 : r' < 2 ^ 30 := h5
  exact fok_weak (kAf_ok (n := n) (k := k) (a := a) (b := b) (s := s) (r := max r r') (w := 4 * s + 3 * max r r' + 4) (Nat.le_refl _) (by omega) h1 h2 K) (args := [lsA k n s, .rat a r, .rat b r']) rfl ⟨.refl _, avLe0_rat_more (Nat.le_max_left _ _), avLe0_rat_more (Nat.le_max_right _ _), trivial⟩ []
theorem s_kMiG_ok : ∀ K args pre q, s_kMiG K args pre = some q → FOK P knots_Mirror K args pre q := spL_ok fun ⟨⟨⟨n, k⟩, s⟩, _⟩ K hn => by
  obtain ⟨h1, h2⟩ := hn
  have h2 : s < 2 ^ 30 := h2
  exact kMi_ok (w := 3 * s + 2) (Nat.le_refl _) (by omega) h1 K
theorem s_kInG_ok : ∀ K args pre q, s_kInG K args pre = some q → FOK P knots_Insert K args pre q := spL_ok fun ⟨⟨⟨n, k⟩, s⟩, ⟨t, r⟩, _⟩ K hn => by
  obtain ⟨h1, h2, h3⟩ := hn
  simp only at h1 h2
  have h3 : r < 2 ^ 30 := h3
  exact kIn_ok (s := s) (r := r) (w := max s r + 2) (by omega) (by omega) (by omega) h1 K
theorem partV_ok {d : Int} : 0 ≤ partV d ∧ partV d ≤ 1 := by
  unfold partV
  have h1 : 1 ≤ partM d := by
    unfold partM
    have := Int.emod_nonneg (IntKind.i64.wrap (d.tdiv 17)) (show (12 : Int) ≠ 0 by omega)
    omega
  generalize partM d = m at *
  have h2 := Int.emod_nonneg d (show m + 1 ≠ 0 by omega)
  have h3 := Int.emod_lt_of_pos d (show 0 < m + 1 by omega)
  generalize d % (m + 1) = x at *
  have e1 : (0 : Rat) ≤ (x : Rat) := by exact_mod_cast h2
  have e2 : (x : Rat) ≤ (m : Rat) := by exact_mod_cast (show x ≤ m by omega)
  have e3 : (0 : Rat) < (m : Rat) := by exact_mod_cast (show 0 < m by omega)
  have e4 : (x : Rat) / (m : Rat) * (m : Rat) = (x : Rat) := Rat.div_mul_cancel (by intro h; rw [h] at e3; exact absurd e3 (by decide))
  generalize (x : Rat) / (m : Rat) = q at *
  generalize (x : Rat) = u at *
  generalize (m : Rat) = v at *
  refine ⟨?_, ?_⟩
  · rcases Rat.le_total (a := 0) (b := q) with h | h
    · exact h
    · by_cases hq : q = 0
      · rw [hq]; exact Rat.le_refl
      · have := Rat.mul_pos (a := -q) (b := v) (by grind) e3
        grind
  · rcases Rat.le_total (a := q) (b := 1) with h | h
    · exact h
    · by_cases hq : q = 1
      · rw [hq]; exact Rat.le_refl
      · have := Rat.mul_pos (a := q - 1) (b := v) (by grind) e3
        grind
theorem within_ok {a b : Rat} {d : Int} (h : a ≤ b) : a ≤ a + partV d * (b - a) ∧ a + partV d * (b - a) ≤ b := by
  obtain ⟨h1, h2⟩ := partV_ok (d := d)
  generalize partV d = q at *
  have e1 := Rat.mul_nonneg h1 (show 0 ≤ b - a by grind)
  have e2 := Rat.mul_nonneg (show 0 ≤ 1 - q by grind) (show 0 ≤ b - a by grind)
  constructor <;> grind
theorem Kn.in_within {n p : Nat} {k : Nat → Rat} (h : Kn n p k) {d : Int} : ¬ ivOut n k (k 0 + partV d * (k (n - 1) - k 0)) := by
  have hl := h.len
  obtain ⟨h1, h2⟩ := within_ok (d := d) (h.mono (show 0 ≤ n - 1 by omega) (show n - 1 < n by omega))
  rintro (h3 | h3) <;> grind
theorem Kn.ivIs {n p : Nat} {k : Nat → Rat} (h : Kn n p k) {t : Rat} (hin : ¬ ivOut n k t) : IsIvl n k t (ivl n k t) := by
  have h1 : ¬ t < k 0 := fun h => hin (.inl h)
  have h2 : ¬ k (n - 1) < t := fun h => hin (.inr h)
  exact (h.ivl_ok (by grind) (by grind)).1
end Go.Am.B
