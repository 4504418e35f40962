/- ref02.Text of a few numbers; law09.awake. -/
import Derived.Test.YthnoegfjpmlndaaY45
set_option linter.unusedVariables false
namespace Go.Am.B
open Go Go.Am.N AV ATree AEx IntKind
theorem is_9awake : FnIs P law09_awake fn_law09_awake (codeOf fn_law09_awake) := fnIs get_law09_awake (by kernel_rfl) (by kernel_rfl) (by kernel_rfl)
def GBy : Contracts := [sG, (ref01_byLimb, s_fbyLimb)]
def tTx : Spec := pureSpec fun l => match l with
  | [.mag 1] => some (pres (.str [49]) [])
  | [.mag 2] => some (pres (.str [50]) [])
  | [.mag 3] => some (pres (.str [51]) [])
  | [.mag 4] => some (pres (.str [52]) [])
  | _ => none
def GTx : Contracts := [sG, (ref01_Text, tTx)]
def tTe : Spec := pureSpec fun l => match l with
  | [.rat q _] => match decide (q = 1 / 2), decide (q = 1 / 4), decide (q = 3 / 2) with
    | true, _, _ => some (pres (.str [49, 47, 50]) [])
    | false, true, _ => some (pres (.str [49, 47, 52]) [])
    | false, false, true => some (pres (.str [51, 47, 50]) [])
    | _, _, _ => none
  | _ => none
theorem tx_1 : funT T GBy [] 60 fn_ref01_Text (codeOf fn_ref01_Text) ⟨zipSlots 0 [.mag 1], [], 0⟩ =
    let c1 : Int := (↑(1 : Nat) : Int); some (must [nl 1 < 2 ^ 40, (0 : Int) < (1000000000 : Int), (1000000000 : Int) < (2 : Int) ^ 32] (must [(10 : Int) ≠ (0 : Int), (0 : Nat) < 1 ∧ 1 * ((1 : Nat) + 1) * 2 ≤ 2 ^ 47] (must [(10 : Int) ≠ (0 : Int)] (must [(0 : Int) ≤ c1 ∧ c1 ≤ c1 ∧ c1 ≤ (2 : Int) ^ 47 ∧ c1 * c1 ≤ (2 : Int) ^ 47] (leaf ret [str [UInt8.ofNat (u8.wrap (u32.wrap ((48 : Int) + (↑((1 : Nat) % Int.toNat (1000000000 : Int)) : Int).tmod (10 : Int)))).toNat]]))))) := by kernel_rfl
theorem tx_2 : funT T GBy [] 60 fn_ref01_Text (codeOf fn_ref01_Text) ⟨zipSlots 0 [.mag 2], [], 0⟩ =
    let c1 : Int := (↑(1 : Nat) : Int); some (must [nl 2 < 2 ^ 40, (0 : Int) < (1000000000 : Int), (1000000000 : Int) < (2 : Int) ^ 32] (must [(10 : Int) ≠ (0 : Int), (0 : Nat) < 1 ∧ 1 * ((1 : Nat) + 1) * 2 ≤ 2 ^ 47] (must [(10 : Int) ≠ (0 : Int)] (must [(0 : Int) ≤ c1 ∧ c1 ≤ c1 ∧ c1 ≤ (2 : Int) ^ 47 ∧ c1 * c1 ≤ (2 : Int) ^ 47] (leaf ret [str [UInt8.ofNat (u8.wrap (u32.wrap ((48 : Int) + (↑((2 : Nat) % Int.toNat (1000000000 : Int)) : Int).tmod (10 : Int)))).toNat]]))))) := by kernel_rfl
theorem tx_3 : funT T GBy [] 60 fn_ref01_Text (codeOf fn_ref01_Text) ⟨zipSlots 0 [.mag 3], [], 0⟩ =
    let c1 : Int := (↑(1 : Nat) : Int); some (must [nl 3 < 2 ^ 40, (0 : Int) < (1000000000 : Int), (1000000000 : Int) < (2 : Int) ^ 32] (must [(10 : Int) ≠ (0 : Int), (0 : Nat) < 1 ∧ 1 * ((1 : Nat) + 1) * 2 ≤ 2 ^ 47] (must [(10 : Int) ≠ (0 : Int)] (must [(0 : Int) ≤ c1 ∧ c1 ≤ c1 ∧ c1 ≤ (2 : Int) ^ 47 ∧ c1 * c1 ≤ (2 : Int) ^ 47] (leaf ret [str [UInt8.ofNat (u8.wrap (u32.wrap ((48 : Int) + (↑((3 : Nat) % Int.toNat (1000000000 : Int)) : Int).tmod (10 : Int)))).toNat]]))))) := by kernel_rfl
theorem tx_4 : funT T GBy [] 60 fn_ref01_Text (codeOf fn_ref01_Text) ⟨zipSlots 0 [.mag 4], [], 0⟩ =
    let c1 : Int := (↑(1 : Nat) : Int); some (must [nl 4 < 2 ^ 40, (0 : Int) < (1000000000 : Int), (1000000000 : Int) < (2 : Int) ^ 32] (must [(10 : Int) ≠ (0 : Int), (0 : Nat) < 1 ∧ 1 * ((1 : Nat) + 1) * 2 ≤ 2 ^ 47] (must [(10 : Int) ≠ (0 : Int)] (must [(0 : Int) ≤ c1 ∧ c1 ≤ c1 ∧ c1 ≤ (2 : Int) ^ 47 ∧ c1 * c1 ≤ (2 : Int) ^ 47] (leaf ret [str [UInt8.ofNat (u8.wrap (u32.wrap ((48 : Int) + (↑((4 : Nat) % Int.toNat (1000000000 : Int)) : Int).tmod (10 : Int)))).toNat]]))))) := by kernel_rfl
theorem te_12 : funT T GTx [] 60 fn_ref02_Text (codeOf fn_ref02_Text) ⟨zipSlots 0 [.agg [.bool false, .mag 1, .mag 2]], [], 0⟩ =
    some (leaf ret [str [(49 : UInt8), (47 : UInt8), (50 : UInt8)]]) := by kernel_rfl
theorem te_14 : funT T GTx [] 60 fn_ref02_Text (codeOf fn_ref02_Text) ⟨zipSlots 0 [.agg [.bool false, .mag 1, .mag 4]], [], 0⟩ =
    some (leaf ret [str [(49 : UInt8), (47 : UInt8), (52 : UInt8)]]) := by kernel_rfl
theorem te_32 : funT T GTx [] 60 fn_ref02_Text (codeOf fn_ref02_Text) ⟨zipSlots 0 [.agg [.bool false, .mag 3, .mag 2]], [], 0⟩ =
    some (leaf ret [str [(51 : UInt8), (47 : UInt8), (50 : UInt8)]]) := by kernel_rfl
theorem GBy_ok : GOK P GBy := gok_strict (gok_cons s_fbyLimb_ok gok_nil)
theorem tTx_ok : ∀ K args pre r, tTx K args pre = some r → FOK P ref01_Text K args pre r := by
  refine pureSpec_ok fun K args r hk hs _ => ?_
  have fin : ∀ {N : Nat} {t : ATree (List AV)} {l : List UInt8}, funT T GBy [] 60 fn_ref01_Text (codeOf fn_ref01_Text) ⟨zipSlots 0 [.mag N], [], 0⟩ = some t → (t.all fun _ us => resOK us (.str l)) → FOK P ref01_Text K [.mag N] [] (pres (.str l) []) := fun h1 h2 =>
    fok_tree (r := pres _ []) hT GBy_ok hm is_fText rfl (of_decide_eq_true (by kernel_rfl)) rfl 60 h1 (fun _ => h2) K []
  split at hs <;> simp only [Option.some.injEq, reduceCtorEq] at hs
  all_goals subst hs
  · exact fin tx_1 (by simp only [ATree.all, allP]; exact ⟨by decide, by decide, by decide, by decide, .refl _⟩)
  · exact fin tx_2 (by simp only [ATree.all, allP]; exact ⟨by decide, by decide, by decide, by decide, .refl _⟩)
  · exact fin tx_3 (by simp only [ATree.all, allP]; exact ⟨by decide, by decide, by decide, by decide, .refl _⟩)
  · exact fin tx_4 (by simp only [ATree.all, allP]; exact ⟨by decide, by decide, by decide, by decide, .refl _⟩)
theorem GTx_ok : GOK P GTx := gok_strict (gok_cons tTx_ok gok_nil)
theorem tTe_ok : ∀ K args pre r, tTe K args pre = some r → FOK P ref02_Text K args pre r := by
  refine pureSpec_ok fun K args r hk hs _ => ?_
  have fin : ∀ {q : Rat} {n a b : Nat} {t : ATree (List AV)} {l : List UInt8}, kids (.rat q n) = [.bool false, .mag a, .mag b] → funT T GTx [] 60 fn_ref02_Text (codeOf fn_ref02_Text) ⟨zipSlots 0 [.agg [.bool false, .mag a, .mag b]], [], 0⟩ = some t → (t.all fun _ us => resOK us (.str l)) → FOK P ref02_Text K [.rat q n] [] (pres (.str l) []) := fun h0 h1 h2 =>
    fok_weak (fok_tree (r := pres _ []) hT GTx_ok hm is_eText rfl (of_decide_eq_true (by kernel_rfl)) rfl 60 h1 (fun _ => h2) K []) rfl (show avLes0 [_] [_] from ⟨by rw [← h0]; exact avLe0_rat_agg, trivial⟩) []
  split at hs
  · rename_i q n
    split at hs
    all_goals simp only [Option.some.injEq, reduceCtorEq] at hs
    all_goals subst hs
    · obtain rfl : q = 1 / 2 := of_decide_eq_true ‹_›
      exact fin (by kernel_rfl) te_12 (.refl _)
    · obtain rfl : q = 1 / 4 := of_decide_eq_true ‹decide (q = 1 / 4) = true›
      exact fin (by kernel_rfl) te_14 (.refl _)
    · obtain rfl : q = 3 / 2 := of_decide_eq_true ‹decide (q = 3 / 2) = true›
      exact fin (by kernel_rfl) te_32 (.refl _)
  · simp at hs
def G9w : Contracts := sG :: (basis_Values, s_bVa) :: (basis_Blossom, s_bBl) :: (ref02_Text, tTe) :: (ref02_Frac, s_eFrac) :: tRef
theorem aw9_end : funT T G9w [] 60 fn_law09_awake (codeOf fn_law09_awake) ⟨zipSlots 0 [], [], 0⟩ =
    let c8 : Nat := 2 ^ 40; let c5 : AV := rat 0 1; let c4 : Int := (2 : Int) ^ 63; let c3 : AV := rat (↑(1 : Int) : Rat) (Max.max 1 (bitsN (Int.natAbs (1 : Int)))); let c2 : AV := agg [AV.bool (decide ((0 : Rat) < 0)), mag (↑(nat_lit 0) : Int).natAbs, mag (if 1 = 1 then 0 else 1)]; let c1 : List AV := [c2, c2, c2, c3, c3, c3]; let c7 : Prop := allRat (fun i ↦ nth c1 c5 (i + 0)) 6 sK; let c6 : Prop := Kn 6 (Int.toNat (2 : Int)) fun i ↦ ratV (nth c1 c5 (i + 0)); some (must [-c4 ≤ (1 : Int), (1 : Int) < c4, -c4 ≤ (2 : Int), (2 : Int) < c4, c7, (64 : Nat) ≤ sK, c6, (0 : Int) ≤ (2 : Int), (2 : Int) ≤ (6 : Int), (6 : Nat) < c8] (must [-c4 ≤ (1 : Int), (1 : Int) < c4, -c4 ≤ (2 : Int), (2 : Int) < c4, c7, allRat (fun i ↦ nth [c2, c2, c3] c5 (i + 0)) 3 sK, allRat (fun i ↦ nth [rat ((↑(1 : Int) : Rat) / (↑(2 : Int) : Rat)) 64, c3] c5 (i + 0)) 2 sK, c6, (0 : Int) ≤ (2 : Int), (2 : Int) ≤ (6 : Int), (6 : Nat) < c8, (3 : Nat) < c8, -(2 : Int) ^ 40 < (2 : Int), (2 : Int) < (2 : Int) ^ 40] (leaf ret [AV.bool true]))) := by kernel_rfl
theorem G9w_ok : GOK P G9w := gok_strict (gok_cons s_bVa_ok (gok_cons s_bBl_ok (gok_cons tTe_ok (gok_cons s_eFrac_ok tRef_ok))))
theorem Kn.congr {n p : Nat} {k k' : Nat → Rat} (h : Kn n p k) (e : ∀ i, i < n → k i = k' i) : Kn n p k' := by
  have hp := h.p1
  have hl := h.len
  refine ⟨h.p1, h.len, fun i hi => ?_, fun i hi => ?_, fun i h1 h2 => ?_, fun i h1 h2 => ?_⟩
  · rw [← e i (by omega), ← e (i + 1) hi]; exact h.sorted i hi
  · rw [← e i (by omega), ← e 0 (by omega)]; exact h.first i hi
  · rw [← e i h2, ← e (n - 1) (by omega)]; exact h.last i h1 h2
  · rw [← e i (by omega), ← e (i + p) (by omega)]; exact h.mult i h1 h2
theorem kn622 {f : Nat → Rat} (h : ∀ i, i < 6 → f i = endK 2 0 (fun _ => ((0 : Int) : Rat)) ((0 : Int) : Rat) i) : Kn 6 2 f :=
  ((KG.start (p := 2) (by omega) (z := 0) (by omega) (by omega)).done : Kn (2 * 2 + 2 + 0) 2 _).congr fun i hi => (h i hi).symm
theorem aw9_ok (K : Nat) : FOK P law09_awake K [] [] (pres (.bool true) []) := by
  refine fok_tree (r := pres (.bool true) []) hT G9w_ok hm is_9awake rfl (of_decide_eq_true (by kernel_rfl)) rfl 60 aw9_end (fun _ => ?_) K []
  simp only [ATree.all, allP]
  (repeat' with_reducible first | refine And.intro ?_ ?_)
  all_goals first | omega | decide | skip
  · intro i hi
    match i, hi with
    | 0, _ | 1, _ | 2, _ => exact avLe0_zero (k := 1048575)
    | 3, _ | 4, _ | 5, _ => exact avLe0_rat_more (by decide)
  · refine kn622 fun i hi => ?_
    match i, hi with
    | 0, _ | 1, _ | 2, _ | 3, _ | 4, _ | 5, _ => decide +kernel
  · intro i hi
    match i, hi with
    | 0, _ | 1, _ | 2, _ => exact avLe0_zero (k := 1048575)
    | 3, _ | 4, _ | 5, _ => exact avLe0_rat_more (by decide)
  · intro i hi
    match i, hi with
    | 0, _ | 1, _ => exact avLe0_zero (k := 1048575)
    | 2, _ => exact avLe0_rat_more (by decide)
  · intro i hi
    match i, hi with
    | 0, _ | 1, _ => exact avLe0_rat_more (by decide)
  · refine kn622 fun i hi => ?_
    match i, hi with
    | 0, _ | 1, _ | 2, _ | 3, _ | 4, _ | 5, _ => decide +kernel
  · exact .refl _
def s_aw9 : Spec := pureSpec fun l => match l with
  | [] => some (pres (.bool true) [])
  | _ => none
theorem s_aw9_ok : ∀ K args pre r, s_aw9 K args pre = some r → FOK P law09_awake K args pre r := by
  refine pureSpec_ok fun K args r hk hs _ => ?_
  split at hs
  · simp only [Option.some.injEq] at hs
    subst hs
    exact aw9_ok K
  · simp at hs
end Go.Am.B
