/- law08: made, awake; rational.Make. -/
import Derived.Test.YtnocdkaonpdmjaaY48
set_option linter.unusedVariables false
namespace Go.Am.B
open Go Go.Am.N AV ATree AEx IntKind
theorem is_rMake : FnIs P rational_Make fn_rational_Make (codeOf fn_rational_Make) := fnIs get_rational_Make (by kernel_rfl) (by kernel_rfl) (by kernel_rfl)
theorem is_8made : FnIs P law08_made fn_law08_made (codeOf fn_law08_made) := fnIs get_law08_made (by kernel_rfl) (by kernel_rfl) (by kernel_rfl)
theorem is_8awake : FnIs P law08_awake fn_law08_awake (codeOf fn_law08_awake) := fnIs get_law08_awake (by kernel_rfl) (by kernel_rfl) (by kernel_rfl)
theorem is_kGr : FnIs P knots_Greville fn_knots_Greville (codeOf fn_knots_Greville) := fnIs get_knots_Greville (by kernel_rfl) (by kernel_rfl) (by kernel_rfl)
abbrev zz (z : Nat → Int) : Nat → AV := fun i => .int .i64 (z i)
def GMd8 : Contracts := nG :: (made_Roll, s_mRoll) :: (made_Dice_Next, diceSpec g_next) :: (made_Dice_Knots, diceSpec g_knots) :: []
theorem rMake_end {x y : Int} : funT T GA [7] 60 fn_rational_Make (codeOf fn_rational_Make) ⟨zipSlots 0 [.int .i64 x, .int .i64 y], [], 0⟩ =
    let c3 : List Prop := [(0 : Nat) < 1]; let c2 : Int := (2 : Int) ^ 63; let c1 : Rat := sQ (decide (x < (0 : Int)) != decide (y < (0 : Int))) x.natAbs y.natAbs; some (fork (y == (0 : Int)) (must c3 (must c3 (leaf ret [agg [AV.bool false, mag 0, mag 0], int i64 (3 : Int)]))) (must ((-c2 ≤ x) :: (x < c2) :: (-c2 ≤ y) :: (y < c2) :: (nl x.natAbs < 2 ^ 40) :: (nl y.natAbs < 2 ^ 40) :: c3) (must c3 (leaf ret [rat c1 (rsz c1), int i64 (0 : Int)])))) := by kernel_rfl
theorem md8_end {n : Nat} {z : Nat → Int} : funT T GMd8 [] 60 fn_law08_made (codeOf fn_law08_made) ⟨zipSlots 0 [.tab 1 n (zz z)], [], 0⟩ =
    let c2 : Int := nextA n (0 : Int); let c1 : Int := (1 : Int) + nextV n (zz z) (0 : Int) (5 : Int); some (must [DiceOK n (zz z) (0 : Int), (0 : Int) < (5 : Int), (5 : Int) < (2 : Int) ^ 62, -(2 : Int) ^ 63 ≤ c1 ∧ c1 < (2 : Int) ^ 63] (must [DiceOK n (zz z) c2, (1 : Int) ≤ c1, c1 < (1000 : Int), (0 : Int) ≤ (6 : Int), (6 : Int) < (1000 : Int)] (leaf ret [tab 3 (knN n (zz z) c2 c1.toNat (Int.toNat (6 : Int))) fun i ↦ rat (knK n (zz z) c2 c1.toNat (Int.toNat (6 : Int)) i) 64, int i64 c1]))) := by kernel_rfl
theorem rMake_ok {x y : Int} (h1 : -2 ^ 63 ≤ x) (h2 : x < 2 ^ 63) (h3 : -2 ^ 63 ≤ y) (h4 : y < 2 ^ 63) (K : Nat) : FOK P rational_Make K [.int .i64 x, .int .i64 y] [] (pres (.tuple [.rat ((x : Rat) / (y : Rat)) 64, .int .i64 (if y = 0 then 3 else 0)]) []) := by
  refine fok_tree hT GA_ok hm is_rMake rfl (of_decide_eq_true (by kernel_rfl)) rfl 60 rMake_end (fun _ => ?_) K []
  simp only [ATree.all, allP, beq_iff_eq, beq_eq_false_iff_ne, ne_eq]
  refine ⟨fun hb => ⟨by omega, by omega, ?_, avLe0_int (by rw [if_pos hb]), trivial⟩, fun hb => ⟨⟨h1, h2, h3, h4, nl_lt_of (n := 64) (by omega) (by omega), nl_lt_of (n := 64) (by omega) (by omega), by omega⟩, by omega, avLe0_rat_eq (rat_div_int hb) (Sz_frac h1 h2 h3 h4 hb), avLe0_int (by rw [if_neg hb]), trivial⟩⟩
  rw [hb, show ((x : Rat) / ((0 : Int) : Rat)) = 0 by rw [Rat.intCast_zero, Rat.div_def, Rat.inv_zero, Rat.mul_zero]]
  exact avLe0_zero
def tMake : Spec := pureSpec fun l => match l with
  | [.int .i64 x, .int .i64 y] => match decide (-2 ^ 63 ≤ x ∧ x < 2 ^ 63 ∧ -2 ^ 63 ≤ y ∧ y < 2 ^ 63) with
    | true => some (pres (.tuple [.rat ((x : Rat) / (y : Rat)) 64, .int .i64 (if y = 0 then 3 else 0)]) [])
    | false => none
  | _ => none
noncomputable def gGrev : Contracts := [(knots_Greville, aSpec T (sG :: (rational_Make, tMake) :: (knots_Poles, aSpec T [sG] [] 20 fn_knots_Poles) :: tRat) [] 200 fn_knots_Greville)]
noncomputable def G8w : Contracts := sG :: (knots_Check, s_chk) :: (knots_Poles, aSpec T [sG] [] 20 fn_knots_Poles) :: (ref02_Text, tTe) :: (gGrev ++ tRef)
theorem aw8_end : funT T G8w [100021] 200 fn_law08_awake (codeOf fn_law08_awake) ⟨zipSlots 0 [], [], 0⟩ =
    let c30 : Int := i64.wrap ((0 : Int) + (1 : Int)); let c29 : Int := i64.wrap ((0 : Int) - (2 : Int)); let c19 : Nat := 2 ^ 47; let c18 : Nat := 56 + 1; let c16 : AV := rat 0 1; let c15 : Nat := 1 + 1; let c44 : Int := i64.wrap (c30 + (1 : Int)); let c43 : Prop := c15 * c18 * 2 ≤ c19; let c31 : Prop := 0 < 1 ∧ 1 * c18 * 2 ≤ c19; let c27 : Nat := c15 + 1; let c7 : Int := if (2 : Int) < c29 then (2 : Int) else c29; let c4 : Int := i64.wrap (c30 - (2 : Int)); let c42 : Prop := c27 * c18 * 2 ≤ c19; let c39 : Int := if (0 : Int) < c7 then c7 else (0 : Int); let c13 : Int := if (2 : Int) < c4 then (2 : Int) else c4; let c8 : Nat := c27 + 1; let c3 : Int := i64.wrap (c44 - (2 : Int)); let c1 : Int := i64.wrap (c44 + (1 : Int)); let c46 : Int := i64.wrap (c1 + (1 : Int)); let c45 : Prop := c8 * c18 * 2 ≤ c19; let c34 : Int := if (0 : Int) < c13 then c13 else (0 : Int); let c32 : Int := i64.wrap (c1 - (2 : Int)); let c28 : Nat := c8 + 1; let c26 : AV := rat (↑c39 : Rat) (Max.max 1 (bitsN c39.natAbs)); let c11 : Int := if (2 : Int) < c3 then (2 : Int) else c3; let c38 : Int := if (0 : Int) < c11 then c11 else (0 : Int); let c23 : AV := rat (↑c34 : Rat) (Max.max 1 (bitsN c34.natAbs)); let c17 : Nat := c28 + 1; let c9 : Int := if (2 : Int) < c32 then (2 : Int) else c32; let c6 : Int := i64.wrap (c46 - (2 : Int)); let c2 : Int := i64.wrap (c46 + (1 : Int)); let c41 : Nat := c17 + 1; let c40 : Int := if (0 : Int) < c9 then c9 else (0 : Int); let c33 : Int := i64.wrap (c2 - (2 : Int)); let c21 : AV := rat (↑c38 : Rat) (Max.max 1 (bitsN c38.natAbs)); let c12 : Int := if (2 : Int) < c6 then (2 : Int) else c6; let c5 : Int := i64.wrap (i64.wrap (c2 + (1 : Int)) - (2 : Int)); let c36 : Int := if (0 : Int) < c12 then c12 else (0 : Int); let c25 : AV := rat (↑c40 : Rat) (Max.max 1 (bitsN c40.natAbs)); let c14 : Int := if (2 : Int) < c5 then (2 : Int) else c5; let c10 : Int := if (2 : Int) < c33 then (2 : Int) else c33; let c37 : Int := if (0 : Int) < c10 then c10 else (0 : Int); let c35 : Int := if (0 : Int) < c14 then c14 else (0 : Int); let c22 : AV := rat (↑c36 : Rat) (Max.max 1 (bitsN c36.natAbs)); let c24 : AV := rat (↑c37 : Rat) (Max.max 1 (bitsN c37.natAbs)); let c20 : AV := rat (↑c35 : Rat) (Max.max 1 (bitsN c35.natAbs)); some (must [c31] (must [c43] (must [c42] (must [c45] (must [c28 * c18 * 2 ≤ c19] (must [c17 * c18 * 2 ≤ c19] (must [c41 * c18 * 2 ≤ c19] (must [c31, c43, c42, c45] (must [allRat (fun i ↦ if i + 0 < c17 then if i + 0 < c28 then if i + 0 < c8 then if i + 0 < c27 then if i + 0 < c15 then if i + 0 < 1 then nth [c26] c16 (i + 0 + 0) else nth [c23] c16 (i + 0 - 1 + 0) else nth [c21] c16 (i + 0 - c15 + 0) else nth [c25] c16 (i + 0 - c27 + 0) else nth [c22] c16 (i + 0 - c8 + 0) else nth [c24] c16 (i + 0 - c28 + 0) else nth [c20] c16 (i + 0 - c17 + 0)) c41 sJ, c41 < 2 ^ 40, (chkE c41 (fun i ↦ ratV (if i + 0 < c17 then if i + 0 < c28 then if i + 0 < c8 then if i + 0 < c27 then if i + 0 < c15 then if i + 0 < 1 then nth [c26] c16 (i + 0 + 0) else nth [c23] c16 (i + 0 - 1 + 0) else nth [c21] c16 (i + 0 - c15 + 0) else nth [c25] c16 (i + 0 - c27 + 0) else nth [c22] c16 (i + 0 - c8 + 0) else nth [c24] c16 (i + 0 - c28 + 0) else nth [c20] c16 (i + 0 - c17 + 0))) (2 : Int) == (0 : Int)) = true] (leaf ret [AV.bool true])))))))))) := by kernel_rfl
theorem tMake_ok : ∀ K args pre r, tMake K args pre = some r → FOK P rational_Make K args pre r := by
  refine pureSpec_ok fun K args r hk hs _ => ?_
  split at hs
  · split at hs
    · rename_i hc
      simp only [Option.some.injEq] at hs
      subst hs
      have := of_decide_eq_true hc
      exact rMake_ok this.1 this.2.1 this.2.2.1 this.2.2.2 K
    · simp at hs
  · simp at hs
theorem gGrev_ok : GOK P gGrev := gok_cons (aSpec_ok hT (gok_strict (gok_cons tMake_ok (gok_cons (aSpec_ok hT (gok_strict gok_nil) hm (fnIs get_knots_Poles (by kernel_rfl) (by kernel_rfl) (by kernel_rfl)) _ _) tRat_ok))) hm is_kGr _ _) gok_nil
def m8P (n : Nat) (f : Nat → AV) : Nat := (1 + nextV n f 0 5).toNat
def m8N (n : Nat) (f : Nat → AV) : Nat := knN n f (nextA n 0) (m8P n f) 6
def m8K (n : Nat) (f : Nat → AV) : Nat → Rat := knK n f (nextA n 0) (m8P n f) 6
theorem m8P_ok {n : Nat} {f : Nat → AV} : 1 ≤ m8P n f ∧ m8P n f ≤ 5 ∧ (m8P n f : Int) = 1 + nextV n f 0 5 := by
  have h1 := nextV_lo (n := n) (f := f) (a := 0) (m := 5) (by omega)
  have h2 := nextV_hi (n := n) (f := f) (a := 0) (m := 5) (by omega)
  unfold m8P; omega
theorem m8_ok {n : Nat} {f : Nat → AV} (h : DiceOK n f 0) : Kn (m8N n f) (m8P n f) (m8K n f) ∧ m8N n f ≤ 2 * m8P n f + 8 := by
  have h1 := kn_ok (p := m8P n f) (m := 6) h.next m8P_ok.1
  exact ⟨h1.1, Nat.le_trans h1.2.2 (by omega)⟩
def s_8md : Spec := pureSpec fun l => match l with
  | [.tab 1 n f] => some (pres (.tuple [lsA (m8K n f) (m8N n f) 64, .int .i64 (m8P n f)]) [DiceOK n f 0])
  | _ => none
theorem GMd8_ok : GOK P GMd8 := gok_plain (gok_cons s_mRoll_ok (gok_cons s_mNext_ok (gok_cons s_mKnots_ok gok_nil)))
theorem s_8md_ok : ∀ K args pre r, s_8md K args pre = some r → FOK P law08_made K args pre r := by
  refine pureSpec_ok fun K args r hk hs _ => ?_
  split at hs
  · rename_i n f
    simp only [Option.some.injEq] at hs
    subst hs
    intro need
    have hd : DiceOK n f 0 := need
    obtain ⟨z, rfl⟩ : ∃ z : Nat → Int, f = fun i => .int .i64 (z i) := ⟨fun i => intOf (f i), funext fun i => hd.ints i⟩
    have hd : DiceOK n (zz z) 0 := need
    have hp := m8P_ok (n := n) (f := zz z)
    refine (fok_tree (r := pres (.tuple [lsA (m8K n (zz z)) (m8N n (zz z)) 64, .int .i64 (m8P n (zz z))]) []) hT GMd8_ok hm is_8made rfl (of_decide_eq_true (by kernel_rfl)) rfl 60 md8_end (fun _ => ?_) K [] : FOK P law08_made K _ [] _) trivial
    simp only [ATree.all, allP, ← hp.2.2, Int.toNat_natCast]
    exact ⟨⟨hd, by omega, by omega, by omega⟩, ⟨hd.next, by omega, by omega, by omega, by omega⟩, .refl _, .refl _, trivial⟩
  · simp at hs
theorem kn7 : Kn 7 2 (endK 2 1 (setK (fun _ => ((0 : Int) : Rat)) 3 1) 1) :=
  ((KG.start (p := 2) (by omega) (z := 0) (by omega) (by omega)).next (t' := 1) (.inl ⟨by decide +kernel, 2, by decide +kernel, by omega⟩)).done
theorem G8w_ok : GOK P G8w := gok_strict (gok_cons s_kCh_ok (gok_cons (aSpec_ok hT (gok_strict gok_nil) hm (fnIs get_knots_Poles (by kernel_rfl) (by kernel_rfl) (by kernel_rfl)) _ _) (gok_cons tTe_ok (gok_app gGrev_ok tRef_ok))))
theorem aw8_ok (K : Nat) : FOK P law08_awake K [] [] (pres (.bool true) []) := by
  refine fok_tree (r := pres (.bool true) []) hT G8w_ok hm is_8awake rfl (of_decide_eq_true (by kernel_rfl)) rfl 200 aw8_end (fun _ => ?_) K []
  simp only [ATree.all, allP]
  (repeat' with_reducible first | refine And.intro ?_ ?_)
  all_goals first | omega | decide | skip
  · intro i hi
    match i, hi with
    | 0, _ | 1, _ | 2, _ | 3, _ | 4, _ | 5, _ | 6, _ => exact avLe0_rat_more (by decide)
  · refine beq_iff_eq.2 (Kn.chk (n := 7) (p := 2) (kn7.congr fun i hi => ?_) (by omega) (by omega))
    match i, hi with
    | 0, _ | 1, _ | 2, _ | 3, _ | 4, _ | 5, _ | 6, _ => decide +kernel
  · exact .refl _
def s_aw8 : Spec := pureSpec fun l => match l with
  | [] => some (pres (.bool true) [])
  | _ => none
theorem s_aw8_ok : ∀ K args pre r, s_aw8 K args pre = some r → FOK P law08_awake K args pre r := by
  refine pureSpec_ok fun K args r hk hs _ => ?_
  split at hs
  · simp only [Option.some.injEq] at hs
    subst hs
    exact aw8_ok K
  · simp at hs
end Go.Am.B
