/- brepkernelmade: number, Point, Map, Light, Roll. -/
import Derived.Test.YtbghpkgbokbmlaaGreatB32
set_option linter.unusedVariables false
namespace Go.Am.B
open Go Go.Am.N AV
theorem is_mnumber : FnIs P made_Dice_number fn_made_Dice_number (codeOf fn_made_Dice_number) := fnIs get_made_Dice_number (by kernel_rfl) (by kernel_rfl) (by kernel_rfl)
theorem is_mPoint : FnIs P made_Dice_Point fn_made_Dice_Point (codeOf fn_made_Dice_Point) := fnIs get_made_Dice_Point (by kernel_rfl) (by kernel_rfl) (by kernel_rfl)
def GN : Contracts := [(made_Dice_Next, diceSpec g_next), (ref02_Frac, s_eFrac), (ref02_Int, s_eInt)]
def numV (n : Nat) (f : Nat → AV) (a : Int) : Rat := if nextV n f (nextA n a) 4 = 3 then ((nextV n f a 13 - 6 : Int) : Rat) / ((1 + nextV n f (nextA n (nextA n a)) 4 : Int) : Rat) else ((nextV n f a 13 - 6 : Int) : Rat)
def numA (n : Nat) (f : Nat → AV) (a : Int) : Int := if nextV n f (nextA n a) 4 = 3 then nextA n (nextA n (nextA n a)) else nextA n (nextA n a)
def g_number (n : Nat) (f : Nat → AV) (a : Int) (l : List AV) : Option (AV × Int × List Prop) := match l with
  | [] => some (.rat (numV n f a) 64, numA n f a, [])
  | _ => none
def GP : Contracts := [(made_Dice_number, diceSpec g_number)]
def ptA (n : Nat) (f : Nat → AV) (a : Int) : Int := numA n f (numA n f (numA n f a))
def g_point (n : Nat) (f : Nat → AV) (a : Int) (l : List AV) : Option (AV × Int × List Prop) := match l with
  | [] => some (.agg [.rat (numV n f a) 64, .rat (numV n f (numA n f a)) 64, .rat (numV n f (numA n f (numA n f a))) 64], ptA n f a, [])
  | _ => none
theorem GN_ok : GOK P GN := gok_cons s_mNext_ok (gok_cons s_eFrac_ok (gok_cons s_eInt_ok gok_nil))
theorem mnumber_end {n : Nat} {z : Nat → Int} {a : Int} : funO T GN [8] 60 fn_made_Dice_number (codeOf fn_made_Dice_number) ⟨zipSlots 0 [.ptr 0 0 2 0 []], [(0, diceO n (fun i => .int .i64 (z i)) a)], 1⟩ =
    some (ATree.must [DiceOK n (fun (i : Nat) ↦ int IntKind.i64 (z i)) a, (0 : Int) < (13 : Int), (13 : Int) < (2 : Int) ^ 62] (ATree.must [DiceOK n (fun (i : Nat) ↦ int IntKind.i64 (z i)) (nextA n a), (0 : Int) < (4 : Int), (4 : Int) < (2 : Int) ^ 62] (ATree.fork (nextV n (fun (i : Nat) ↦ int IntKind.i64 (z i)) (nextA n a) (4 : Int) == (3 : Int)) (ATree.must [DiceOK n (fun (i : Nat) ↦ int IntKind.i64 (z i)) (nextA n (nextA n a)), (0 : Int) < (4 : Int), (4 : Int) < (2 : Int) ^ 62, -(2 : Int) ^ 63 ≤ IntKind.i64.wrap (nextV n (fun (i : Nat) ↦ int IntKind.i64 (z i)) a (13 : Int) - (6 : Int)), IntKind.i64.wrap (nextV n (fun (i : Nat) ↦ int IntKind.i64 (z i)) a (13 : Int) - (6 : Int)) < (2 : Int) ^ 63, -(2 : Int) ^ 63 ≤ IntKind.i64.wrap ((1 : Int) + nextV n (fun (i : Nat) ↦ int IntKind.i64 (z i)) (nextA n (nextA n a)) (4 : Int)), IntKind.i64.wrap ((1 : Int) + nextV n (fun (i : Nat) ↦ int IntKind.i64 (z i)) (nextA n (nextA n a)) (4 : Int)) < (2 : Int) ^ 63, (0 : Nat) < 1] (ATree.must [(0 : Nat) < 1] (ATree.leaf AEx.ret ([rat ((↑(IntKind.i64.wrap (nextV n (fun (i : Nat) ↦ int IntKind.i64 (z i)) a (13 : Int) - (6 : Int))) : Rat) / (↑(IntKind.i64.wrap ((1 : Int) + nextV n (fun (i : Nat) ↦ int IntKind.i64 (z i)) (nextA n (nextA n a)) (4 : Int))) : Rat)) 64], some { row := false, wr := true, es := 2, len := 1, f := fun (x : Nat) ↦ agg [tab 1 n fun (i : Nat) ↦ int IntKind.i64 (z i), int IntKind.i64 (nextA n (nextA n (nextA n a)))] })))) (ATree.must [-(2 : Int) ^ 63 ≤ IntKind.i64.wrap (nextV n (fun (i : Nat) ↦ int IntKind.i64 (z i)) a (13 : Int) - (6 : Int)), IntKind.i64.wrap (nextV n (fun (i : Nat) ↦ int IntKind.i64 (z i)) a (13 : Int) - (6 : Int)) < (2 : Int) ^ 63, (0 : Nat) < 1] (ATree.must [(0 : Nat) < 1] (ATree.leaf AEx.ret ([rat (↑(IntKind.i64.wrap (nextV n (fun (i : Nat) ↦ int IntKind.i64 (z i)) a (13 : Int) - (6 : Int))) : Rat) (max 1 (bitsN (IntKind.i64.wrap (nextV n (fun (i : Nat) ↦ int IntKind.i64 (z i)) a (13 : Int) - (6 : Int))).natAbs))], some { row := false, wr := true, es := 2, len := 1, f := fun (x : Nat) ↦ agg [tab 1 n fun (i : Nat) ↦ int IntKind.i64 (z i), int IntKind.i64 (nextA n (nextA n a))] }))))))) := by kernel_rfl
theorem mPoint_end {n : Nat} {z : Nat → Int} {a : Int} : funO T GP [] 60 fn_made_Dice_Point (codeOf fn_made_Dice_Point) ⟨zipSlots 0 [.ptr 0 0 2 0 []], [(0, diceO n (fun i => .int .i64 (z i)) a)], 1⟩ =
    some (ATree.must [DiceOK n (fun (i : Nat) ↦ int IntKind.i64 (z i)) a, DiceOK n (fun (i : Nat) ↦ int IntKind.i64 (z i)) (numA n (fun (i : Nat) ↦ int IntKind.i64 (z i)) a), DiceOK n (fun (i : Nat) ↦ int IntKind.i64 (z i)) (numA n (fun (i : Nat) ↦ int IntKind.i64 (z i)) (numA n (fun (i : Nat) ↦ int IntKind.i64 (z i)) a)), (0 : Nat) < 1] (ATree.must [(0 : Nat) < 1] (ATree.leaf AEx.ret ([agg [rat (numV n (fun (i : Nat) ↦ int IntKind.i64 (z i)) a) 64, rat (numV n (fun (i : Nat) ↦ int IntKind.i64 (z i)) (numA n (fun (i : Nat) ↦ int IntKind.i64 (z i)) a)) 64, rat (numV n (fun (i : Nat) ↦ int IntKind.i64 (z i)) (numA n (fun (i : Nat) ↦ int IntKind.i64 (z i)) (numA n (fun (i : Nat) ↦ int IntKind.i64 (z i)) a))) 64]], some { row := false, wr := true, es := 2, len := 1, f := fun (x : Nat) ↦ agg [tab 1 n fun (i : Nat) ↦ int IntKind.i64 (z i), int IntKind.i64 (numA n (fun (i : Nat) ↦ int IntKind.i64 (z i)) (numA n (fun (i : Nat) ↦ int IntKind.i64 (z i)) (numA n (fun (i : Nat) ↦ int IntKind.i64 (z i)) a)))] })))) := by kernel_rfl
theorem DiceOK.number {n : Nat} {f : Nat → AV} {a : Int} (h : DiceOK n f a) : DiceOK n f (numA n f a) := by
  unfold numA; split
  · exact h.next.next.next
  · exact h.next.next
theorem DiceOK.point {n : Nat} {f : Nat → AV} {a : Int} (h : DiceOK n f a) : DiceOK n f (ptA n f a) := h.number.number.number
theorem Sz_small {x y : Int} (h1 : -2 ^ 63 ≤ x) (h2 : x < 2 ^ 63) : Sz (x : Rat) 64 := Sz_int.more (by
  have : bitsN x.natAbs ≤ 64 := bitsN_le.2 (by omega)
  omega)
theorem mnumber_ok {k n : Nat} {z : Nat → Int} {a : Int} {o : AObj} (ho : ∀ ρ, objLe ρ o (diceO n (fun i => .int .i64 (z i)) a)) (h : DiceOK n (fun i => .int .i64 (z i)) a) (K : Nat) :
    FOK P made_Dice_number K [.ptr k 0 2 0 []] [(k, o)] ⟨.rat (numV n (fun i => .int .i64 (z i)) a) 64, [(k, diceO n (fun i => .int .i64 (z i)) (numA n (fun i => .int .i64 (z i)) a))], []⟩ := by
  refine fok_obj hT GN_ok hm is_mnumber rfl rfl (of_decide_eq_true (by kernel_rfl)) ho 60 mnumber_end (fun _ => ?_) K
  have a1 := nextV_lo (n := n) (f := fun i => .int .i64 (z i)) (a := a) (m := 13) (by omega)
  have a2 := nextV_hi (n := n) (f := fun i => .int .i64 (z i)) (a := a) (m := 13) (by omega)
  have b1 := nextV_lo (n := n) (f := fun i => .int .i64 (z i)) (a := nextA n (nextA n a)) (m := 4) (by omega)
  have b2 := nextV_hi (n := n) (f := fun i => .int .i64 (z i)) (a := nextA n (nextA n a)) (m := 4) (by omega)
  unfold numV numA
  generalize nextV n (fun i => .int .i64 (z i)) a 13 = x at *
  generalize nextV n (fun i => .int .i64 (z i)) (nextA n (nextA n a)) 4 = y at *
  generalize nextV n (fun i => .int .i64 (z i)) (nextA n a) 4 = w at *
  have e1 : IntKind.i64.wrap (x - 6) = x - 6 := wrap_i64 (by omega) (by omega)
  have e2 : IntKind.i64.wrap (1 + y) = 1 + y := wrap_i64 (by omega) (by omega)
  rw [e1, e2]
  simp only [ATree.all, allP, beq_iff_eq, beq_eq_false_iff_ne, ne_eq]
  refine ⟨⟨h, by omega, by omega⟩, ⟨h.next, by omega, by omega⟩, fun hw => ⟨⟨h.next.next, by omega, by omega, by omega, by omega, by omega, by omega, by omega⟩, by omega, avLe0_of_eq (by rw [if_pos hw]), _, rfl, rfl, diceLe rfl (by rw [if_pos hw])⟩, fun hw => ⟨⟨by omega, by omega, by omega⟩, by omega, ?_, _, rfl, rfl, diceLe rfl (by rw [if_neg hw])⟩⟩
  rw [if_neg hw]
  exact avLe0_rat_eq rfl (Sz_small (y := 0) (by omega) (by omega))
theorem s_mnumber_ok : ∀ K args pre r, diceSpec g_number K args pre = some r → FOK P made_Dice_number K args pre r := by
  refine diceSpec_ok fun {k n z a l v b q o} K hg ho hd hq => ?_
  unfold g_number at hg
  split at hg
  · simp only [Option.some.injEq, Prod.mk.injEq] at hg
    obtain ⟨rfl, rfl, rfl⟩ := hg
    exact mnumber_ok ho hd K
  · simp at hg
theorem GP_ok : GOK P GP := gok_cons s_mnumber_ok gok_nil
theorem s_mPoint_ok : ∀ K args pre r, diceSpec g_point K args pre = some r → FOK P made_Dice_Point K args pre r := by
  refine diceSpec_ok fun {k n z a l v b q o} K hg ho hd hq => ?_
  unfold g_point at hg
  split at hg
  · simp only [Option.some.injEq, Prod.mk.injEq] at hg
    obtain ⟨rfl, rfl, rfl⟩ := hg
    refine fok_obj hT GP_ok hm is_mPoint rfl rfl (of_decide_eq_true (by kernel_rfl)) ho 60 mPoint_end (fun _ => ?_) K
    simp only [ATree.all, allP]
    exact ⟨⟨hd, hd.number, hd.number.number, by omega⟩, by omega, .refl _, _, rfl, rfl, diceLe rfl rfl⟩
  · simp at hg
def s_mLight : Spec := pureSpec fun l => match l with
  | [.tab 1 n _] => some (pres (.bool (decide ((n : Int) ≤ 500))) [])
  | _ => none
theorem s_mLight_ok : ∀ K args pre r, s_mLight K args pre = some r → FOK P made_Light K args pre r := by
  refine pureSpec_ok fun K args r hk hs _ => ?_
  split at hs
  · simp only [Option.some.injEq] at hs
    subst hs
    refine fok_tree hT gok_nil hm is_mLight rfl (of_decide_eq_true (by kernel_rfl)) rfl 60 mlight_end (fun _ => ?_) K []
    exact .refl _
  · simp at hs
def s_mRoll : Spec := frzSpec fun K l => match l with
  | [.tab 1 n f] => some ⟨.ptr K 0 2 0 [], [(K, diceO n f 0)], []⟩
  | _ => none
theorem s_mRoll_ok : ∀ K args pre r, s_mRoll K args pre = some r → FOK P made_Roll K args pre r := by
  refine frzSpec_ok fun K args r hk hs => ?_
  split at hs
  · simp only [Option.some.injEq] at hs
    subst hs
    exact fok_new hT gok_nil hm is_mRoll hk rfl (of_decide_eq_true (by kernel_rfl)) (by kernel_rfl) (q := []) 60 mroll (.inr rfl) (fun ρ => diceLe rfl rfl) K
  · simp at hs
end Go.Am.B
