/- brepkernelmade: number, Point, Map, Light, Roll. -/
import Derived.Test.YtnocdkaonpdmjaaB32
set_option linter.unusedVariables false
namespace Go.Am.B
open Go Go.Am.N AV
def numA (n : Nat) (f : Nat → AV) (a : Int) : Int := if nextV n f (nextA n a) 4 = 3 then nextA n (nextA n (nextA n a)) else nextA n (nextA n a)
theorem DiceOK.number {n : Nat} {f : Nat → AV} {a : Int} (h : DiceOK n f a) : DiceOK n f (numA n f a) := by
  unfold numA; split
  · exact h.next.next.next
  · exact h.next.next
def s_mLight : Spec := pureSpec fun l => match l with
  | [.tab 1 n _] => some (pres (.bool (decide ((n : Int) ≤ 500))) [])
  | _ => none
theorem s_mLight_ok : ∀ K args pre r, s_mLight K args pre = some r → FOK P made_Light K args pre r := by
  refine pureSpec_ok fun K args r hk hs _ => ?_
  split at hs
  · simp only [Option.some.injEq] at hs
    subst hs
    refine fok_tree hT gok_nil hm is_mLight rfl (of_decide_eq_true (by kernel_rfl)) rfl 60 mlight_end (fun _ => ?_) K []
    exact .refl _
  · simp at hs
def s_mRoll : Spec := frzSpec fun K l => match l with
  | [.tab 1 n f] => some ⟨.ptr K 0 2 0 [], [(K, diceO n f 0)], []⟩
  | _ => none
theorem s_mRoll_ok : ∀ K args pre r, s_mRoll K args pre = some r → FOK P made_Roll K args pre r := by
  refine frzSpec_ok fun K args r hk hs => ?_
  split at hs
  · simp only [Option.some.injEq] at hs
    subst hs
    exact fok_new hT gok_nil hm is_mRoll hk rfl (of_decide_eq_true (by kernel_rfl)) (by kernel_rfl) (q := []) 60 mroll (.inr rfl) (fun ρ => diceLe rfl rfl) K
  · simp at hs
end Go.Am.B
