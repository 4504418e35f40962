/- brepkernelmade: Part. -/
import Derived.Test.YtnocdkaonpdmjaaB33
set_option linter.unusedVariables false
namespace Go.Am.B
open Go Go.Am.N AV
theorem is_mPart : FnIs P made_Part fn_made_Part (codeOf fn_made_Part) := fnIs get_made_Part (by kernel_rfl) (by kernel_rfl) (by kernel_rfl)
def GPart : Contracts := [(made_Mod, s_mMod), (ref02_Frac, s_eFrac)]
theorem mPart_end {d : Int} : funT T GPart [] 60 fn_made_Part (codeOf fn_made_Part) ⟨zipSlots 0 [.int .i64 d], [], 0⟩ =
    some (ATree.must [(17 : Int) ≠ (0 : Int), (0 : Int) < (12 : Int), (12 : Int) < (2 : Int) ^ 62] (ATree.must [(0 : Int) < IntKind.i64.wrap (IntKind.i64.wrap ((1 : Int) + IntKind.i64.wrap (d.tdiv (17 : Int)) % (12 : Int)) + (1 : Int)), IntKind.i64.wrap (IntKind.i64.wrap ((1 : Int) + IntKind.i64.wrap (d.tdiv (17 : Int)) % (12 : Int)) + (1 : Int)) < (2 : Int) ^ 62, -(2 : Int) ^ 63 ≤ d % IntKind.i64.wrap (IntKind.i64.wrap ((1 : Int) + IntKind.i64.wrap (d.tdiv (17 : Int)) % (12 : Int)) + (1 : Int)), d % IntKind.i64.wrap (IntKind.i64.wrap ((1 : Int) + IntKind.i64.wrap (d.tdiv (17 : Int)) % (12 : Int)) + (1 : Int)) < (2 : Int) ^ 63, -(2 : Int) ^ 63 ≤ IntKind.i64.wrap ((1 : Int) + IntKind.i64.wrap (d.tdiv (17 : Int)) % (12 : Int)), IntKind.i64.wrap ((1 : Int) + IntKind.i64.wrap (d.tdiv (17 : Int)) % (12 : Int)) < (2 : Int) ^ 63, (0 : Nat) < 1] (ATree.must [(0 : Nat) < 1] (ATree.leaf AEx.ret [rat ((↑(d % IntKind.i64.wrap (IntKind.i64.wrap ((1 : Int) + IntKind.i64.wrap (d.tdiv (17 : Int)) % (12 : Int)) + (1 : Int))) : Rat) / (↑(IntKind.i64.wrap ((1 : Int) + IntKind.i64.wrap (d.tdiv (17 : Int)) % (12 : Int))) : Rat)) 64])))) := by kernel_rfl
def partM (d : Int) : Int := 1 + IntKind.i64.wrap (d.tdiv 17) % 12
def partV (d : Int) : Rat := ((d % (partM d + 1) : Int) : Rat) / ((partM d : Int) : Rat)
def s_mPart : Spec := pureSpec fun l => match l with
  | [.int .i64 d] => some (pres (.rat (partV d) 64) [])
  | _ => none
theorem s_mPart_ok : ∀ K args pre r, s_mPart K args pre = some r → FOK P made_Part K args pre r := by
  refine pureSpec_ok fun K args r hk hs _ => ?_
  split at hs
  · rename_i d
    simp only [Option.some.injEq] at hs
    subst hs
    refine fok_tree hT (gok_cons s_mMod_ok (gok_cons s_eFrac_ok gok_nil)) hm is_mPart rfl (of_decide_eq_true (by kernel_rfl)) rfl 60 mPart_end (fun _ => ?_) K []
    unfold partV partM
    generalize IntKind.i64.wrap (d.tdiv 17) = w at *
    have w1 := Int.emod_nonneg w (show (12 : Int) ≠ 0 by omega)
    have w2 := Int.emod_lt_of_pos w (show (0 : Int) < 12 by omega)
    generalize w % 12 = x at *
    have e1 : IntKind.i64.wrap (1 + x) = 1 + x := wrap_i64 (by omega) (by omega)
    have e2 : IntKind.i64.wrap (1 + x + 1) = 1 + x + 1 := wrap_i64 (by omega) (by omega)
    rw [e1, e2]
    have v1 := Int.emod_nonneg d (show 1 + x + 1 ≠ 0 by omega)
    have v2 := Int.emod_lt_of_pos d (show 0 < 1 + x + 1 by omega)
    generalize d % (1 + x + 1) = y at *
    simp only [ATree.all, allP]
    exact ⟨⟨by omega, by omega, by omega⟩, ⟨by omega, by omega, by omega, by omega, by omega, by omega, by omega⟩, by omega, .refl _⟩
  · simp at hs
end Go.Am.B
