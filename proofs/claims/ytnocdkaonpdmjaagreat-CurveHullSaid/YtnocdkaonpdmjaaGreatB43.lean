/- brepkernelmade: Part. -/
import Derived.Test.YtnocdkaonpdmjaaGreatB33
set_option linter.unusedVariables false
namespace Go.Am.B
open Go Go.Am.N AV
theorem ZF : aO P x9 rP (ax rP) := aP Ze (by kernel_rfl) (by kernel_rfl) (by kernel_rfl)
def Me : aQ := [(pg, Dv), (mw, xb)]
theorem Q1 {d : Int} : bB T Me [] 60 rP (ax rP) ⟨aL 0 [.int .i64 d], [], 0⟩ =
  some (aa.ag [(17 : Int) ≠ (0 : Int), (0 : Int) < (12 : Int), (12 : Int) < (2 : Int) ^ 62] (aa.ag [(0 : Int) < IntKind.i64.wrap (IntKind.i64.wrap ((1 : Int) + IntKind.i64.wrap (d.tdiv (17 : Int)) % (12 : Int)) + (1 : Int)), IntKind.i64.wrap (IntKind.i64.wrap ((1 : Int) + IntKind.i64.wrap (d.tdiv (17 : Int)) % (12 : Int)) + (1 : Int)) < (2 : Int) ^ 62, -(2 : Int) ^ 63 ≤ d % IntKind.i64.wrap (IntKind.i64.wrap ((1 : Int) + IntKind.i64.wrap (d.tdiv (17 : Int)) % (12 : Int)) + (1 : Int)), d % IntKind.i64.wrap (IntKind.i64.wrap ((1 : Int) + IntKind.i64.wrap (d.tdiv (17 : Int)) % (12 : Int)) + (1 : Int)) < (2 : Int) ^ 63, -(2 : Int) ^ 63 ≤ IntKind.i64.wrap ((1 : Int) + IntKind.i64.wrap (d.tdiv (17 : Int)) % (12 : Int)), IntKind.i64.wrap ((1 : Int) + IntKind.i64.wrap (d.tdiv (17 : Int)) % (12 : Int)) < (2 : Int) ^ 63, (0 : Nat) < 1] (aa.ag [(0 : Nat) < 1] (aa.leaf aj.ret [rat ((↑(d % IntKind.i64.wrap (IntKind.i64.wrap ((1 : Int) + IntKind.i64.wrap (d.tdiv (17 : Int)) % (12 : Int)) + (1 : Int))) : Rat) / (↑(IntKind.i64.wrap ((1 : Int) + IntKind.i64.wrap (d.tdiv (17 : Int)) % (12 : Int))) : Rat)) 64])))) := by kernel_rfl
def qw (d : Int) : Int := 1 + IntKind.i64.wrap (d.tdiv 17) % 12
def jy (d : Int) : Rat := ((d % (qw d + 1) : Int) : Rat) / ((qw d : Int) : Rat)
def Hs : Spec := bu fun l => match l with
 | [.int .i64 d] => some (aG (.rat (jy d) 64) [])
 | _ => none
theorem Xn : ∀ K args pre r, Hs K args pre = some r → aA P x9 K args pre r := by
 refine bN fun K args r hk hs _ => ?_
 split at hs
 ·rename_i d
  simp only [Option.some.injEq] at hs
  subst hs
  refine bH hT (aH Ki (aH yP bn)) hm ZF rfl (of_decide_eq_true (by kernel_rfl)) rfl 60 Q1 (fun _ => ?_) K []
  unfold jy qw
  generalize IntKind.i64.wrap (d.tdiv 17) = w at *
  have w1 := Int.emod_nonneg w (show (12 : Int) ≠ 0 by omega)
  have w2 := Int.emod_lt_of_pos w (show (0 : Int) < 12 by omega)
  generalize w % 12 = x at *
  have e1 : IntKind.i64.wrap (1 + x) = 1 + x := wrap_i64 (by omega) (by omega)
  have e2 : IntKind.i64.wrap (1 + x + 1) = 1 + x + 1 := wrap_i64 (by omega) (by omega)
  rw [e1, e2]
  have v1 := Int.emod_nonneg d (show 1 + x + 1 ≠ 0 by omega)
  have v2 := Int.emod_lt_of_pos d (show 0 < 1 + x + 1 by omega)
  generalize d % (1 + x + 1) = y at *
  simp only [aa.all, ay]
  exact ⟨⟨by omega, by omega, by omega⟩, ⟨by omega, by omega, by omega, by omega, by omega, by omega, by omega⟩, by omega, .refl _⟩
 ·simp at hs
end Go.Am.B
