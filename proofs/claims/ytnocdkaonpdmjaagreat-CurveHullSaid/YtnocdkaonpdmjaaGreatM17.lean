/- brepkernellaw10.CurveEvals. -/
import Derived.Test.YtnocdkaonpdmjaaGreatY49
import Derived.Test.YtnocdkaonpdmjaaGreatB102
import Derived.Test.YtnocdkaonpdmjaaGreatY48
set_option linter.unusedVariables false
namespace Go.Am.B
open Go Go.Am.N AV aa aj IntKind
abbrev eA (z : Nat → Int) : Nat → AV := fun i => .int .i64 (z i)
noncomputable def Fh : aQ := [(Ga, mq T (sG :: x7) [] 60 F0)]
theorem aaW : bg P Fh := aH (oN hT (mT Dy) hm (aP OB (by kernel_rfl) (by kernel_rfl) (by kernel_rfl)) _ _) bn
theorem Kn.QJ {n p : Nat} {k : Nat → Rat} (h : Kn n p k) : k 0 ≤ k (n - 1) := h.mono (show 0 ≤ n - 1 by omega) (by have := h.len; omega)
end Go.Am.B
