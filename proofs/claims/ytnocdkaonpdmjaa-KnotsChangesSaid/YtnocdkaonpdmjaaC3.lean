/- Plain laws of knots: the interval of a parameter; what a list of knots is made of. -/
import Derived.Test.YtnocdkaonpdmjaaC2
set_option linter.unusedVariables false
namespace Go.Am.B
structure IsIvl (n : Nat) (k : Nat → Rat) (t : Rat) (i : Nat) : Prop where
  at_ : At n k i
  lo : k i ≤ t
  hi : t ≤ k (i + 1)
  edge : t < k (i + 1) ∨ k (i + 1) = k (n - 1)
end Go.Am.B
