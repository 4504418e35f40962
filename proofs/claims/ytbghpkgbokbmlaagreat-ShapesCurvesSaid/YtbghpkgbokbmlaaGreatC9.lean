/- Plain laws of circles: the knots, the poles, the points. -/
import Derived.Test.YtbghpkgbokbmlaaGreatC6
import Derived.Test.YtbghpkgbokbmlaaGreatC4
set_option linter.unusedVariables false
namespace Go.Am.B
def Sj (i : Nat) : Nat := min ((i - 1) / 2) 4
def xE (i : Nat) : Rat := ((Sj i : Nat) : Rat)
def cX : Nat → Rat
 | 0 => 1 | 1 => 1 | 2 => 0 | 3 => -1 | 4 => -1 | 5 => -1 | 6 => 0 | 7 => 1 | _ => 1
def cY : Nat → Rat
 | 0 => 0 | 1 => 1 | 2 => 1 | 3 => 1 | 4 => 0 | 5 => -1 | 6 => -1 | 7 => -1 | _ => 0
def cW : Nat → Rat
 | 2 => 2 | 6 => 2 | _ => 1
end Go.Am.B
