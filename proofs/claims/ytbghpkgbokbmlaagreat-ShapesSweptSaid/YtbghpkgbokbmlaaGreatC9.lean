/- Plain laws of circles: the fV, the qF, the points. -/
import Derived.Test.YtbghpkgbokbmlaaGreatC6
import Derived.Test.YtbghpkgbokbmlaaGreatC4
set_option linter.unusedVariables false
namespace Go.Am.B
def cX : Nat → Rat
 | 0 => 1 | 1 => 1 | 2 => 0 | 3 => -1 | 4 => -1 | 5 => -1 | 6 => 0 | 7 => 1 | _ => 1
def cY : Nat → Rat
 | 0 => 0 | 1 => 1 | 2 => 1 | 3 => 1 | 4 => 0 | 5 => -1 | 6 => -1 | 7 => -1 | _ => 0
end Go.Am.B
