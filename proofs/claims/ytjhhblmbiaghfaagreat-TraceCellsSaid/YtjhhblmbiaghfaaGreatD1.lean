/- Lists of numbers as arguments. -/
import Derived.Test.YtjhhblmbiaghfaaGreatZ2
import Derived.Test.YtjhhblmbiaghfaaGreatC3
set_option linter.unusedVariables false
namespace Go.Am.B
open AV
def F9 : AV → Rat
 | .rat q _ => q
 | _ => 0
end Go.Am.B
