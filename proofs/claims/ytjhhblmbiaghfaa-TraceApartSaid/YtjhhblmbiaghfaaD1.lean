/- Lists of numbers as arguments. -/
import Derived.Test.YtjhhblmbiaghfaaZ2
import Derived.Test.YtjhhblmbiaghfaaC3
set_option linter.unusedVariables false
namespace Go.Am.B
open AV
def AG : AV → Rat
 | .rat q _ => q
 | _ => 0
end Go.Am.B
