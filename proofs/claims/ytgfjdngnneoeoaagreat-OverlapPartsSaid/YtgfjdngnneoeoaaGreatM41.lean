/- brepkernellaw20.OverlapCommons, but for awake. -/
import Derived.Test.YtgfjdngnneoeoaaGreatY42
set_option linter.unusedVariables false
namespace Go.Am.B
open Go Go.Am.N AV ag aq IntKind
def Jv:Spec:=bX fun l=>match l with
 |[]=>some (aH (.bool true) [])
 |_=>none
end Go.Am.B
