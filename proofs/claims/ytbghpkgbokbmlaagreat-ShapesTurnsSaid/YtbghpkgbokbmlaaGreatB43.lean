/- brepkernelmade: Part. -/
import Derived.Test.YtbghpkgbokbmlaaGreatB33
set_option linter.unusedVariables false
namespace Go.Am.B
open Go Go.Am.N AV
def ZE : aO := [(n8, yy), (lF, vC)]
end Go.Am.B
