/- brepkernelmade: Part. -/
import Derived.Test.YtppeigelbecpbaaGreatB33
set_option linter.unusedVariables false
namespace Go.Am.B
open Go Go.Am.N AV
end Go.Am.B
