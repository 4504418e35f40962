/- brepkernelmade: Part. -/
import Derived.Test.YtppeigelbecpbaaGreatB33
set_option linter.unusedVariables false
namespace Go.Am.B
open Go Go.Am.N AV
def WS:aR:=[(rR,Fg),(oI,yL)]
end Go.Am.B
