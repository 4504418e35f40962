/- brepkernelmade: Part. -/
import Derived.Test.YtnocdkaonpdmjaaB33
set_option linter.unusedVariables false
namespace Go.Am.B
open Go Go.Am.N AV
def GPart : Contracts := [(made_Mod, s_mMod), (ref02_Frac, s_eFrac)]
end Go.Am.B
