/- Plain laws of circles: the fD, the lQ, the points. -/
import Derived.Test.YtbghpkgbokbmlaaGreatC6
import Derived.Test.YtbghpkgbokbmlaaGreatC4
set_option linter.unusedVariables false
namespace Go.Am.B
end Go.Am.B
