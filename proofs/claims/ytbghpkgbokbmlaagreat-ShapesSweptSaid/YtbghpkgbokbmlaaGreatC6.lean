/- Plain laws of splines: a piece of degree 2 between double fV. -/
import Derived.Test.YtbghpkgbokbmlaaGreatC5
set_option linter.unusedVariables false
namespace Go.Am.B
end Go.Am.B
