/- Plain laws of fD: how the different ones are moved to the front; which lists are sorted. -/
import Derived.Test.YtbghpkgbokbmlaaGreatC7
set_option linter.unusedVariables false
namespace Go.Am.B
end Go.Am.B
