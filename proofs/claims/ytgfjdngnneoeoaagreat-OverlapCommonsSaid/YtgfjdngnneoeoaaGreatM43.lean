/- brepkernellaw20.OverlapCommons. -/
import Derived.Test.YtgfjdngnneoeoaaGreatM41
import Derived.Test.YtgfjdngnneoeoaaGreatY46
set_option linter.unusedVariables false
namespace Go.Am.B
open Go Go.Am.N AV ag ak IntKind
theorem aaP {n:Nat} {z:Nat->Int} (K:Nat):aO P 3 K [.aq 1 n (fun i=>.int .i64 (z i))] [] (aI (.bool true) []):=aa7 agG K
end Go.Am.B
