/- brepkernellaw06.RootsIsolates. -/
import Derived.Test.YtolopdkjjlfgjaaGreatY11
import Derived.Test.YtolopdkjjlfgjaaGreatY12
set_option linter.unusedVariables false
namespace Go.Am.B
open Go Go.Am.N AV ag au IntKind
theorem acf {p:PP} (hg:(ak p).1≠0->cW (ak p)):(ji dY p).length<=10:=by
 by_cases h0:(ak p).1=0
 ·rw[show ji dY p=[]from if_pos h0];exact Nat.zero_le _
 ·rw[show ji dY p=mq dY (aS (ak p)) (aQ (ak p))from if_neg h0];exact QS (hg h0)
end Go.Am.B
