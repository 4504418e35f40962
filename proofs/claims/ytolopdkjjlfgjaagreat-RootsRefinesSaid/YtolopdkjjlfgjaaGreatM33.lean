/- brepkernellaw06.RootsIsolates. -/
import Derived.Test.YtolopdkjjlfgjaaGreatY40
import Derived.Test.YtolopdkjjlfgjaaGreatB332
set_option linter.unusedVariables false
namespace Go.Am.B
open Go Go.Am.N AV ag aq IntKind
theorem Z2 {p:PP} (hg:(aF p).1≠0->eH (aF p)):(iG cH p).length<=10:=by
 by_cases h0:(aF p).1=0
 ·rw[show iG cH p=[]from if_pos h0];exact Nat.zero_le _
 ·rw[show iG cH p=lG cH (bA (aF p)) (bh (aF p))from if_neg h0];exact OM (hg h0)
end Go.Am.B
