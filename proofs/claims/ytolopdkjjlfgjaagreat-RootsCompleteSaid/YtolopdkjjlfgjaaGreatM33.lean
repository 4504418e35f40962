/- brepkernellaw06.RootsIsolates. -/
import Derived.Test.YtolopdkjjlfgjaaGreatY40
set_option linter.unusedVariables false
namespace Go.Am.B
open Go Go.Am.N AV af ak IntKind
theorem aad {p:PP} (hg:(aJ p).1≠0->dL (aJ p)):(bf aP p).length<=10:=by
 by_cases h0:(aJ p).1=0
 ·rw[show bf aP p=[]from if_pos h0];exact Nat.zero_le _
 ·rw[show bf aP p=gT aP (bU (aJ p)) (bN (aJ p))from if_neg h0];exact HA (hg h0)
end Go.Am.B
