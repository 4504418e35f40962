/- brepkernellaw06.RootsDivides. -/
import Derived.Test.YtolopdkjjlfgjaaGreatY40
import Derived.Test.YtolopdkjjlfgjaaGreatY39
import Derived.Test.YtolopdkjjlfgjaaGreatY38
set_option linter.unusedVariables false
namespace Go.Am.B
open Go Go.Am.N AV af ak IntKind
theorem WJ {p:PP} (hp:lT p):zj p/\acE p:=by
 have hW:=dI
 have key:(aJ p).1≠0->tO (aZ (aJ p)):=fun h0=>by
  obtain⟨f1,f2⟩:=wF hp.gd (hp.pos h0)
  have m:=Nat.mul_le_mul f2 f2
  exact WK f1 aa aa
 exact⟨fun h0=>⟨(tL hp.gd (hp.pos h0)).1,key h0⟩,fun h0=>⟨(tL hp.gd (hp.pos h0)).2,key h0⟩⟩
end Go.Am.B
