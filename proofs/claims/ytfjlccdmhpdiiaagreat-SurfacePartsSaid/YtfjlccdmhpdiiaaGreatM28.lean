/- brepkernellaw12.SurfaceStays. -/
import Derived.Test.YtfjlccdmhpdiiaaGreatY11
import Derived.Test.YtfjlccdmhpdiiaaGreatY13
import Derived.Test.YtfjlccdmhpdiiaaGreatY10
import Derived.Test.YtfjlccdmhpdiiaaGreatY9
import Derived.Test.YtfjlccdmhpdiiaaGreatZ2
import Derived.TacticsIn
set_option linter.unusedVariables false
namespace Go.Am.B
open Go Go.Am.N AV ag aq IntKind Proofs.Tryz
abbrev gH (z:Nat->Int):Nat->AV:=fun i=>.int .i64 (z i)
noncomputable def KZ:aX:=[(8,iZ T (nG::(20,P1)::(22,jD EP)::[]) [] 60 f8),(16,iZ T (nG::Dp) [] 60 f16)]
theorem zX {a b:Rat} (h:a<=b):fJ a b=a:=by unfold fJ;grind
theorem z8 {a b:Rat} (h:a<=b):ff a b=b:=by unfold ff;grind
theorem Wa:bq P KZ:=aI (jn hT (cz (aI To (aI ajf bB))) hm (aT func8) _ _) (aI (jn hT (cz OI) hm IX _ _) bB)
end Go.Am.B
