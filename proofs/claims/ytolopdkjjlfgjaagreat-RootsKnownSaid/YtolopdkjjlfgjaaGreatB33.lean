/- brepkernelmade: number, Point, Map, Light, Roll. -/
import Derived.Test.YtolopdkjjlfgjaaGreatB32
set_option linter.unusedVariables false
namespace Go.Am.B
open Go Go.Am.N AV
theorem Ek {x y:Int} (h1:-2^63<=x) (h2:x<2^63):Sz (x:Rat) 64:=CM.more (by
 have:bU x.natAbs<=64:=lK.2 aa
 omega)
end Go.Am.B
