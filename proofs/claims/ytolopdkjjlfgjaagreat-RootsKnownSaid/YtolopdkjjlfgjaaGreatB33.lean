/- brepkernelmade: number, Point, Map, Light, Roll. -/
import Derived.Test.YtolopdkjjlfgjaaGreatB32
set_option linter.unusedVariables false
namespace Go.Am.B
open Go Go.Am.N AV
theorem FU {x y:Int} (h1:-2^63<=x) (h2:x<2^63):Sz (x:Rat) 64:=F2.more (by
 have:bS x.natAbs<=64:=lD.2 aa
 omega)
end Go.Am.B
