/- brepkernelmade: number, Point, Map, Light, Roll. -/
import Derived.Test.YtppeigelbecpbaaGreatB32
set_option linter.unusedVariables false
namespace Go.Am.B
open Go Go.Am.N AV
def C5 (n:Nat) (f:Nat→AV) (a:Int):Int:=if OJ n f (ke n a) 4=3 then ke n (ke n (ke n a))else ke n (ke n a)
theorem oz.number {n:Nat} {f:Nat→AV} {a:Int} (h:oz n f a):oz n f (C5 n f a):=by
 unfold C5;split
 ·exact h.next.next.next
 ·exact h.next.next
end Go.Am.B
