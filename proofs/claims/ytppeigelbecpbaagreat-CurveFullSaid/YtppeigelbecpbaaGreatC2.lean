/- Plain laws of polar forms: symmetric, affine; of knots: the coefficient; of equal arguments: the spline. -/
import Derived.Test.YtppeigelbecpbaaGreatC1
set_option linter.unusedVariables false
namespace Go.Am.B
def mZ (k:Nat→Rat) (b p r:Nat) (t:Rat) (x:Nat→Rat) (j:Nat):Rat:=
 if r<j then x (j-1)+fr (k (b+j)) (k (b+j+(p-r))) t*(x j-x (j-1))else x j
def bl (k:Nat→Rat) (b p:Nat):Nat→(Nat→Rat)→List Rat→Nat→Rat
 |_,x,[]=>x
 |r,x,t::l=>bl k b p (r+1) (mZ k b p r t x) l
def bR (k:Nat→Rat) (b p:Nat) (t:Nat→Rat) (x:Nat→Rat):Nat→Nat→Rat
 |0=>x
 |r+1=>mZ k b p r (t r) (bR k b p t x r)
variable {k:Nat→Rat} {b p:Nat}
variable {n:Nat}
end Go.Am.B
