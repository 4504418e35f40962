/- brepkernellaw09.BasisValues. -/
import Derived.Test.YthnoegfjpmlndaaB71
set_option linter.unusedVariables false
namespace Go.Am.B
open Go Go.Am.N AV ATree AEx IntKind
abbrev zz (z : Nat → Int) : Nat → AV := fun i => .int .i64 (z i)
theorem dice0 {n : Nat} {z : Nat → Int} (h : n ≤ 500) : DiceOK n (zz z) 0 := ⟨fun i => rfl, by omega, by omega, by omega⟩
end Go.Am.B
