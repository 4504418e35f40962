/- vector: Cross, Dot, each, Same, Zero, Add, Sub, Scale. -/
import Derived.Test.YtajjlacbodnggaaGreatB34
set_option linter.unusedVariables false
namespace Go.Am.B
open Go Go.Am.N AV

theorem is_vCross : FnIs P vector_Cross fn_vector_Cross (codeOf fn_vector_Cross) := fnIs get_vector_Cross (by kernel_rfl) (by kernel_rfl) (by kernel_rfl)
theorem is_vDot : FnIs P vector_Dot fn_vector_Dot (codeOf fn_vector_Dot) := fnIs get_vector_Dot (by kernel_rfl) (by kernel_rfl) (by kernel_rfl)
theorem is_veach : FnIs P vector_each fn_vector_each (codeOf fn_vector_each) := fnIs get_vector_each (by kernel_rfl) (by kernel_rfl) (by kernel_rfl)
theorem is_vSame : FnIs P vector_Same fn_vector_Same (codeOf fn_vector_Same) := fnIs get_vector_Same (by kernel_rfl) (by kernel_rfl) (by kernel_rfl)
theorem vcross_end {u v : V3} {n m : Nat} : funT T GR0 [] 60 fn_vector_Cross (codeOf fn_vector_Cross) ⟨zipSlots 0 [vA u n, vA v m], [], 0⟩ =
    some (ATree.must [(3 : Int) ≠ (0 : Int), (3 : Int) ≠ (0 : Int)] (ATree.must [(0 : Int) ≤ (IntKind.i64.wrap ((0 : Int) + (1 : Int))).tmod (3 : Int) ∧ (IntKind.i64.wrap ((0 : Int) + (1 : Int))).tmod (3 : Int) < (↑(3 : Nat) : Int), (0 : Nat) < 1, (0 : Int) ≤ (IntKind.i64.wrap ((0 : Int) + (2 : Int))).tmod (3 : Int) ∧ (IntKind.i64.wrap ((0 : Int) + (2 : Int))).tmod (3 : Int) < (↑(3 : Nat) : Int), (0 : Nat) < 1, n < 2 ^ 42, m < 2 ^ 42, (0 : Int) ≤ (IntKind.i64.wrap ((0 : Int) + (2 : Int))).tmod (3 : Int) ∧ (IntKind.i64.wrap ((0 : Int) + (2 : Int))).tmod (3 : Int) < (↑(3 : Nat) : Int), (0 : Nat) < 1, (0 : Int) ≤ (IntKind.i64.wrap ((0 : Int) + (1 : Int))).tmod (3 : Int) ∧ (IntKind.i64.wrap ((0 : Int) + (1 : Int))).tmod (3 : Int) < (↑(3 : Nat) : Int), (0 : Nat) < 1, n < 2 ^ 42, m < 2 ^ 42, n + m < 2 ^ 42, n + m < 2 ^ 42, (0 : Int) ≤ (0 : Int) ∧ (0 : Int) < (↑(3 : Nat) : Int), (0 : Nat) < 1] (ATree.must [(3 : Int) ≠ (0 : Int), (3 : Int) ≠ (0 : Int)] (ATree.must [(0 : Int) ≤ (IntKind.i64.wrap (IntKind.i64.wrap ((0 : Int) + (1 : Int)) + (1 : Int))).tmod (3 : Int) ∧ (IntKind.i64.wrap (IntKind.i64.wrap ((0 : Int) + (1 : Int)) + (1 : Int))).tmod (3 : Int) < (↑(3 : Nat) : Int), (0 : Nat) < 1, (0 : Int) ≤ (IntKind.i64.wrap (IntKind.i64.wrap ((0 : Int) + (1 : Int)) + (2 : Int))).tmod (3 : Int) ∧ (IntKind.i64.wrap (IntKind.i64.wrap ((0 : Int) + (1 : Int)) + (2 : Int))).tmod (3 : Int) < (↑(3 : Nat) : Int), (0 : Nat) < 1, n < 2 ^ 42, m < 2 ^ 42, (0 : Int) ≤ (IntKind.i64.wrap (IntKind.i64.wrap ((0 : Int) + (1 : Int)) + (2 : Int))).tmod (3 : Int) ∧ (IntKind.i64.wrap (IntKind.i64.wrap ((0 : Int) + (1 : Int)) + (2 : Int))).tmod (3 : Int) < (↑(3 : Nat) : Int), (0 : Nat) < 1, (0 : Int) ≤ (IntKind.i64.wrap (IntKind.i64.wrap ((0 : Int) + (1 : Int)) + (1 : Int))).tmod (3 : Int) ∧ (IntKind.i64.wrap (IntKind.i64.wrap ((0 : Int) + (1 : Int)) + (1 : Int))).tmod (3 : Int) < (↑(3 : Nat) : Int), (0 : Nat) < 1, n < 2 ^ 42, m < 2 ^ 42, n + m < 2 ^ 42, n + m < 2 ^ 42, (0 : Int) ≤ IntKind.i64.wrap ((0 : Int) + (1 : Int)) ∧ IntKind.i64.wrap ((0 : Int) + (1 : Int)) < (↑(3 : Nat) : Int), (0 : Nat) < 1] (ATree.must [(3 : Int) ≠ (0 : Int), (3 : Int) ≠ (0 : Int)] (ATree.must [(0 : Int) ≤ (IntKind.i64.wrap (IntKind.i64.wrap (IntKind.i64.wrap ((0 : Int) + (1 : Int)) + (1 : Int)) + (1 : Int))).tmod (3 : Int) ∧ (IntKind.i64.wrap (IntKind.i64.wrap (IntKind.i64.wrap ((0 : Int) + (1 : Int)) + (1 : Int)) + (1 : Int))).tmod (3 : Int) < (↑(3 : Nat) : Int), (0 : Nat) < 1, (0 : Int) ≤ (IntKind.i64.wrap (IntKind.i64.wrap (IntKind.i64.wrap ((0 : Int) + (1 : Int)) + (1 : Int)) + (2 : Int))).tmod (3 : Int) ∧ (IntKind.i64.wrap (IntKind.i64.wrap (IntKind.i64.wrap ((0 : Int) + (1 : Int)) + (1 : Int)) + (2 : Int))).tmod (3 : Int) < (↑(3 : Nat) : Int), (0 : Nat) < 1, n < 2 ^ 42, m < 2 ^ 42, (0 : Int) ≤ (IntKind.i64.wrap (IntKind.i64.wrap (IntKind.i64.wrap ((0 : Int) + (1 : Int)) + (1 : Int)) + (2 : Int))).tmod (3 : Int) ∧ (IntKind.i64.wrap (IntKind.i64.wrap (IntKind.i64.wrap ((0 : Int) + (1 : Int)) + (1 : Int)) + (2 : Int))).tmod (3 : Int) < (↑(3 : Nat) : Int), (0 : Nat) < 1, (0 : Int) ≤ (IntKind.i64.wrap (IntKind.i64.wrap (IntKind.i64.wrap ((0 : Int) + (1 : Int)) + (1 : Int)) + (1 : Int))).tmod (3 : Int) ∧ (IntKind.i64.wrap (IntKind.i64.wrap (IntKind.i64.wrap ((0 : Int) + (1 : Int)) + (1 : Int)) + (1 : Int))).tmod (3 : Int) < (↑(3 : Nat) : Int), (0 : Nat) < 1, n < 2 ^ 42, m < 2 ^ 42, n + m < 2 ^ 42, n + m < 2 ^ 42, (0 : Int) ≤ IntKind.i64.wrap (IntKind.i64.wrap ((0 : Int) + (1 : Int)) + (1 : Int)) ∧ IntKind.i64.wrap (IntKind.i64.wrap ((0 : Int) + (1 : Int)) + (1 : Int)) < (↑(3 : Nat) : Int), (0 : Nat) < 1] (ATree.must [(0 : Nat) < 1, (0 : Nat) < 1] (ATree.must [(0 : Nat) < 1] (ATree.leaf AEx.ret [agg [rat (u.y * v.z - u.z * v.y) (n + m + (n + m) + 1), rat (u.z * v.x - u.x * v.z) (n + m + (n + m) + 1), rat (u.x * v.y - u.y * v.x) (n + m + (n + m) + 1)]]))))))))) := by kernel_rfl
theorem vdot_end {u v : V3} {n m : Nat} : funT T GR0 [] 60 fn_vector_Dot (codeOf fn_vector_Dot) ⟨zipSlots 0 [vA u n, vA v m], [], 0⟩ =
    some (ATree.must [(0 : Nat) < 1, (0 : Int) ≤ (0 : Int) ∧ (0 : Int) < (↑(3 : Nat) : Int), (0 : Nat) < 1, (0 : Int) ≤ (0 : Int) ∧ (0 : Int) < (↑(3 : Nat) : Int), (0 : Nat) < 1, n < 2 ^ 42, m < 2 ^ 42, (1 : Nat) < 2 ^ 42, n + m < 2 ^ 42, (0 : Nat) < 1] (ATree.must [(0 : Nat) < 1, (0 : Int) ≤ IntKind.i64.wrap ((0 : Int) + (1 : Int)) ∧ IntKind.i64.wrap ((0 : Int) + (1 : Int)) < (↑(3 : Nat) : Int), (0 : Nat) < 1, (0 : Int) ≤ IntKind.i64.wrap ((0 : Int) + (1 : Int)) ∧ IntKind.i64.wrap ((0 : Int) + (1 : Int)) < (↑(3 : Nat) : Int), (0 : Nat) < 1, n < 2 ^ 42, m < 2 ^ 42, (1 : Nat) + (n + m) + 1 < 2 ^ 42, n + m < 2 ^ 42, (0 : Nat) < 1] (ATree.must [(0 : Nat) < 1, (0 : Int) ≤ IntKind.i64.wrap (IntKind.i64.wrap ((0 : Int) + (1 : Int)) + (1 : Int)) ∧ IntKind.i64.wrap (IntKind.i64.wrap ((0 : Int) + (1 : Int)) + (1 : Int)) < (↑(3 : Nat) : Int), (0 : Nat) < 1, (0 : Int) ≤ IntKind.i64.wrap (IntKind.i64.wrap ((0 : Int) + (1 : Int)) + (1 : Int)) ∧ IntKind.i64.wrap (IntKind.i64.wrap ((0 : Int) + (1 : Int)) + (1 : Int)) < (↑(3 : Nat) : Int), (0 : Nat) < 1, n < 2 ^ 42, m < 2 ^ 42, (1 : Nat) + (n + m) + 1 + (n + m) + 1 < 2 ^ 42, n + m < 2 ^ 42, (0 : Nat) < 1] (ATree.must [(0 : Nat) < 1, (0 : Nat) < 1] (ATree.must [(0 : Nat) < 1] (ATree.leaf AEx.ret [rat ((0 : Rat) + u.x * v.x + u.y * v.y + u.z * v.z) ((1 : Nat) + (n + m) + 1 + (n + m) + 1 + (n + m) + 1)])))))) := by kernel_rfl
theorem vadd_end {u v : V3} {n m : Nat} : funT T GR0 [] 60 fn_vector_each (codeOf fn_vector_each) ⟨zipSlots 0 [vA u n, vA v m, .func rational_Add []], [], 0⟩ =
    some (ATree.must [(0 : Int) ≤ (0 : Int) ∧ (0 : Int) < (↑(3 : Nat) : Int), (0 : Nat) < 1, (0 : Int) ≤ (0 : Int) ∧ (0 : Int) < (↑(3 : Nat) : Int), (0 : Nat) < 1, n < 2 ^ 42, m < 2 ^ 42, (0 : Int) ≤ (0 : Int) ∧ (0 : Int) < (↑(3 : Nat) : Int), (0 : Nat) < 1] (ATree.must [(0 : Int) ≤ IntKind.i64.wrap ((0 : Int) + (1 : Int)) ∧ IntKind.i64.wrap ((0 : Int) + (1 : Int)) < (↑(3 : Nat) : Int), (0 : Nat) < 1, (0 : Int) ≤ IntKind.i64.wrap ((0 : Int) + (1 : Int)) ∧ IntKind.i64.wrap ((0 : Int) + (1 : Int)) < (↑(3 : Nat) : Int), (0 : Nat) < 1, n < 2 ^ 42, m < 2 ^ 42, (0 : Int) ≤ IntKind.i64.wrap ((0 : Int) + (1 : Int)) ∧ IntKind.i64.wrap ((0 : Int) + (1 : Int)) < (↑(3 : Nat) : Int), (0 : Nat) < 1] (ATree.must [(0 : Int) ≤ IntKind.i64.wrap (IntKind.i64.wrap ((0 : Int) + (1 : Int)) + (1 : Int)) ∧ IntKind.i64.wrap (IntKind.i64.wrap ((0 : Int) + (1 : Int)) + (1 : Int)) < (↑(3 : Nat) : Int), (0 : Nat) < 1, (0 : Int) ≤ IntKind.i64.wrap (IntKind.i64.wrap ((0 : Int) + (1 : Int)) + (1 : Int)) ∧ IntKind.i64.wrap (IntKind.i64.wrap ((0 : Int) + (1 : Int)) + (1 : Int)) < (↑(3 : Nat) : Int), (0 : Nat) < 1, n < 2 ^ 42, m < 2 ^ 42, (0 : Int) ≤ IntKind.i64.wrap (IntKind.i64.wrap ((0 : Int) + (1 : Int)) + (1 : Int)) ∧ IntKind.i64.wrap (IntKind.i64.wrap ((0 : Int) + (1 : Int)) + (1 : Int)) < (↑(3 : Nat) : Int), (0 : Nat) < 1] (ATree.must [(0 : Nat) < 1, (0 : Nat) < 1] (ATree.must [(0 : Nat) < 1] (ATree.leaf AEx.ret [agg [rat (u.x + v.x) (n + m + 1), rat (u.y + v.y) (n + m + 1), rat (u.z + v.z) (n + m + 1)]])))))) := by kernel_rfl
theorem vsub_end {u v : V3} {n m : Nat} : funT T GR0 [] 60 fn_vector_each (codeOf fn_vector_each) ⟨zipSlots 0 [vA u n, vA v m, .func rational_Sub []], [], 0⟩ =
    some (ATree.must [(0 : Int) ≤ (0 : Int) ∧ (0 : Int) < (↑(3 : Nat) : Int), (0 : Nat) < 1, (0 : Int) ≤ (0 : Int) ∧ (0 : Int) < (↑(3 : Nat) : Int), (0 : Nat) < 1, n < 2 ^ 42, m < 2 ^ 42, (0 : Int) ≤ (0 : Int) ∧ (0 : Int) < (↑(3 : Nat) : Int), (0 : Nat) < 1] (ATree.must [(0 : Int) ≤ IntKind.i64.wrap ((0 : Int) + (1 : Int)) ∧ IntKind.i64.wrap ((0 : Int) + (1 : Int)) < (↑(3 : Nat) : Int), (0 : Nat) < 1, (0 : Int) ≤ IntKind.i64.wrap ((0 : Int) + (1 : Int)) ∧ IntKind.i64.wrap ((0 : Int) + (1 : Int)) < (↑(3 : Nat) : Int), (0 : Nat) < 1, n < 2 ^ 42, m < 2 ^ 42, (0 : Int) ≤ IntKind.i64.wrap ((0 : Int) + (1 : Int)) ∧ IntKind.i64.wrap ((0 : Int) + (1 : Int)) < (↑(3 : Nat) : Int), (0 : Nat) < 1] (ATree.must [(0 : Int) ≤ IntKind.i64.wrap (IntKind.i64.wrap ((0 : Int) + (1 : Int)) + (1 : Int)) ∧ IntKind.i64.wrap (IntKind.i64.wrap ((0 : Int) + (1 : Int)) + (1 : Int)) < (↑(3 : Nat) : Int), (0 : Nat) < 1, (0 : Int) ≤ IntKind.i64.wrap (IntKind.i64.wrap ((0 : Int) + (1 : Int)) + (1 : Int)) ∧ IntKind.i64.wrap (IntKind.i64.wrap ((0 : Int) + (1 : Int)) + (1 : Int)) < (↑(3 : Nat) : Int), (0 : Nat) < 1, n < 2 ^ 42, m < 2 ^ 42, (0 : Int) ≤ IntKind.i64.wrap (IntKind.i64.wrap ((0 : Int) + (1 : Int)) + (1 : Int)) ∧ IntKind.i64.wrap (IntKind.i64.wrap ((0 : Int) + (1 : Int)) + (1 : Int)) < (↑(3 : Nat) : Int), (0 : Nat) < 1] (ATree.must [(0 : Nat) < 1, (0 : Nat) < 1] (ATree.must [(0 : Nat) < 1] (ATree.leaf AEx.ret [agg [rat (u.x - v.x) (n + m + 1), rat (u.y - v.y) (n + m + 1), rat (u.z - v.z) (n + m + 1)]])))))) := by kernel_rfl
theorem vmul_end {u v : V3} {n m : Nat} : funT T GR0 [] 60 fn_vector_each (codeOf fn_vector_each) ⟨zipSlots 0 [vA u n, vA v m, .func rational_Mul []], [], 0⟩ =
    some (ATree.must [(0 : Int) ≤ (0 : Int) ∧ (0 : Int) < (↑(3 : Nat) : Int), (0 : Nat) < 1, (0 : Int) ≤ (0 : Int) ∧ (0 : Int) < (↑(3 : Nat) : Int), (0 : Nat) < 1, n < 2 ^ 42, m < 2 ^ 42, (0 : Int) ≤ (0 : Int) ∧ (0 : Int) < (↑(3 : Nat) : Int), (0 : Nat) < 1] (ATree.must [(0 : Int) ≤ IntKind.i64.wrap ((0 : Int) + (1 : Int)) ∧ IntKind.i64.wrap ((0 : Int) + (1 : Int)) < (↑(3 : Nat) : Int), (0 : Nat) < 1, (0 : Int) ≤ IntKind.i64.wrap ((0 : Int) + (1 : Int)) ∧ IntKind.i64.wrap ((0 : Int) + (1 : Int)) < (↑(3 : Nat) : Int), (0 : Nat) < 1, n < 2 ^ 42, m < 2 ^ 42, (0 : Int) ≤ IntKind.i64.wrap ((0 : Int) + (1 : Int)) ∧ IntKind.i64.wrap ((0 : Int) + (1 : Int)) < (↑(3 : Nat) : Int), (0 : Nat) < 1] (ATree.must [(0 : Int) ≤ IntKind.i64.wrap (IntKind.i64.wrap ((0 : Int) + (1 : Int)) + (1 : Int)) ∧ IntKind.i64.wrap (IntKind.i64.wrap ((0 : Int) + (1 : Int)) + (1 : Int)) < (↑(3 : Nat) : Int), (0 : Nat) < 1, (0 : Int) ≤ IntKind.i64.wrap (IntKind.i64.wrap ((0 : Int) + (1 : Int)) + (1 : Int)) ∧ IntKind.i64.wrap (IntKind.i64.wrap ((0 : Int) + (1 : Int)) + (1 : Int)) < (↑(3 : Nat) : Int), (0 : Nat) < 1, n < 2 ^ 42, m < 2 ^ 42, (0 : Int) ≤ IntKind.i64.wrap (IntKind.i64.wrap ((0 : Int) + (1 : Int)) + (1 : Int)) ∧ IntKind.i64.wrap (IntKind.i64.wrap ((0 : Int) + (1 : Int)) + (1 : Int)) < (↑(3 : Nat) : Int), (0 : Nat) < 1] (ATree.must [(0 : Nat) < 1, (0 : Nat) < 1] (ATree.must [(0 : Nat) < 1] (ATree.leaf AEx.ret [agg [rat (u.x * v.x) (n + m), rat (u.y * v.y) (n + m), rat (u.z * v.z) (n + m)]])))))) := by kernel_rfl
theorem vsame_end {u v : V3} {n m : Nat} : funT T GR0 [16] 60 fn_vector_Same (codeOf fn_vector_Same) ⟨zipSlots 0 [vA u n, vA v m], [], 0⟩ =
    some (ATree.must [(0 : Int) ≤ (0 : Int) ∧ (0 : Int) < (↑(3 : Nat) : Int), (0 : Nat) < 1, (0 : Int) ≤ (0 : Int) ∧ (0 : Int) < (↑(3 : Nat) : Int), (0 : Nat) < 1, n < 2 ^ 42, m < 2 ^ 42] (ATree.fork (!decide (u.x = v.x)) (ATree.leaf AEx.ret [AV.bool false]) (ATree.must [(0 : Int) ≤ IntKind.i64.wrap ((0 : Int) + (1 : Int)) ∧ IntKind.i64.wrap ((0 : Int) + (1 : Int)) < (↑(3 : Nat) : Int), (0 : Nat) < 1, (0 : Int) ≤ IntKind.i64.wrap ((0 : Int) + (1 : Int)) ∧ IntKind.i64.wrap ((0 : Int) + (1 : Int)) < (↑(3 : Nat) : Int), (0 : Nat) < 1, n < 2 ^ 42, m < 2 ^ 42] (ATree.fork (!decide (u.y = v.y)) (ATree.leaf AEx.ret [AV.bool false]) (ATree.must [(0 : Int) ≤ IntKind.i64.wrap (IntKind.i64.wrap ((0 : Int) + (1 : Int)) + (1 : Int)) ∧ IntKind.i64.wrap (IntKind.i64.wrap ((0 : Int) + (1 : Int)) + (1 : Int)) < (↑(3 : Nat) : Int), (0 : Nat) < 1, (0 : Int) ≤ IntKind.i64.wrap (IntKind.i64.wrap ((0 : Int) + (1 : Int)) + (1 : Int)) ∧ IntKind.i64.wrap (IntKind.i64.wrap ((0 : Int) + (1 : Int)) + (1 : Int)) < (↑(3 : Nat) : Int), (0 : Nat) < 1, n < 2 ^ 42, m < 2 ^ 42] (ATree.fork (!decide (u.z = v.z)) (ATree.leaf AEx.ret [AV.bool false]) (ATree.leaf AEx.ret [AV.bool true]))))))) := by kernel_rfl
def cross (u v : V3) : V3 := ⟨u.y * v.z - u.z * v.y, u.z * v.x - u.x * v.z, u.x * v.y - u.y * v.x⟩
def dot (u v : V3) : Rat := 0 + u.x * v.x + u.y * v.y + u.z * v.z
def vadd (u v : V3) : V3 := ⟨u.x + v.x, u.y + v.y, u.z + v.z⟩
def vsub (u v : V3) : V3 := ⟨u.x - v.x, u.y - v.y, u.z - v.z⟩
def vmul (u v : V3) : V3 := ⟨u.x * v.x, u.y * v.y, u.z * v.z⟩
def vscale (q : Rat) (v : V3) : V3 := ⟨q * v.x, q * v.y, q * v.z⟩
def vsame (u v : V3) : Bool := decide (u.x = v.x) && (decide (u.y = v.y) && decide (u.z = v.z))
abbrev v0 : V3 := ⟨0, 0, 0⟩

def vNeed {α β : Type} (a : α × Nat) (b : β × Nat) : List Prop := [a.2 < 2 ^ 38, b.2 < 2 ^ 38]
def oCross (a b : V3 × Nat) : AV := vA (cross a.1 b.1) (a.2 + b.2 + (a.2 + b.2) + 1)
def oDot (a b : V3 × Nat) : AV := rA (dot a.1 b.1) (3 * (a.2 + b.2) + 4)
def ovSame (a b : V3 × Nat) : AV := .bool (vsame a.1 b.1)
def ovAdd (a b : V3 × Nat) : AV := vA (vadd a.1 b.1) (a.2 + b.2 + 1)
def ovSub (a b : V3 × Nat) : AV := vA (vsub a.1 b.1) (a.2 + b.2 + 1)
def ovMul (a b : V3 × Nat) : AV := vA (vmul a.1 b.1) (a.2 + b.2)
def ovScale (a : Rat × Nat) (b : V3 × Nat) : AV := vA (vscale a.1 b.1) (a.2 + b.2)
def ovZero (a : V3 × Nat) : AV := .bool (vsame a.1 v0)

theorem vCross_ok (a b : V3 × Nat) (K : Nat) (h : allP (vNeed a b)) : FOK P vector_Cross K [kV.make a, kV.make b] [] (pres (oCross a b) []) := by
  obtain ⟨u, n⟩ := a
  obtain ⟨v, m⟩ := b
  obtain ⟨h1, h2⟩ : n < 2 ^ 38 ∧ m < 2 ^ 38 := h
  refine fok_tree hT GR0_ok hm is_vCross rfl (of_decide_eq_true (by kernel_rfl)) rfl 60 vcross_end (fun _ => ?_) K []
  simp only [ATree.all, allP]
  (repeat' with_reducible refine And.intro ?_ ?_)
  all_goals first | omega | decide | exact avLe0.refl _

theorem vDot_ok (a b : V3 × Nat) (K : Nat) (h : allP (vNeed a b)) : FOK P vector_Dot K [kV.make a, kV.make b] [] (pres (oDot a b) []) := by
  obtain ⟨u, n⟩ := a
  obtain ⟨v, m⟩ := b
  obtain ⟨h1, h2⟩ : n < 2 ^ 38 ∧ m < 2 ^ 38 := h
  refine fok_tree hT GR0_ok hm is_vDot rfl (of_decide_eq_true (by kernel_rfl)) rfl 60 vdot_end (fun _ => ?_) K []
  simp only [ATree.all, allP]
  (repeat' with_reducible refine And.intro ?_ ?_)
  all_goals first | omega | decide | exact avLe0_rat_up rfl (by simp only; omega)

theorem vSame_ok (a b : V3 × Nat) (K : Nat) (h : allP (vNeed a b)) : FOK P vector_Same K [kV.make a, kV.make b] [] (pres (ovSame a b) []) := by
  obtain ⟨u, n⟩ := a
  obtain ⟨v, m⟩ := b
  obtain ⟨h1, h2⟩ : n < 2 ^ 38 ∧ m < 2 ^ 38 := h
  refine fok_tree hT GR0_ok hm is_vSame rfl (of_decide_eq_true (by kernel_rfl)) rfl 60 vsame_end (fun _ => ?_) K []
  simp only [ATree.all, allP, Bool.not_eq_true', Bool.not_eq_false', decide_eq_true_eq, decide_eq_false_iff_not]
  (repeat' with_reducible first | refine And.intro ?_ ?_ | intro _)
  all_goals first | omega | decide | exact avLe0_bool (by simp [vsame, *])

theorem veach_ok (a b : V3 × Nat) (K : Nat) (h : allP (vNeed a b)) : FOK P vector_each K [kV.make a, kV.make b, .func rational_Add []] [] (pres (ovAdd a b) []) ∧ FOK P vector_each K [kV.make a, kV.make b, .func rational_Sub []] [] (pres (ovSub a b) []) ∧ FOK P vector_each K [kV.make a, kV.make b, .func rational_Mul []] [] (pres (ovMul a b) []) := by
  obtain ⟨u, n⟩ := a
  obtain ⟨v, m⟩ := b
  obtain ⟨h1, h2⟩ : n < 2 ^ 38 ∧ m < 2 ^ 38 := h
  refine ⟨?_, ?_, ?_⟩
  · refine fok_tree hT GR0_ok hm is_veach rfl (of_decide_eq_true (by kernel_rfl)) rfl 60 vadd_end (fun _ => ?_) K []
    simp only [ATree.all, allP]
    (repeat' with_reducible refine And.intro ?_ ?_)
    all_goals first | omega | decide | exact avLe0.refl _
  · refine fok_tree hT GR0_ok hm is_veach rfl (of_decide_eq_true (by kernel_rfl)) rfl 60 vsub_end (fun _ => ?_) K []
    simp only [ATree.all, allP]
    (repeat' with_reducible refine And.intro ?_ ?_)
    all_goals first | omega | decide | exact avLe0.refl _
  · refine fok_tree hT GR0_ok hm is_veach rfl (of_decide_eq_true (by kernel_rfl)) rfl 60 vmul_end (fun _ => ?_) K []
    simp only [ATree.all, allP]
    (repeat' with_reducible refine And.intro ?_ ?_)
    all_goals first | omega | decide | exact avLe0.refl _
def s_veach : Spec := pureSpec fun l => match l with
  | [x, y, .func f []] => match kV.read x, kV.read y with
    | some (a, p), some (b, q) => bif f == rational_Add then some (pres (ovAdd a b) (p ++ (q ++ vNeed a b))) else bif f == rational_Sub then some (pres (ovSub a b) (p ++ (q ++ vNeed a b))) else bif f == rational_Mul then some (pres (ovMul a b) (p ++ (q ++ vNeed a b))) else none
    | _, _ => none
  | _ => none
def GV1 : Contracts := [(vector_each, s_veach), (vector_Same, sp2 kV kV ovSame vNeed)]
theorem s_veach_ok : ∀ K args pre r, s_veach K args pre = some r → FOK P vector_each K args pre r := by
  refine pureSpec_ok fun K args r hk hs _ => ?_
  split at hs
  · rename_i x y f
    split at hs
    · rename_i a p b q ha hb
      have hle : allP (p ++ (q ++ vNeed a b)) → allP (vNeed a b) ∧ avLes0 [x, y, .func f []] [kV.make a, kV.make b, .func f []] := fun hn => ⟨(allP_append.1 (allP_append.1 hn).2).2, kV.ok ha (allP_append.1 hn).1, kV.ok hb (allP_append.1 (allP_append.1 hn).2).1, .refl _, trivial⟩
      simp only [cond_eq_ite, beq_iff_eq] at hs
      split at hs
      · rename_i hf
        subst hf
        simp only [Option.some.injEq] at hs
        subst hs
        exact fun hn => fok_weak (veach_ok a b K (hle hn).1).1 hk (hle hn).2 [] trivial
      · split at hs
        · rename_i hf
          subst hf
          simp only [Option.some.injEq] at hs
          subst hs
          exact fun hn => fok_weak (veach_ok a b K (hle hn).1).2.1 hk (hle hn).2 [] trivial
        · split at hs
          · rename_i hf
            subst hf
            simp only [Option.some.injEq] at hs
            subst hs
            exact fun hn => fok_weak (veach_ok a b K (hle hn).1).2.2 hk (hle hn).2 [] trivial
          · simp at hs
    · simp at hs
  · simp at hs
theorem GV1_ok : GOK P GV1 := gok_cons s_veach_ok (gok_cons (sp2_ok vSame_ok) gok_nil)
theorem is_vAdd : FnIs P vector_Add fn_vector_Add (codeOf fn_vector_Add) := fnIs get_vector_Add (by kernel_rfl) (by kernel_rfl) (by kernel_rfl)
theorem is_vSub : FnIs P vector_Sub fn_vector_Sub (codeOf fn_vector_Sub) := fnIs get_vector_Sub (by kernel_rfl) (by kernel_rfl) (by kernel_rfl)
theorem is_vScale : FnIs P vector_Scale fn_vector_Scale (codeOf fn_vector_Scale) := fnIs get_vector_Scale (by kernel_rfl) (by kernel_rfl) (by kernel_rfl)
theorem is_vZero : FnIs P vector_Zero fn_vector_Zero (codeOf fn_vector_Zero) := fnIs get_vector_Zero (by kernel_rfl) (by kernel_rfl) (by kernel_rfl)
theorem vAdd_end {u v : V3} {n m : Nat} : funT T GV1 [] 60 fn_vector_Add (codeOf fn_vector_Add) ⟨zipSlots 0 [vA u n, vA v m], [], 0⟩ =
    some (ATree.must [(0 : Nat) < 1, (0 : Nat) < 1, n ≤ n, n ≤ n, m ≤ m, m ≤ m, n < 2 ^ 38, m < 2 ^ 38, (0 : Nat) < 1] (ATree.must [(0 : Nat) < 1] (ATree.leaf AEx.ret [agg [rat (u.x + v.x) (n + m + 1), rat (u.y + v.y) (n + m + 1), rat (u.z + v.z) (n + m + 1)]]))) := by kernel_rfl
theorem vSub_end {u v : V3} {n m : Nat} : funT T GV1 [] 60 fn_vector_Sub (codeOf fn_vector_Sub) ⟨zipSlots 0 [vA u n, vA v m], [], 0⟩ =
    some (ATree.must [(0 : Nat) < 1, (0 : Nat) < 1, n ≤ n, n ≤ n, m ≤ m, m ≤ m, n < 2 ^ 38, m < 2 ^ 38, (0 : Nat) < 1] (ATree.must [(0 : Nat) < 1] (ATree.leaf AEx.ret [agg [rat (u.x - v.x) (n + m + 1), rat (u.y - v.y) (n + m + 1), rat (u.z - v.z) (n + m + 1)]]))) := by kernel_rfl
theorem vScale_end {q : Rat} {v : V3} {n m : Nat} : funT T GV1 [] 60 fn_vector_Scale (codeOf fn_vector_Scale) ⟨zipSlots 0 [rA q n, vA v m], [], 0⟩ =
    some (ATree.must [(0 : Nat) < 1, (0 : Nat) < 1, (0 : Nat) < 1, (0 : Nat) < 1, n ≤ n, n ≤ n, m ≤ m, m ≤ m, n < 2 ^ 38, m < 2 ^ 38, (0 : Nat) < 1] (ATree.must [(0 : Nat) < 1] (ATree.leaf AEx.ret [agg [rat (q * v.x) (n + m), rat (q * v.y) (n + m), rat (q * v.z) (n + m)]]))) := by kernel_rfl
theorem vZero_end {u : V3} {n : Nat} : funT T GV1 [] 60 fn_vector_Zero (codeOf fn_vector_Zero) ⟨zipSlots 0 [vA u n], [], 0⟩ =
    some (ATree.must [(0 : Nat) < 1, n ≤ n, n ≤ n, (1 : Nat) ≤ 1, (1 : Nat) ≤ 1, n < 2 ^ 38, (1 : Nat) < 2 ^ 38] (ATree.leaf AEx.ret [AV.bool (vsame { x := u.x, y := u.y, z := u.z } { x := 0, y := 0, z := 0 })])) := by kernel_rfl
theorem vAdd_ok (a b : V3 × Nat) (K : Nat) (h : allP (vNeed a b)) : FOK P vector_Add K [kV.make a, kV.make b] [] (pres (ovAdd a b) []) := by
  obtain ⟨u, n⟩ := a
  obtain ⟨v, m⟩ := b
  obtain ⟨h1, h2⟩ : n < 2 ^ 38 ∧ m < 2 ^ 38 := h
  refine fok_tree hT GV1_ok hm is_vAdd rfl (of_decide_eq_true (by kernel_rfl)) rfl 60 vAdd_end (fun _ => ?_) K []
  simp only [ATree.all, allP, Nat.max_self]
  (repeat' with_reducible refine And.intro ?_ ?_)
  all_goals first | omega | decide | exact avLe0.refl _
theorem vSub_ok (a b : V3 × Nat) (K : Nat) (h : allP (vNeed a b)) : FOK P vector_Sub K [kV.make a, kV.make b] [] (pres (ovSub a b) []) := by
  obtain ⟨u, n⟩ := a
  obtain ⟨v, m⟩ := b
  obtain ⟨h1, h2⟩ : n < 2 ^ 38 ∧ m < 2 ^ 38 := h
  refine fok_tree hT GV1_ok hm is_vSub rfl (of_decide_eq_true (by kernel_rfl)) rfl 60 vSub_end (fun _ => ?_) K []
  simp only [ATree.all, allP, Nat.max_self]
  (repeat' with_reducible refine And.intro ?_ ?_)
  all_goals first | omega | decide | exact avLe0.refl _
theorem vScale_ok (a : Rat × Nat) (b : V3 × Nat) (K : Nat) (h : allP (vNeed a b)) : FOK P vector_Scale K [kR.make a, kV.make b] [] (pres (ovScale a b) []) := by
  obtain ⟨u, n⟩ := a
  obtain ⟨v, m⟩ := b
  obtain ⟨h1, h2⟩ : n < 2 ^ 38 ∧ m < 2 ^ 38 := h
  refine fok_tree hT GV1_ok hm is_vScale rfl (of_decide_eq_true (by kernel_rfl)) rfl 60 vScale_end (fun _ => ?_) K []
  simp only [ATree.all, allP, Nat.max_self]
  (repeat' with_reducible refine And.intro ?_ ?_)
  all_goals first | omega | decide | exact avLe0.refl _
theorem vZero_ok (a : V3 × Nat) (K : Nat) (h : allP [a.2 < 2 ^ 38]) : FOK P vector_Zero K [kV.make a] [] (pres (ovZero a) []) := by
  obtain ⟨u, n⟩ := a
  have h1 : n < 2 ^ 38 := h
  refine fok_tree hT GV1_ok hm is_vZero rfl (of_decide_eq_true (by kernel_rfl)) rfl 60 vZero_end (fun _ => ?_) K []
  simp only [ATree.all, allP, Nat.max_self]
  (repeat' with_reducible refine And.intro ?_ ?_)
  all_goals first | omega | decide | exact avLe0.refl _
end Go.Am.B
