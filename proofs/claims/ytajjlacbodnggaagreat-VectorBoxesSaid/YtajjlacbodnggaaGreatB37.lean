/- ref04: Same, Add, Sub, Scale, Dot, Cross, Unit. -/
import Derived.Test.YtajjlacbodnggaaGreatB36
set_option linter.unusedVariables false
namespace Go.Am.B
open Go Go.Am.N AV

theorem is_gSame : FnIs P ref04_Same fn_ref04_Same (codeOf fn_ref04_Same) := fnIs get_ref04_Same (by kernel_rfl) (by kernel_rfl) (by kernel_rfl)
theorem is_gAdd : FnIs P ref04_Add fn_ref04_Add (codeOf fn_ref04_Add) := fnIs get_ref04_Add (by kernel_rfl) (by kernel_rfl) (by kernel_rfl)
theorem is_gSub : FnIs P ref04_Sub fn_ref04_Sub (codeOf fn_ref04_Sub) := fnIs get_ref04_Sub (by kernel_rfl) (by kernel_rfl) (by kernel_rfl)
theorem is_gScale : FnIs P ref04_Scale fn_ref04_Scale (codeOf fn_ref04_Scale) := fnIs get_ref04_Scale (by kernel_rfl) (by kernel_rfl) (by kernel_rfl)
theorem is_gDot : FnIs P ref04_Dot fn_ref04_Dot (codeOf fn_ref04_Dot) := fnIs get_ref04_Dot (by kernel_rfl) (by kernel_rfl) (by kernel_rfl)
theorem is_gCross : FnIs P ref04_Cross fn_ref04_Cross (codeOf fn_ref04_Cross) := fnIs get_ref04_Cross (by kernel_rfl) (by kernel_rfl) (by kernel_rfl)
theorem is_gUnit : FnIs P ref04_Unit fn_ref04_Unit (codeOf fn_ref04_Unit) := fnIs get_ref04_Unit (by kernel_rfl) (by kernel_rfl) (by kernel_rfl)
theorem gSame_end {u v : V3} {n m : Nat} : funT T GE0 [10, 17] 60 fn_ref04_Same (codeOf fn_ref04_Same) ⟨zipSlots 0 [vA u n, vA v m], [], 0⟩ =
    some (ATree.fork (decide (u.x = v.x)) (ATree.fork (bif true then decide (u.y = v.y) else false) (ATree.must [(0 : Int) ≤ (0 : Int) ∧ (0 : Int) < (↑(3 : Nat) : Int), (0 : Nat) < 1, (0 : Int) ≤ (0 : Int) ∧ (0 : Int) < (↑(3 : Nat) : Int), (0 : Nat) < 1, n < 2 ^ 41, m < 2 ^ 41, decide (u.x = v.x) = true, (0 : Int) ≤ (1 : Int) ∧ (1 : Int) < (↑(3 : Nat) : Int), (0 : Nat) < 1, (0 : Int) ≤ (1 : Int) ∧ (1 : Int) < (↑(3 : Nat) : Int), (0 : Nat) < 1, n < 2 ^ 41, m < 2 ^ 41, (bif true then decide (u.y = v.y) else false) = true, (0 : Int) ≤ (2 : Int) ∧ (2 : Int) < (↑(3 : Nat) : Int), (0 : Nat) < 1, (0 : Int) ≤ (2 : Int) ∧ (2 : Int) < (↑(3 : Nat) : Int), (0 : Nat) < 1, n < 2 ^ 41, m < 2 ^ 41] (ATree.leaf AEx.ret [AV.bool (bif true then decide (u.z = v.z) else false)])) (ATree.must [(0 : Int) ≤ (0 : Int) ∧ (0 : Int) < (↑(3 : Nat) : Int), (0 : Nat) < 1, (0 : Int) ≤ (0 : Int) ∧ (0 : Int) < (↑(3 : Nat) : Int), (0 : Nat) < 1, n < 2 ^ 41, m < 2 ^ 41, decide (u.x = v.x) = true, (0 : Int) ≤ (1 : Int) ∧ (1 : Int) < (↑(3 : Nat) : Int), (0 : Nat) < 1, (0 : Int) ≤ (1 : Int) ∧ (1 : Int) < (↑(3 : Nat) : Int), (0 : Nat) < 1, n < 2 ^ 41, m < 2 ^ 41, (bif true then decide (u.y = v.y) else false) = false] (ATree.leaf AEx.ret [AV.bool false]))) (ATree.fork false (ATree.must [(0 : Int) ≤ (0 : Int) ∧ (0 : Int) < (↑(3 : Nat) : Int), (0 : Nat) < 1, (0 : Int) ≤ (0 : Int) ∧ (0 : Int) < (↑(3 : Nat) : Int), (0 : Nat) < 1, n < 2 ^ 41, m < 2 ^ 41, decide (u.x = v.x) = false, false = true, (0 : Int) ≤ (2 : Int) ∧ (2 : Int) < (↑(3 : Nat) : Int), (0 : Nat) < 1, (0 : Int) ≤ (2 : Int) ∧ (2 : Int) < (↑(3 : Nat) : Int), (0 : Nat) < 1, n < 2 ^ 41, m < 2 ^ 41] (ATree.leaf AEx.ret [AV.bool (bif true then decide (u.z = v.z) else false)])) (ATree.must [(0 : Int) ≤ (0 : Int) ∧ (0 : Int) < (↑(3 : Nat) : Int), (0 : Nat) < 1, (0 : Int) ≤ (0 : Int) ∧ (0 : Int) < (↑(3 : Nat) : Int), (0 : Nat) < 1, n < 2 ^ 41, m < 2 ^ 41, decide (u.x = v.x) = false, false = false] (ATree.leaf AEx.ret [AV.bool false])))) := by kernel_rfl
theorem gAdd_end {u v : V3} {n m : Nat} : funT T GE0 [] 60 fn_ref04_Add (codeOf fn_ref04_Add) ⟨zipSlots 0 [vA u n, vA v m], [], 0⟩ =
    some (ATree.must [(0 : Int) ≤ (0 : Int) ∧ (0 : Int) < (↑(3 : Nat) : Int), (0 : Nat) < 1, (0 : Int) ≤ (0 : Int) ∧ (0 : Int) < (↑(3 : Nat) : Int), (0 : Nat) < 1, n < 2 ^ 41, m < 2 ^ 41, (0 : Int) ≤ (0 : Int) ∧ (0 : Int) < (↑(3 : Nat) : Int), (0 : Nat) < 1] (ATree.must [(0 : Int) ≤ IntKind.i64.wrap ((0 : Int) + (1 : Int)) ∧ IntKind.i64.wrap ((0 : Int) + (1 : Int)) < (↑(3 : Nat) : Int), (0 : Nat) < 1, (0 : Int) ≤ IntKind.i64.wrap ((0 : Int) + (1 : Int)) ∧ IntKind.i64.wrap ((0 : Int) + (1 : Int)) < (↑(3 : Nat) : Int), (0 : Nat) < 1, n < 2 ^ 41, m < 2 ^ 41, (0 : Int) ≤ IntKind.i64.wrap ((0 : Int) + (1 : Int)) ∧ IntKind.i64.wrap ((0 : Int) + (1 : Int)) < (↑(3 : Nat) : Int), (0 : Nat) < 1] (ATree.must [(0 : Int) ≤ IntKind.i64.wrap (IntKind.i64.wrap ((0 : Int) + (1 : Int)) + (1 : Int)) ∧ IntKind.i64.wrap (IntKind.i64.wrap ((0 : Int) + (1 : Int)) + (1 : Int)) < (↑(3 : Nat) : Int), (0 : Nat) < 1, (0 : Int) ≤ IntKind.i64.wrap (IntKind.i64.wrap ((0 : Int) + (1 : Int)) + (1 : Int)) ∧ IntKind.i64.wrap (IntKind.i64.wrap ((0 : Int) + (1 : Int)) + (1 : Int)) < (↑(3 : Nat) : Int), (0 : Nat) < 1, n < 2 ^ 41, m < 2 ^ 41, (0 : Int) ≤ IntKind.i64.wrap (IntKind.i64.wrap ((0 : Int) + (1 : Int)) + (1 : Int)) ∧ IntKind.i64.wrap (IntKind.i64.wrap ((0 : Int) + (1 : Int)) + (1 : Int)) < (↑(3 : Nat) : Int), (0 : Nat) < 1] (ATree.must [(0 : Nat) < 1, (0 : Nat) < 1] (ATree.must [(0 : Nat) < 1] (ATree.leaf AEx.ret [agg [rat (u.x + v.x) (n + m + 1), rat (u.y + v.y) (n + m + 1), rat (u.z + v.z) (n + m + 1)]])))))) := by kernel_rfl
theorem gSub_end {u v : V3} {n m : Nat} : funT T GE0 [] 60 fn_ref04_Sub (codeOf fn_ref04_Sub) ⟨zipSlots 0 [vA u n, vA v m], [], 0⟩ =
    some (ATree.must [(0 : Int) ≤ (0 : Int) ∧ (0 : Int) < (↑(3 : Nat) : Int), (0 : Nat) < 1, (0 : Int) ≤ (0 : Int) ∧ (0 : Int) < (↑(3 : Nat) : Int), (0 : Nat) < 1, n < 2 ^ 41, m < 2 ^ 41, (0 : Int) ≤ (0 : Int) ∧ (0 : Int) < (↑(3 : Nat) : Int), (0 : Nat) < 1] (ATree.must [(0 : Int) ≤ IntKind.i64.wrap ((0 : Int) + (1 : Int)) ∧ IntKind.i64.wrap ((0 : Int) + (1 : Int)) < (↑(3 : Nat) : Int), (0 : Nat) < 1, (0 : Int) ≤ IntKind.i64.wrap ((0 : Int) + (1 : Int)) ∧ IntKind.i64.wrap ((0 : Int) + (1 : Int)) < (↑(3 : Nat) : Int), (0 : Nat) < 1, n < 2 ^ 41, m < 2 ^ 41, (0 : Int) ≤ IntKind.i64.wrap ((0 : Int) + (1 : Int)) ∧ IntKind.i64.wrap ((0 : Int) + (1 : Int)) < (↑(3 : Nat) : Int), (0 : Nat) < 1] (ATree.must [(0 : Int) ≤ IntKind.i64.wrap (IntKind.i64.wrap ((0 : Int) + (1 : Int)) + (1 : Int)) ∧ IntKind.i64.wrap (IntKind.i64.wrap ((0 : Int) + (1 : Int)) + (1 : Int)) < (↑(3 : Nat) : Int), (0 : Nat) < 1, (0 : Int) ≤ IntKind.i64.wrap (IntKind.i64.wrap ((0 : Int) + (1 : Int)) + (1 : Int)) ∧ IntKind.i64.wrap (IntKind.i64.wrap ((0 : Int) + (1 : Int)) + (1 : Int)) < (↑(3 : Nat) : Int), (0 : Nat) < 1, n < 2 ^ 41, m < 2 ^ 41, (0 : Int) ≤ IntKind.i64.wrap (IntKind.i64.wrap ((0 : Int) + (1 : Int)) + (1 : Int)) ∧ IntKind.i64.wrap (IntKind.i64.wrap ((0 : Int) + (1 : Int)) + (1 : Int)) < (↑(3 : Nat) : Int), (0 : Nat) < 1] (ATree.must [(0 : Nat) < 1, (0 : Nat) < 1] (ATree.must [(0 : Nat) < 1] (ATree.leaf AEx.ret [agg [rat (u.x - v.x) (n + m + 1), rat (u.y - v.y) (n + m + 1), rat (u.z - v.z) (n + m + 1)]])))))) := by kernel_rfl
theorem gDot_end {u v : V3} {n m : Nat} : funT T GE0 [] 60 fn_ref04_Dot (codeOf fn_ref04_Dot) ⟨zipSlots 0 [vA u n, vA v m], [], 0⟩ =
    some (ATree.must [(0 : Nat) < 1, (0 : Int) ≤ (0 : Int) ∧ (0 : Int) < (↑(3 : Nat) : Int), (0 : Nat) < 1, (0 : Int) ≤ (0 : Int) ∧ (0 : Int) < (↑(3 : Nat) : Int), (0 : Nat) < 1, n < 2 ^ 41, m < 2 ^ 41, (1 : Nat) < 2 ^ 41, n + m < 2 ^ 41, (0 : Nat) < 1] (ATree.must [(0 : Nat) < 1, (0 : Int) ≤ IntKind.i64.wrap ((0 : Int) + (1 : Int)) ∧ IntKind.i64.wrap ((0 : Int) + (1 : Int)) < (↑(3 : Nat) : Int), (0 : Nat) < 1, (0 : Int) ≤ IntKind.i64.wrap ((0 : Int) + (1 : Int)) ∧ IntKind.i64.wrap ((0 : Int) + (1 : Int)) < (↑(3 : Nat) : Int), (0 : Nat) < 1, n < 2 ^ 41, m < 2 ^ 41, (1 : Nat) + (n + m) + 1 < 2 ^ 41, n + m < 2 ^ 41, (0 : Nat) < 1] (ATree.must [(0 : Nat) < 1, (0 : Int) ≤ IntKind.i64.wrap (IntKind.i64.wrap ((0 : Int) + (1 : Int)) + (1 : Int)) ∧ IntKind.i64.wrap (IntKind.i64.wrap ((0 : Int) + (1 : Int)) + (1 : Int)) < (↑(3 : Nat) : Int), (0 : Nat) < 1, (0 : Int) ≤ IntKind.i64.wrap (IntKind.i64.wrap ((0 : Int) + (1 : Int)) + (1 : Int)) ∧ IntKind.i64.wrap (IntKind.i64.wrap ((0 : Int) + (1 : Int)) + (1 : Int)) < (↑(3 : Nat) : Int), (0 : Nat) < 1, n < 2 ^ 41, m < 2 ^ 41, (1 : Nat) + (n + m) + 1 + (n + m) + 1 < 2 ^ 41, n + m < 2 ^ 41, (0 : Nat) < 1] (ATree.must [(0 : Nat) < 1, (0 : Nat) < 1] (ATree.must [(0 : Nat) < 1] (ATree.leaf AEx.ret [rat ((0 : Rat) + u.x * v.x + u.y * v.y + u.z * v.z) ((1 : Nat) + (n + m) + 1 + (n + m) + 1 + (n + m) + 1)])))))) := by kernel_rfl
theorem gCross_end {u v : V3} {n m : Nat} : funT T GE0 [] 60 fn_ref04_Cross (codeOf fn_ref04_Cross) ⟨zipSlots 0 [vA u n, vA v m], [], 0⟩ =
    some (ATree.must [(3 : Int) ≠ (0 : Int), (3 : Int) ≠ (0 : Int)] (ATree.must [(0 : Int) ≤ (IntKind.i64.wrap ((0 : Int) + (1 : Int))).tmod (3 : Int) ∧ (IntKind.i64.wrap ((0 : Int) + (1 : Int))).tmod (3 : Int) < (↑(3 : Nat) : Int), (0 : Nat) < 1, (0 : Int) ≤ (IntKind.i64.wrap ((0 : Int) + (2 : Int))).tmod (3 : Int) ∧ (IntKind.i64.wrap ((0 : Int) + (2 : Int))).tmod (3 : Int) < (↑(3 : Nat) : Int), (0 : Nat) < 1, n < 2 ^ 41, m < 2 ^ 41, (0 : Int) ≤ (IntKind.i64.wrap ((0 : Int) + (2 : Int))).tmod (3 : Int) ∧ (IntKind.i64.wrap ((0 : Int) + (2 : Int))).tmod (3 : Int) < (↑(3 : Nat) : Int), (0 : Nat) < 1, (0 : Int) ≤ (IntKind.i64.wrap ((0 : Int) + (1 : Int))).tmod (3 : Int) ∧ (IntKind.i64.wrap ((0 : Int) + (1 : Int))).tmod (3 : Int) < (↑(3 : Nat) : Int), (0 : Nat) < 1, n < 2 ^ 41, m < 2 ^ 41, n + m < 2 ^ 41, n + m < 2 ^ 41, (0 : Int) ≤ (0 : Int) ∧ (0 : Int) < (↑(3 : Nat) : Int), (0 : Nat) < 1] (ATree.must [(3 : Int) ≠ (0 : Int), (3 : Int) ≠ (0 : Int)] (ATree.must [(0 : Int) ≤ (IntKind.i64.wrap (IntKind.i64.wrap ((0 : Int) + (1 : Int)) + (1 : Int))).tmod (3 : Int) ∧ (IntKind.i64.wrap (IntKind.i64.wrap ((0 : Int) + (1 : Int)) + (1 : Int))).tmod (3 : Int) < (↑(3 : Nat) : Int), (0 : Nat) < 1, (0 : Int) ≤ (IntKind.i64.wrap (IntKind.i64.wrap ((0 : Int) + (1 : Int)) + (2 : Int))).tmod (3 : Int) ∧ (IntKind.i64.wrap (IntKind.i64.wrap ((0 : Int) + (1 : Int)) + (2 : Int))).tmod (3 : Int) < (↑(3 : Nat) : Int), (0 : Nat) < 1, n < 2 ^ 41, m < 2 ^ 41, (0 : Int) ≤ (IntKind.i64.wrap (IntKind.i64.wrap ((0 : Int) + (1 : Int)) + (2 : Int))).tmod (3 : Int) ∧ (IntKind.i64.wrap (IntKind.i64.wrap ((0 : Int) + (1 : Int)) + (2 : Int))).tmod (3 : Int) < (↑(3 : Nat) : Int), (0 : Nat) < 1, (0 : Int) ≤ (IntKind.i64.wrap (IntKind.i64.wrap ((0 : Int) + (1 : Int)) + (1 : Int))).tmod (3 : Int) ∧ (IntKind.i64.wrap (IntKind.i64.wrap ((0 : Int) + (1 : Int)) + (1 : Int))).tmod (3 : Int) < (↑(3 : Nat) : Int), (0 : Nat) < 1, n < 2 ^ 41, m < 2 ^ 41, n + m < 2 ^ 41, n + m < 2 ^ 41, (0 : Int) ≤ IntKind.i64.wrap ((0 : Int) + (1 : Int)) ∧ IntKind.i64.wrap ((0 : Int) + (1 : Int)) < (↑(3 : Nat) : Int), (0 : Nat) < 1] (ATree.must [(3 : Int) ≠ (0 : Int), (3 : Int) ≠ (0 : Int)] (ATree.must [(0 : Int) ≤ (IntKind.i64.wrap (IntKind.i64.wrap (IntKind.i64.wrap ((0 : Int) + (1 : Int)) + (1 : Int)) + (1 : Int))).tmod (3 : Int) ∧ (IntKind.i64.wrap (IntKind.i64.wrap (IntKind.i64.wrap ((0 : Int) + (1 : Int)) + (1 : Int)) + (1 : Int))).tmod (3 : Int) < (↑(3 : Nat) : Int), (0 : Nat) < 1, (0 : Int) ≤ (IntKind.i64.wrap (IntKind.i64.wrap (IntKind.i64.wrap ((0 : Int) + (1 : Int)) + (1 : Int)) + (2 : Int))).tmod (3 : Int) ∧ (IntKind.i64.wrap (IntKind.i64.wrap (IntKind.i64.wrap ((0 : Int) + (1 : Int)) + (1 : Int)) + (2 : Int))).tmod (3 : Int) < (↑(3 : Nat) : Int), (0 : Nat) < 1, n < 2 ^ 41, m < 2 ^ 41, (0 : Int) ≤ (IntKind.i64.wrap (IntKind.i64.wrap (IntKind.i64.wrap ((0 : Int) + (1 : Int)) + (1 : Int)) + (2 : Int))).tmod (3 : Int) ∧ (IntKind.i64.wrap (IntKind.i64.wrap (IntKind.i64.wrap ((0 : Int) + (1 : Int)) + (1 : Int)) + (2 : Int))).tmod (3 : Int) < (↑(3 : Nat) : Int), (0 : Nat) < 1, (0 : Int) ≤ (IntKind.i64.wrap (IntKind.i64.wrap (IntKind.i64.wrap ((0 : Int) + (1 : Int)) + (1 : Int)) + (1 : Int))).tmod (3 : Int) ∧ (IntKind.i64.wrap (IntKind.i64.wrap (IntKind.i64.wrap ((0 : Int) + (1 : Int)) + (1 : Int)) + (1 : Int))).tmod (3 : Int) < (↑(3 : Nat) : Int), (0 : Nat) < 1, n < 2 ^ 41, m < 2 ^ 41, n + m < 2 ^ 41, n + m < 2 ^ 41, (0 : Int) ≤ IntKind.i64.wrap (IntKind.i64.wrap ((0 : Int) + (1 : Int)) + (1 : Int)) ∧ IntKind.i64.wrap (IntKind.i64.wrap ((0 : Int) + (1 : Int)) + (1 : Int)) < (↑(3 : Nat) : Int), (0 : Nat) < 1] (ATree.must [(0 : Nat) < 1, (0 : Nat) < 1] (ATree.must [(0 : Nat) < 1] (ATree.leaf AEx.ret [agg [rat (u.y * v.z - u.z * v.y) (n + m + (n + m) + 1), rat (u.z * v.x - u.x * v.z) (n + m + (n + m) + 1), rat (u.x * v.y - u.y * v.x) (n + m + (n + m) + 1)]]))))))))) := by kernel_rfl
theorem gScale_end {q : Rat} {v : V3} {n m : Nat} : funT T GE0 [] 60 fn_ref04_Scale (codeOf fn_ref04_Scale) ⟨zipSlots 0 [rA q n, vA v m], [], 0⟩ =
    some (ATree.must [(0 : Nat) < 1, (0 : Int) ≤ (0 : Int) ∧ (0 : Int) < (↑(3 : Nat) : Int), (0 : Nat) < 1, n < 2 ^ 41, m < 2 ^ 41, (0 : Int) ≤ (0 : Int) ∧ (0 : Int) < (↑(3 : Nat) : Int), (0 : Nat) < 1] (ATree.must [(0 : Nat) < 1, (0 : Int) ≤ IntKind.i64.wrap ((0 : Int) + (1 : Int)) ∧ IntKind.i64.wrap ((0 : Int) + (1 : Int)) < (↑(3 : Nat) : Int), (0 : Nat) < 1, n < 2 ^ 41, m < 2 ^ 41, (0 : Int) ≤ IntKind.i64.wrap ((0 : Int) + (1 : Int)) ∧ IntKind.i64.wrap ((0 : Int) + (1 : Int)) < (↑(3 : Nat) : Int), (0 : Nat) < 1] (ATree.must [(0 : Nat) < 1, (0 : Int) ≤ IntKind.i64.wrap (IntKind.i64.wrap ((0 : Int) + (1 : Int)) + (1 : Int)) ∧ IntKind.i64.wrap (IntKind.i64.wrap ((0 : Int) + (1 : Int)) + (1 : Int)) < (↑(3 : Nat) : Int), (0 : Nat) < 1, n < 2 ^ 41, m < 2 ^ 41, (0 : Int) ≤ IntKind.i64.wrap (IntKind.i64.wrap ((0 : Int) + (1 : Int)) + (1 : Int)) ∧ IntKind.i64.wrap (IntKind.i64.wrap ((0 : Int) + (1 : Int)) + (1 : Int)) < (↑(3 : Nat) : Int), (0 : Nat) < 1] (ATree.must [(0 : Nat) < 1, (0 : Nat) < 1] (ATree.must [(0 : Nat) < 1] (ATree.leaf AEx.ret [agg [rat (q * v.x) (n + m), rat (q * v.y) (n + m), rat (q * v.z) (n + m)]])))))) := by kernel_rfl
theorem gUnit0_end : funT T GE0 [] 60 fn_ref04_Unit (codeOf fn_ref04_Unit) ⟨zipSlots 0 [.int .i64 0], [], 0⟩ =
    some (ATree.must [-(2 : Int) ^ 63 ≤ (1 : Int), (1 : Int) < (2 : Int) ^ 63, (0 : Int) ≤ (0 : Int) ∧ (0 : Int) < (↑(3 : Nat) : Int), (0 : Nat) < 1] (ATree.must [(0 : Nat) < 1, (0 : Nat) < 1] (ATree.must [(0 : Nat) < 1] (ATree.leaf AEx.ret [agg [rat (↑(1 : Int) : Rat) 1, rat 0 1, rat 0 1]])))) := by kernel_rfl
theorem gUnit1_end : funT T GE0 [] 60 fn_ref04_Unit (codeOf fn_ref04_Unit) ⟨zipSlots 0 [.int .i64 1], [], 0⟩ =
    some (ATree.must [-(2 : Int) ^ 63 ≤ (1 : Int), (1 : Int) < (2 : Int) ^ 63, (0 : Int) ≤ (1 : Int) ∧ (1 : Int) < (↑(3 : Nat) : Int), (0 : Nat) < 1] (ATree.must [(0 : Nat) < 1, (0 : Nat) < 1] (ATree.must [(0 : Nat) < 1] (ATree.leaf AEx.ret [agg [rat 0 1, rat (↑(1 : Int) : Rat) 1, rat 0 1]])))) := by kernel_rfl
theorem gUnit2_end : funT T GE0 [] 60 fn_ref04_Unit (codeOf fn_ref04_Unit) ⟨zipSlots 0 [.int .i64 2], [], 0⟩ =
    some (ATree.must [-(2 : Int) ^ 63 ≤ (1 : Int), (1 : Int) < (2 : Int) ^ 63, (0 : Int) ≤ (2 : Int) ∧ (2 : Int) < (↑(3 : Nat) : Int), (0 : Nat) < 1] (ATree.must [(0 : Nat) < 1, (0 : Nat) < 1] (ATree.must [(0 : Nat) < 1] (ATree.leaf AEx.ret [agg [rat 0 1, rat 0 1, rat (↑(1 : Int) : Rat) 1]])))) := by kernel_rfl
theorem gSame_ok (a b : V3 × Nat) (K : Nat) (h : allP (vNeed a b)) : FOK P ref04_Same K [kV.make a, kV.make b] [] (pres (ovSame a b) []) := by
  obtain ⟨u, n⟩ := a
  obtain ⟨v, m⟩ := b
  obtain ⟨h1, h2⟩ : n < 2 ^ 38 ∧ m < 2 ^ 38 := h
  refine fok_tree hT GE0_ok hm is_gSame rfl (of_decide_eq_true (by kernel_rfl)) rfl 60 gSame_end (fun _ => ?_) K []
  simp only [ATree.all, allP, decide_eq_true_eq, decide_eq_false_iff_not]
  (repeat' with_reducible first | refine And.intro ?_ ?_ | intro _)
  all_goals first | omega | decide | assumption | skip
  all_goals first | exact avLe0_bool (by simp_all [vsame]) | simp_all
theorem gAdd_ok (a b : V3 × Nat) (K : Nat) (h : allP (vNeed a b)) : FOK P ref04_Add K [kV.make a, kV.make b] [] (pres (ovAdd a b) []) := by
  obtain ⟨u, n⟩ := a
  obtain ⟨v, m⟩ := b
  obtain ⟨h1, h2⟩ : n < 2 ^ 38 ∧ m < 2 ^ 38 := h
  refine fok_tree hT GE0_ok hm is_gAdd rfl (of_decide_eq_true (by kernel_rfl)) rfl 60 gAdd_end (fun _ => ?_) K []
  simp only [ATree.all, allP, Nat.max_self]
  (repeat' with_reducible refine And.intro ?_ ?_)
  all_goals first | omega | decide | exact avLe0.refl _
theorem gSub_ok (a b : V3 × Nat) (K : Nat) (h : allP (vNeed a b)) : FOK P ref04_Sub K [kV.make a, kV.make b] [] (pres (ovSub a b) []) := by
  obtain ⟨u, n⟩ := a
  obtain ⟨v, m⟩ := b
  obtain ⟨h1, h2⟩ : n < 2 ^ 38 ∧ m < 2 ^ 38 := h
  refine fok_tree hT GE0_ok hm is_gSub rfl (of_decide_eq_true (by kernel_rfl)) rfl 60 gSub_end (fun _ => ?_) K []
  simp only [ATree.all, allP, Nat.max_self]
  (repeat' with_reducible refine And.intro ?_ ?_)
  all_goals first | omega | decide | exact avLe0.refl _
theorem gScale_ok (a : Rat × Nat) (b : V3 × Nat) (K : Nat) (h : allP (vNeed a b)) : FOK P ref04_Scale K [kR.make a, kV.make b] [] (pres (ovScale a b) []) := by
  obtain ⟨u, n⟩ := a
  obtain ⟨v, m⟩ := b
  obtain ⟨h1, h2⟩ : n < 2 ^ 38 ∧ m < 2 ^ 38 := h
  refine fok_tree hT GE0_ok hm is_gScale rfl (of_decide_eq_true (by kernel_rfl)) rfl 60 gScale_end (fun _ => ?_) K []
  simp only [ATree.all, allP, Nat.max_self]
  (repeat' with_reducible refine And.intro ?_ ?_)
  all_goals first | omega | decide | exact avLe0.refl _
theorem gDot_ok (a b : V3 × Nat) (K : Nat) (h : allP (vNeed a b)) : FOK P ref04_Dot K [kV.make a, kV.make b] [] (pres (oDot a b) []) := by
  obtain ⟨u, n⟩ := a
  obtain ⟨v, m⟩ := b
  obtain ⟨h1, h2⟩ : n < 2 ^ 38 ∧ m < 2 ^ 38 := h
  refine fok_tree hT GE0_ok hm is_gDot rfl (of_decide_eq_true (by kernel_rfl)) rfl 60 gDot_end (fun _ => ?_) K []
  simp only [ATree.all, allP, Nat.max_self]
  (repeat' with_reducible refine And.intro ?_ ?_)
  all_goals first | omega | decide | exact avLe0_rat_up rfl (by simp only; omega)
theorem gCross_ok (a b : V3 × Nat) (K : Nat) (h : allP (vNeed a b)) : FOK P ref04_Cross K [kV.make a, kV.make b] [] (pres (oCross a b) []) := by
  obtain ⟨u, n⟩ := a
  obtain ⟨v, m⟩ := b
  obtain ⟨h1, h2⟩ : n < 2 ^ 38 ∧ m < 2 ^ 38 := h
  refine fok_tree hT GE0_ok hm is_gCross rfl (of_decide_eq_true (by kernel_rfl)) rfl 60 gCross_end (fun _ => ?_) K []
  simp only [ATree.all, allP, Nat.max_self]
  (repeat' with_reducible refine And.intro ?_ ?_)
  all_goals first | omega | decide | exact avLe0.refl _

/-- The unit vectors. -/
def unitV (i : Int) : V3 := ⟨if i = 0 then 1 else 0, if i = 1 then 1 else 0, if i = 2 then 1 else 0⟩
theorem gUnit_ok (i : Int) (K : Nat) (h : allP [0 ≤ i, i < 3]) : FOK P ref04_Unit K [kI.make i] [] (pres (vA (unitV i) 1) []) := by
  obtain ⟨h1, h2⟩ : 0 ≤ i ∧ i < 3 := h
  have : i = 0 ∨ i = 1 ∨ i = 2 := by omega
  rcases this with rfl | rfl | rfl
  · refine fok_tree hT GE0_ok hm is_gUnit rfl (of_decide_eq_true (by kernel_rfl)) rfl 60 gUnit0_end (fun _ => ?_) K []
    simp only [ATree.all, allP]
    (repeat' with_reducible refine And.intro ?_ ?_)
    all_goals first | omega | decide | exact avLe0_of_eq (by simp [unitV])
  · refine fok_tree hT GE0_ok hm is_gUnit rfl (of_decide_eq_true (by kernel_rfl)) rfl 60 gUnit1_end (fun _ => ?_) K []
    simp only [ATree.all, allP]
    (repeat' with_reducible refine And.intro ?_ ?_)
    all_goals first | omega | decide | exact avLe0_of_eq (by simp [unitV])
  · refine fok_tree hT GE0_ok hm is_gUnit rfl (of_decide_eq_true (by kernel_rfl)) rfl 60 gUnit2_end (fun _ => ?_) K []
    simp only [ATree.all, allP]
    (repeat' with_reducible refine And.intro ?_ ?_)
    all_goals first | omega | decide | exact avLe0_of_eq (by simp [unitV])
end Go.Am.B
