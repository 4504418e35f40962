/- vector: Det, Orient2, Orient3, Through, Side, Volume, Turn, Apply, transposed, Identity. -/
import Derived.Test.YtajjlacbodnggaaGreatB35
set_option linter.unusedVariables false
namespace Go.Am.B
open Go Go.Am.N AV

theorem is_vDet : FnIs P vector_Det fn_vector_Det (codeOf fn_vector_Det) := fnIs get_vector_Det (by kernel_rfl) (by kernel_rfl) (by kernel_rfl)
theorem is_vOrient2 : FnIs P vector_Orient2 fn_vector_Orient2 (codeOf fn_vector_Orient2) := fnIs get_vector_Orient2 (by kernel_rfl) (by kernel_rfl) (by kernel_rfl)
theorem is_vThrough : FnIs P vector_Through fn_vector_Through (codeOf fn_vector_Through) := fnIs get_vector_Through (by kernel_rfl) (by kernel_rfl) (by kernel_rfl)
theorem is_vSide : FnIs P vector_Side fn_vector_Side (codeOf fn_vector_Side) := fnIs get_vector_Side (by kernel_rfl) (by kernel_rfl) (by kernel_rfl)
theorem is_vTurn : FnIs P vector_Turn fn_vector_Turn (codeOf fn_vector_Turn) := fnIs get_vector_Turn (by kernel_rfl) (by kernel_rfl) (by kernel_rfl)
theorem is_vtransposed : FnIs P vector_transposed fn_vector_transposed (codeOf fn_vector_transposed) := fnIs get_vector_transposed (by kernel_rfl) (by kernel_rfl) (by kernel_rfl)
theorem is_vIdentity : FnIs P vector_Identity fn_vector_Identity (codeOf fn_vector_Identity) := fnIs get_vector_Identity (by kernel_rfl) (by kernel_rfl) (by kernel_rfl)
def n1 {α : Type} (a : α × Nat) : List Prop := [a.2 < 2 ^ 38]
def GV2 : Contracts := (vector_Cross, sp2 kV kV oCross vNeed) :: (vector_Dot, sp2 kV kV oDot vNeed) :: (vector_Add, sp2 kV kV ovAdd vNeed) :: (vector_Sub, sp2 kV kV ovSub vNeed) :: (vector_Scale, sp2 kR kV ovScale vNeed) :: (vector_Zero, sp1 kV ovZero n1) :: (vector_Same, sp2 kV kV ovSame vNeed) :: GR0
theorem GV2_ok : GOK P GV2 := gok_cons (sp2_ok vCross_ok) (gok_cons (sp2_ok vDot_ok) (gok_cons (sp2_ok vAdd_ok) (gok_cons (sp2_ok vSub_ok) (gok_cons (sp2_ok vScale_ok) (gok_cons (sp1_ok vZero_ok) (gok_cons (sp2_ok vSame_ok) GR0_ok))))))
theorem vDet_end {u v w : V3} {n m k : Nat} : funT T GV2 [] 60 fn_vector_Det (codeOf fn_vector_Det) ⟨zipSlots 0 [vA u n, vA v m, vA w k], [], 0⟩ =
    some (ATree.must [(0 : Nat) < 1, (0 : Nat) < 1, (0 : Nat) < 1, m ≤ m, m ≤ m, k ≤ k, k ≤ k, m < 2 ^ 38, k < 2 ^ 38, n ≤ n, n ≤ n, m + k + (m + k) + 1 ≤ m + k + (m + k) + 1, m + k + (m + k) + 1 ≤ m + k + (m + k) + 1, n < 2 ^ 38, m + k + (m + k) + 1 < 2 ^ 38, (0 : Nat) < 1] (ATree.must [(0 : Nat) < 1] (ATree.leaf AEx.ret [rat (dot { x := u.x, y := u.y, z := u.z } { x := v.y * w.z - v.z * w.y, y := v.z * w.x - v.x * w.z, z := v.x * w.y - v.y * w.x }) ((3 : Nat) * (n + (m + k + (m + k) + 1)) + 4)]))) := by kernel_rfl
theorem vOrient2_end {u v w : V3} {n m k : Nat} : funT T GV2 [] 60 fn_vector_Orient2 (codeOf fn_vector_Orient2) ⟨zipSlots 0 [vA u n, vA v m, vA w k], [], 0⟩ =
    some (ATree.must [(0 : Nat) < 1, (0 : Nat) < 1, m ≤ m, m ≤ m, n ≤ n, n ≤ n, m < 2 ^ 38, n < 2 ^ 38, (0 : Nat) < 1, (0 : Nat) < 1, k ≤ k, k ≤ k, n ≤ n, n ≤ n, k < 2 ^ 38, n < 2 ^ 38, m + n + 1 ≤ m + n + 1, m + n + 1 ≤ m + n + 1, k + n + 1 ≤ k + n + 1, k + n + 1 ≤ k + n + 1, m + n + 1 < 2 ^ 38, k + n + 1 < 2 ^ 38, (0 : Int) ≤ (2 : Int) ∧ (2 : Int) < (↑(3 : Nat) : Int), m + n + 1 + (k + n + 1) + (m + n + 1 + (k + n + 1)) + 1 < 2 ^ 42] (ATree.leaf AEx.ret [int IntKind.i64 (sgnR ((v.x - u.x) * (w.y - u.y) - (v.y - u.y) * (w.x - u.x)))])) := by kernel_rfl
theorem vThrough_end {u v w : V3} {n m k : Nat} : funT T GV2 [17] 60 fn_vector_Through (codeOf fn_vector_Through) ⟨zipSlots 0 [vA u n, vA v m, vA w k], [], 0⟩ =
    some (ATree.must [(0 : Nat) < 1, (0 : Nat) < 1, m ≤ m, m ≤ m, n ≤ n, n ≤ n, m < 2 ^ 38, n < 2 ^ 38, (0 : Nat) < 1, (0 : Nat) < 1, k ≤ k, k ≤ k, n ≤ n, n ≤ n, k < 2 ^ 38, n < 2 ^ 38, m + n + 1 ≤ m + n + 1, m + n + 1 ≤ m + n + 1, k + n + 1 ≤ k + n + 1, k + n + 1 ≤ k + n + 1, m + n + 1 < 2 ^ 38, k + n + 1 < 2 ^ 38, (0 : Nat) < 1] (ATree.must [(0 : Nat) < 1, m + n + 1 + (k + n + 1) + (m + n + 1 + (k + n + 1)) + 1 ≤ m + n + 1 + (k + n + 1) + (m + n + 1 + (k + n + 1)) + 1, m + n + 1 + (k + n + 1) + (m + n + 1 + (k + n + 1)) + 1 ≤ m + n + 1 + (k + n + 1) + (m + n + 1 + (k + n + 1)) + 1, m + n + 1 + (k + n + 1) + (m + n + 1 + (k + n + 1)) + 1 < 2 ^ 38] (ATree.fork (vsame { x := (v.y - u.y) * (w.z - u.z) - (v.z - u.z) * (w.y - u.y), y := (v.z - u.z) * (w.x - u.x) - (v.x - u.x) * (w.z - u.z), z := (v.x - u.x) * (w.y - u.y) - (v.y - u.y) * (w.x - u.x) } v0) (ATree.must [(0 : Nat) < 1] (ATree.must [(0 : Nat) < 1] (ATree.leaf AEx.ret [agg [agg [rat 0 1, rat 0 1, rat 0 1], rat 0 1], int IntKind.i64 (9 : Int)]))) (ATree.must [(0 : Nat) < 1, (0 : Nat) < 1, (0 : Nat) < 1, m + n + 1 + (k + n + 1) + (m + n + 1 + (k + n + 1)) + 1 ≤ m + n + 1 + (k + n + 1) + (m + n + 1 + (k + n + 1)) + 1, m + n + 1 + (k + n + 1) + (m + n + 1 + (k + n + 1)) + 1 ≤ m + n + 1 + (k + n + 1) + (m + n + 1 + (k + n + 1)) + 1, n ≤ n, n ≤ n, m + n + 1 + (k + n + 1) + (m + n + 1 + (k + n + 1)) + 1 < 2 ^ 38, n < 2 ^ 38, (0 : Nat) < 1] (ATree.must [(0 : Nat) < 1] (ATree.leaf AEx.ret [agg [agg [rat ((v.y - u.y) * (w.z - u.z) - (v.z - u.z) * (w.y - u.y)) (m + n + 1 + (k + n + 1) + (m + n + 1 + (k + n + 1)) + 1), rat ((v.z - u.z) * (w.x - u.x) - (v.x - u.x) * (w.z - u.z)) (m + n + 1 + (k + n + 1) + (m + n + 1 + (k + n + 1)) + 1), rat ((v.x - u.x) * (w.y - u.y) - (v.y - u.y) * (w.x - u.x)) (m + n + 1 + (k + n + 1) + (m + n + 1 + (k + n + 1)) + 1)], rat (dot { x := (v.y - u.y) * (w.z - u.z) - (v.z - u.z) * (w.y - u.y), y := (v.z - u.z) * (w.x - u.x) - (v.x - u.x) * (w.z - u.z), z := (v.x - u.x) * (w.y - u.y) - (v.y - u.y) * (w.x - u.x) } { x := u.x, y := u.y, z := u.z }) ((3 : Nat) * (m + n + 1 + (k + n + 1) + (m + n + 1 + (k + n + 1)) + 1 + n) + 4)], int IntKind.i64 (0 : Int)])))))) := by kernel_rfl
theorem vSide_end {p : Pl} {v : V3} {n m : Nat} : funT T GV2 [] 60 fn_vector_Side (codeOf fn_vector_Side) ⟨zipSlots 0 [plA p n, vA v m], [], 0⟩ =
    some (ATree.must [(0 : Nat) < 1, (0 : Nat) < 1, n ≤ n, n ≤ n, m ≤ m, m ≤ m, n < 2 ^ 38, m < 2 ^ 38, (0 : Nat) < 1, (3 : Nat) * (n + m) + 4 < 2 ^ 42, n < 2 ^ 42] (ATree.leaf AEx.ret [int IntKind.i64 (cmpR (dot { x := p.n.x, y := p.n.y, z := p.n.z } { x := v.x, y := v.y, z := v.z }) p.d)])) := by kernel_rfl
theorem vTurn_end {p : Mp} {v : V3} {n m : Nat} : funT T GV2 [] 60 fn_vector_Turn (codeOf fn_vector_Turn) ⟨zipSlots 0 [mpA p n, vA v m], [], 0⟩ =
    some (ATree.must [(0 : Nat) < 1] (ATree.must [(0 : Int) ≤ (0 : Int) ∧ (0 : Int) < (↑(3 : Nat) : Int), (0 : Nat) < 1] (ATree.must [(0 : Nat) < 1, (0 : Nat) < 1, n ≤ n, n ≤ n, m ≤ m, m ≤ m, n < 2 ^ 38, m < 2 ^ 38, (0 : Int) ≤ (0 : Int) ∧ (0 : Int) < (↑(3 : Nat) : Int), (0 : Nat) < 1] (ATree.must [(0 : Int) ≤ IntKind.i64.wrap ((0 : Int) + (1 : Int)) ∧ IntKind.i64.wrap ((0 : Int) + (1 : Int)) < (↑(3 : Nat) : Int), (0 : Nat) < 1] (ATree.must [(0 : Nat) < 1, (0 : Nat) < 1, n ≤ n, n ≤ n, m ≤ m, m ≤ m, n < 2 ^ 38, m < 2 ^ 38, (0 : Int) ≤ IntKind.i64.wrap ((0 : Int) + (1 : Int)) ∧ IntKind.i64.wrap ((0 : Int) + (1 : Int)) < (↑(3 : Nat) : Int), (0 : Nat) < 1] (ATree.must [(0 : Int) ≤ IntKind.i64.wrap (IntKind.i64.wrap ((0 : Int) + (1 : Int)) + (1 : Int)) ∧ IntKind.i64.wrap (IntKind.i64.wrap ((0 : Int) + (1 : Int)) + (1 : Int)) < (↑(3 : Nat) : Int), (0 : Nat) < 1] (ATree.must [(0 : Nat) < 1, (0 : Nat) < 1, n ≤ n, n ≤ n, m ≤ m, m ≤ m, n < 2 ^ 38, m < 2 ^ 38, (0 : Int) ≤ IntKind.i64.wrap (IntKind.i64.wrap ((0 : Int) + (1 : Int)) + (1 : Int)) ∧ IntKind.i64.wrap (IntKind.i64.wrap ((0 : Int) + (1 : Int)) + (1 : Int)) < (↑(3 : Nat) : Int), (0 : Nat) < 1] (ATree.must [(0 : Nat) < 1, (0 : Nat) < 1] (ATree.must [(0 : Nat) < 1] (ATree.leaf AEx.ret [agg [rat (dot { x := p.m.a.x, y := p.m.a.y, z := p.m.a.z } { x := v.x, y := v.y, z := v.z }) ((3 : Nat) * (n + m) + 4), rat (dot { x := p.m.b.x, y := p.m.b.y, z := p.m.b.z } { x := v.x, y := v.y, z := v.z }) ((3 : Nat) * (n + m) + 4), rat (dot { x := p.m.c.x, y := p.m.c.y, z := p.m.c.z } { x := v.x, y := v.y, z := v.z }) ((3 : Nat) * (n + m) + 4)]])))))))))) := by kernel_rfl
theorem vtransposed_end {p : M3} {n : Nat} : funT T GV2 [] 60 fn_vector_transposed (codeOf fn_vector_transposed) ⟨zipSlots 0 [m3A p n], [], 0⟩ =
    some (ATree.must [(0 : Int) ≤ (0 : Int) ∧ (0 : Int) < (↑(3 : Nat) : Int), (0 : Int) ≤ (0 : Int) ∧ (0 : Int) < (↑(3 : Nat) : Int), (0 : Nat) < 1, n < 2 ^ 42, (1 : Nat) < 2 ^ 42, (0 : Int) ≤ (0 : Int) ∧ (0 : Int) < (↑(3 : Nat) : Int), (0 : Int) ≤ (0 : Int) ∧ (0 : Int) < (↑(3 : Nat) : Int), (0 : Nat) < 1] (ATree.must [(0 : Int) ≤ IntKind.i64.wrap ((0 : Int) + (1 : Int)) ∧ IntKind.i64.wrap ((0 : Int) + (1 : Int)) < (↑(3 : Nat) : Int), (0 : Int) ≤ (0 : Int) ∧ (0 : Int) < (↑(3 : Nat) : Int), (0 : Nat) < 1, n < 2 ^ 42, (1 : Nat) < 2 ^ 42, (0 : Int) ≤ (0 : Int) ∧ (0 : Int) < (↑(3 : Nat) : Int), (0 : Int) ≤ IntKind.i64.wrap ((0 : Int) + (1 : Int)) ∧ IntKind.i64.wrap ((0 : Int) + (1 : Int)) < (↑(3 : Nat) : Int), (0 : Nat) < 1] (ATree.must [(0 : Int) ≤ IntKind.i64.wrap (IntKind.i64.wrap ((0 : Int) + (1 : Int)) + (1 : Int)) ∧ IntKind.i64.wrap (IntKind.i64.wrap ((0 : Int) + (1 : Int)) + (1 : Int)) < (↑(3 : Nat) : Int), (0 : Int) ≤ (0 : Int) ∧ (0 : Int) < (↑(3 : Nat) : Int), (0 : Nat) < 1, n < 2 ^ 42, (1 : Nat) < 2 ^ 42, (0 : Int) ≤ (0 : Int) ∧ (0 : Int) < (↑(3 : Nat) : Int), (0 : Int) ≤ IntKind.i64.wrap (IntKind.i64.wrap ((0 : Int) + (1 : Int)) + (1 : Int)) ∧ IntKind.i64.wrap (IntKind.i64.wrap ((0 : Int) + (1 : Int)) + (1 : Int)) < (↑(3 : Nat) : Int), (0 : Nat) < 1] (ATree.must [(0 : Int) ≤ (0 : Int) ∧ (0 : Int) < (↑(3 : Nat) : Int), (0 : Int) ≤ IntKind.i64.wrap ((0 : Int) + (1 : Int)) ∧ IntKind.i64.wrap ((0 : Int) + (1 : Int)) < (↑(3 : Nat) : Int), (0 : Nat) < 1, n < 2 ^ 42, (1 : Nat) < 2 ^ 42, (0 : Int) ≤ IntKind.i64.wrap ((0 : Int) + (1 : Int)) ∧ IntKind.i64.wrap ((0 : Int) + (1 : Int)) < (↑(3 : Nat) : Int), (0 : Int) ≤ (0 : Int) ∧ (0 : Int) < (↑(3 : Nat) : Int), (0 : Nat) < 1] (ATree.must [(0 : Int) ≤ IntKind.i64.wrap ((0 : Int) + (1 : Int)) ∧ IntKind.i64.wrap ((0 : Int) + (1 : Int)) < (↑(3 : Nat) : Int), (0 : Int) ≤ IntKind.i64.wrap ((0 : Int) + (1 : Int)) ∧ IntKind.i64.wrap ((0 : Int) + (1 : Int)) < (↑(3 : Nat) : Int), (0 : Nat) < 1, n < 2 ^ 42, (1 : Nat) < 2 ^ 42, (0 : Int) ≤ IntKind.i64.wrap ((0 : Int) + (1 : Int)) ∧ IntKind.i64.wrap ((0 : Int) + (1 : Int)) < (↑(3 : Nat) : Int), (0 : Int) ≤ IntKind.i64.wrap ((0 : Int) + (1 : Int)) ∧ IntKind.i64.wrap ((0 : Int) + (1 : Int)) < (↑(3 : Nat) : Int), (0 : Nat) < 1] (ATree.must [(0 : Int) ≤ IntKind.i64.wrap (IntKind.i64.wrap ((0 : Int) + (1 : Int)) + (1 : Int)) ∧ IntKind.i64.wrap (IntKind.i64.wrap ((0 : Int) + (1 : Int)) + (1 : Int)) < (↑(3 : Nat) : Int), (0 : Int) ≤ IntKind.i64.wrap ((0 : Int) + (1 : Int)) ∧ IntKind.i64.wrap ((0 : Int) + (1 : Int)) < (↑(3 : Nat) : Int), (0 : Nat) < 1, n < 2 ^ 42, (1 : Nat) < 2 ^ 42, (0 : Int) ≤ IntKind.i64.wrap ((0 : Int) + (1 : Int)) ∧ IntKind.i64.wrap ((0 : Int) + (1 : Int)) < (↑(3 : Nat) : Int), (0 : Int) ≤ IntKind.i64.wrap (IntKind.i64.wrap ((0 : Int) + (1 : Int)) + (1 : Int)) ∧ IntKind.i64.wrap (IntKind.i64.wrap ((0 : Int) + (1 : Int)) + (1 : Int)) < (↑(3 : Nat) : Int), (0 : Nat) < 1] (ATree.must [(0 : Int) ≤ (0 : Int) ∧ (0 : Int) < (↑(3 : Nat) : Int), (0 : Int) ≤ IntKind.i64.wrap (IntKind.i64.wrap ((0 : Int) + (1 : Int)) + (1 : Int)) ∧ IntKind.i64.wrap (IntKind.i64.wrap ((0 : Int) + (1 : Int)) + (1 : Int)) < (↑(3 : Nat) : Int), (0 : Nat) < 1, n < 2 ^ 42, (1 : Nat) < 2 ^ 42, (0 : Int) ≤ IntKind.i64.wrap (IntKind.i64.wrap ((0 : Int) + (1 : Int)) + (1 : Int)) ∧ IntKind.i64.wrap (IntKind.i64.wrap ((0 : Int) + (1 : Int)) + (1 : Int)) < (↑(3 : Nat) : Int), (0 : Int) ≤ (0 : Int) ∧ (0 : Int) < (↑(3 : Nat) : Int), (0 : Nat) < 1] (ATree.must [(0 : Int) ≤ IntKind.i64.wrap ((0 : Int) + (1 : Int)) ∧ IntKind.i64.wrap ((0 : Int) + (1 : Int)) < (↑(3 : Nat) : Int), (0 : Int) ≤ IntKind.i64.wrap (IntKind.i64.wrap ((0 : Int) + (1 : Int)) + (1 : Int)) ∧ IntKind.i64.wrap (IntKind.i64.wrap ((0 : Int) + (1 : Int)) + (1 : Int)) < (↑(3 : Nat) : Int), (0 : Nat) < 1, n < 2 ^ 42, (1 : Nat) < 2 ^ 42, (0 : Int) ≤ IntKind.i64.wrap (IntKind.i64.wrap ((0 : Int) + (1 : Int)) + (1 : Int)) ∧ IntKind.i64.wrap (IntKind.i64.wrap ((0 : Int) + (1 : Int)) + (1 : Int)) < (↑(3 : Nat) : Int), (0 : Int) ≤ IntKind.i64.wrap ((0 : Int) + (1 : Int)) ∧ IntKind.i64.wrap ((0 : Int) + (1 : Int)) < (↑(3 : Nat) : Int), (0 : Nat) < 1] (ATree.must [(0 : Int) ≤ IntKind.i64.wrap (IntKind.i64.wrap ((0 : Int) + (1 : Int)) + (1 : Int)) ∧ IntKind.i64.wrap (IntKind.i64.wrap ((0 : Int) + (1 : Int)) + (1 : Int)) < (↑(3 : Nat) : Int), (0 : Int) ≤ IntKind.i64.wrap (IntKind.i64.wrap ((0 : Int) + (1 : Int)) + (1 : Int)) ∧ IntKind.i64.wrap (IntKind.i64.wrap ((0 : Int) + (1 : Int)) + (1 : Int)) < (↑(3 : Nat) : Int), (0 : Nat) < 1, n < 2 ^ 42, (1 : Nat) < 2 ^ 42, (0 : Int) ≤ IntKind.i64.wrap (IntKind.i64.wrap ((0 : Int) + (1 : Int)) + (1 : Int)) ∧ IntKind.i64.wrap (IntKind.i64.wrap ((0 : Int) + (1 : Int)) + (1 : Int)) < (↑(3 : Nat) : Int), (0 : Int) ≤ IntKind.i64.wrap (IntKind.i64.wrap ((0 : Int) + (1 : Int)) + (1 : Int)) ∧ IntKind.i64.wrap (IntKind.i64.wrap ((0 : Int) + (1 : Int)) + (1 : Int)) < (↑(3 : Nat) : Int), (0 : Nat) < 1] (ATree.must [(0 : Nat) < 1, (0 : Nat) < 1] (ATree.must [(0 : Nat) < 1] (ATree.leaf AEx.ret [agg [agg [rat (p.a.x + 0) (n + 1 + 1), rat (p.b.x + 0) (n + 1 + 1), rat (p.c.x + 0) (n + 1 + 1)], agg [rat (p.a.y + 0) (n + 1 + 1), rat (p.b.y + 0) (n + 1 + 1), rat (p.c.y + 0) (n + 1 + 1)], agg [rat (p.a.z + 0) (n + 1 + 1), rat (p.b.z + 0) (n + 1 + 1), rat (p.c.z + 0) (n + 1 + 1)]]])))))))))))) := by kernel_rfl
theorem vIdentity_end : funT T GV2 [] 60 fn_vector_Identity (codeOf fn_vector_Identity) ⟨zipSlots 0 [], [], 0⟩ =
    some (ATree.must [-(2 : Int) ^ 63 ≤ (1 : Int), (1 : Int) < (2 : Int) ^ 63, (0 : Int) ≤ (0 : Int) ∧ (0 : Int) < (↑(3 : Nat) : Int), (0 : Int) ≤ (0 : Int) ∧ (0 : Int) < (↑(3 : Nat) : Int), (0 : Nat) < 1] (ATree.must [-(2 : Int) ^ 63 ≤ (1 : Int), (1 : Int) < (2 : Int) ^ 63, (0 : Int) ≤ IntKind.i64.wrap ((0 : Int) + (1 : Int)) ∧ IntKind.i64.wrap ((0 : Int) + (1 : Int)) < (↑(3 : Nat) : Int), (0 : Int) ≤ IntKind.i64.wrap ((0 : Int) + (1 : Int)) ∧ IntKind.i64.wrap ((0 : Int) + (1 : Int)) < (↑(3 : Nat) : Int), (0 : Nat) < 1] (ATree.must [-(2 : Int) ^ 63 ≤ (1 : Int), (1 : Int) < (2 : Int) ^ 63, (0 : Int) ≤ IntKind.i64.wrap (IntKind.i64.wrap ((0 : Int) + (1 : Int)) + (1 : Int)) ∧ IntKind.i64.wrap (IntKind.i64.wrap ((0 : Int) + (1 : Int)) + (1 : Int)) < (↑(3 : Nat) : Int), (0 : Int) ≤ IntKind.i64.wrap (IntKind.i64.wrap ((0 : Int) + (1 : Int)) + (1 : Int)) ∧ IntKind.i64.wrap (IntKind.i64.wrap ((0 : Int) + (1 : Int)) + (1 : Int)) < (↑(3 : Nat) : Int), (0 : Nat) < 1] (ATree.must [(0 : Nat) < 1, (0 : Nat) < 1] (ATree.must [(0 : Nat) < 1] (ATree.leaf AEx.ret [agg [agg [agg [rat (↑(1 : Int) : Rat) 1, rat 0 1, rat 0 1], agg [rat 0 1, rat (↑(1 : Int) : Rat) 1, rat 0 1], agg [rat 0 1, rat 0 1, rat (↑(1 : Int) : Rat) 1]], agg [rat 0 1, rat 0 1, rat 0 1]]])))))) := by kernel_rfl

theorem avLe0_v {x y z : Rat} {a b c k : Nat} {v : V3} (h1 : x = v.x) (h2 : y = v.y) (h3 : z = v.z) (ka : a ≤ k) (kb : b ≤ k) (kc : c ≤ k) : avLe0 (.agg [.rat x a, .rat y b, .rat z c]) (vA v k) :=
  avLe0_agg ⟨avLe0_rat_up h1 ka, avLe0_rat_up h2 kb, avLe0_rat_up h3 kc, trivial⟩
theorem vsame_iff {u v : V3} : vsame u v = true ↔ u = v := by
  unfold vsame
  simp only [Bool.and_eq_true, decide_eq_true_eq]
  exact ⟨fun h => V3.ext h.1 h.2.1 h.2.2, fun h => by subst h; exact ⟨rfl, rfl, rfl⟩⟩
def n3 {α β γ : Type} (a : α × Nat) (b : β × Nat) (c : γ × Nat) : List Prop := [a.2 < 2 ^ 34, b.2 < 2 ^ 34, c.2 < 2 ^ 34]
def det (u v w : V3) : Rat := dot u (cross v w)
def oDet (a b c : V3 × Nat) : AV := rA (det a.1 b.1 c.1) (3 * (a.2 + (b.2 + c.2 + (b.2 + c.2) + 1)) + 4)
def nrm (u v w : V3) : V3 := cross (vsub v u) (vsub w u)
def oOr2 (a b c : V3 × Nat) : AV := .int .i64 (sgnR (nrm a.1 b.1 c.1).z)
def thr (u v w : V3) : Pl := ⟨nrm u v w, dot (nrm u v w) u⟩
def thrE (u v w : V3) : Int := if vsame (nrm u v w) v0 = true then 9 else 0
def oThr (a b c : V3 × Nat) : AV := .tuple [plA (thr a.1 b.1 c.1) (3 * (2 * (b.2 + c.2 + 2 * a.2 + 2) + 1 + a.2) + 4), .int .i64 (thrE a.1 b.1 c.1)]
def oSide (a : Pl × Nat) (b : V3 × Nat) : AV := .int .i64 (cmpR (dot a.1.n b.1) a.1.d)
def mulv (m : M3) (v : V3) : V3 := ⟨dot m.a v, dot m.b v, dot m.c v⟩
def oTurn (a : Mp × Nat) (b : V3 × Nat) : AV := vA (mulv a.1.m b.1) (3 * (a.2 + b.2) + 4)
def tran (m : M3) : M3 := ⟨⟨m.a.x, m.b.x, m.c.x⟩, ⟨m.a.y, m.b.y, m.c.y⟩, ⟨m.a.z, m.b.z, m.c.z⟩⟩
def oTran (a : M3 × Nat) : AV := m3A (tran a.1) (a.2 + 2)
def idM : Mp := ⟨⟨⟨1, 0, 0⟩, ⟨0, 1, 0⟩, ⟨0, 0, 1⟩⟩, v0⟩
theorem vDet_ok (a b c : V3 × Nat) (K : Nat) (h : allP (n3 a b c)) : FOK P vector_Det K [kV.make a, kV.make b, kV.make c] [] (pres (oDet a b c) []) := by
  obtain ⟨u, n⟩ := a
  obtain ⟨v, m⟩ := b
  obtain ⟨w, k⟩ := c
  obtain ⟨h1, h2, h3⟩ : n < 2 ^ 34 ∧ m < 2 ^ 34 ∧ k < 2 ^ 34 := h
  refine fok_tree hT GV2_ok hm is_vDet rfl (of_decide_eq_true (by kernel_rfl)) rfl 60 vDet_end (fun _ => ?_) K []
  simp only [ATree.all, allP, Nat.max_self]
  (repeat' with_reducible refine And.intro ?_ ?_)
  all_goals first | omega | decide | exact avLe0_rat_up rfl (by simp only; omega)
theorem vOrient2_ok (a b c : V3 × Nat) (K : Nat) (h : allP (n3 a b c)) : FOK P vector_Orient2 K [kV.make a, kV.make b, kV.make c] [] (pres (oOr2 a b c) []) := by
  obtain ⟨u, n⟩ := a
  obtain ⟨v, m⟩ := b
  obtain ⟨w, k⟩ := c
  obtain ⟨h1, h2, h3⟩ : n < 2 ^ 34 ∧ m < 2 ^ 34 ∧ k < 2 ^ 34 := h
  refine fok_tree hT GV2_ok hm is_vOrient2 rfl (of_decide_eq_true (by kernel_rfl)) rfl 60 vOrient2_end (fun _ => ?_) K []
  simp only [ATree.all, allP, Nat.max_self]
  (repeat' with_reducible refine And.intro ?_ ?_)
  all_goals first | omega | decide | exact avLe0.refl _
theorem vThrough_ok (a b c : V3 × Nat) (K : Nat) (h : allP (n3 a b c)) : FOK P vector_Through K [kV.make a, kV.make b, kV.make c] [] (pres (oThr a b c) []) := by
  obtain ⟨u, n⟩ := a
  obtain ⟨v, m⟩ := b
  obtain ⟨w, k⟩ := c
  obtain ⟨h1, h2, h3⟩ : n < 2 ^ 34 ∧ m < 2 ^ 34 ∧ k < 2 ^ 34 := h
  refine fok_tree hT GV2_ok hm is_vThrough rfl (of_decide_eq_true (by kernel_rfl)) rfl 60 vThrough_end (fun _ => ?_) K []
  simp only [ATree.all, allP, Nat.max_self]
  (repeat' with_reducible first | refine And.intro ?_ ?_ | intro _)
  all_goals first | omega | decide | skip
  · rename_i hz
    have hn : nrm u v w = v0 := vsame_iff.1 hz
    have he : thr u v w = ⟨v0, 0⟩ := by unfold thr; rw [hn]; congr 1; show (0 : Rat) + 0 * u.x + 0 * u.y + 0 * u.z = 0; grind
    refine ⟨?_, avLe0_int ?_, trivial⟩
    · show avLe0 _ (plA (thr u v w) _)
      rw [he]
      exact avLe0_plA (u := ⟨v0, 0⟩) (n := 1) rfl (by simp only; omega)
    · show (9 : Int) = thrE u v w
      unfold thrE
      rw [if_pos (vsame_iff.2 hn)]
  · rename_i hz
    refine ⟨avLe0_agg ⟨avLe0_v rfl rfl rfl (by simp only; omega) (by simp only; omega) (by simp only; omega), avLe0_rat_up rfl (by simp only; omega), trivial⟩, avLe0_int ?_, trivial⟩
    show (0 : Int) = thrE u v w
    unfold thrE
    rw [if_neg (by rw [Bool.not_eq_true]; exact hz)]
theorem vSide_ok (a : Pl × Nat) (b : V3 × Nat) (K : Nat) (h : allP (vNeed a b)) : FOK P vector_Side K [kPl.make a, kV.make b] [] (pres (oSide a b) []) := by
  obtain ⟨u, n⟩ := a
  obtain ⟨v, m⟩ := b
  obtain ⟨h1, h2⟩ : n < 2 ^ 38 ∧ m < 2 ^ 38 := h
  refine fok_tree hT GV2_ok hm is_vSide rfl (of_decide_eq_true (by kernel_rfl)) rfl 60 vSide_end (fun _ => ?_) K []
  simp only [ATree.all, allP, Nat.max_self]
  (repeat' with_reducible refine And.intro ?_ ?_)
  all_goals first | omega | decide | exact avLe0.refl _
theorem vTurn_ok (a : Mp × Nat) (b : V3 × Nat) (K : Nat) (h : allP (vNeed a b)) : FOK P vector_Turn K [kMp.make a, kV.make b] [] (pres (oTurn a b) []) := by
  obtain ⟨u, n⟩ := a
  obtain ⟨v, m⟩ := b
  obtain ⟨h1, h2⟩ : n < 2 ^ 38 ∧ m < 2 ^ 38 := h
  refine fok_tree hT GV2_ok hm is_vTurn rfl (of_decide_eq_true (by kernel_rfl)) rfl 60 vTurn_end (fun _ => ?_) K []
  simp only [ATree.all, allP, Nat.max_self]
  (repeat' with_reducible refine And.intro ?_ ?_)
  all_goals first | omega | decide | exact avLe0_v rfl rfl rfl (by simp only; omega) (by simp only; omega) (by simp only; omega)
theorem vtransposed_ok (a : M3 × Nat) (K : Nat) (h : allP (n1 a)) : FOK P vector_transposed K [kM.make a] [] (pres (oTran a) []) := by
  obtain ⟨u, n⟩ := a
  have h1 : n < 2 ^ 38 := h
  refine fok_tree hT GV2_ok hm is_vtransposed rfl (of_decide_eq_true (by kernel_rfl)) rfl 60 vtransposed_end (fun _ => ?_) K []
  simp only [ATree.all, allP, Nat.max_self, Rat.add_zero]
  (repeat' with_reducible refine And.intro ?_ ?_)
  all_goals first | omega | decide | exact avLe0.refl _
theorem vIdentity_ok (K : Nat) : FOK P vector_Identity K [] [] (pres (mpA idM 1) []) := by
  refine fok_tree hT GV2_ok hm is_vIdentity rfl (of_decide_eq_true (by kernel_rfl)) rfl 60 vIdentity_end (fun _ => ?_) K []
  simp only [ATree.all, allP, Nat.max_self]
  (repeat' with_reducible refine And.intro ?_ ?_)
  all_goals first | omega | decide | exact avLe0_of_eq (by simp [idM])
end Go.Am.B
