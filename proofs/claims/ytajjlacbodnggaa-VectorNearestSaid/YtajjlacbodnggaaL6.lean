/- brepkernellaw04.VectorNearest. -/
import Derived.Test.YtajjlacbodnggaaB40
set_option linter.unusedVariables false
namespace Go.Am.B
open Go Go.Am.N AV

theorem is_L6 : FnIs P law04_VectorNearest fn_law04_VectorNearest (codeOf fn_law04_VectorNearest) := fnIs get_law04_VectorNearest (by kernel_rfl) (by kernel_rfl) (by kernel_rfl)
abbrev L6Os (u : V3) (v : V3) (w : V3) : Store := [(61440, objV w), (57344, objV v), (53248, objV u)]
abbrev L6Vs (d0 : Int) : List AV := [.int .i64 d0, .ptr 53248 0 9 0 [], .ptr 57344 0 9 0 [], .ptr 61440 0 9 0 []]


def segQ (a b p : V3) : V3 := vsub p (vadd a (vscale (maxR 0 (minR ((1 : Int) : Rat) (dot (vsub p a) (vsub b a) / dot (vsub b a) (vsub b a)))) (vsub b a)))
def seg (a b p : V3) : Rat := bif (if dot (vsub b a) (vsub b a) = 0 then (3 : Int) else 0) == 0 then dot (segQ a b p) (segQ a b p) else dot (vsub p a) (vsub p a)
def segV (a b p : V3) (t : Rat) : V3 := vsub (vadd a (vscale t (vsub b a))) p
def segLine (a b p : V3) : Bool := decide (seg a b p * dot (vsub b a) (vsub b a) = dot (cross (vsub p a) (vsub b a)) (cross (vsub p a) (vsub b a)))
theorem L6_pre {n : Nat} {z : Nat → Int} {d0 : Int} : seeL T GLd [17] 60 [4, 1, 6, 7, 8] (before (codeOf fn_law04_VectorNearest) [1,1,1,1]) ⟨zipSlots 0 [.tab 1 n (fun i => .int .i64 (z i)), .int .i64 d0], [], 0⟩ =
    some (ATree.fork (!decide ((↑n : Int) ≤ (500 : Int))) (ATree.leaf AEx.ret ([AV.bool true, int IntKind.i64 d0, tuple [], tuple [], tuple []], [])) (ATree.must [DiceOK n (fun (i : Nat) ↦ int IntKind.i64 (z i)) (0 : Int), DiceOK n (fun (i : Nat) ↦ int IntKind.i64 (z i)) (ptA n (fun (i : Nat) ↦ int IntKind.i64 (z i)) (0 : Int)), DiceOK n (fun (i : Nat) ↦ int IntKind.i64 (z i)) (ptA n (fun (i : Nat) ↦ int IntKind.i64 (z i)) (ptA n (fun (i : Nat) ↦ int IntKind.i64 (z i)) (0 : Int)))] (ATree.leaf AEx.normal ([AV.bool false, int IntKind.i64 d0, ptr 53248 0 9 0 [], ptr 57344 0 9 0 [], ptr 61440 0 9 0 []], [((61440 : Nat), { row := false, wr := true, es := 9, len := 1, f := fun (j : Nat) ↦ if (j == 0) = true then deN (agg [rat (numV n (fun (i : Nat) ↦ int IntKind.i64 (z i)) (ptA n (fun (i : Nat) ↦ int IntKind.i64 (z i)) (ptA n (fun (i : Nat) ↦ int IntKind.i64 (z i)) (0 : Int)))) 64, rat (numV n (fun (i : Nat) ↦ int IntKind.i64 (z i)) (numA n (fun (i : Nat) ↦ int IntKind.i64 (z i)) (ptA n (fun (i : Nat) ↦ int IntKind.i64 (z i)) (ptA n (fun (i : Nat) ↦ int IntKind.i64 (z i)) (0 : Int))))) 64, rat (numV n (fun (i : Nat) ↦ int IntKind.i64 (z i)) (numA n (fun (i : Nat) ↦ int IntKind.i64 (z i)) (numA n (fun (i : Nat) ↦ int IntKind.i64 (z i)) (ptA n (fun (i : Nat) ↦ int IntKind.i64 (z i)) (ptA n (fun (i : Nat) ↦ int IntKind.i64 (z i)) (0 : Int)))))) 64]) else agg [rat 0 1, rat 0 1, rat 0 1] }), ((57344 : Nat), { row := false, wr := true, es := 9, len := 1, f := fun (j : Nat) ↦ if (j == 0) = true then deN (agg [rat (numV n (fun (i : Nat) ↦ int IntKind.i64 (z i)) (ptA n (fun (i : Nat) ↦ int IntKind.i64 (z i)) (0 : Int))) 64, rat (numV n (fun (i : Nat) ↦ int IntKind.i64 (z i)) (numA n (fun (i : Nat) ↦ int IntKind.i64 (z i)) (ptA n (fun (i : Nat) ↦ int IntKind.i64 (z i)) (0 : Int)))) 64, rat (numV n (fun (i : Nat) ↦ int IntKind.i64 (z i)) (numA n (fun (i : Nat) ↦ int IntKind.i64 (z i)) (numA n (fun (i : Nat) ↦ int IntKind.i64 (z i)) (ptA n (fun (i : Nat) ↦ int IntKind.i64 (z i)) (0 : Int))))) 64]) else agg [rat 0 1, rat 0 1, rat 0 1] }), ((53248 : Nat), { row := false, wr := true, es := 9, len := 1, f := fun (j : Nat) ↦ if (j == 0) = true then deN (agg [rat (numV n (fun (i : Nat) ↦ int IntKind.i64 (z i)) (0 : Int)) 64, rat (numV n (fun (i : Nat) ↦ int IntKind.i64 (z i)) (numA n (fun (i : Nat) ↦ int IntKind.i64 (z i)) (0 : Int))) 64, rat (numV n (fun (i : Nat) ↦ int IntKind.i64 (z i)) (numA n (fun (i : Nat) ↦ int IntKind.i64 (z i)) (numA n (fun (i : Nat) ↦ int IntKind.i64 (z i)) (0 : Int)))) 64]) else agg [rat 0 1, rat 0 1, rat 0 1] })])))) := by kernel_rfl
theorem L6_end {u : V3} {v : V3} {w : V3} {d0 : Int} : endL T GLx [100065, 67, 74, 100086, 100094] 60 fn_law04_VectorNearest [part (codeOf fn_law04_VectorNearest) [1,1,1,1]] ⟨zipL [1, 6, 7, 8] (L6Vs d0), L6Os u v w, 65536⟩ =
    some (ATree.must [((if dot { x := v.x - u.x, y := v.y - u.y, z := v.z - u.z } { x := v.x - u.x, y := v.y - u.y, z := v.z - u.z } = 0 then (3 : Int) else (0 : Int)) == (0 : Int)) = true → allP ([(0 : Nat) < 1] ++ [] ++ []), ((if dot { x := v.x - u.x, y := v.y - u.y, z := v.z - u.z } { x := v.x - u.x, y := v.y - u.y, z := v.z - u.z } = 0 then (3 : Int) else (0 : Int)) == (0 : Int)) = false → allP ([(0 : Nat) < 1] ++ [] ++ [])] (ATree.fork (segLine u v w) (ATree.fork true (ATree.must [decide (cmpR (seg u v w) (dot (segV u v w (partV d0)) (segV u v w (partV d0))) ≤ (0 : Int)) = true, segLine u v w = true, true = true, (bif true then true else false) = true, ((if dot { x := u.x - v.x, y := u.y - v.y, z := u.z - v.z } { x := u.x - v.x, y := u.y - v.y, z := u.z - v.z } = 0 then (3 : Int) else (0 : Int)) == (0 : Int)) = true → allP ([(0 : Nat) < 1] ++ [] ++ []), ((if dot { x := u.x - v.x, y := u.y - v.y, z := u.z - v.z } { x := u.x - v.x, y := u.y - v.y, z := u.z - v.z } = 0 then (3 : Int) else (0 : Int)) == (0 : Int)) = false → allP ([(0 : Nat) < 1] ++ [] ++ []), (bif true then decide (seg u v w = seg v u w) else false) = true] (ATree.leaf AEx.ret [AV.bool true])) (ATree.must [decide (cmpR (seg u v w) (dot (segV u v w (partV d0)) (segV u v w (partV d0))) ≤ (0 : Int)) = true, segLine u v w = true, true = false, (bif true then bif false then true else decide (seg u v w = dot (vsub w v) (vsub w v)) else false) = true, ((if dot { x := u.x - v.x, y := u.y - v.y, z := u.z - v.z } { x := u.x - v.x, y := u.y - v.y, z := u.z - v.z } = 0 then (3 : Int) else (0 : Int)) == (0 : Int)) = true → allP ([(0 : Nat) < 1] ++ [] ++ []), ((if dot { x := u.x - v.x, y := u.y - v.y, z := u.z - v.z } { x := u.x - v.x, y := u.y - v.y, z := u.z - v.z } = 0 then (3 : Int) else (0 : Int)) == (0 : Int)) = false → allP ([(0 : Nat) < 1] ++ [] ++ []), (bif true then decide (seg u v w = seg v u w) else false) = true] (ATree.leaf AEx.ret [AV.bool true]))) (ATree.fork (bif false then true else decide (seg u v w = dot (vsub w u) (vsub w u))) (ATree.must [decide (cmpR (seg u v w) (dot (segV u v w (partV d0)) (segV u v w (partV d0))) ≤ (0 : Int)) = true, segLine u v w = false, (bif false then true else decide (seg u v w = dot (vsub w u) (vsub w u))) = true, (bif true then true else false) = true, ((if dot { x := u.x - v.x, y := u.y - v.y, z := u.z - v.z } { x := u.x - v.x, y := u.y - v.y, z := u.z - v.z } = 0 then (3 : Int) else (0 : Int)) == (0 : Int)) = true → allP ([(0 : Nat) < 1] ++ [] ++ []), ((if dot { x := u.x - v.x, y := u.y - v.y, z := u.z - v.z } { x := u.x - v.x, y := u.y - v.y, z := u.z - v.z } = 0 then (3 : Int) else (0 : Int)) == (0 : Int)) = false → allP ([(0 : Nat) < 1] ++ [] ++ []), (bif true then decide (seg u v w = seg v u w) else false) = true] (ATree.leaf AEx.ret [AV.bool true])) (ATree.must [decide (cmpR (seg u v w) (dot (segV u v w (partV d0)) (segV u v w (partV d0))) ≤ (0 : Int)) = true, segLine u v w = false, (bif false then true else decide (seg u v w = dot (vsub w u) (vsub w u))) = false, (bif true then bif false then true else decide (seg u v w = dot (vsub w v) (vsub w v)) else false) = true, ((if dot { x := u.x - v.x, y := u.y - v.y, z := u.z - v.z } { x := u.x - v.x, y := u.y - v.y, z := u.z - v.z } = 0 then (3 : Int) else (0 : Int)) == (0 : Int)) = true → allP ([(0 : Nat) < 1] ++ [] ++ []), ((if dot { x := u.x - v.x, y := u.y - v.y, z := u.z - v.z } { x := u.x - v.x, y := u.y - v.y, z := u.z - v.z } = 0 then (3 : Int) else (0 : Int)) == (0 : Int)) = false → allP ([(0 : Nat) < 1] ++ [] ++ []), (bif true then decide (seg u v w = seg v u w) else false) = true] (ATree.leaf AEx.ret [AV.bool true]))))) := by kernel_rfl

theorem V3.eta6 {u : V3} : V3.mk u.x u.y u.z = u := rfl
def clampR (t : Rat) : Rat := maxR 0 (minR ((1 : Int) : Rat) t)
theorem clampR_cases (t : Rat) : (t ≤ 0 ∧ clampR t = 0) ∨ (0 ≤ t ∧ t ≤ 1 ∧ clampR t = t) ∨ (1 ≤ t ∧ clampR t = 1) := by
  have e : ((1 : Int) : Rat) = 1 := rfl
  unfold clampR maxR minR
  rw [e]
  grind
theorem dot_segV {u v w : V3} {t : Rat} : dot (segV u v w t) (segV u v w t) = dot (vsub w u) (vsub w u) - 2 * t * dot (vsub w u) (vsub v u) + t * t * dot (vsub v u) (vsub v u) := by
  simp only [segV, dot, vsub, vadd, vscale]; grind
theorem seg_zero {u v w : V3} (h : dot (vsub v u) (vsub v u) = 0) : seg u v w = dot (vsub w u) (vsub w u) := by
  unfold seg; rw [if_pos h]; rfl
theorem seg_else {u v w : V3} (h : dot (vsub v u) (vsub v u) ≠ 0) {c : Rat} (hc : c = clampR (dot (vsub w u) (vsub v u) / dot (vsub v u) (vsub v u))) :
    seg u v w = dot (vsub w u) (vsub w u) - 2 * c * dot (vsub w u) (vsub v u) + c * c * dot (vsub v u) (vsub v u) := by
  unfold seg; rw [if_neg h]
  show dot (segQ u v w) (segQ u v w) = _
  unfold segQ
  show dot (vsub w (vadd u (vscale (clampR _) (vsub v u)))) (vsub w (vadd u (vscale (clampR _) (vsub v u)))) = _
  rw [← hc]
  simp only [dot, vsub, vadd, vscale]; grind
theorem sq_nonneg' (x : Rat) : 0 ≤ x * x := by
  rcases Rat.le_total (a := 0) (b := x) with h | h
  · exact Rat.mul_nonneg h h
  · have := Rat.mul_nonneg (a := -x) (b := -x) (by grind) (by grind)
    grind
theorem dot_nonneg {u : V3} : 0 ≤ dot u u := by
  have h1 := sq_nonneg' u.x
  have h2 := sq_nonneg' u.y
  have h3 := sq_nonneg' u.z
  unfold dot; grind
theorem dot_zero {u : V3} (h : dot u u = 0) : u.x = 0 ∧ u.y = 0 ∧ u.z = 0 := by
  have h1 := sq_nonneg' u.x
  have h2 := sq_nonneg' u.y
  have h3 := sq_nonneg' u.z
  unfold dot at h
  have a1 : u.x * u.x = 0 := by grind
  have a2 : u.y * u.y = 0 := by grind
  have a3 : u.z * u.z = 0 := by grind
  simp only [Rat.mul_eq_zero, or_self] at a1 a2 a3
  exact ⟨a1, a2, a3⟩
theorem near_plain {X Y Z q c t : Rat} (hY : 0 ≤ Y) (hX : X = q * Y) (h0 : 0 ≤ t) (h1 : t ≤ 1) (hc : c = clampR q) : Z - 2 * c * X + c * c * Y ≤ Z - 2 * t * X + t * t * Y := by
  subst hX
  rcases clampR_cases q with ⟨a, b⟩ | ⟨a, a', b⟩ | ⟨a, b⟩
  · rw [b] at hc; subst hc
    have := Rat.mul_nonneg hY (Rat.mul_nonneg h0 (b := t - 2 * q) (by grind))
    grind
  · rw [b] at hc; subst hc
    have := Rat.mul_nonneg hY (sq_nonneg' (t - c))
    grind
  · rw [b] at hc; subst hc
    have := Rat.mul_nonneg hY (Rat.mul_nonneg (a := 1 - t) (b := 2 * q - 1 - t) (by grind) (by grind))
    grind
theorem cmp_le {x y : Rat} (h : x ≤ y) : decide (cmpR x y ≤ (0 : Int)) = true := by
  rw [decide_eq_true_eq]; unfold cmpR; grind
theorem partV_bounds (d : Int) : 0 ≤ partV d ∧ partV d ≤ 1 := by
  unfold partV
  have m0 : 1 ≤ partM d := by unfold partM; have := Int.emod_nonneg (IntKind.i64.wrap (d.tdiv 17)) (show (12 : Int) ≠ 0 by omega); omega
  generalize partM d = m at *
  have v1 := Int.emod_nonneg d (show m + 1 ≠ 0 by omega)
  have v2 := Int.emod_lt_of_pos d (show 0 < m + 1 by omega)
  generalize d % (m + 1) = y at *
  have hm : (0 : Rat) < ((m : Int) : Rat) := Rat.intCast_pos.2 (by omega)
  have hy : (0 : Rat) ≤ ((y : Int) : Rat) := Rat.intCast_nonneg.2 (by omega)
  have hle : ((y : Int) : Rat) ≤ ((m : Int) : Rat) := Rat.intCast_le_intCast.2 (by omega)
  have e : ((y : Int) : Rat) / ((m : Int) : Rat) * ((m : Int) : Rat) = ((y : Int) : Rat) := Rat.div_mul_cancel (by grind)
  generalize ((y : Int) : Rat) / ((m : Int) : Rat) = q at *
  refine ⟨?_, ?_⟩
  · rcases Rat.le_total (a := 0) (b := q) with h | h
    · exact h
    · rcases Rat.le_total (a := q) (b := 0) with _ | _
      · by_cases h0 : q = 0
        · grind
        · have := Rat.mul_pos (a := -q) (b := ((m : Int) : Rat)) (by grind) hm
          grind
      · grind
  · rcases Rat.le_total (a := q) (b := 1) with h | h
    · exact h
    · by_cases h0 : q = 1
      · grind
      · have := Rat.mul_pos (a := q - 1) (b := ((m : Int) : Rat)) (by grind) hm
        grind
theorem seg_near (u v w : V3) (d : Int) : decide (cmpR (seg u v w) (dot (segV u v w (partV d)) (segV u v w (partV d))) ≤ (0 : Int)) = true := by
  obtain ⟨h0, h1⟩ := partV_bounds d
  refine cmp_le ?_
  rw [dot_segV]
  by_cases h : dot (vsub v u) (vsub v u) = 0
  · rw [seg_zero h, h]
    have hX : dot (vsub w u) (vsub v u) = 0 := by
      obtain ⟨a1, a2, a3⟩ := dot_zero h
      unfold dot; rw [a1, a2, a3]; grind
    rw [hX]; grind
  · rw [seg_else h rfl]
    exact near_plain dot_nonneg (by rw [Rat.div_mul_cancel h]) h0 h1 rfl
theorem lagrange {u v : V3} : dot u u * dot v v - dot u v * dot u v = dot (cross u v) (cross u v) := by simp only [dot, cross]; grind
theorem seg_three (u v w : V3) : segLine u v w = true ∨ seg u v w = dot (vsub w u) (vsub w u) ∨ seg u v w = dot (vsub w v) (vsub w v) := by
  by_cases h : dot (vsub v u) (vsub v u) = 0
  · exact .inr (.inl (seg_zero h))
  · have e := seg_else (w := w) h rfl
    have hX : dot (vsub w u) (vsub v u) = dot (vsub w u) (vsub v u) / dot (vsub v u) (vsub v u) * dot (vsub v u) (vsub v u) := by rw [Rat.div_mul_cancel h]
    rcases clampR_cases (dot (vsub w u) (vsub v u) / dot (vsub v u) (vsub v u)) with ⟨a, b⟩ | ⟨a, a', b⟩ | ⟨a, b⟩
    · rw [b] at e; exact .inr (.inl (by rw [e]; grind))
    · refine .inl ?_
      rw [b] at e
      unfold segLine
      rw [decide_eq_true_eq, e, ← lagrange]
      generalize dot (vsub w u) (vsub v u) / dot (vsub v u) (vsub v u) = q at *
      generalize dot (vsub w u) (vsub w u) = Z
      generalize dot (vsub w u) (vsub v u) = X at *
      grind
    · rw [b] at e
      refine .inr (.inr ?_)
      rw [e]; simp only [dot, vsub]; grind
theorem seg_back (u v w : V3) : seg u v w = seg v u w := by
  have hY : dot (vsub u v) (vsub u v) = dot (vsub v u) (vsub v u) := by simp only [dot, vsub]; grind
  have hX : dot (vsub w v) (vsub u v) = dot (vsub v u) (vsub v u) - dot (vsub w u) (vsub v u) := by simp only [dot, vsub]; grind
  have hZ : dot (vsub w v) (vsub w v) = dot (vsub w u) (vsub w u) - 2 * dot (vsub w u) (vsub v u) + dot (vsub v u) (vsub v u) := by simp only [dot, vsub]; grind
  by_cases h : dot (vsub v u) (vsub v u) = 0
  · have h' : dot (vsub u v) (vsub u v) = 0 := by rw [hY]; exact h
    rw [seg_zero h, seg_zero h', hZ, h]
    have hX : dot (vsub w u) (vsub v u) = 0 := by
      obtain ⟨a1, a2, a3⟩ := dot_zero h
      unfold dot; rw [a1, a2, a3]; grind
    rw [hX]; grind
  · have h' : dot (vsub u v) (vsub u v) ≠ 0 := by rw [hY]; exact h
    rw [seg_else h rfl, seg_else h' rfl, hX, hY, hZ]
    have hq : (dot (vsub v u) (vsub v u) - dot (vsub w u) (vsub v u)) / dot (vsub v u) (vsub v u) = 1 - dot (vsub w u) (vsub v u) / dot (vsub v u) (vsub v u) := by
      generalize dot (vsub v u) (vsub v u) = Y at *
      generalize dot (vsub w u) (vsub v u) = X at *
      grind
    rw [hq]
    generalize dot (vsub w u) (vsub v u) / dot (vsub v u) (vsub v u) = q at *
    have hc : clampR (1 - q) = 1 - clampR q := by
      have e : ((1 : Int) : Rat) = 1 := rfl
      unfold clampR maxR minR
      rw [e]
      grind
    rw [hc]
    grind

theorem okO_L6 {u : V3} {v : V3} {w : V3} : okO 65536 (L6Os u v w) := ⟨⟨by omega, fun i _ => keys_if rfl rfl⟩, ⟨by omega, fun i _ => keys_if rfl rfl⟩, ⟨by omega, fun i _ => keys_if rfl rfl⟩, trivial⟩

set_option maxHeartbeats 4000000 in
set_option maxRecDepth 100000 in
theorem L6_all {u : V3} {v : V3} {w : V3} {d0 : Int} : ∃ t, endL T GLx [100065, 67, 74, 100086, 100094] 60 fn_law04_VectorNearest [part (codeOf fn_law04_VectorNearest) [1,1,1,1]] ⟨zipL [1, 6, 7, 8] (L6Vs d0), L6Os u v w, 65536⟩ = some t ∧ t.all fun _ us => resOK us (.bool true) := by
  refine ⟨_, L6_end, ?_⟩
  simp only [ATree.all, allP, V3.eta6]
  (repeat' with_reducible first | refine And.intro ?_ ?_ | intro _)
  all_goals try exact Nat.zero_lt_one
  all_goals try with_reducible exact res_true
  all_goals try simp only [cond_true, cond_false]
  all_goals try omega
  all_goals try (with_reducible exact seg_near u v w d0)
  all_goals try assumption
  all_goals try exact (by decide)
  all_goals try (with_reducible exact decide_eq_true (seg_back u v w))
  all_goals try (simp only [List.nil_append, List.cons_append, List.append_nil, allP]; decide)
  all_goals try contradiction
  all_goals (rename_i h1 h2; exact decide_eq_true (((seg_three u v w).resolve_left (by rw [h1]; decide)).resolve_left (of_decide_eq_false h2)))

set_option maxHeartbeats 4000000 in
set_option maxRecDepth 100000 in
theorem L6_ok {n : Nat} {z : Nat → Int} {d0 : Int} (K : Nat) : FOK P law04_VectorNearest K [.tab 1 n (fun i => .int .i64 (z i)), .int .i64 d0] [] (pres (.bool true) []) := by
  refine fok_down hT is_L6 rfl (of_decide_eq_true (by kernel_rfl)) rfl (fun _ c h0 => ?_) K []
  refine AWp.hole [1,1,1,1] (by kernel_rfl) (AWpL.see hT GLd_ok hm 60 [4, 1, 6, 7, 8] L6_pre (by kernel_rfl) ?_)
  refine ⟨fun hb s' hv => then_ret (.inl ?_), fun hb => ?_⟩
  · exact fin_view (us := [.bool true]) (.inr rfl) hv (by kernel_rfl) (.refl _)
  have hn : n ≤ 500 := by simp only [Bool.not_eq_false', decide_eq_true_eq] at hb; omega
  have hd : DiceOK n (fun i => .int .i64 (z i)) 0 := ⟨fun i => rfl, by omega, by omega, by omega⟩
  refine ⟨⟨hd, hd.point, hd.point.point⟩, fun s' hv => then_go ?_⟩
  obtain ⟨u, v, w, hv⟩ : ∃ (u : V3) (v : V3) (w : V3), viewAV [1, 6, 7, 8] s' = some ((L6Vs d0), L6Os u v w) := ⟨⟨_, _, _⟩, ⟨_, _, _⟩, ⟨_, _, _⟩, view_drop (l := [4]) (us := [.bool false]) hv rfl rfl⟩
  refine AWp.mono (Q := thenDo (fun s' => AWpL P c fn_law04_VectorNearest.ntmps [] s' (Lower c (Fin T fn_law04_VectorNearest (.bool true)))) (Lower c (Fin T fn_law04_VectorNearest (.bool true)))) ?_ fun e s' h => by cases e <;> exact h
  obtain ⟨t, ht, hall⟩ := L6_all (u := u) (v := v) (w := w) (d0 := d0)
  exact AWpL.finDV (l := [part (codeOf fn_law04_VectorNearest) [1,1,1,1]]) hT GLx_ok hm 60 hv (h0 _) rfl okO_L6 ht (by kernel_rfl) rfl hall
end Go.Am.B
