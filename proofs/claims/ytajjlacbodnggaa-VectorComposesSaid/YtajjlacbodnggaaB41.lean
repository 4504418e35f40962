/- ref04: Zero, Through. -/
import Derived.Test.YtajjlacbodnggaaB39
set_option linter.unusedVariables false
namespace Go.Am.B
open Go Go.Am.N AV

def Gga : Contracts := (ref04_Same, sp2 kV kV ovSame vNeed) :: (ref04_Sub, sp2 kV kV ovSub vNeed) :: (ref04_Dot, sp2 kV kV oDot vNeed) :: (ref04_Cross, sp2 kV kV oCross vNeed) :: []
def Ggb : Contracts := (ref04_Zero, sp1 kV ovZero n1) :: Gga
theorem Gga_ok : GOK P Gga := gok_cons (sp2_ok gSame_ok) (gok_cons (sp2_ok gSub_ok) (gok_cons (sp2_ok gDot_ok) (gok_cons (sp2_ok gCross_ok) gok_nil)))
theorem gZero_end {u : V3} {n : Nat} : funT T Gga [] 60 fn_ref04_Zero (codeOf fn_ref04_Zero) ⟨zipSlots 0 [vA u n], [], 0⟩ =
    some (ATree.must [(0 : Nat) < 1, n ≤ n, n ≤ n, (1 : Nat) ≤ 1, (1 : Nat) ≤ 1, n < 2 ^ 38, (1 : Nat) < 2 ^ 38] (ATree.leaf AEx.ret [AV.bool (vsame { x := u.x, y := u.y, z := u.z } { x := 0, y := 0, z := 0 })])) := by kernel_rfl
theorem gZero_ok (a : V3 × Nat) (K : Nat) (h : allP (n1 a)) : FOK P ref04_Zero K [kV.make a] [] (pres (ovZero a) []) := by
  obtain ⟨u, n⟩ := a
  have h1 : n < 2 ^ 38 := h
  refine fok_tree hT Gga_ok hm is_gZero rfl (of_decide_eq_true (by kernel_rfl)) rfl 60 gZero_end (fun _ => ?_) K []
  simp only [ATree.all, allP, Nat.max_self]
  (repeat' with_reducible refine And.intro ?_ ?_)
  all_goals first | omega | decide | exact avLe0.refl _
theorem Ggb_ok : GOK P Ggb := gok_cons (sp1_ok gZero_ok) Gga_ok
theorem gThrough_end {u v w : V3} {n m k : Nat} : funT T Ggb [17] 60 fn_ref04_Through (codeOf fn_ref04_Through) ⟨zipSlots 0 [vA u n, vA v m, vA w k], [], 0⟩ =
    some (ATree.must [(0 : Nat) < 1, (0 : Nat) < 1, m ≤ m, m ≤ m, n ≤ n, n ≤ n, m < 2 ^ 38, n < 2 ^ 38, (0 : Nat) < 1, (0 : Nat) < 1, k ≤ k, k ≤ k, n ≤ n, n ≤ n, k < 2 ^ 38, n < 2 ^ 38, m + n + 1 ≤ m + n + 1, m + n + 1 ≤ m + n + 1, k + n + 1 ≤ k + n + 1, k + n + 1 ≤ k + n + 1, m + n + 1 < 2 ^ 38, k + n + 1 < 2 ^ 38, (0 : Nat) < 1] (ATree.must [(0 : Nat) < 1, m + n + 1 + (k + n + 1) + (m + n + 1 + (k + n + 1)) + 1 ≤ m + n + 1 + (k + n + 1) + (m + n + 1 + (k + n + 1)) + 1, m + n + 1 + (k + n + 1) + (m + n + 1 + (k + n + 1)) + 1 ≤ m + n + 1 + (k + n + 1) + (m + n + 1 + (k + n + 1)) + 1, m + n + 1 + (k + n + 1) + (m + n + 1 + (k + n + 1)) + 1 < 2 ^ 38] (ATree.fork (vsame { x := (v.y - u.y) * (w.z - u.z) - (v.z - u.z) * (w.y - u.y), y := (v.z - u.z) * (w.x - u.x) - (v.x - u.x) * (w.z - u.z), z := (v.x - u.x) * (w.y - u.y) - (v.y - u.y) * (w.x - u.x) } v0) (ATree.must [(0 : Nat) < 1] (ATree.must [(0 : Nat) < 1] (ATree.leaf AEx.ret [agg [agg [rat 0 1, rat 0 1, rat 0 1], rat 0 1], int IntKind.i64 (9 : Int)]))) (ATree.must [(0 : Nat) < 1, (0 : Nat) < 1, (0 : Nat) < 1, m + n + 1 + (k + n + 1) + (m + n + 1 + (k + n + 1)) + 1 ≤ m + n + 1 + (k + n + 1) + (m + n + 1 + (k + n + 1)) + 1, m + n + 1 + (k + n + 1) + (m + n + 1 + (k + n + 1)) + 1 ≤ m + n + 1 + (k + n + 1) + (m + n + 1 + (k + n + 1)) + 1, n ≤ n, n ≤ n, m + n + 1 + (k + n + 1) + (m + n + 1 + (k + n + 1)) + 1 < 2 ^ 38, n < 2 ^ 38, (0 : Nat) < 1] (ATree.must [(0 : Nat) < 1] (ATree.leaf AEx.ret [agg [agg [rat ((v.y - u.y) * (w.z - u.z) - (v.z - u.z) * (w.y - u.y)) (m + n + 1 + (k + n + 1) + (m + n + 1 + (k + n + 1)) + 1), rat ((v.z - u.z) * (w.x - u.x) - (v.x - u.x) * (w.z - u.z)) (m + n + 1 + (k + n + 1) + (m + n + 1 + (k + n + 1)) + 1), rat ((v.x - u.x) * (w.y - u.y) - (v.y - u.y) * (w.x - u.x)) (m + n + 1 + (k + n + 1) + (m + n + 1 + (k + n + 1)) + 1)], rat (dot { x := (v.y - u.y) * (w.z - u.z) - (v.z - u.z) * (w.y - u.y), y := (v.z - u.z) * (w.x - u.x) - (v.x - u.x) * (w.z - u.z), z := (v.x - u.x) * (w.y - u.y) - (v.y - u.y) * (w.x - u.x) } { x := u.x, y := u.y, z := u.z }) ((3 : Nat) * (m + n + 1 + (k + n + 1) + (m + n + 1 + (k + n + 1)) + 1 + n) + 4)], int IntKind.i64 (0 : Int)])))))) := by kernel_rfl
theorem gThrough_ok (a b c : V3 × Nat) (K : Nat) (h : allP (n3 a b c)) : FOK P ref04_Through K [kV.make a, kV.make b, kV.make c] [] (pres (oThr a b c) []) := by
  obtain ⟨u, n⟩ := a
  obtain ⟨v, m⟩ := b
  obtain ⟨w, k⟩ := c
  obtain ⟨h1, h2, h3⟩ : n < 2 ^ 34 ∧ m < 2 ^ 34 ∧ k < 2 ^ 34 := h
  refine fok_tree hT Ggb_ok hm is_gThr rfl (of_decide_eq_true (by kernel_rfl)) rfl 60 gThrough_end (fun _ => ?_) K []
  simp only [ATree.all, allP, Nat.max_self]
  (repeat' with_reducible first | refine And.intro ?_ ?_ | intro _)
  all_goals first | omega | decide | skip
  · rename_i hz
    have hn : nrm u v w = v0 := vsame_iff.1 hz
    have he : thr u v w = ⟨v0, 0⟩ := by unfold thr; rw [hn]; congr 1; show (0 : Rat) + 0 * u.x + 0 * u.y + 0 * u.z = 0; grind
    refine ⟨?_, avLe0_int ?_, trivial⟩
    · show avLe0 _ (plA (thr u v w) _)
      rw [he]
      exact avLe0_plA (u := ⟨v0, 0⟩) (n := 1) rfl (by simp only; omega)
    · show (9 : Int) = thrE u v w
      unfold thrE
      rw [if_pos (vsame_iff.2 hn)]
  · rename_i hz
    refine ⟨avLe0_agg ⟨avLe0_v rfl rfl rfl (by simp only; omega) (by simp only; omega) (by simp only; omega), avLe0_rat_up rfl (by simp only; omega), trivial⟩, avLe0_int ?_, trivial⟩
    show (0 : Int) = thrE u v w
    unfold thrE
    rw [if_neg (by rw [Bool.not_eq_true]; exact hz)]
noncomputable def tGe2 : Contracts := sG :: (ref04_Zero, tp1 dV ovZero (b1 38)) :: (ref04_Det, aSpec T tGe1 [] 60 fn_ref04_Det) :: tGe1
noncomputable def tGe3 : Contracts := sG :: (ref04_Orient2, aSpec T tGe2 [] 60 fn_ref04_Orient2) :: (ref04_Orient3, aSpec T tGe2 [] 60 fn_ref04_Orient3) :: (ref04_Through, tp3 dV dV dV oThr (b3 34)) :: (ref04_SameNumbers, aSpec T tGe2 [10] 60 fn_ref04_SameNumbers) :: (ref04_SamePlane, aSpec T tGe2 [12, 20] 60 fn_ref04_SamePlane) :: (ref04_Side, aSpec T tGe2 [] 60 fn_ref04_Side) :: tGe2
theorem tGe2_ok : GOK P tGe2 := gok_strict <| gok_cons (tp1_ok fun a K hn => gZero_ok a K (b1_ok hn)) (gok_cons (aSpec_ok hT tGe1_ok hm is_gDet _ _) tGe1_ok)
theorem tGe3_ok : GOK P tGe3 := gok_strict <| gok_cons (aSpec_ok hT tGe2_ok hm is_gOr2 _ _) (gok_cons (aSpec_ok hT tGe2_ok hm is_gOr3 _ _) (gok_cons (tp3_ok fun a b c K hn => gThrough_ok a b c K (b3_ok hn)) (gok_cons (aSpec_ok hT tGe2_ok hm is_gSN _ _) (gok_cons (aSpec_ok hT tGe2_ok hm is_gSP _ _) (gok_cons (aSpec_ok hT tGe2_ok hm is_gSide _ _) tGe2_ok)))))
end Go.Am.B
