/- ref02: Quo, Over. -/
import Derived.Test.YtajjlacbodnggaaGreatB39
set_option linter.unusedVariables false
namespace Go.Am.B
open Go Go.Am.N AV

theorem is_eQuo : FnIs P ref02_Quo fn_ref02_Quo (codeOf fn_ref02_Quo) := fnIs get_ref02_Quo (by kernel_rfl) (by kernel_rfl) (by kernel_rfl)
theorem is_eOver : FnIs P ref02_Over fn_ref02_Over (codeOf fn_ref02_Over) := fnIs get_ref02_Over (by kernel_rfl) (by kernel_rfl) (by kernel_rfl)
theorem equo_end {q r : Rat} {n m : Nat} : funT T GE2 [9] 60 fn_ref02_Quo (codeOf fn_ref02_Quo) ⟨zipSlots 0 [.rat q n, .rat r m], [], 0⟩ =
    some (ATree.must [(0 : Nat) < 1] (ATree.fork ((↑(nl r.num.natAbs) : Int) == (0 : Int)) (ATree.must [(0 : Nat) < 1] (ATree.must [(0 : Nat) < 1] (ATree.leaf AEx.ret [agg [AV.bool false, mag 0, mag 0], int IntKind.i64 (3 : Int)]))) (ATree.must [(0 : Nat) < 1, (0 : Nat) < 1, (0 : Nat) < 1, (0 : Nat) < 1, nl q.num.natAbs < 2 ^ 39, nl r.den < 2 ^ 39, (0 : Nat) < 1, (0 : Nat) < 1, nl q.den < 2 ^ 39, nl r.num.natAbs < 2 ^ 39, nl (q.num.natAbs * r.den) < 2 ^ 38, nl (q.den * r.num.natAbs) < 2 ^ 38, q.den * r.num.natAbs ≠ 0, (0 : Nat) < 1] (ATree.must [(0 : Nat) < 1] (ATree.leaf AEx.ret [rat (sQ (decide (q < 0) != decide (r < 0)) (q.num.natAbs * r.den) (q.den * r.num.natAbs)) (rsz (sQ (decide (q < 0) != decide (r < 0)) (q.num.natAbs * r.den) (q.den * r.num.natAbs))), int IntKind.i64 (0 : Int)]))))) := by kernel_rfl
theorem eQuo_ok {q r : Rat} {n m : Nat} (hn : n < 2 ^ 41) (hm' : m < 2 ^ 41) (K : Nat) : FOK P ref02_Quo K [.rat q n, .rat r m] [] (pres (.tuple [.rat (q / r) (n + m), .int .i64 (if r = 0 then 3 else 0)]) []) := by
  refine fok_szp fun ⟨hq, hr, _⟩ => ?_
  have hq : Sz q n := hq
  have hr : Sz r m := hr
  have d1 := q.den_nz
  have d2 := r.den_nz
  have a1 : nl q.num.natAbs < 2 ^ 38 := nl_lt38 hq.1 (by omega)
  have a2 : nl q.den < 2 ^ 38 := nl_lt38 hq.2 (by omega)
  have b1 : nl r.num.natAbs < 2 ^ 38 := nl_lt38 hr.1 (by omega)
  have b2 : nl r.den < 2 ^ 38 := nl_lt38 hr.2 (by omega)
  have m1 : nl (q.num.natAbs * r.den) < 2 ^ 38 := nl_lt38 (lt_mul2 hq.1 hr.2) (by omega)
  have m3 : nl (q.den * r.num.natAbs) < 2 ^ 38 := nl_lt38 (lt_mul2 hq.2 hr.1) (by omega)
  refine fok_tree hT GE2_ok hm is_eQuo rfl (of_decide_eq_true (by kernel_rfl)) rfl 60 equo_end (fun _ => ?_) K []
  have key : ((nl r.num.natAbs : Int) == (0 : Int)) = decide (r = 0) := by
    by_cases h : r = 0
    · subst h; rfl
    · have h1 : r.num.natAbs ≠ 0 := fun e => h (rat_num_zero.1 e)
      have := nl_pos.2 h1
      simp only [h, decide_false, beq_eq_false_iff_ne]; omega
  rw [key]
  simp only [ATree.all, allP, decide_eq_true_eq, decide_eq_false_iff_not]
  refine ⟨by omega, fun h0 => ?_, fun h0 => ?_⟩
  · refine ⟨by omega, by omega, ?_, avLe0_int (by rw [if_pos h0]), trivial⟩
    have e : q / r = 0 := by rw [h0, Rat.div_def, Rat.inv_zero, Rat.mul_zero]
    obtain ⟨k, hk⟩ : ∃ k, n + m = k + 1 := ⟨n + m - 1, by have := hq.pos; omega⟩
    rw [e, hk]
    first | exact avLe0_zero | exact avLe0_rat_more (by omega)
  · have hr0 : r.num.natAbs ≠ 0 := fun h => h0 (rat_num_zero.1 h)
    have hv := rat_div_sQ q r h0
    (repeat' with_reducible refine And.intro ?_ ?_)
    all_goals first | omega | exact m1 | exact m3 | exact Nat.mul_ne_zero d1 hr0 | skip
    exact ⟨avLe0_rat_eq hv (hq.div hr), avLe0_int (by rw [if_neg h0]), trivial⟩
def gQuoE : Contracts := [(ref02_Quo, sp2 kR kR oQuo eNeed)]
theorem gQuoE_ok : GOK P gQuoE := gok_cons (sp2_ok fun _ _ K hn => eQuo_ok hn.1 hn.2 K) gok_nil
theorem eover_end {q r : Rat} {n m : Nat} : funT T gQuoE [] 60 fn_ref02_Over (codeOf fn_ref02_Over) ⟨zipSlots 0 [.rat q n, .rat r m], [], 0⟩ =
    some (ATree.must [(0 : Nat) < 1, (0 : Nat) < 1, n < 2 ^ 41, m < 2 ^ 41, (0 : Nat) < 1] (ATree.must [(0 : Nat) < 1, (0 : Nat) < 1] (ATree.must [(0 : Nat) < 1] (ATree.leaf AEx.ret [rat (q / r) (n + m)])))) := by kernel_rfl
theorem eOver_ok {q r : Rat} {n m : Nat} (hn : n < 2 ^ 41) (hm' : m < 2 ^ 41) (K : Nat) : FOK P ref02_Over K [.rat q n, .rat r m] [] (pres (.rat (q / r) (n + m)) []) := by
  refine fok_tree hT gQuoE_ok hm is_eOver rfl (of_decide_eq_true (by kernel_rfl)) rfl 60 eover_end (fun _ => ?_) K []
  simp only [ATree.all, allP]
  (repeat' with_reducible refine And.intro ?_ ?_)
  all_goals first | omega | exact avLe0.refl _
def oOver (a b : Rat × Nat) : AV := rA (a.1 / b.1) (a.2 + b.2)
def tOver : Contracts := [(ref02_Over, tp2 dR dR oOver (b2 41)), (ref02_Quo, tp2 dR dR oQuo (b2 41))]
theorem tOver_ok : GOK P tOver := gok_cons (tp2_ok fun _ _ K hn => eOver_ok (b2_ok hn).1 (b2_ok hn).2 K) (gok_cons (tp2_ok fun _ _ K hn => eQuo_ok (b2_ok hn).1 (b2_ok hn).2 K) gok_nil)
end Go.Am.B
