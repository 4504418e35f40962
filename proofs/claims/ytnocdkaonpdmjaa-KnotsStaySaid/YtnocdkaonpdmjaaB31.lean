/- ref02: Add, Sub, Mul, Cmp, Make, Frac, Int. -/
import Derived.Test.YtnocdkaonpdmjaaB30
set_option linter.unusedVariables false
namespace Go.Am.B
open Go Go.Am.N AV
theorem is_eAdd : FnIs P ref02_Add fn_ref02_Add (codeOf fn_ref02_Add) := fnIs get_ref02_Add (by kernel_rfl) (by kernel_rfl) (by kernel_rfl)
theorem is_eSub : FnIs P ref02_Sub fn_ref02_Sub (codeOf fn_ref02_Sub) := fnIs get_ref02_Sub (by kernel_rfl) (by kernel_rfl) (by kernel_rfl)
theorem is_eMul : FnIs P ref02_Mul fn_ref02_Mul (codeOf fn_ref02_Mul) := fnIs get_ref02_Mul (by kernel_rfl) (by kernel_rfl) (by kernel_rfl)
theorem is_eCmp : FnIs P ref02_Cmp fn_ref02_Cmp (codeOf fn_ref02_Cmp) := fnIs get_ref02_Cmp (by kernel_rfl) (by kernel_rfl) (by kernel_rfl)
theorem is_eMake : FnIs P ref02_Make fn_ref02_Make (codeOf fn_ref02_Make) := fnIs get_ref02_Make (by kernel_rfl) (by kernel_rfl) (by kernel_rfl)
theorem is_eFrac : FnIs P ref02_Frac fn_ref02_Frac (codeOf fn_ref02_Frac) := fnIs get_ref02_Frac (by kernel_rfl) (by kernel_rfl) (by kernel_rfl)
theorem is_eInt : FnIs P ref02_Int fn_ref02_Int (codeOf fn_ref02_Int) := fnIs get_ref02_Int (by kernel_rfl) (by kernel_rfl) (by kernel_rfl)
def GE2 : Contracts := [(ref02_Den, s_eDen), (ref01_Mul, s_fMul), (ref01_Add, s_fAdd), (ref01_Sub, s_fSub), (ref01_Cmp, s_fCmp), (ref02_reduce, s_ereduce), (ref02_Sign, s_eSign), (ref02_Neg, s_eNeg), (ref02_size, s_esize)]
def s_eMake : Spec := pureSpec fun l => match l with
  | [.int .i64 x, .int .i64 y] => some (pres (.tuple [.rat ((x : Rat) / (y : Rat)) 64, .int .i64 (if y = 0 then 3 else 0)]) [-2 ^ 63 ≤ x, x < 2 ^ 63, -2 ^ 63 ≤ y, y < 2 ^ 63])
  | _ => none
def s_eAdd : Spec := pureSpec fun l => match l with
  | [.rat q n, .rat r m] => some (pres (.rat (q + r) (n + m + 1)) [n < 2 ^ 41, m < 2 ^ 41])
  | _ => none
def GE3 : Contracts := [(ref02_Add, s_eAdd), (ref02_Neg, s_eNeg), (ref02_Make, s_eMake)]
theorem GE2_ok : GOK P GE2 := gok_cons s_eDen_ok (gok_cons s_fMul_ok (gok_cons s_fAdd_ok (gok_cons s_fSub_ok (gok_cons s_fCmp_ok (gok_cons s_ereduce_ok (gok_cons s_eSign_ok (gok_cons s_eNeg_ok (gok_cons s_esize_ok gok_nil))))))))
theorem eadd_end {q r : Rat} {n m : Nat} : funT T GE2 [15, 20, 41, 52] 60 fn_ref02_Add (codeOf fn_ref02_Add) ⟨zipSlots 0 [.rat q n, .rat r m], [], 0⟩ =
    some (ATree.must [(0 : Nat) < 1] (ATree.fork ((↑(nl q.num.natAbs) : Int) == (0 : Int)) (ATree.must [(0 : Nat) < 1, (0 : Nat) < 1] (ATree.must [(0 : Nat) < 1] (ATree.leaf AEx.ret [rat r m]))) (ATree.must [(0 : Nat) < 1] (ATree.fork ((↑(nl r.num.natAbs) : Int) == (0 : Int)) (ATree.must [(0 : Nat) < 1, (0 : Nat) < 1] (ATree.must [(0 : Nat) < 1] (ATree.leaf AEx.ret [rat q n]))) (ATree.must [(0 : Nat) < 1, (0 : Nat) < 1, nl q.num.natAbs < 2 ^ 39, nl r.den < 2 ^ 39, (0 : Nat) < 1, (0 : Nat) < 1, nl r.num.natAbs < 2 ^ 39, nl q.den < 2 ^ 39] (ATree.must [(0 : Nat) < 1, (0 : Nat) < 1, nl q.den < 2 ^ 39, nl r.den < 2 ^ 39] (ATree.must [(0 : Nat) < 1, (0 : Nat) < 1] (ATree.fork (decide (q < 0) == decide (r < 0)) (ATree.must [(0 : Nat) < 1, nl (q.num.natAbs * r.den) < 2 ^ 40, nl (r.num.natAbs * q.den) < 2 ^ 40, nl (q.num.natAbs * r.den + r.num.natAbs * q.den) < 2 ^ 38, nl (q.den * r.den) < 2 ^ 38, q.den * r.den ≠ 0, (0 : Nat) < 1] (ATree.must [(0 : Nat) < 1] (ATree.leaf AEx.ret [rat (sQ (decide (q < 0)) (q.num.natAbs * r.den + r.num.natAbs * q.den) (q.den * r.den)) (rsz (sQ (decide (q < 0)) (q.num.natAbs * r.den + r.num.natAbs * q.den) (q.den * r.den)))]))) (ATree.must [nl (q.num.natAbs * r.den) < 2 ^ 40, nl (r.num.natAbs * q.den) < 2 ^ 40] (ATree.fork (decide (cmpI (q.num.natAbs * r.den) (r.num.natAbs * q.den) < (0 : Int))) (ATree.must [nl (r.num.natAbs * q.den) < 2 ^ 40, nl (q.num.natAbs * r.den) < 2 ^ 40] (ATree.must [(0 : Nat) < 1, nl (r.num.natAbs * q.den - q.num.natAbs * r.den) < 2 ^ 38, nl (q.den * r.den) < 2 ^ 38, q.den * r.den ≠ 0, (0 : Nat) < 1] (ATree.must [(0 : Nat) < 1] (ATree.leaf AEx.ret [rat (sQ (decide (r < 0)) (r.num.natAbs * q.den - q.num.natAbs * r.den) (q.den * r.den)) (rsz (sQ (decide (r < 0)) (r.num.natAbs * q.den - q.num.natAbs * r.den) (q.den * r.den)))])))) (ATree.must [nl (q.num.natAbs * r.den) < 2 ^ 40, nl (r.num.natAbs * q.den) < 2 ^ 40] (ATree.must [(0 : Nat) < 1, nl (q.num.natAbs * r.den - r.num.natAbs * q.den) < 2 ^ 38, nl (q.den * r.den) < 2 ^ 38, q.den * r.den ≠ 0, (0 : Nat) < 1] (ATree.must [(0 : Nat) < 1] (ATree.leaf AEx.ret [rat (sQ (decide (q < 0)) (q.num.natAbs * r.den - r.num.natAbs * q.den) (q.den * r.den)) (rsz (sQ (decide (q < 0)) (q.num.natAbs * r.den - r.num.natAbs * q.den) (q.den * r.den)))])))))))))))))) := by kernel_rfl
theorem emul_end {q r : Rat} {n m : Nat} : funT T GE2 [] 60 fn_ref02_Mul (codeOf fn_ref02_Mul) ⟨zipSlots 0 [.rat q n, .rat r m], [], 0⟩ =
    some (ATree.must [(0 : Nat) < 1, (0 : Nat) < 1, (0 : Nat) < 1, (0 : Nat) < 1, nl q.num.natAbs < 2 ^ 39, nl r.num.natAbs < 2 ^ 39, (0 : Nat) < 1, (0 : Nat) < 1, nl q.den < 2 ^ 39, nl r.den < 2 ^ 39, nl (q.num.natAbs * r.num.natAbs) < 2 ^ 38, nl (q.den * r.den) < 2 ^ 38, q.den * r.den ≠ 0, (0 : Nat) < 1] (ATree.must [(0 : Nat) < 1] (ATree.leaf AEx.ret [rat (sQ (decide (q < 0) != decide (r < 0)) (q.num.natAbs * r.num.natAbs) (q.den * r.den)) (rsz (sQ (decide (q < 0) != decide (r < 0)) (q.num.natAbs * r.num.natAbs) (q.den * r.den)))]))) := by kernel_rfl
theorem ecmp_end {q r : Rat} {n m : Nat} : funT T GE2 [14, 17, 30] 60 fn_ref02_Cmp (codeOf fn_ref02_Cmp) ⟨zipSlots 0 [.rat q n, .rat r m], [], 0⟩ =
    some (ATree.must [(0 : Nat) < 1, (0 : Nat) < 1] (ATree.fork (sgnR q != sgnR r) (ATree.fork (decide (sgnR q < sgnR r)) (ATree.leaf AEx.ret [int IntKind.i64 (-1 : Int)]) (ATree.leaf AEx.ret [int IntKind.i64 (1 : Int)])) (ATree.must [(0 : Nat) < 1, (0 : Nat) < 1, nl q.num.natAbs < 2 ^ 39, nl r.den < 2 ^ 39, (0 : Nat) < 1, (0 : Nat) < 1, nl r.num.natAbs < 2 ^ 39, nl q.den < 2 ^ 39, nl (q.num.natAbs * r.den) < 2 ^ 40, nl (r.num.natAbs * q.den) < 2 ^ 40] (ATree.must [(0 : Nat) < 1] (ATree.fork (decide (q < 0)) (ATree.leaf AEx.ret [int IntKind.i64 (IntKind.i64.wrap ((0 : Int) - cmpI (q.num.natAbs * r.den) (r.num.natAbs * q.den)))]) (ATree.leaf AEx.ret [int IntKind.i64 (cmpI (q.num.natAbs * r.den) (r.num.natAbs * q.den))])))))) := by kernel_rfl
theorem emake_end {x y : Int} : funT T GE2 [11] 60 fn_ref02_Make (codeOf fn_ref02_Make) ⟨zipSlots 0 [.int .i64 x, .int .i64 y], [], 0⟩ =
    some (ATree.fork (y == (0 : Int)) (ATree.must [(0 : Nat) < 1] (ATree.must [(0 : Nat) < 1] (ATree.leaf AEx.ret [agg [AV.bool false, mag 0, mag 0], int IntKind.i64 (3 : Int)]))) (ATree.must [-(2 : Int) ^ 63 ≤ x, x < (2 : Int) ^ 63] (ATree.must [-(2 : Int) ^ 63 ≤ y, y < (2 : Int) ^ 63] (ATree.must [nl x.natAbs < 2 ^ 38, nl y.natAbs < 2 ^ 38, y.natAbs ≠ 0, (0 : Nat) < 1] (ATree.must [(0 : Nat) < 1] (ATree.leaf AEx.ret [rat (sQ (decide (x < (0 : Int)) != decide (y < (0 : Int))) x.natAbs y.natAbs) (rsz (sQ (decide (x < (0 : Int)) != decide (y < (0 : Int))) x.natAbs y.natAbs)), int IntKind.i64 (0 : Int)])))))) := by kernel_rfl
theorem eint_end {x : Int} : funT T GE2 [] 60 fn_ref02_Int (codeOf fn_ref02_Int) ⟨zipSlots 0 [.int .i64 x], [], 0⟩ =
    some (ATree.must [-(2 : Int) ^ 63 ≤ x, x < (2 : Int) ^ 63] (ATree.must [(0 : Nat) < 1] (ATree.must [(0 : Nat) < 1] (ATree.leaf AEx.ret [agg [AV.bool (decide (x < (0 : Int))), mag x.natAbs, mag 0]])))) := by kernel_rfl
theorem esub_end {q r : Rat} {n m : Nat} : funT T GE3 [] 60 fn_ref02_Sub (codeOf fn_ref02_Sub) ⟨zipSlots 0 [.rat q n, .rat r m], [], 0⟩ =
    some (ATree.must [(0 : Nat) < 1, (0 : Nat) < 1, n < 2 ^ 41, m < 2 ^ 41, (0 : Nat) < 1] (ATree.must [(0 : Nat) < 1] (ATree.leaf AEx.ret [rat (q + -r) (n + m + 1)]))) := by kernel_rfl
theorem efrac_end {x y : Int} : funT T GE3 [] 60 fn_ref02_Frac (codeOf fn_ref02_Frac) ⟨zipSlots 0 [.int .i64 x, .int .i64 y], [], 0⟩ =
    some (ATree.must [-(2 : Int) ^ 63 ≤ x, x < (2 : Int) ^ 63, -(2 : Int) ^ 63 ≤ y, y < (2 : Int) ^ 63, (0 : Nat) < 1] (ATree.must [(0 : Nat) < 1, (0 : Nat) < 1] (ATree.must [(0 : Nat) < 1] (ATree.leaf AEx.ret [rat ((↑x : Rat) / (↑y : Rat)) 64])))) := by kernel_rfl
theorem nl_lt38 {N n : Nat} (h : N < 2 ^ n) (hn : n < 2 ^ 42) : nl N < 2 ^ 38 := by
  have h1 : N < 2 ^ (32 * (n / 32 + 1)) := Nat.lt_of_lt_of_le h (Nat.pow_le_pow_right (by omega) (by omega))
  have := nl_spec.2 h1
  omega
section ops
variable {q r : Rat} {n m : Nat}
theorem lt_mul2 {a b n m : Nat} (ha : a < 2 ^ n) (hb : b < 2 ^ m) : a * b < 2 ^ (n + m) := by rw [Nat.pow_add]; exact Nat.mul_lt_mul'' ha hb
theorem eAdd_ok (hn : n < 2 ^ 41) (hm' : m < 2 ^ 41) (K : Nat) : FOK P ref02_Add K [.rat q n, .rat r m] [] (pres (.rat (q + r) (n + m + 1)) []) := by
  refine fok_szp fun ⟨hq, hr, _⟩ => ?_
  have hq : Sz q n := hq
  have hr : Sz r m := hr
  have d1 := q.den_nz
  have d2 := r.den_nz
  have hz := hq.add hr
  have a1 : nl q.num.natAbs < 2 ^ 38 := nl_lt38 hq.1 (by omega)
  have a2 : nl q.den < 2 ^ 38 := nl_lt38 hq.2 (by omega)
  have b1 : nl r.num.natAbs < 2 ^ 38 := nl_lt38 hr.1 (by omega)
  have b2 : nl r.den < 2 ^ 38 := nl_lt38 hr.2 (by omega)
  have x1 := lt_mul2 hq.1 hr.2
  have x2 := lt_mul2 hr.1 hq.2
  have m1 : nl (q.num.natAbs * r.den) < 2 ^ 38 := nl_lt38 x1 (by omega)
  have m2 : nl (r.num.natAbs * q.den) < 2 ^ 38 := nl_lt38 x2 (by omega)
  have m3 : nl (q.den * r.den) < 2 ^ 38 := nl_lt38 (lt_mul2 hq.2 hr.2) (by omega)
  have m4 : nl (q.num.natAbs * r.den + r.num.natAbs * q.den) < 2 ^ 38 := nl_lt38 (n := n + m + 1) (by rw [Nat.pow_succ]; rw [Nat.add_comm m n] at x2; omega) (by omega)
  have hd0 : q.den * r.den ≠ 0 := Nat.mul_ne_zero d1 d2
  have hv : q + r = sQ (decide (q < 0)) (q.num.natAbs * r.den) (q.den * r.den) + sQ (decide (r < 0)) (r.num.natAbs * q.den) (q.den * r.den) := by
    have := add_value q r (decide (r < 0))
    rw [rat_sQ r] at this
    exact this
  refine fok_tree hT GE2_ok hm is_eAdd rfl (of_decide_eq_true (by kernel_rfl)) rfl 60 eadd_end (fun _ => ?_) K []
  generalize q.num.natAbs * r.den = X at *
  generalize r.num.natAbs * q.den = Y at *
  generalize q.den * r.den = D at *
  simp only [ATree.all, allP, beq_iff_eq, beq_eq_false_iff_ne, ne_eq, decide_eq_true_eq, decide_eq_false_iff_not, cmpI_lt]
  have m5 : nl (Y - X) < 2 ^ 38 := Nat.lt_of_le_of_lt (nl_mono (by omega)) m2
  have m6 : nl (X - Y) < 2 ^ 38 := Nat.lt_of_le_of_lt (nl_mono (by omega)) m1
  refine ⟨by omega, fun hb => ⟨⟨by omega, by omega⟩, by omega, avLe0_rat_eq ?_ hz⟩, fun hb => ⟨by omega, fun hb2 => ⟨⟨by omega, by omega⟩, by omega, avLe0_rat_eq ?_ hz⟩, fun hb2 => ⟨⟨by omega, by omega, by omega, by omega, by omega, by omega, by omega, by omega⟩, ⟨by omega, by omega, by omega, by omega⟩, ⟨by omega, by omega⟩,
    fun hs => ⟨⟨by omega, by omega, by omega, m4, m3, hd0, by omega⟩, by omega, avLe0_rat_eq ?_ hz⟩, fun hs => ⟨⟨by omega, by omega⟩, fun hl => ⟨⟨by omega, by omega⟩, ⟨by omega, m5, m3, hd0, by omega⟩, by omega, avLe0_rat_eq ?_ hz⟩, fun hl => ⟨⟨by omega, by omega⟩, ⟨by omega, m6, m3, hd0, by omega⟩, by omega, avLe0_rat_eq ?_ hz⟩⟩⟩⟩⟩
  · have h0 : q = 0 := rat_num_zero.1 (nl_zero_iff.1 (by omega))
    rw [h0, Rat.zero_add]
  · have h0 : r = 0 := rat_num_zero.1 (nl_zero_iff.1 (by omega))
    rw [h0, Rat.add_zero]
  · rw [hv, hs, sQ_add_eq hd0]
  · rw [hv, sQ_add_lt hd0 hs (by omega)]
  · rw [hv, sQ_add_ge hd0 hs (by omega)]
theorem eMul_ok (hn : n < 2 ^ 41) (hm' : m < 2 ^ 41) (K : Nat) : FOK P ref02_Mul K [.rat q n, .rat r m] [] (pres (.rat (q * r) (n + m)) []) := by
  refine fok_szp fun ⟨hq, hr, _⟩ => ?_
  have hq : Sz q n := hq
  have hr : Sz r m := hr
  have d1 := q.den_nz
  have d2 := r.den_nz
  have a1 : nl q.num.natAbs < 2 ^ 38 := nl_lt38 hq.1 (by omega)
  have a2 : nl q.den < 2 ^ 38 := nl_lt38 hq.2 (by omega)
  have b1 : nl r.num.natAbs < 2 ^ 38 := nl_lt38 hr.1 (by omega)
  have b2 : nl r.den < 2 ^ 38 := nl_lt38 hr.2 (by omega)
  have m1 : nl (q.num.natAbs * r.num.natAbs) < 2 ^ 38 := nl_lt38 (lt_mul2 hq.1 hr.1) (by omega)
  have m3 : nl (q.den * r.den) < 2 ^ 38 := nl_lt38 (lt_mul2 hq.2 hr.2) (by omega)
  have hv : sQ (decide (q < 0) != decide (r < 0)) (q.num.natAbs * r.num.natAbs) (q.den * r.den) = q * r := by rw [← sQ_mul, rat_sQ, rat_sQ]
  refine fok_tree hT GE2_ok hm is_eMul rfl (of_decide_eq_true (by kernel_rfl)) rfl 60 emul_end (fun _ => ?_) K []
  simp only [ATree.all, allP]
  exact ⟨⟨by omega, by omega, by omega, by omega, by omega, by omega, by omega, by omega, by omega, by omega, m1, m3, Nat.mul_ne_zero d1 d2, by omega⟩, by omega, avLe0_rat_eq hv (hq.mul hr)⟩
theorem eCmp_ok (hn : n < 2 ^ 41) (hm' : m < 2 ^ 41) (K : Nat) : FOK P ref02_Cmp K [.rat q n, .rat r m] [] (pres (.int .i64 (cmpR q r)) []) := by
  refine fok_szp fun ⟨hq, hr, _⟩ => ?_
  have hq : Sz q n := hq
  have hr : Sz r m := hr
  have a1 : nl q.num.natAbs < 2 ^ 38 := nl_lt38 hq.1 (by omega)
  have a2 : nl q.den < 2 ^ 38 := nl_lt38 hq.2 (by omega)
  have b1 : nl r.num.natAbs < 2 ^ 38 := nl_lt38 hr.1 (by omega)
  have b2 : nl r.den < 2 ^ 38 := nl_lt38 hr.2 (by omega)
  have m1 : nl (q.num.natAbs * r.den) < 2 ^ 38 := nl_lt38 (lt_mul2 hq.1 hr.2) (by omega)
  have m2 : nl (r.num.natAbs * q.den) < 2 ^ 38 := nl_lt38 (lt_mul2 hr.1 hq.2) (by omega)
  refine fok_tree hT GE2_ok hm is_eCmp rfl (of_decide_eq_true (by kernel_rfl)) rfl 60 ecmp_end (fun _ => ?_) K []
  simp only [ATree.all, allP, bne_iff_ne, ne_eq, bne_eq_false_iff_eq]
  refine ⟨⟨by omega, by omega⟩, fun hs => ⟨fun hl => avLe0_int ?_, fun hl => avLe0_int ?_⟩, fun hs => ⟨⟨by omega, by omega, by omega, by omega, by omega, by omega, by omega, by omega, by omega, by omega⟩, by omega, fun hc => avLe0_int ?_, fun hc => avLe0_int ?_⟩⟩
  · rw [cmpR_sgn hs, if_pos (of_decide_eq_true hl)]
  · rw [cmpR_sgn hs, if_neg (of_decide_eq_false hl)]
  · rw [cmpR_same hs, if_pos (of_decide_eq_true hc), cmpI_wrap]
  · rw [cmpR_same hs, if_neg (of_decide_eq_false hc)]
end ops
theorem rat_div_int {x y : Int} (hy : y ≠ 0) : sQ (decide (x < 0) != decide (y < 0)) x.natAbs y.natAbs = (x : Rat) / (y : Rat) := by
  have h := rat_div_sQ (x : Rat) (y : Rat) (by simpa using hy)
  have c : ∀ {z : Int}, decide ((z : Rat) < 0) = decide (z < 0) := fun {z} => by rw [decide_eq_decide, rat_lt_zero, Rat.num_intCast]
  rw [c, c, Rat.num_intCast, Rat.num_intCast, Rat.den_intCast, Rat.den_intCast, Nat.mul_one, Nat.one_mul] at h
  exact h
theorem Sz_frac {x y : Int} (h1 : -2 ^ 63 ≤ x) (h2 : x < 2 ^ 63) (h3 : -2 ^ 63 ≤ y) (h4 : y < 2 ^ 63) (hy : y ≠ 0) : Sz ((x : Rat) / (y : Rat)) 64 := by
  rw [← rat_div_int hy]; exact Sz_sQ (by omega) (by omega) (by omega)
theorem eMake_ok {x y : Int} (h1 : -2 ^ 63 ≤ x) (h2 : x < 2 ^ 63) (h3 : -2 ^ 63 ≤ y) (h4 : y < 2 ^ 63) (K : Nat) : FOK P ref02_Make K [.int .i64 x, .int .i64 y] [] (pres (.tuple [.rat ((x : Rat) / (y : Rat)) 64, .int .i64 (if y = 0 then 3 else 0)]) []) := by
  refine fok_tree hT GE2_ok hm is_eMake rfl (of_decide_eq_true (by kernel_rfl)) rfl 60 emake_end (fun _ => ?_) K []
  simp only [ATree.all, allP, beq_iff_eq, beq_eq_false_iff_ne, ne_eq]
  refine ⟨fun hb => ⟨by omega, by omega, ?_, avLe0_int (by rw [if_pos hb]), trivial⟩, fun hb => ⟨⟨h1, h2⟩, ⟨h3, h4⟩, ⟨nl_lt38 (n := 64) (by omega) (by omega), nl_lt38 (n := 64) (by omega) (by omega), by omega, by omega⟩, by omega, avLe0_rat_eq (rat_div_int hb) (Sz_frac h1 h2 h3 h4 hb), avLe0_int (by rw [if_neg hb]), trivial⟩⟩
  rw [hb, show ((x : Rat) / ((0 : Int) : Rat)) = 0 by rw [Rat.intCast_zero, Rat.div_def, Rat.inv_zero, Rat.mul_zero]]
  exact avLe0_zero
theorem eInt_ok {n : Int} (h1 : -2 ^ 63 ≤ n) (h2 : n < 2 ^ 63) (K : Nat) : FOK P ref02_Int K [.int .i64 n] [] (pres (.rat (n : Rat) (max 1 (bitsN n.natAbs))) []) := by
  refine fok_tree hT GE2_ok hm is_eInt rfl (of_decide_eq_true (by kernel_rfl)) rfl 60 eint_end (fun _ => ?_) K []
  simp only [ATree.all, allP]
  refine ⟨⟨h1, h2⟩, by omega, by omega, avLe0_rat Sz_int ?_ (by rw [Rat.num_intCast]) (by rw [Rat.den_intCast, if_pos rfl])⟩
  rw [decide_eq_decide, rat_lt_zero, Rat.num_intCast]
theorem s_eMake_ok : ∀ K args pre r, s_eMake K args pre = some r → FOK P ref02_Make K args pre r := by
  refine pureSpec_ok fun K args r hk hs _ => ?_
  split at hs
  · simp only [Option.some.injEq] at hs
    subst hs
    exact fun need => eMake_ok need.1 need.2.1 need.2.2.1 need.2.2.2 K trivial
  · simp at hs
theorem s_eAdd_ok : ∀ K args pre r, s_eAdd K args pre = some r → FOK P ref02_Add K args pre r := by
  refine pureSpec_ok fun K args r hk hs _ => ?_
  split at hs
  · simp only [Option.some.injEq] at hs
    subst hs
    exact fun need => eAdd_ok need.1 need.2 K trivial
  · simp at hs
theorem GE3_ok : GOK P GE3 := gok_cons s_eAdd_ok (gok_cons s_eNeg_ok (gok_cons s_eMake_ok gok_nil))
theorem eSub_ok {q r : Rat} {n m : Nat} (hn : n < 2 ^ 41) (hm' : m < 2 ^ 41) (K : Nat) : FOK P ref02_Sub K [.rat q n, .rat r m] [] (pres (.rat (q - r) (n + m + 1)) []) := by
  refine fok_tree hT GE3_ok hm is_eSub rfl (of_decide_eq_true (by kernel_rfl)) rfl 60 esub_end (fun _ => ?_) K []
  simp only [ATree.all, allP]
  exact ⟨⟨by omega, by omega, hn, hm', by omega⟩, by omega, avLe0_of_eq (by rw [Rat.sub_eq_add_neg])⟩
theorem eFrac_ok {x y : Int} (h1 : -2 ^ 63 ≤ x) (h2 : x < 2 ^ 63) (h3 : -2 ^ 63 ≤ y) (h4 : y < 2 ^ 63) (K : Nat) : FOK P ref02_Frac K [.int .i64 x, .int .i64 y] [] (pres (.rat ((x : Rat) / (y : Rat)) 64) []) := by
  refine fok_tree hT GE3_ok hm is_eFrac rfl (of_decide_eq_true (by kernel_rfl)) rfl 60 efrac_end (fun _ => ?_) K []
  simp only [ATree.all, allP]
  exact ⟨⟨h1, h2, h3, h4, by omega⟩, ⟨by omega, by omega⟩, by omega, .refl _⟩
def s_eInt : Spec := pureSpec fun l => match l with
  | [.int .i64 n] => some (pres (.rat (n : Rat) (max 1 (bitsN n.natAbs))) [-2 ^ 63 ≤ n, n < 2 ^ 63])
  | _ => none
theorem s_eInt_ok : ∀ K args pre r, s_eInt K args pre = some r → FOK P ref02_Int K args pre r := by
  refine pureSpec_ok fun K args r hk hs _ => ?_
  split at hs
  · simp only [Option.some.injEq] at hs
    subst hs
    exact fun need => eInt_ok need.1 need.2 K trivial
  · simp at hs
def s_eFrac : Spec := pureSpec fun l => match l with
  | [.int .i64 x, .int .i64 y] => some (pres (.rat ((x : Rat) / (y : Rat)) 64) [-2 ^ 63 ≤ x, x < 2 ^ 63, -2 ^ 63 ≤ y, y < 2 ^ 63])
  | _ => none
theorem s_eFrac_ok : ∀ K args pre r, s_eFrac K args pre = some r → FOK P ref02_Frac K args pre r := by
  refine pureSpec_ok fun K args r hk hs _ => ?_
  split at hs
  · simp only [Option.some.injEq] at hs
    subst hs
    exact fun need => eFrac_ok need.1 need.2.1 need.2.2.1 need.2.2.2 K trivial
  · simp at hs
end Go.Am.B
