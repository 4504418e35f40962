/- rational.Add, Sub, Mul, Quo, Cmp, Min, Max, Int. -/
import Derived.Test.YtnocdkaonpdmjaaB20
set_option linter.unusedVariables false
namespace Go.Am.B
open Go Go.Am.N AV
theorem is_rAdd : FnIs P rational_Add fn_rational_Add (codeOf fn_rational_Add) := fnIs get_rational_Add (by kernel_rfl) (by kernel_rfl) (by kernel_rfl)
theorem is_rSub : FnIs P rational_Sub fn_rational_Sub (codeOf fn_rational_Sub) := fnIs get_rational_Sub (by kernel_rfl) (by kernel_rfl) (by kernel_rfl)
def s_radd : Spec := pureSpec fun l => match l with
  | [.rat q n, .rat r m, .bool s] => some (pres (.rat (q + sQ s r.num.natAbs r.den) (n + m + 1)) [n < 2 ^ 42, m < 2 ^ 42])
  | _ => none
def s_rCmp : Spec := pureSpec fun l => match l with
  | [.rat q n, .rat r m] => some (pres (.int .i64 (cmpR q r)) [n < 2 ^ 42, m < 2 ^ 42])
  | _ => none
abbrev copD : FuncId × Spec := (999999991, fun _ _ _ => none)
def GA : Contracts := (rational_add, s_radd) :: (rational_Cmp, s_rCmp) :: copD :: (rational_size, s_size) :: (rational_one, s_one) :: (rational_reduce, s_reduce) :: []
theorem addF_end {q r : Rat} {n m : Nat} : funT T GA [] 60 fn_rational_Add (codeOf fn_rational_Add) ⟨zipSlots 0 [.rat q n, .rat r m], [], 0⟩ =
    some (ATree.must [(0 : Nat) < 1, (0 : Nat) < 1, (0 : Nat) < 1, n < 2 ^ 42, m < 2 ^ 42, (0 : Nat) < 1] (ATree.must [(0 : Nat) < 1] (ATree.leaf AEx.ret [rat (q + sQ (decide (r < 0)) r.num.natAbs r.den) (n + m + 1)]))) := by kernel_rfl
theorem subF_end {q r : Rat} {n m : Nat} : funT T GA [] 60 fn_rational_Sub (codeOf fn_rational_Sub) ⟨zipSlots 0 [.rat q n, .rat r m], [], 0⟩ =
    some (ATree.must [(0 : Nat) < 1, (0 : Nat) < 1, (0 : Nat) < 1, n < 2 ^ 42, m < 2 ^ 42, (0 : Nat) < 1] (ATree.must [(0 : Nat) < 1] (ATree.leaf AEx.ret [rat (q + sQ (!decide (r < 0)) r.num.natAbs r.den) (n + m + 1)]))) := by kernel_rfl
theorem cmp_A {q r : Rat} {n m : Nat} : funT T GQ [20, 23, 34, 47, 49, 56, 63, 76] 60 fn_rational_Cmp (codeOf fn_rational_Cmp) ⟨zipSlots 0 [.rat q n, .rat r m], [], 0⟩ =
    some (ATree.must [(0 : Nat) < 1, n < 2 ^ 44, (0 : Nat) < 1, m < 2 ^ 44] (ATree.fork (sgnR q != sgnR r) (ATree.fork (decide (sgnR q < sgnR r)) (ATree.leaf AEx.ret [int IntKind.i64 (-1 : Int)]) (ATree.leaf AEx.ret [int IntKind.i64 (1 : Int)])) (ATree.must [(0 : Nat) < 1] (ATree.must [(0 : Nat) < 1, (0 : Nat) < 1, nl (if q.den = 1 then 0 else q.den) < 2 ^ 40, nl (if r.den = 1 then 0 else r.den) < 2 ^ 40] (ATree.fork (decide ((if q.den = 1 then 0 else q.den) = if r.den = 1 then 0 else r.den)) (ATree.must [(0 : Nat) < 1, (0 : Nat) < 1, nl q.num.natAbs < 2 ^ 40, nl r.num.natAbs < 2 ^ 40] (ATree.must [(0 : Nat) < 1] (ATree.fork (decide (q < 0)) (ATree.leaf AEx.ret [int IntKind.i64 (IntKind.i64.wrap ((0 : Int) - cmpI q.num.natAbs r.num.natAbs))]) (ATree.leaf AEx.ret [int IntKind.i64 (cmpI q.num.natAbs r.num.natAbs)])))) (ATree.must [(0 : Nat) < 1] (ATree.fork (pOK q) (ATree.must [pOK q = true] (ATree.fork (bif true then pOK r else false) (ATree.fork (decide (IntKind.u64.wrap ((↑(if pOK q = true then q.num.natAbs else 0) : Int) * (↑(if pOK r = true then r.den else 0) : Int)) < IntKind.u64.wrap ((↑(if pOK r = true then r.num.natAbs else 0) : Int) * (↑(if pOK q = true then q.den else 0) : Int)))) (ATree.must [(0 : Nat) < 1] (ATree.fork (decide (q < 0)) (ATree.leaf AEx.ret [int IntKind.i64 (1 : Int)]) (ATree.leaf AEx.ret [int IntKind.i64 (-1 : Int)]))) (ATree.fork (decide (IntKind.u64.wrap ((↑(if pOK q = true then q.num.natAbs else 0) : Int) * (↑(if pOK r = true then r.den else 0) : Int)) > IntKind.u64.wrap ((↑(if pOK r = true then r.num.natAbs else 0) : Int) * (↑(if pOK q = true then q.den else 0) : Int)))) (ATree.must [(0 : Nat) < 1] (ATree.fork (decide (q < 0)) (ATree.leaf AEx.ret [int IntKind.i64 (-1 : Int)]) (ATree.leaf AEx.ret [int IntKind.i64 (1 : Int)]))) (ATree.must [(0 : Nat) < 1] (ATree.fork (decide (q < 0)) (ATree.leaf AEx.ret [int IntKind.i64 (0 : Int)]) (ATree.leaf AEx.ret [int IntKind.i64 (0 : Int)]))))) (ATree.must [(0 : Nat) < 1, (0 : Nat) < 1, nl q.num.natAbs < 2 ^ 40, nl r.den < 2 ^ 40, (0 : Nat) < 1, (0 : Nat) < 1, nl r.num.natAbs < 2 ^ 40, nl q.den < 2 ^ 40, nl (q.num.natAbs * r.den) < 2 ^ 40, nl (r.num.natAbs * q.den) < 2 ^ 40] (ATree.must [(0 : Nat) < 1] (ATree.fork (decide (q < 0)) (ATree.leaf AEx.ret [int IntKind.i64 (IntKind.i64.wrap ((0 : Int) - cmpI (q.num.natAbs * r.den) (r.num.natAbs * q.den)))]) (ATree.leaf AEx.ret [int IntKind.i64 (cmpI (q.num.natAbs * r.den) (r.num.natAbs * q.den))])))))) (ATree.must [pOK q = false] (ATree.fork false (ATree.fork (decide (IntKind.u64.wrap ((↑(if pOK q = true then q.num.natAbs else 0) : Int) * (↑(if pOK r = true then r.den else 0) : Int)) < IntKind.u64.wrap ((↑(if pOK r = true then r.num.natAbs else 0) : Int) * (↑(if pOK q = true then q.den else 0) : Int)))) (ATree.must [(0 : Nat) < 1] (ATree.fork (decide (q < 0)) (ATree.leaf AEx.ret [int IntKind.i64 (1 : Int)]) (ATree.leaf AEx.ret [int IntKind.i64 (-1 : Int)]))) (ATree.fork (decide (IntKind.u64.wrap ((↑(if pOK q = true then q.num.natAbs else 0) : Int) * (↑(if pOK r = true then r.den else 0) : Int)) > IntKind.u64.wrap ((↑(if pOK r = true then r.num.natAbs else 0) : Int) * (↑(if pOK q = true then q.den else 0) : Int)))) (ATree.must [(0 : Nat) < 1] (ATree.fork (decide (q < 0)) (ATree.leaf AEx.ret [int IntKind.i64 (-1 : Int)]) (ATree.leaf AEx.ret [int IntKind.i64 (1 : Int)]))) (ATree.must [(0 : Nat) < 1] (ATree.fork (decide (q < 0)) (ATree.leaf AEx.ret [int IntKind.i64 (0 : Int)]) (ATree.leaf AEx.ret [int IntKind.i64 (0 : Int)]))))) (ATree.must [(0 : Nat) < 1, (0 : Nat) < 1, nl q.num.natAbs < 2 ^ 40, nl r.den < 2 ^ 40, (0 : Nat) < 1, (0 : Nat) < 1, nl r.num.natAbs < 2 ^ 40, nl q.den < 2 ^ 40, nl (q.num.natAbs * r.den) < 2 ^ 40, nl (r.num.natAbs * q.den) < 2 ^ 40] (ATree.must [(0 : Nat) < 1] (ATree.fork (decide (q < 0)) (ATree.leaf AEx.ret [int IntKind.i64 (IntKind.i64.wrap ((0 : Int) - cmpI (q.num.natAbs * r.den) (r.num.natAbs * q.den)))]) (ATree.leaf AEx.ret [int IntKind.i64 (cmpI (q.num.natAbs * r.den) (r.num.natAbs * q.den))]))))))))))))) := by kernel_rfl
theorem s_radd_ok : ∀ K args pre r, s_radd K args pre = some r → FOK P rational_add K args pre r := by
  refine pureSpec_ok fun K args r hk hs _ => ?_
  split at hs
  · simp only [Option.some.injEq] at hs
    subst hs
    exact fun need => radd_ok need.1 need.2 K [] trivial
  · simp at hs
theorem cmpR_sgn {q r : Rat} (h : sgnR q ≠ sgnR r) : cmpR q r = if sgnR q < sgnR r then -1 else 1 := by
  unfold sgnR cmpR at *
  grind
theorem cmpI_neg {a b : Nat} : -cmpI a b = cmpI b a := by unfold cmpI; split <;> split <;> omega
theorem cmpI_scale {a b k : Nat} (hk : 0 < k) : cmpI (a * k) (b * k) = cmpI a b := by
  unfold cmpI
  simp only [Nat.mul_lt_mul_right hk]
theorem cmpI_wrap {a b : Nat} : IntKind.i64.wrap (0 - cmpI a b) = -cmpI a b := by
  have : cmpI a b = -1 ∨ cmpI a b = 0 ∨ cmpI a b = 1 := by unfold cmpI; split; exact .inl rfl; split; exact .inr (.inr rfl); exact .inr (.inl rfl)
  rcases this with h | h | h <;> rw [h] <;> rfl
theorem cmpR_same {q r : Rat} (h : sgnR q = sgnR r) : cmpR q r = if q < 0 then -cmpI (q.num.natAbs * r.den) (r.num.natAbs * q.den) else cmpI (q.num.natAbs * r.den) (r.num.natAbs * q.den) := by
  have h1 : q < 0 ↔ r < 0 := by unfold sgnR at h; grind
  have e1 : ∀ {a b : Nat}, (-(a : Int)) * (b : Int) = -((a * b : Nat) : Int) := fun {a b} => by simp [Int.neg_mul]
  have e2 : ∀ {a b : Nat}, (a : Int) * (b : Int) = ((a * b : Nat) : Int) := fun {a b} => by simp
  unfold cmpR
  by_cases hq : q < 0
  · have hr := h1.1 hq
    have q1 : q.num = -(q.num.natAbs : Int) := by have := rat_lt_zero.1 hq; omega
    have r1 : r.num = -(r.num.natAbs : Int) := by have := rat_lt_zero.1 hr; omega
    have l1 : q < r ↔ r.num.natAbs * q.den < q.num.natAbs * r.den := by
      rw [Rat.lt_iff]
      conv => lhs; rw [q1, r1, e1, e1]
      omega
    have l2 : r < q ↔ q.num.natAbs * r.den < r.num.natAbs * q.den := by
      rw [Rat.lt_iff]
      conv => lhs; rw [q1, r1, e1, e1]
      omega
    rw [if_pos hq, cmpI_neg]
    unfold cmpI
    simp only [l1, l2]
  · have hr : ¬ r < 0 := fun h => hq (h1.2 h)
    have q1 : q.num = (q.num.natAbs : Int) := by have : ¬ q.num < 0 := fun h => hq (rat_lt_zero.2 h); omega
    have r1 : r.num = (r.num.natAbs : Int) := by have : ¬ r.num < 0 := fun h => hr (rat_lt_zero.2 h); omega
    have l1 : q < r ↔ q.num.natAbs * r.den < r.num.natAbs * q.den := by
      rw [Rat.lt_iff]
      conv => lhs; rw [q1, r1, e2, e2]
      omega
    have l2 : r < q ↔ r.num.natAbs * q.den < q.num.natAbs * r.den := by
      rw [Rat.lt_iff]
      conv => lhs; rw [q1, r1, e2, e2]
      omega
    rw [if_neg hq]
    unfold cmpI
    simp only [l1, l2]
theorem rCmp_ok {q r : Rat} {n m : Nat} (hn : n < 2 ^ 42) (hm' : m < 2 ^ 42) (K : Nat) (pre : Store) : FOK P rational_Cmp K [.rat q n, .rat r m] pre (pres (.int .i64 (cmpR q r)) []) := by
  refine fok_szp fun ⟨hq, hr, _⟩ => ?_
  have hq : Sz q n := hq
  have hr : Sz r m := hr
  obtain ⟨a1, a2, a3⟩ := Sz.nls hq (by omega)
  obtain ⟨b1, b2, b3⟩ := Sz.nls hr (by omega)
  have d1 := q.den_nz
  have d2 := r.den_nz
  have m1 : nl (q.num.natAbs * r.den) < 2 ^ 40 := nl_lt_of (n := n + m) (by rw [Nat.pow_add]; exact Nat.mul_lt_mul'' hq.1 hr.2) (by omega)
  have m2 : nl (r.num.natAbs * q.den) < 2 ^ 40 := nl_lt_of (n := m + n) (by rw [Nat.pow_add]; exact Nat.mul_lt_mul'' hr.1 hq.2) (by omega)
  refine fok_tree hT GQ_ok hm is_rCmp rfl (of_decide_eq_true (by kernel_rfl)) rfl 60 cmp_A (fun _ => ?_) K pre
  simp only [ATree.all, allP, bne_iff_ne, ne_eq, bne_eq_false_iff_eq]
  refine ⟨⟨by omega, by omega, by omega, by omega⟩, fun hs => ⟨fun hl => avLe0_int ?_, fun hl => avLe0_int ?_⟩, fun hs => ⟨by omega, ⟨by omega, by omega, a3, b3⟩, fun hd => ⟨⟨by omega, by omega, a1, b1⟩, by omega, fun hc => avLe0_int ?_, fun hc => avLe0_int ?_⟩, fun hd => ⟨by omega, fun hp => ⟨hp, fun hp2 => ?_, fun hp2 => ⟨⟨by omega, by omega, a1, b2, by omega, by omega, b1, a2, m1, m2⟩, by omega, fun hc => avLe0_int ?_, fun hc => avLe0_int ?_⟩⟩, fun hp => ⟨hp, fun h => by simp at h, fun _ => ⟨⟨by omega, by omega, a1, b2, by omega, by omega, b1, a2, m1, m2⟩, by omega, fun hc => avLe0_int ?_, fun hc => avLe0_int ?_⟩⟩⟩⟩⟩
  · rw [cmpR_sgn hs, if_pos (of_decide_eq_true hl)]
  · rw [cmpR_sgn hs, if_neg (of_decide_eq_false hl)]
  · have hd := of_decide_eq_true hd
    have e : q.den = r.den := by split at hd <;> split at hd <;> omega
    rw [cmpR_same hs, if_pos (of_decide_eq_true hc), e, cmpI_scale (by omega), cmpI_wrap]
  · have hd := of_decide_eq_true hd
    have e : q.den = r.den := by split at hd <;> split at hd <;> omega
    rw [cmpR_same hs, if_neg (of_decide_eq_false hc), e, cmpI_scale (by omega)]
  · have hp2 := bif_tt hp2
    obtain ⟨q1, q2⟩ := pOK_lt hp
    obtain ⟨r1, r2⟩ := pOK_lt hp2
    rw [if_pos hp, if_pos hp2, if_pos hp2, if_pos hp, (wmul64 q1 r2).1, (wmul64 r1 q2).1]
    have hcs := cmpR_same hs
    generalize q.num.natAbs * r.den = X at *
    generalize r.num.natAbs * q.den = Y at *
    unfold cmpI at hcs
    refine ⟨fun h1 => ⟨by omega, fun hc => avLe0_int ?_, fun hc => avLe0_int ?_⟩, fun h1 => ⟨fun h2 => ⟨by omega, fun hc => avLe0_int ?_, fun hc => avLe0_int ?_⟩, fun h2 => ⟨by omega, fun hc => avLe0_int ?_, fun hc => avLe0_int ?_⟩⟩⟩
    all_goals rw [hcs]
    · rw [if_pos (of_decide_eq_true hc), if_pos (by have := of_decide_eq_true h1; omega)]; rfl
    · rw [if_neg (of_decide_eq_false hc), if_pos (by have := of_decide_eq_true h1; omega)]
    · rw [if_pos (of_decide_eq_true hc), if_neg (by have := of_decide_eq_false h1; omega), if_pos (by have := of_decide_eq_true h2; omega)]
    · rw [if_neg (of_decide_eq_false hc), if_neg (by have := of_decide_eq_false h1; omega), if_pos (by have := of_decide_eq_true h2; omega)]
    · rw [if_pos (of_decide_eq_true hc), if_neg (by have := of_decide_eq_false h1; omega), if_neg (by have := of_decide_eq_false h2; omega)]; rfl
    · rw [if_neg (of_decide_eq_false hc), if_neg (by have := of_decide_eq_false h1; omega), if_neg (by have := of_decide_eq_false h2; omega)]
  · rw [cmpR_same hs, if_pos (of_decide_eq_true hc), cmpI_wrap]
  · rw [cmpR_same hs, if_neg (of_decide_eq_false hc)]
  · rw [cmpR_same hs, if_pos (of_decide_eq_true hc), cmpI_wrap]
  · rw [cmpR_same hs, if_neg (of_decide_eq_false hc)]
theorem s_rCmp_ok : ∀ K args pre r, s_rCmp K args pre = some r → FOK P rational_Cmp K args pre r := by
  refine pureSpec_ok fun K args r hk hs _ => ?_
  split at hs
  · simp only [Option.some.injEq] at hs
    subst hs
    exact fun need => rCmp_ok need.1 need.2 K [] trivial
  · simp at hs
theorem copD_ok : ∀ K args pre r, copD.2 K args pre = some r → FOK P copD.1 K args pre r := fun _ _ _ _ h => nomatch h
theorem GA_ok : GOK P GA := gok_cons s_radd_ok (gok_cons s_rCmp_ok (gok_cons copD_ok (gok_cons s_size_ok (gok_cons s_one_ok (gok_cons s_reduce_ok gok_nil)))))
section ops
variable {q r : Rat} {n m : Nat}
theorem rAdd_ok (hn : n < 2 ^ 42) (hm' : m < 2 ^ 42) (K : Nat) : FOK P rational_Add K [.rat q n, .rat r m] [] (pres (.rat (q + r) (n + m + 1)) []) := by
  refine fok_tree hT GA_ok hm is_rAdd rfl (of_decide_eq_true (by kernel_rfl)) rfl 60 addF_end (fun _ => ?_) K []
  simp only [ATree.all, allP, rat_sQ]
  exact ⟨⟨by omega, by omega, by omega, hn, hm', by omega⟩, by omega, .refl _⟩
theorem sQ_flip (r : Rat) : sQ (!decide (r < 0)) r.num.natAbs r.den = -r := by
  have h := rat_sQ r
  conv => rhs; rw [← h]
  unfold sQ
  rw [Rat.neg_mkRat]
  congr 1
  unfold sgn
  by_cases h : r < 0 <;> simp [h]
theorem rSub_ok (hn : n < 2 ^ 42) (hm' : m < 2 ^ 42) (K : Nat) : FOK P rational_Sub K [.rat q n, .rat r m] [] (pres (.rat (q - r) (n + m + 1)) []) := by
  refine fok_tree hT GA_ok hm is_rSub rfl (of_decide_eq_true (by kernel_rfl)) rfl 60 subF_end (fun _ => ?_) K []
  simp only [ATree.all, allP, sQ_flip]
  exact ⟨⟨by omega, by omega, by omega, hn, hm', by omega⟩, by omega, avLe0_of_eq (by rw [Rat.sub_eq_add_neg])⟩
theorem cmpR_lt {q r : Rat} : cmpR q r < 0 ↔ q < r := by unfold cmpR; grind
theorem cmpR_gt {q r : Rat} : cmpR q r > 0 ↔ r < q := by unfold cmpR; grind
theorem Sz_int {n : Int} : Sz (n : Rat) (max 1 (bitsN n.natAbs)) := by
  refine ⟨?_, ?_⟩
  · rw [Rat.num_intCast]
    exact Nat.lt_of_lt_of_le (bitsN_le.1 (Nat.le_refl _)) (Nat.pow_le_pow_right (by omega) (Nat.le_max_right _ _))
  · rw [Rat.den_intCast]
    exact Nat.lt_of_lt_of_le (show 1 < 2 ^ 1 by omega) (Nat.pow_le_pow_right (by omega) (Nat.le_max_left _ _))
theorem rMul_ok (hn : n < 2 ^ 42) (hm' : m < 2 ^ 42) (K : Nat) : FOK P rational_Mul K [.rat q n, .rat r m] [] (pres (.rat (q * r) (n + m)) []) := by
  refine fok_szp fun ⟨hq, hr, _⟩ => ?_
  have hq : Sz q n := hq
  have hr : Sz r m := hr
  obtain ⟨a1, a2, a3⟩ := Sz.nls hq (by omega)
  obtain ⟨b1, b2, b3⟩ := Sz.nls hr (by omega)
  have d1 := q.den_nz
  have d2 := r.den_nz
  have m1 : nl (q.num.natAbs * r.num.natAbs) < 2 ^ 40 := nl_lt_of (n := n + m) (by rw [Nat.pow_add]; exact Nat.mul_lt_mul'' hq.1 hr.1) (by omega)
  have m2 : nl (q.den * r.den) < 2 ^ 40 := nl_lt_of (n := n + m) (by rw [Nat.pow_add]; exact Nat.mul_lt_mul'' hq.2 hr.2) (by omega)
  have hz := hq.mul hr
  have hv : sQ (decide (q < 0) != decide (r < 0)) (q.num.natAbs * r.num.natAbs) (q.den * r.den) = q * r := by rw [← sQ_mul, rat_sQ, rat_sQ]
  have hzero : q = 0 ∨ r = 0 → avLe0 (.agg [.bool false, .mag 0, .mag 0]) (.rat (q * r) (n + m)) := by
    intro h
    have e : q * r = 0 := by rcases h with h | h <;> subst h <;> simp
    obtain ⟨k, hk⟩ : ∃ k, n + m = k + 1 := ⟨n + m - 1, by have := hq.pos; omega⟩
    rw [e, hk]; exact avLe0_zero
  refine fok_tree hT GQ_ok hm is_rMul rfl (of_decide_eq_true (by kernel_rfl)) rfl 60 mul_end (fun _ => ?_) K []
  have hlong : (ATree.must
                  [(0 : Nat) < 1, (0 : Nat) < 1, (0 : Nat) < 1, (0 : Nat) < 1, nl q.num.natAbs < 2 ^ 40, nl r.num.natAbs < 2 ^ 40, (0 : Nat) < 1, (0 : Nat) < 1, nl q.den < 2 ^ 40, nl r.den < 2 ^ 40, nl (q.num.natAbs * r.num.natAbs) < 2 ^ 40, nl (q.den * r.den) < 2 ^ 40, (0 : Nat) < 1]
                  (ATree.must [(0 : Nat) < 1]
                    (ATree.leaf AEx.ret
                      [AV.rat (sQ (decide (q < (0 : Rat)) != decide (r < (0 : Rat))) (q.num.natAbs * r.num.natAbs) (q.den * r.den))
                          (rsz (sQ (decide (q < (0 : Rat)) != decide (r < (0 : Rat))) (q.num.natAbs * r.num.natAbs) (q.den * r.den)))]))).all fun _ us => resOK us (.rat (q * r) (n + m)) := by
    simp only [ATree.all, allP]
    exact ⟨⟨by omega, by omega, by omega, by omega, a1, b1, by omega, by omega, a2, b2, m1, m2, by omega⟩, by omega, avLe0_rat_eq hv hz⟩
  refine ⟨fun hb => ⟨⟨show 0 < 1 by omega, hb⟩, fun _ => ⟨show 0 < 1 by omega, show 0 < 1 by omega, hzero (.inl ?_)⟩, fun h => by simp at h⟩, fun hb => ⟨⟨show 0 < 1 by omega, hb, show 0 < 1 by omega⟩, fun hc => ⟨show 0 < 1 by omega, show 0 < 1 by omega, hzero (.inr ?_)⟩, fun hc => ⟨show 0 < 1 by omega, fun h1 => ⟨show 0 < 1 by omega, fun h2 => ?_, fun h2 => hlong⟩, fun h1 => hlong⟩⟩⟩
  · have := eq_of_beq hb
    exact rat_num_zero.1 (nl_zero_iff.1 (by omega))
  · have := eq_of_beq (bif_ff hc)
    exact rat_num_zero.1 (nl_zero_iff.1 (by omega))
  · obtain ⟨q1, q2⟩ := pOK_lt h1
    obtain ⟨r1, r2⟩ := pOK_lt h2
    obtain ⟨wx, bx⟩ := wmul64 q1 r1
    obtain ⟨wd, bd⟩ := wmul64 q2 r2
    have hd0 : q.den * r.den ≠ 0 := Nat.mul_ne_zero d1 d2
    rw [if_pos h1, if_pos h2, if_pos h1, if_pos h2, wx, wd]
    simp only [ATree.all, allP, Int.toNat_natCast]
    exact ⟨⟨by omega, by omega, by omega, by omega, by omega⟩, by omega, avLe0_rat_eq hv hz⟩
theorem rat_div_sQ (q r : Rat) (hr : r ≠ 0) : sQ (decide (q < 0) != decide (r < 0)) (q.num.natAbs * r.den) (q.den * r.num.natAbs) = q / r := by
  have hn : r.num ≠ 0 := fun h => hr (Rat.num_eq_zero.1 h)
  have hi : r⁻¹ = sQ (decide (r < 0)) r.den r.num.natAbs := by
    rw [← rat_sQ r⁻¹]
    have e1 : r⁻¹.num.natAbs = r.den := by rw [Rat.num_inv, Int.natAbs_mul, Int.natAbs_natCast, Int.natAbs_sign_of_ne_zero hn, Nat.one_mul]
    have e2 : r⁻¹.den = r.num.natAbs := by rw [Rat.den_inv, if_neg hn]
    have e3 : decide (r⁻¹ < 0) = decide (r < 0) := by
      rw [decide_eq_decide, rat_lt_zero, rat_lt_zero, Rat.num_inv]
      have hd := r.den_nz
      have hd' : (0 : Int) < (r.den : Int) := by omega
      rcases Int.lt_trichotomy r.num 0 with h | h | h
      · rw [Int.sign_eq_neg_one_of_neg h]; omega
      · exact absurd h hn
      · rw [Int.sign_eq_one_of_pos h]; omega
    rw [e1, e2, e3]
  rw [Rat.div_def, hi]
  conv => rhs; rw [← rat_sQ q]
  rw [sQ_mul]
theorem rQuo_ok (hn : n < 2 ^ 42) (hm' : m < 2 ^ 42) (K : Nat) : FOK P rational_Quo K [.rat q n, .rat r m] [] (pres (.tuple [.rat (q / r) (n + m), .int .i64 (if r = 0 then 3 else 0)]) []) := by
  refine fok_szp fun ⟨hq, hr, _⟩ => ?_
  have hq : Sz q n := hq
  have hr : Sz r m := hr
  obtain ⟨a1, a2, a3⟩ := Sz.nls hq (by omega)
  obtain ⟨b1, b2, b3⟩ := Sz.nls hr (by omega)
  have d1 := q.den_nz
  have d2 := r.den_nz
  have m1 : nl (q.num.natAbs * r.den) < 2 ^ 40 := nl_lt_of (n := n + m) (by rw [Nat.pow_add]; exact Nat.mul_lt_mul'' hq.1 hr.2) (by omega)
  have m2 : nl (q.den * r.num.natAbs) < 2 ^ 40 := nl_lt_of (n := n + m) (by rw [Nat.pow_add]; exact Nat.mul_lt_mul'' hq.2 hr.1) (by omega)
  have hz := hq.div hr
  have sg : ∀ {x : Rat}, sgnR x = 0 ↔ x = 0 := by intro x; unfold sgnR; grind
  refine fok_tree hT GQ_ok hm is_rQuo rfl (of_decide_eq_true (by kernel_rfl)) rfl 60 quo_end (fun _ => ?_) K []
  refine ⟨⟨show 0 < 1 by omega, show m < 2 ^ 44 by omega⟩, fun hb => ⟨show 0 < 1 by omega, show 0 < 1 by omega, ?_, ?_, trivial⟩, fun hb => ⟨show 0 < 1 by omega, ?_⟩⟩
  · have h0 : r = 0 := sg.1 (eq_of_beq hb)
    have e : q / r = 0 := by rw [h0, Rat.div_def, Rat.inv_zero, Rat.mul_zero]
    obtain ⟨k, hk⟩ : ∃ k, n + m = k + 1 := ⟨n + m - 1, by have := hq.pos; omega⟩
    rw [e, hk]; exact avLe0_zero
  · have h0 : r = 0 := sg.1 (eq_of_beq hb)
    exact avLe0_int (by rw [if_pos h0])
  have h0 : r ≠ 0 := fun h => by
    rw [h] at hb
    simp [sgnR] at hb
  have hv := rat_div_sQ q r h0
  have he : avLe0 (.int .i64 0) (.int .i64 (if r = 0 then 3 else 0)) := avLe0_int (by rw [if_neg h0])
  have hlong : (ATree.must
                  [(0 : Nat) < 1, (0 : Nat) < 1, (0 : Nat) < 1, (0 : Nat) < 1, nl q.num.natAbs < 2 ^ 40, nl r.den < 2 ^ 40, (0 : Nat) < 1, (0 : Nat) < 1, nl q.den < 2 ^ 40, nl r.num.natAbs < 2 ^ 40, nl (q.num.natAbs * r.den) < 2 ^ 40, nl (q.den * r.num.natAbs) < 2 ^ 40, (0 : Nat) < 1]
                  (ATree.must [(0 : Nat) < 1]
                    (ATree.leaf AEx.ret
                      [AV.rat (sQ (decide (q < (0 : Rat)) != decide (r < (0 : Rat))) (q.num.natAbs * r.den) (q.den * r.num.natAbs))
                          (rsz (sQ (decide (q < (0 : Rat)) != decide (r < (0 : Rat))) (q.num.natAbs * r.den) (q.den * r.num.natAbs))), .int .i64 0]))).all fun _ us => resOK us (.tuple [.rat (q / r) (n + m), .int .i64 (if r = 0 then 3 else 0)]) := by
    simp only [ATree.all, allP]
    exact ⟨⟨by omega, by omega, by omega, by omega, a1, b2, by omega, by omega, a2, b1, m1, m2, by omega⟩, by omega, avLe0_rat_eq hv hz, he, trivial⟩
  refine ⟨fun h1 => ⟨show 0 < 1 by omega, fun h2 => ?_, fun h2 => hlong⟩, fun h1 => hlong⟩
  obtain ⟨q1, q2⟩ := pOK_lt h1
  obtain ⟨r1, r2⟩ := pOK_lt h2
  obtain ⟨wx, bx⟩ := wmul64 q1 r2
  obtain ⟨wd, bd⟩ := wmul64 q2 r1
  have hr0 : r.num.natAbs ≠ 0 := fun h => h0 (rat_num_zero.1 h)
  have hd0 : q.den * r.num.natAbs ≠ 0 := Nat.mul_ne_zero d1 hr0
  rw [if_pos h1, if_pos h2, if_pos h1, if_pos h2, wx, wd]
  simp only [ATree.all, allP, Int.toNat_natCast]
  exact ⟨⟨by omega, by omega, by omega, by omega, by omega⟩, by omega, avLe0_rat_eq hv hz, he, trivial⟩
end ops
end Go.Am.B
