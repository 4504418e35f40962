/- Contracts for numbers of known size: the numbers. -/
import Derived.Test.YtnocdkaonpdmjaaB34
import Derived.Test.YtnocdkaonpdmjaaZ2
set_option linter.unusedVariables false
namespace Go.Am.B
open Go Go.Am.N AV
structure Kd (α : Type) where
  read : AV → Option α
  make : α → AV
  ok : ∀ {v : AV} {a : α}, read v = some a → avLe0 v (make a)
def vecR : AV → Option (V3 × Nat)
  | .agg [x, y, z] => match ratOf x, ratOf y, ratOf z with
    | some (x, a), some (y, b), some (z, c) => some (⟨x, y, z⟩, max a (max b c))
    | _, _, _ => none
  | _ => none
theorem vecR_ok {v : AV} {a : V3 × Nat} (h : vecR v = some a) : avLe0 v (vA a.1 a.2) := by
  unfold vecR at h
  split at h
  · split at h
    · rename_i h1 h2 h3
      simp only [Option.some.injEq] at h
      subst h
      exact avLe0_agg ⟨(ratOf_ok h1).trans (avLe0_rat_up rfl (by simp only; omega)), (ratOf_ok h2).trans (avLe0_rat_up rfl (by simp only; omega)), (ratOf_ok h3).trans (avLe0_rat_up rfl (by simp only; omega)), trivial⟩
    · simp at h
  · simp at h
def dR : Kd (Rat × Nat) := ⟨ratOf, fun a => rA a.1 a.2, ratOf_ok⟩
def dV : Kd (V3 × Nat) := ⟨vecR, fun a => vA a.1 a.2, vecR_ok⟩
section specs
variable {α β γ δ : Type} {f : FuncId}
def tp1 (k : Kd α) (g : α → AV) (B : α → Bool) : Spec := pureSpec fun l => match l with
  | [x] => match k.read x with
    | some a => match B a with
      | true => some (pres (g a) [])
      | false => none
    | _ => none
  | _ => none
theorem tp1_ok {k : Kd α} {g : α → AV} {B : α → Bool} (h : ∀ a K, B a = true → FOK P f K [k.make a] [] (pres (g a) [])) : ∀ K args pre r, tp1 k g B K args pre = some r → FOK P f K args pre r := by
  refine pureSpec_ok fun K args r hk hs _ => ?_
  split at hs
  · split at hs
    · rename_i h1
      split at hs
      · rename_i hB
        simp only [Option.some.injEq] at hs
        subst hs
        exact fok_weak (h _ K hB) hk ⟨k.ok h1, trivial⟩ []
      · simp at hs
    · simp at hs
  · simp at hs
def tp2 (k : Kd α) (k2 : Kd β) (g : α → β → AV) (B : α → β → Bool) : Spec := pureSpec fun l => match l with
  | [x, y] => match k.read x, k2.read y with
    | some a, some b => match B a b with
      | true => some (pres (g a b) [])
      | false => none
    | _, _ => none
  | _ => none
theorem tp2_ok {k : Kd α} {k2 : Kd β} {g : α → β → AV} {B : α → β → Bool} (h : ∀ a b K, B a b = true → FOK P f K [k.make a, k2.make b] [] (pres (g a b) [])) : ∀ K args pre r, tp2 k k2 g B K args pre = some r → FOK P f K args pre r := by
  refine pureSpec_ok fun K args r hk hs _ => ?_
  split at hs
  · split at hs
    · rename_i h1 h2
      split at hs
      · rename_i hB
        simp only [Option.some.injEq] at hs
        subst hs
        exact fok_weak (h _ _ K hB) hk ⟨k.ok h1, k2.ok h2, trivial⟩ []
      · simp at hs
    · simp at hs
  · simp at hs
end specs
def b1 {α : Type} (e : Nat) (a : α × Nat) : Bool := Nat.blt a.2 (2 ^ e)
def b2 {α β : Type} (e : Nat) (a : α × Nat) (b : β × Nat) : Bool := Nat.blt a.2 (2 ^ e) && Nat.blt b.2 (2 ^ e)
def b3 {α β γ : Type} (e : Nat) (a : α × Nat) (b : β × Nat) (c : γ × Nat) : Bool := Nat.blt a.2 (2 ^ e) && (Nat.blt b.2 (2 ^ e) && Nat.blt c.2 (2 ^ e))
theorem blt_iff {a b : Nat} : Nat.blt a b = true ↔ a < b := by rw [Nat.blt_eq]
theorem b1_ok {α : Type} {e : Nat} {a : α × Nat} (h : b1 e a = true) : a.2 < 2 ^ e := blt_iff.1 h
theorem b2_ok {α β : Type} {e : Nat} {a : α × Nat} {b : β × Nat} (h : b2 e a b = true) : a.2 < 2 ^ e ∧ b.2 < 2 ^ e := by
  simp only [b2, Bool.and_eq_true, blt_iff] at h; exact h
def tInt : Spec := pureSpec fun l => match l with
  | [.int .i64 n] => match decide (-2 ^ 63 ≤ n ∧ n < 2 ^ 63) with
    | true => some (pres (.rat (n : Rat) (max 1 (bitsN n.natAbs))) [])
    | false => none
  | _ => none
abbrev rIntC : FuncId × Spec := (999999990, fun _ _ _ => none)
abbrev rMinC : FuncId × Spec := (999999991, fun _ _ _ => none)
abbrev rMaxC : FuncId × Spec := (999999992, fun _ _ _ => none)
def tRat : Contracts := [(rational_Add, tp2 dR dR oAdd (b2 42)), (rational_Sub, tp2 dR dR oSub (b2 42)), (rational_Mul, tp2 dR dR oMul (b2 42)), (rational_Same, tp2 dR dR oSame (b2 42)), (rational_Cmp, tp2 dR dR oCmp (b2 42)), (rational_Sign, tp1 dR oSign (b1 42)), rIntC, (rational_Quo, tp2 dR dR oQuo (b2 42)), rMinC, rMaxC]
def tRef : Contracts := [(ref02_Add, tp2 dR dR oAdd (b2 41)), (ref02_Sub, tp2 dR dR oSub (b2 41)), (ref02_Mul, tp2 dR dR oMul (b2 41)), (ref02_Same, tp2 dR dR oSame (b2 41)), (ref02_Cmp, tp2 dR dR oCmp (b2 41)), (ref02_Sign, tp1 dR oSign (b1 41)), (ref02_Int, tInt)]
theorem lt42 {n : Nat} (h : n < 2 ^ 42) : n < 2 ^ 44 := Nat.lt_trans h (by omega)
theorem lt41 {n : Nat} (h : n < 2 ^ 41) : n < 2 ^ 44 := Nat.lt_trans h (by omega)
theorem tInt_ok {f : FuncId} (h : ∀ {n : Int}, -2 ^ 63 ≤ n → n < 2 ^ 63 → ∀ K, FOK P f K [.int .i64 n] [] (pres (.rat (n : Rat) (max 1 (bitsN n.natAbs))) [])) : ∀ K args pre r, tInt K args pre = some r → FOK P f K args pre r := by
  refine pureSpec_ok fun K args r hk hs _ => ?_
  split at hs
  · split at hs
    · rename_i hc
      simp only [Option.some.injEq] at hs
      subst hs
      have := of_decide_eq_true hc
      exact h this.1 this.2 K
    · simp at hs
  · simp at hs
theorem rIntC_ok : ∀ K args pre r, rIntC.2 K args pre = some r → FOK P rIntC.1 K args pre r := fun _ _ _ _ h => nomatch h
theorem rMinC_ok : ∀ K args pre r, rMinC.2 K args pre = some r → FOK P rMinC.1 K args pre r := fun _ _ _ _ h => nomatch h
theorem rMaxC_ok : ∀ K args pre r, rMaxC.2 K args pre = some r → FOK P rMaxC.1 K args pre r := fun _ _ _ _ h => nomatch h
theorem tRat_ok : GOK P tRat := gok_cons (tp2_ok fun _ _ K hn => rAdd_ok (b2_ok hn).1 (b2_ok hn).2 K) (gok_cons (tp2_ok fun _ _ K hn => rSub_ok (b2_ok hn).1 (b2_ok hn).2 K) (gok_cons (tp2_ok fun _ _ K hn => rMul_ok (b2_ok hn).1 (b2_ok hn).2 K)
  (gok_cons (tp2_ok fun _ _ K hn => rSame_ok (lt42 (b2_ok hn).1) (lt42 (b2_ok hn).2) K []) (gok_cons (tp2_ok fun _ _ K hn => rCmp_ok (b2_ok hn).1 (b2_ok hn).2 K []) (gok_cons (tp1_ok fun _ K hn => rSign_ok (lt42 (b1_ok hn)) K []) (gok_cons rIntC_ok
  (gok_cons (tp2_ok fun _ _ K hn => rQuo_ok (b2_ok hn).1 (b2_ok hn).2 K) (gok_cons rMinC_ok (gok_cons rMaxC_ok gok_nil)))))))))
theorem tRef_ok : GOK P tRef := gok_cons (tp2_ok fun _ _ K hn => eAdd_ok (b2_ok hn).1 (b2_ok hn).2 K) (gok_cons (tp2_ok fun _ _ K hn => eSub_ok (b2_ok hn).1 (b2_ok hn).2 K) (gok_cons (tp2_ok fun _ _ K hn => eMul_ok (b2_ok hn).1 (b2_ok hn).2 K)
  (gok_cons (tp2_ok fun _ _ K hn => eSame_ok (lt41 (b2_ok hn).1) (lt41 (b2_ok hn).2) K []) (gok_cons (tp2_ok fun _ _ K hn => eCmp_ok (b2_ok hn).1 (b2_ok hn).2 K) (gok_cons (tp1_ok fun _ K _ => eSign_ok K []) (gok_cons (tInt_ok eInt_ok) gok_nil))))))
end Go.Am.B

/- ref02: Quo, Over. -/
namespace Go.Am.B
open Go Go.Am.N AV
theorem is_eQuo : FnIs P ref02_Quo fn_ref02_Quo (codeOf fn_ref02_Quo) := fnIs get_ref02_Quo (by kernel_rfl) (by kernel_rfl) (by kernel_rfl)
theorem is_eOver : FnIs P ref02_Over fn_ref02_Over (codeOf fn_ref02_Over) := fnIs get_ref02_Over (by kernel_rfl) (by kernel_rfl) (by kernel_rfl)
theorem equo_end {q r : Rat} {n m : Nat} : funT T GE2 [9] 60 fn_ref02_Quo (codeOf fn_ref02_Quo) ⟨zipSlots 0 [.rat q n, .rat r m], [], 0⟩ =
    some (ATree.must [(0 : Nat) < 1] (ATree.fork ((↑(nl r.num.natAbs) : Int) == (0 : Int)) (ATree.must [(0 : Nat) < 1] (ATree.must [(0 : Nat) < 1] (ATree.leaf AEx.ret [agg [AV.bool false, mag 0, mag 0], int IntKind.i64 (3 : Int)]))) (ATree.must [(0 : Nat) < 1, (0 : Nat) < 1, (0 : Nat) < 1, (0 : Nat) < 1, nl q.num.natAbs < 2 ^ 39, nl r.den < 2 ^ 39, (0 : Nat) < 1, (0 : Nat) < 1, nl q.den < 2 ^ 39, nl r.num.natAbs < 2 ^ 39, nl (q.num.natAbs * r.den) < 2 ^ 38, nl (q.den * r.num.natAbs) < 2 ^ 38, q.den * r.num.natAbs ≠ 0, (0 : Nat) < 1] (ATree.must [(0 : Nat) < 1] (ATree.leaf AEx.ret [rat (sQ (decide (q < 0) != decide (r < 0)) (q.num.natAbs * r.den) (q.den * r.num.natAbs)) (rsz (sQ (decide (q < 0) != decide (r < 0)) (q.num.natAbs * r.den) (q.den * r.num.natAbs))), int IntKind.i64 (0 : Int)]))))) := by kernel_rfl
theorem eQuo_ok {q r : Rat} {n m : Nat} (hn : n < 2 ^ 41) (hm' : m < 2 ^ 41) (K : Nat) : FOK P ref02_Quo K [.rat q n, .rat r m] [] (pres (.tuple [.rat (q / r) (n + m), .int .i64 (if r = 0 then 3 else 0)]) []) := by
  refine fok_szp fun ⟨hq, hr, _⟩ => ?_
  have hq : Sz q n := hq
  have hr : Sz r m := hr
  have d1 := q.den_nz
  have d2 := r.den_nz
  have a1 : nl q.num.natAbs < 2 ^ 38 := nl_lt38 hq.1 (by omega)
  have a2 : nl q.den < 2 ^ 38 := nl_lt38 hq.2 (by omega)
  have b1 : nl r.num.natAbs < 2 ^ 38 := nl_lt38 hr.1 (by omega)
  have b2 : nl r.den < 2 ^ 38 := nl_lt38 hr.2 (by omega)
  have m1 : nl (q.num.natAbs * r.den) < 2 ^ 38 := nl_lt38 (lt_mul2 hq.1 hr.2) (by omega)
  have m3 : nl (q.den * r.num.natAbs) < 2 ^ 38 := nl_lt38 (lt_mul2 hq.2 hr.1) (by omega)
  refine fok_tree hT GE2_ok hm is_eQuo rfl (of_decide_eq_true (by kernel_rfl)) rfl 60 equo_end (fun _ => ?_) K []
  have key : ((nl r.num.natAbs : Int) == (0 : Int)) = decide (r = 0) := by
    by_cases h : r = 0
    · subst h; rfl
    · have h1 : r.num.natAbs ≠ 0 := fun e => h (rat_num_zero.1 e)
      have := nl_pos.2 h1
      simp only [h, decide_false, beq_eq_false_iff_ne]; omega
  rw [key]
  simp only [ATree.all, allP, decide_eq_true_eq, decide_eq_false_iff_not]
  refine ⟨by omega, fun h0 => ?_, fun h0 => ?_⟩
  · refine ⟨by omega, by omega, ?_, avLe0_int (by rw [if_pos h0]), trivial⟩
    have e : q / r = 0 := by rw [h0, Rat.div_def, Rat.inv_zero, Rat.mul_zero]
    obtain ⟨k, hk⟩ : ∃ k, n + m = k + 1 := ⟨n + m - 1, by have := hq.pos; omega⟩
    rw [e, hk]
    first | exact avLe0_zero | exact avLe0_rat_more (by omega)
  · have hr0 : r.num.natAbs ≠ 0 := fun h => h0 (rat_num_zero.1 h)
    have hv := rat_div_sQ q r h0
    (repeat' with_reducible refine And.intro ?_ ?_)
    all_goals first | omega | exact m1 | exact m3 | exact Nat.mul_ne_zero d1 hr0 | skip
    exact ⟨avLe0_rat_eq hv (hq.div hr), avLe0_int (by rw [if_neg h0]), trivial⟩
def gQuoE : Contracts := [(ref02_Quo, sp2 kR kR oQuo eNeed)]
theorem gQuoE_ok : GOK P gQuoE := gok_cons (sp2_ok fun _ _ K hn => eQuo_ok hn.1 hn.2 K) gok_nil
theorem eover_end {q r : Rat} {n m : Nat} : funT T gQuoE [] 60 fn_ref02_Over (codeOf fn_ref02_Over) ⟨zipSlots 0 [.rat q n, .rat r m], [], 0⟩ =
    some (ATree.must [(0 : Nat) < 1, (0 : Nat) < 1, n < 2 ^ 41, m < 2 ^ 41, (0 : Nat) < 1] (ATree.must [(0 : Nat) < 1, (0 : Nat) < 1] (ATree.must [(0 : Nat) < 1] (ATree.leaf AEx.ret [rat (q / r) (n + m)])))) := by kernel_rfl
theorem eOver_ok {q r : Rat} {n m : Nat} (hn : n < 2 ^ 41) (hm' : m < 2 ^ 41) (K : Nat) : FOK P ref02_Over K [.rat q n, .rat r m] [] (pres (.rat (q / r) (n + m)) []) := by
  refine fok_tree hT gQuoE_ok hm is_eOver rfl (of_decide_eq_true (by kernel_rfl)) rfl 60 eover_end (fun _ => ?_) K []
  simp only [ATree.all, allP]
  (repeat' with_reducible refine And.intro ?_ ?_)
  all_goals first | omega | exact avLe0.refl _
def oOver (a b : Rat × Nat) : AV := rA (a.1 / b.1) (a.2 + b.2)
end Go.Am.B
