/- Contracts for numbers of known size: the numbers. -/
import Derived.Test.YtnocdkaonpdmjaaB34
import Derived.Test.YtnocdkaonpdmjaaZ2
set_option linter.unusedVariables false
namespace Go.Am.B
open Go Go.Am.N AV
structure Kd (α : Type) where
  read : AV → Option α
  make : α → AV
  ok : ∀ {v : AV} {a : α}, read v = some a → avLe0 v (make a)
def vecR : AV → Option (V3 × Nat)
  | .agg [x, y, z] => match ratOf x, ratOf y, ratOf z with
    | some (x, a), some (y, b), some (z, c) => some (⟨x, y, z⟩, max a (max b c))
    | _, _, _ => none
  | _ => none
theorem vecR_ok {v : AV} {a : V3 × Nat} (h : vecR v = some a) : avLe0 v (vA a.1 a.2) := by
  unfold vecR at h
  split at h
  · split at h
    · rename_i h1 h2 h3
      simp only [Option.some.injEq] at h
      subst h
      exact avLe0_agg ⟨(ratOf_ok h1).trans (avLe0_rat_up rfl (by simp only; omega)), (ratOf_ok h2).trans (avLe0_rat_up rfl (by simp only; omega)), (ratOf_ok h3).trans (avLe0_rat_up rfl (by simp only; omega)), trivial⟩
    · simp at h
  · simp at h
def dR : Kd (Rat × Nat) := ⟨ratOf, fun a => rA a.1 a.2, ratOf_ok⟩
def dV : Kd (V3 × Nat) := ⟨vecR, fun a => vA a.1 a.2, vecR_ok⟩
section specs
variable {α β γ δ : Type} {f : FuncId}
def tp1 (k : Kd α) (g : α → AV) (B : α → Bool) : Spec := pureSpec fun l => match l with
  | [x] => match k.read x with
    | some a => match B a with
      | true => some (pres (g a) [])
      | false => none
    | _ => none
  | _ => none
theorem tp1_ok {k : Kd α} {g : α → AV} {B : α → Bool} (h : ∀ a K, B a = true → FOK P f K [k.make a] [] (pres (g a) [])) : ∀ K args pre r, tp1 k g B K args pre = some r → FOK P f K args pre r := by
  refine pureSpec_ok fun K args r hk hs _ => ?_
  split at hs
  · split at hs
    · rename_i h1
      split at hs
      · rename_i hB
        simp only [Option.some.injEq] at hs
        subst hs
        exact fok_weak (h _ K hB) hk ⟨k.ok h1, trivial⟩ []
      · simp at hs
    · simp at hs
  · simp at hs
def tp2 (k : Kd α) (k2 : Kd β) (g : α → β → AV) (B : α → β → Bool) : Spec := pureSpec fun l => match l with
  | [x, y] => match k.read x, k2.read y with
    | some a, some b => match B a b with
      | true => some (pres (g a b) [])
      | false => none
    | _, _ => none
  | _ => none
theorem tp2_ok {k : Kd α} {k2 : Kd β} {g : α → β → AV} {B : α → β → Bool} (h : ∀ a b K, B a b = true → FOK P f K [k.make a, k2.make b] [] (pres (g a b) [])) : ∀ K args pre r, tp2 k k2 g B K args pre = some r → FOK P f K args pre r := by
  refine pureSpec_ok fun K args r hk hs _ => ?_
  split at hs
  · split at hs
    · rename_i h1 h2
      split at hs
      · rename_i hB
        simp only [Option.some.injEq] at hs
        subst hs
        exact fok_weak (h _ _ K hB) hk ⟨k.ok h1, k2.ok h2, trivial⟩ []
      · simp at hs
    · simp at hs
  · simp at hs
end specs
def b1 {α : Type} (e : Nat) (a : α × Nat) : Bool := Nat.blt a.2 (2 ^ e)
def b2 {α β : Type} (e : Nat) (a : α × Nat) (b : β × Nat) : Bool := Nat.blt a.2 (2 ^ e) && Nat.blt b.2 (2 ^ e)
def b3 {α β γ : Type} (e : Nat) (a : α × Nat) (b : β × Nat) (c : γ × Nat) : Bool := Nat.blt a.2 (2 ^ e) && (Nat.blt b.2 (2 ^ e) && Nat.blt c.2 (2 ^ e))
theorem blt_iff {a b : Nat} : Nat.blt a b = true ↔ a < b := by rw [Nat.blt_eq]
theorem b1_ok {α : Type} {e : Nat} {a : α × Nat} (h : b1 e a = true) : a.2 < 2 ^ e := blt_iff.1 h
theorem b2_ok {α β : Type} {e : Nat} {a : α × Nat} {b : β × Nat} (h : b2 e a b = true) : a.2 < 2 ^ e ∧ b.2 < 2 ^ e := by
  simp only [b2, Bool.and_eq_true, blt_iff] at h; exact h
def tInt : Spec := pureSpec fun l => match l with
  | [.int .i64 n] => match decide (-2 ^ 63 ≤ n ∧ n < 2 ^ 63) with
    | true => some (pres (.rat (n : Rat) (max 1 (bitsN n.natAbs))) [])
    | false => none
  | _ => none
abbrev rIntC : FuncId × Spec := (999999990, fun _ _ _ => none)
abbrev rMinC : FuncId × Spec := (999999991, fun _ _ _ => none)
abbrev rMaxC : FuncId × Spec := (999999992, fun _ _ _ => none)
def tRat : Contracts := [(rational_Add, tp2 dR dR oAdd (b2 42)), (rational_Sub, tp2 dR dR oSub (b2 42)), (rational_Mul, tp2 dR dR oMul (b2 42)), (rational_Same, tp2 dR dR oSame (b2 42)), (rational_Cmp, tp2 dR dR oCmp (b2 42)), (rational_Sign, tp1 dR oSign (b1 42)), rIntC, (rational_Quo, tp2 dR dR oQuo (b2 42)), rMinC, rMaxC]
def tRef : Contracts := [(ref02_Add, tp2 dR dR oAdd (b2 41)), (ref02_Sub, tp2 dR dR oSub (b2 41)), (ref02_Mul, tp2 dR dR oMul (b2 41)), (ref02_Same, tp2 dR dR oSame (b2 41)), (ref02_Cmp, tp2 dR dR oCmp (b2 41)), (ref02_Sign, tp1 dR oSign (b1 41)), (ref02_Int, tInt)]
theorem lt42 {n : Nat} (h : n < 2 ^ 42) : n < 2 ^ 44 := Nat.lt_trans h (by omega)
theorem lt41 {n : Nat} (h : n < 2 ^ 41) : n < 2 ^ 44 := Nat.lt_trans h (by omega)
theorem tInt_ok {f : FuncId} (h : ∀ {n : Int}, -2 ^ 63 ≤ n → n < 2 ^ 63 → ∀ K, FOK P f K [.int .i64 n] [] (pres (.rat (n : Rat) (max 1 (bitsN n.natAbs))) [])) : ∀ K args pre r, tInt K args pre = some r → FOK P f K args pre r := by
  refine pureSpec_ok fun K args r hk hs _ => ?_
  split at hs
  · split at hs
    · rename_i hc
      simp only [Option.some.injEq] at hs
      subst hs
      have := of_decide_eq_true hc
      exact h this.1 this.2 K
    · simp at hs
  · simp at hs
theorem rIntC_ok : ∀ K args pre r, rIntC.2 K args pre = some r → FOK P rIntC.1 K args pre r := fun _ _ _ _ h => nomatch h
theorem rMinC_ok : ∀ K args pre r, rMinC.2 K args pre = some r → FOK P rMinC.1 K args pre r := fun _ _ _ _ h => nomatch h
theorem rMaxC_ok : ∀ K args pre r, rMaxC.2 K args pre = some r → FOK P rMaxC.1 K args pre r := fun _ _ _ _ h => nomatch h
theorem tRat_ok : GOK P tRat := gok_cons (tp2_ok fun _ _ K hn => rAdd_ok (b2_ok hn).1 (b2_ok hn).2 K) (gok_cons (tp2_ok fun _ _ K hn => rSub_ok (b2_ok hn).1 (b2_ok hn).2 K) (gok_cons (tp2_ok fun _ _ K hn => rMul_ok (b2_ok hn).1 (b2_ok hn).2 K)
  (gok_cons (tp2_ok fun _ _ K hn => rSame_ok (lt42 (b2_ok hn).1) (lt42 (b2_ok hn).2) K []) (gok_cons (tp2_ok fun _ _ K hn => rCmp_ok (b2_ok hn).1 (b2_ok hn).2 K []) (gok_cons (tp1_ok fun _ K hn => rSign_ok (lt42 (b1_ok hn)) K []) (gok_cons rIntC_ok
  (gok_cons (tp2_ok fun _ _ K hn => rQuo_ok (b2_ok hn).1 (b2_ok hn).2 K) (gok_cons rMinC_ok (gok_cons rMaxC_ok gok_nil)))))))))
theorem tRef_ok : GOK P tRef := gok_cons (tp2_ok fun _ _ K hn => eAdd_ok (b2_ok hn).1 (b2_ok hn).2 K) (gok_cons (tp2_ok fun _ _ K hn => eSub_ok (b2_ok hn).1 (b2_ok hn).2 K) (gok_cons (tp2_ok fun _ _ K hn => eMul_ok (b2_ok hn).1 (b2_ok hn).2 K)
  (gok_cons (tp2_ok fun _ _ K hn => eSame_ok (lt41 (b2_ok hn).1) (lt41 (b2_ok hn).2) K []) (gok_cons (tp2_ok fun _ _ K hn => eCmp_ok (b2_ok hn).1 (b2_ok hn).2 K) (gok_cons (tp1_ok fun _ K _ => eSign_ok K []) (gok_cons (tInt_ok eInt_ok) gok_nil))))))
end Go.Am.B

/- ref02: Quo, Over. -/
namespace Go.Am.B
open Go Go.Am.N AV
end Go.Am.B
