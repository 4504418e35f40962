/- Contracts for numbers of known size. -/
import Derived.Test.YtajjlacbodnggaaGreatB37
import Derived.Test.YtajjlacbodnggaaGreatAm29
set_option linter.unusedVariables false
namespace Go.Am.B
open Go Go.Am.N AV


/-- Kinds of arguments, and contracts, for numbers whose sizes are known: no conditions are left. -/
structure Kd (α : Type) where
  read : AV → Option α
  make : α → AV
  ok : ∀ {v : AV} {a : α}, read v = some a → avLe0 v (make a)
def vecR : AV → Option (V3 × Nat)
  | .agg [x, y, z] => match ratOf x, ratOf y, ratOf z with
    | some (x, a), some (y, b), some (z, c) => some (⟨x, y, z⟩, max a (max b c))
    | _, _, _ => none
  | _ => none
theorem vecR_ok {v : AV} {a : V3 × Nat} (h : vecR v = some a) : avLe0 v (vA a.1 a.2) := by
  unfold vecR at h
  split at h
  · split at h
    · rename_i h1 h2 h3
      simp only [Option.some.injEq] at h
      subst h
      exact avLe0_agg ⟨(ratOf_ok h1).trans (avLe0_rat_up rfl (by simp only; omega)), (ratOf_ok h2).trans (avLe0_rat_up rfl (by simp only; omega)), (ratOf_ok h3).trans (avLe0_rat_up rfl (by simp only; omega)), trivial⟩
    · simp at h
  · simp at h
def plR : AV → Option (Pl × Nat)
  | .agg [v, d] => match vecR v, ratOf d with
    | some (v, a), some (d, b) => some (⟨v, d⟩, max a b)
    | _, _ => none
  | _ => none
theorem plR_ok {v : AV} {a : Pl × Nat} (h : plR v = some a) : avLe0 v (plA a.1 a.2) := by
  unfold plR at h
  split at h
  · split at h
    · rename_i h1 h2
      simp only [Option.some.injEq] at h
      subst h
      exact avLe0_agg ⟨(vecR_ok h1).trans (avLe0_vA rfl (by simp only; omega)), (ratOf_ok h2).trans (avLe0_rat_up rfl (by simp only; omega)), trivial⟩
    · simp at h
  · simp at h
def m3R : AV → Option (M3 × Nat)
  | .agg [x, y, z] => match vecR x, vecR y, vecR z with
    | some (x, a), some (y, b), some (z, c) => some (⟨x, y, z⟩, max a (max b c))
    | _, _, _ => none
  | _ => none
theorem m3R_ok {v : AV} {a : M3 × Nat} (h : m3R v = some a) : avLe0 v (m3A a.1 a.2) := by
  unfold m3R at h
  split at h
  · split at h
    · rename_i h1 h2 h3
      simp only [Option.some.injEq] at h
      subst h
      exact avLe0_agg ⟨(vecR_ok h1).trans (avLe0_vA rfl (by simp only; omega)), (vecR_ok h2).trans (avLe0_vA rfl (by simp only; omega)), (vecR_ok h3).trans (avLe0_vA rfl (by simp only; omega)), trivial⟩
    · simp at h
  · simp at h
def mpR : AV → Option (Mp × Nat)
  | .agg [v, d] => match m3R v, vecR d with
    | some (v, a), some (d, b) => some (⟨v, d⟩, max a b)
    | _, _ => none
  | _ => none
theorem mpR_ok {v : AV} {a : Mp × Nat} (h : mpR v = some a) : avLe0 v (mpA a.1 a.2) := by
  unfold mpR at h
  split at h
  · split at h
    · rename_i h1 h2
      simp only [Option.some.injEq] at h
      subst h
      exact avLe0_agg ⟨(m3R_ok h1).trans (avLe0_m3A rfl (by simp only; omega)), (vecR_ok h2).trans (avLe0_vA rfl (by simp only; omega)), trivial⟩
    · simp at h
  · simp at h
def intR : AV → Option Int
  | .int .i64 n => some n
  | _ => none
theorem intR_ok {v : AV} {a : Int} (h : intR v = some a) : avLe0 v (.int .i64 a) := by
  unfold intR at h
  split at h
  · simp only [Option.some.injEq] at h; subst h; exact .refl _
  · simp at h
def dR : Kd (Rat × Nat) := ⟨ratOf, fun a => rA a.1 a.2, ratOf_ok⟩
def dV : Kd (V3 × Nat) := ⟨vecR, fun a => vA a.1 a.2, vecR_ok⟩
def dPl : Kd (Pl × Nat) := ⟨plR, fun a => plA a.1 a.2, plR_ok⟩
def dM : Kd (M3 × Nat) := ⟨m3R, fun a => m3A a.1 a.2, m3R_ok⟩
def dMp : Kd (Mp × Nat) := ⟨mpR, fun a => mpA a.1 a.2, mpR_ok⟩
def dI : Kd Int := ⟨intR, fun a => .int .i64 a, intR_ok⟩
section specs
variable {α β γ δ : Type} {f : FuncId}
def tp1 (k : Kd α) (g : α → AV) (B : α → Bool) : Spec := pureSpec fun l => match l with
  | [x] => match k.read x with
    | some a => match B a with
      | true => some (pres (g a) [])
      | false => none
    | _ => none
  | _ => none
theorem tp1_ok {k : Kd α} {g : α → AV} {B : α → Bool} (h : ∀ a K, B a = true → FOK P f K [k.make a] [] (pres (g a) [])) : ∀ K args pre r, tp1 k g B K args pre = some r → FOK P f K args pre r := by
  refine pureSpec_ok fun K args r hk hs _ => ?_
  split at hs
  · split at hs
    · rename_i h1
      split at hs
      · rename_i hB
        simp only [Option.some.injEq] at hs
        subst hs
        exact fok_weak (h _ K hB) hk ⟨k.ok h1, trivial⟩ []
      · simp at hs
    · simp at hs
  · simp at hs
def tp2 (k : Kd α) (k2 : Kd β) (g : α → β → AV) (B : α → β → Bool) : Spec := pureSpec fun l => match l with
  | [x, y] => match k.read x, k2.read y with
    | some a, some b => match B a b with
      | true => some (pres (g a b) [])
      | false => none
    | _, _ => none
  | _ => none
theorem tp2_ok {k : Kd α} {k2 : Kd β} {g : α → β → AV} {B : α → β → Bool} (h : ∀ a b K, B a b = true → FOK P f K [k.make a, k2.make b] [] (pres (g a b) [])) : ∀ K args pre r, tp2 k k2 g B K args pre = some r → FOK P f K args pre r := by
  refine pureSpec_ok fun K args r hk hs _ => ?_
  split at hs
  · split at hs
    · rename_i h1 h2
      split at hs
      · rename_i hB
        simp only [Option.some.injEq] at hs
        subst hs
        exact fok_weak (h _ _ K hB) hk ⟨k.ok h1, k2.ok h2, trivial⟩ []
      · simp at hs
    · simp at hs
  · simp at hs
def tp3 (k : Kd α) (k2 : Kd β) (k3 : Kd γ) (g : α → β → γ → AV) (B : α → β → γ → Bool) : Spec := pureSpec fun l => match l with
  | [x, y, z] => match k.read x, k2.read y, k3.read z with
    | some a, some b, some c => match B a b c with
      | true => some (pres (g a b c) [])
      | false => none
    | _, _, _ => none
  | _ => none
theorem tp3_ok {k : Kd α} {k2 : Kd β} {k3 : Kd γ} {g : α → β → γ → AV} {B : α → β → γ → Bool} (h : ∀ a b c K, B a b c = true → FOK P f K [k.make a, k2.make b, k3.make c] [] (pres (g a b c) [])) : ∀ K args pre r, tp3 k k2 k3 g B K args pre = some r → FOK P f K args pre r := by
  refine pureSpec_ok fun K args r hk hs _ => ?_
  split at hs
  · split at hs
    · rename_i h1 h2 h3
      split at hs
      · rename_i hB
        simp only [Option.some.injEq] at hs
        subst hs
        exact fok_weak (h _ _ _ K hB) hk ⟨k.ok h1, k2.ok h2, k3.ok h3, trivial⟩ []
      · simp at hs
    · simp at hs
  · simp at hs
end specs
def b1 {α : Type} (e : Nat) (a : α × Nat) : Bool := Nat.blt a.2 (2 ^ e)
def b2 {α β : Type} (e : Nat) (a : α × Nat) (b : β × Nat) : Bool := Nat.blt a.2 (2 ^ e) && Nat.blt b.2 (2 ^ e)
def b3 {α β γ : Type} (e : Nat) (a : α × Nat) (b : β × Nat) (c : γ × Nat) : Bool := Nat.blt a.2 (2 ^ e) && (Nat.blt b.2 (2 ^ e) && Nat.blt c.2 (2 ^ e))
theorem blt_iff {a b : Nat} : Nat.blt a b = true ↔ a < b := by rw [Nat.blt_eq]
theorem b1_ok {α : Type} {e : Nat} {a : α × Nat} (h : b1 e a = true) : a.2 < 2 ^ e := blt_iff.1 h
theorem b2_ok {α β : Type} {e : Nat} {a : α × Nat} {b : β × Nat} (h : b2 e a b = true) : a.2 < 2 ^ e ∧ b.2 < 2 ^ e := by
  simp only [b2, Bool.and_eq_true, blt_iff] at h; exact h
theorem b3_ok {α β γ : Type} {e : Nat} {a : α × Nat} {b : β × Nat} {c : γ × Nat} (h : b3 e a b c = true) : a.2 < 2 ^ e ∧ b.2 < 2 ^ e ∧ c.2 < 2 ^ e := by
  simp only [b3, Bool.and_eq_true, blt_iff] at h; exact h
def tInt : Spec := pureSpec fun l => match l with
  | [.int .i64 n] => match decide (-2 ^ 63 ≤ n ∧ n < 2 ^ 63) with
    | true => some (pres (.rat (n : Rat) (max 1 (bitsN n.natAbs))) [])
    | false => none
  | _ => none
def tRat : Contracts := [(rational_Add, tp2 dR dR oAdd (b2 42)), (rational_Sub, tp2 dR dR oSub (b2 42)), (rational_Mul, tp2 dR dR oMul (b2 42)), (rational_Same, tp2 dR dR oSame (b2 42)), (rational_Cmp, tp2 dR dR oCmp (b2 42)), (rational_Sign, tp1 dR oSign (b1 42)), (rational_Int, tInt), (rational_Quo, tp2 dR dR oQuo (b2 42)), (rational_Min, tp2 dR dR oMin (b2 42)), (rational_Max, tp2 dR dR oMax (b2 42))]
def tRef : Contracts := [(ref02_Add, tp2 dR dR oAdd (b2 41)), (ref02_Sub, tp2 dR dR oSub (b2 41)), (ref02_Mul, tp2 dR dR oMul (b2 41)), (ref02_Same, tp2 dR dR oSame (b2 41)), (ref02_Cmp, tp2 dR dR oCmp (b2 41)), (ref02_Sign, tp1 dR oSign (b1 41)), (ref02_Int, tInt)]
def tVec : Contracts := sG :: (vector_Cross, tp2 dV dV oCross (b2 38)) :: (vector_Dot, tp2 dV dV oDot (b2 38)) :: (vector_Add, tp2 dV dV ovAdd (b2 38)) :: (vector_Sub, tp2 dV dV ovSub (b2 38)) :: (vector_Scale, tp2 dR dV ovScale (b2 38)) :: (vector_Zero, tp1 dV ovZero (b1 38)) :: (vector_Same, tp2 dV dV ovSame (b2 38)) ::
  (vector_Det, tp3 dV dV dV oDet (b3 34)) :: (vector_Turn, tp2 dMp dV oTurn (b2 38)) :: (vector_transposed, tp1 dM oTran (b1 38)) :: (vector_Orient2, tp3 dV dV dV oOr2 (b3 34)) :: (vector_Through, tp3 dV dV dV oThr (b3 34)) :: (vector_Side, tp2 dPl dV oSide (b2 38)) :: (vector_Identity, pureSpec fun l => match l with
    | [] => some (pres (mpA idM 1) [])
    | _ => none) :: tRat
def tGe1 : Contracts := sG :: (ref04_Same, tp2 dV dV ovSame (b2 38)) :: (ref04_Add, tp2 dV dV ovAdd (b2 38)) :: (ref04_Sub, tp2 dV dV ovSub (b2 38)) :: (ref04_Scale, tp2 dR dV ovScale (b2 38)) :: (ref04_Dot, tp2 dV dV oDot (b2 38)) :: (ref04_Cross, tp2 dV dV oCross (b2 38)) :: tRef
theorem lt42 {n : Nat} (h : n < 2 ^ 42) : n < 2 ^ 44 := Nat.lt_trans h (by omega)
theorem lt41 {n : Nat} (h : n < 2 ^ 41) : n < 2 ^ 44 := Nat.lt_trans h (by omega)
theorem tInt_ok {f : FuncId} (h : ∀ {n : Int}, -2 ^ 63 ≤ n → n < 2 ^ 63 → ∀ K, FOK P f K [.int .i64 n] [] (pres (.rat (n : Rat) (max 1 (bitsN n.natAbs))) [])) : ∀ K args pre r, tInt K args pre = some r → FOK P f K args pre r := by
  refine pureSpec_ok fun K args r hk hs _ => ?_
  split at hs
  · split at hs
    · rename_i hc
      simp only [Option.some.injEq] at hs
      subst hs
      have := of_decide_eq_true hc
      exact h this.1 this.2 K
    · simp at hs
  · simp at hs
theorem tRat_ok : GOK P tRat := gok_cons (tp2_ok fun _ _ K hn => rAdd_ok (b2_ok hn).1 (b2_ok hn).2 K) (gok_cons (tp2_ok fun _ _ K hn => rSub_ok (b2_ok hn).1 (b2_ok hn).2 K) (gok_cons (tp2_ok fun _ _ K hn => rMul_ok (b2_ok hn).1 (b2_ok hn).2 K)
  (gok_cons (tp2_ok fun _ _ K hn => rSame_ok (lt42 (b2_ok hn).1) (lt42 (b2_ok hn).2) K []) (gok_cons (tp2_ok fun _ _ K hn => rCmp_ok (b2_ok hn).1 (b2_ok hn).2 K []) (gok_cons (tp1_ok fun _ K hn => rSign_ok (lt42 (b1_ok hn)) K []) (gok_cons (tInt_ok rInt_ok)
  (gok_cons (tp2_ok fun _ _ K hn => rQuo_ok (b2_ok hn).1 (b2_ok hn).2 K) (gok_cons (tp2_ok fun _ _ K hn => rMin_ok (b2_ok hn).1 (b2_ok hn).2 K) (gok_cons (tp2_ok fun _ _ K hn => rMax_ok (b2_ok hn).1 (b2_ok hn).2 K) gok_nil)))))))))
theorem tRef_ok : GOK P tRef := gok_cons (tp2_ok fun _ _ K hn => eAdd_ok (b2_ok hn).1 (b2_ok hn).2 K) (gok_cons (tp2_ok fun _ _ K hn => eSub_ok (b2_ok hn).1 (b2_ok hn).2 K) (gok_cons (tp2_ok fun _ _ K hn => eMul_ok (b2_ok hn).1 (b2_ok hn).2 K)
  (gok_cons (tp2_ok fun _ _ K hn => eSame_ok (lt41 (b2_ok hn).1) (lt41 (b2_ok hn).2) K []) (gok_cons (tp2_ok fun _ _ K hn => eCmp_ok (b2_ok hn).1 (b2_ok hn).2 K) (gok_cons (tp1_ok fun _ K _ => eSign_ok K []) (gok_cons (tInt_ok eInt_ok) gok_nil))))))
theorem tIdentity_ok : ∀ K args pre r, pureSpec (fun l => match l with
    | [] => some (pres (mpA idM 1) [])
    | _ => none) K args pre = some r → FOK P vector_Identity K args pre r := by
  refine pureSpec_ok fun K args r hk hs _ => ?_
  split at hs
  · simp only [Option.some.injEq] at hs
    subst hs
    exact vIdentity_ok K
  · simp at hs
theorem tVec_ok : GOK P tVec := gok_strict <| gok_cons (tp2_ok fun a b K hn => vCross_ok a b K (b2_ok hn)) (gok_cons (tp2_ok fun a b K hn => vDot_ok a b K (b2_ok hn)) (gok_cons (tp2_ok fun a b K hn => vAdd_ok a b K (b2_ok hn)) (gok_cons (tp2_ok fun a b K hn => vSub_ok a b K (b2_ok hn)) (gok_cons (tp2_ok fun a b K hn => vScale_ok a b K (b2_ok hn))
  (gok_cons (tp1_ok fun a K hn => vZero_ok a K (b1_ok hn)) (gok_cons (tp2_ok fun a b K hn => vSame_ok a b K (b2_ok hn)) (gok_cons (tp3_ok fun a b c K hn => vDet_ok a b c K (b3_ok hn)) (gok_cons (tp2_ok fun a b K hn => vTurn_ok a b K (b2_ok hn)) (gok_cons (tp1_ok fun a K hn => vtransposed_ok a K (b1_ok hn))
  (gok_cons (tp3_ok fun a b c K hn => vOrient2_ok a b c K (b3_ok hn)) (gok_cons (tp3_ok fun a b c K hn => vThrough_ok a b c K (b3_ok hn)) (gok_cons (tp2_ok fun a b K hn => vSide_ok a b K (b2_ok hn)) (gok_cons tIdentity_ok tRat_ok)))))))))))))
theorem tGe1_ok : GOK P tGe1 := gok_strict <| gok_cons (tp2_ok fun a b K hn => gSame_ok a b K (b2_ok hn)) (gok_cons (tp2_ok fun a b K hn => gAdd_ok a b K (b2_ok hn)) (gok_cons (tp2_ok fun a b K hn => gSub_ok a b K (b2_ok hn)) (gok_cons (tp2_ok fun a b K hn => gScale_ok a b K (b2_ok hn)) (gok_cons (tp2_ok fun a b K hn => gDot_ok a b K (b2_ok hn)) (gok_cons (tp2_ok fun a b K hn => gCross_ok a b K (b2_ok hn)) tRef_ok)))))
end Go.Am.B
