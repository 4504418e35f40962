/- aW for numbers of known size: the numbers. -/
import Derived.Test.YtjhhblmbiaghfaaGreatB34
import Derived.Test.YtjhhblmbiaghfaaGreatZ2
set_option linter.unusedVariables false
namespace Go.Am.B
open Go Go.Am.N AV
structure Kd (α : Type) where
 read : AV → Option α
 make : α → AV
 ok : ∀ {v : AV} {a : α}, read v = some a → bq v (make a)
def z6 : AV → Option (V3 × Nat)
 | .agg [x, y, z] => match mF x, mF y, mF z with
  | some (x, a), some (y, b), some (z, c) => some (⟨x, y, z⟩, max a (max b c))
  | _, _, _ => none
 | _ => none
theorem VY {v : AV} {a : V3 × Nat} (h : z6 v = some a) : bq v (vA a.1 a.2) := by
 unfold z6 at h
 split at h
 ·split at h
  ·rename_i h1 h2 h3
   simp only [Option.some.injEq] at h
   subst h
   exact eI ⟨(oX h1).trans (ic rfl (by simp only; omega)), (oX h2).trans (ic rfl (by simp only; omega)), (oX h3).trans (ic rfl (by simp only; omega)), trivial⟩
  ·simp at h
 ·simp at h
def dR : Kd (Rat × Nat) := ⟨mF, fun a => rA a.1 a.2, oX⟩
def dV : Kd (V3 × Nat) := ⟨z6, fun a => vA a.1 a.2, VY⟩
section specs
variable {α β γ δ : Type} {f : FuncId}
def Hs (k : Kd α) (g : α → AV) (B : α → Bool) : Spec := bu fun l => match l with
 | [x] => match k.read x with
  | some a => match B a with
   | true => some (aK (g a) [])
   | false => none
  | _ => none
 | _ => none
theorem Oc {k : Kd α} {g : α → AV} {B : α → Bool} (h : ∀ a K, B a = true → aC P f K [k.make a] [] (aK (g a) [])) : ∀ K args pre r, Hs k g B K args pre = some r → aC P f K args pre r := by
 refine bQ fun K args r hk hs _ => ?_
 split at hs
 ·split at hs
  ·rename_i h1
   split at hs
   ·rename_i hB
    simp only [Option.some.injEq] at hs
    subst hs
    exact fm (h _ K hB) hk ⟨k.ok h1, trivial⟩ []
   ·simp at hs
  ·simp at hs
 ·simp at hs
def g9 (k : Kd α) (k2 : Kd β) (g : α → β → AV) (B : α → β → Bool) : Spec := bu fun l => match l with
 | [x, y] => match k.read x, k2.read y with
  | some a, some b => match B a b with
   | true => some (aK (g a b) [])
   | false => none
  | _, _ => none
 | _ => none
theorem iP {k : Kd α} {k2 : Kd β} {g : α → β → AV} {B : α → β → Bool} (h : ∀ a b K, B a b = true → aC P f K [k.make a, k2.make b] [] (aK (g a b) [])) : ∀ K args pre r, g9 k k2 g B K args pre = some r → aC P f K args pre r := by
 refine bQ fun K args r hk hs _ => ?_
 split at hs
 ·split at hs
  ·rename_i h1 h2
   split at hs
   ·rename_i hB
    simp only [Option.some.injEq] at hs
    subst hs
    exact fm (h _ _ K hB) hk ⟨k.ok h1, k2.ok h2, trivial⟩ []
   ·simp at hs
  ·simp at hs
 ·simp at hs
end specs
def b1 {α : Type} (e : Nat) (a : α × Nat) : Bool := Nat.blt a.2 (2 ^ e)
def b2 {α β : Type} (e : Nat) (a : α × Nat) (b : β × Nat) : Bool := Nat.blt a.2 (2 ^ e) && Nat.blt b.2 (2 ^ e)
def b3 {α β γ : Type} (e : Nat) (a : α × Nat) (b : β × Nat) (c : γ × Nat) : Bool := Nat.blt a.2 (2 ^ e) && (Nat.blt b.2 (2 ^ e) && Nat.blt c.2 (2 ^ e))
theorem IK {a b : Nat} : Nat.blt a b = true ↔ a < b := by rw [Nat.blt_eq]
theorem Lt {α : Type} {e : Nat} {a : α × Nat} (h : b1 e a = true) : a.2 < 2 ^ e := IK.1 h
theorem eE {α β : Type} {e : Nat} {a : α × Nat} {b : β × Nat} (h : b2 e a b = true) : a.2 < 2 ^ e ∧ b.2 < 2 ^ e := by
 simp only [b2, Bool.and_eq_true, IK] at h; exact h
def H6 : Spec := bu fun l => match l with
 | [.int .i64 n] => match decide (-2 ^ 63 ≤ n ∧ n < 2 ^ 63) with
  | true => some (aK (.rat (n : Rat) (max 1 (bf n.natAbs))) [])
  | false => none
 | _ => none
abbrev Cv : FuncId × Spec := (yw, H6)
def BF : aW := [(x7, g9 dR dR EN (b2 42)), (y7, g9 dR dR FX (b2 42)), (yP, g9 dR dR FA (b2 42)), (wS, g9 dR dR Gs (b2 42)), (oV, g9 dR dR DK (b2 42)), (pA, Hs dR Gl (b1 42)), Cv, (yJ, g9 dR dR Sb (b2 42)), (rE, g9 dR dR A1 (b2 42)), (uZ, g9 dR dR Ap (b2 42))]
theorem Aj {n : Nat} (h : n < 2 ^ 42) : n < 2 ^ 44 := Nat.lt_trans h (by omega)
theorem WU {f : FuncId} (h : ∀ {n : Int}, -2 ^ 63 ≤ n → n < 2 ^ 63 → ∀ K, aC P f K [.int .i64 n] [] (aK (.rat (n : Rat) (max 1 (bf n.natAbs))) [])) : ∀ K args pre r, H6 K args pre = some r → aC P f K args pre r := by
 refine bQ fun K args r hk hs _ => ?_
 split at hs
 ·split at hs
  ·rename_i hc
   simp only [Option.some.injEq] at hs
   subst hs
   have := of_decide_eq_true hc
   exact h this.1 this.2 K
  ·simp at hs
 ·simp at hs
theorem QN : ∀ K args pre r, Cv.2 K args pre = some r → aC P Cv.1 K args pre r := WU Ld
theorem E9 : br P BF := aJ (iP fun _ _ K hn => LQ (eE hn).1 (eE hn).2 K) (aJ (iP fun _ _ K hn => Uw (eE hn).1 (eE hn).2 K) (aJ (iP fun _ _ K hn => N4 (eE hn).1 (eE hn).2 K)
 (aJ (iP fun _ _ K hn => QS (Aj (eE hn).1) (Aj (eE hn).2) K []) (aJ (iP fun _ _ K hn => Ej (eE hn).1 (eE hn).2 K []) (aJ (Oc fun _ K hn => Eu (Aj (Lt hn)) K []) (aJ QN
 (aJ (iP fun _ _ K hn => Sa (eE hn).1 (eE hn).2 K) (aJ (iP fun _ _ K hn => I9 (eE hn).1 (eE hn).2 K) (aJ (iP fun _ _ K hn => Gi (eE hn).1 (eE hn).2 K) aY)))))))))
end Go.Am.B

/- ref02: Quo, Over. -/
namespace Go.Am.B
open Go Go.Am.N AV
end Go.Am.B
