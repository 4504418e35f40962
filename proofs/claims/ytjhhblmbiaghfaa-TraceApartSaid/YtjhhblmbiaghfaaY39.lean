/- bf for numbers of known size: the numbers. -/
import Derived.Test.YtjhhblmbiaghfaaB34
import Derived.Test.YtjhhblmbiaghfaaZ2
set_option linter.unusedVariables false
namespace Go.Am.B
open Go Go.Am.N AV
structure Kd (α : Type) where
 read : AV → Option α
 make : α → AV
 ok : ∀ {v : AV} {a : α}, read v = some a → bn v (make a)
def x3 : AV → Option (V3 × Nat)
 | .agg [x, y, z] => match kT x, kT y, kT z with
  | some (x, a), some (y, b), some (z, c) => some (⟨x, y, z⟩, max a (max b c))
  | _, _, _ => none
 | _ => none
theorem LI {v : AV} {a : V3 × Nat} (h : x3 v = some a) : bn v (vA a.1 a.2) := by
 unfold x3 at h
 split at h
 ·split at h
  ·rename_i h1 h2 h3
   simp only [Option.some.injEq] at h
   subst h
   exact fC ⟨(oB h1).trans (iU rfl (by simp only; omega)), (oB h2).trans (iU rfl (by simp only; omega)), (oB h3).trans (iU rfl (by simp only; omega)), trivial⟩
  ·simp at h
 ·simp at h
def dR : Kd (Rat × Nat) := ⟨kT, fun a => rA a.1 a.2, oB⟩
def dV : Kd (V3 × Nat) := ⟨x3, fun a => vA a.1 a.2, LI⟩
section specs
variable {α β γ δ : Type} {f : FuncId}
def EV (k : Kd α) (g : α → AV) (B : α → Bool) : Spec := bp fun l => match l with
 | [x] => match k.read x with
  | some a => match B a with
   | true => some (aJ (g a) [])
   | false => none
  | _ => none
 | _ => none
theorem QC {k : Kd α} {g : α → AV} {B : α → Bool} (h : ∀ a K, B a = true → aC P f K [k.make a] [] (aJ (g a) [])) : ∀ K args pre r, EV k g B K args pre = some r → aC P f K args pre r := by
 refine bK fun K args r hk hs _ => ?_
 split at hs
 ·split at hs
  ·rename_i h1
   split at hs
   ·rename_i hB
    simp only [Option.some.injEq] at hs
    subst hs
    exact eJ (h _ K hB) hk ⟨k.ok h1, trivial⟩ []
   ·simp at hs
  ·simp at hs
 ·simp at hs
def gP (k : Kd α) (k2 : Kd β) (g : α → β → AV) (B : α → β → Bool) : Spec := bp fun l => match l with
 | [x, y] => match k.read x, k2.read y with
  | some a, some b => match B a b with
   | true => some (aJ (g a b) [])
   | false => none
  | _, _ => none
 | _ => none
theorem gZ {k : Kd α} {k2 : Kd β} {g : α → β → AV} {B : α → β → Bool} (h : ∀ a b K, B a b = true → aC P f K [k.make a, k2.make b] [] (aJ (g a b) [])) : ∀ K args pre r, gP k k2 g B K args pre = some r → aC P f K args pre r := by
 refine bK fun K args r hk hs _ => ?_
 split at hs
 ·split at hs
  ·rename_i h1 h2
   split at hs
   ·rename_i hB
    simp only [Option.some.injEq] at hs
    subst hs
    exact eJ (h _ _ K hB) hk ⟨k.ok h1, k2.ok h2, trivial⟩ []
   ·simp at hs
  ·simp at hs
 ·simp at hs
end specs
def b1 {α : Type} (e : Nat) (a : α × Nat) : Bool := Nat.blt a.2 (2 ^ e)
def b2 {α β : Type} (e : Nat) (a : α × Nat) (b : β × Nat) : Bool := Nat.blt a.2 (2 ^ e) && Nat.blt b.2 (2 ^ e)
def b3 {α β γ : Type} (e : Nat) (a : α × Nat) (b : β × Nat) (c : γ × Nat) : Bool := Nat.blt a.2 (2 ^ e) && (Nat.blt b.2 (2 ^ e) && Nat.blt c.2 (2 ^ e))
theorem BI {a b : Nat} : Nat.blt a b = true ↔ a < b := by rw [Nat.blt_eq]
theorem HO {α : Type} {e : Nat} {a : α × Nat} (h : b1 e a = true) : a.2 < 2 ^ e := BI.1 h
theorem eo {α β : Type} {e : Nat} {a : α × Nat} {b : β × Nat} (h : b2 e a b = true) : a.2 < 2 ^ e ∧ b.2 < 2 ^ e := by
 simp only [b2, Bool.and_eq_true, BI] at h; exact h
abbrev zc : FuncId × Spec := (999999990, fun _ _ _ => none)
def Ei : bf := [(tO, gP dR dR Dx (b2 42)), (vC, gP dR dR Df (b2 42)), (wB, gP dR dR Ez (b2 42)), (uY, gP dR dR Fs (b2 42)), (oV, gP dR dR BZ (b2 42)), (nk, EV dR Ew (b1 42)), zc, (vW, gP dR dR Ll (b2 42)), (s9, gP dR dR xU (b2 42)), (ri, gP dR dR zw (b2 42))]
theorem yP {n : Nat} (h : n < 2 ^ 42) : n < 2 ^ 44 := Nat.lt_trans h (by omega)
theorem Nu : ∀ K args pre r, zc.2 K args pre = some r → aC P zc.1 K args pre r := fun _ _ _ _ h => nomatch h
theorem Ke : bC P Ei := aK (gZ fun _ _ K hn => IU (eo hn).1 (eo hn).2 K) (aK (gZ fun _ _ K hn => OE (eo hn).1 (eo hn).2 K) (aK (gZ fun _ _ K hn => Ss (eo hn).1 (eo hn).2 K)
 (aK (gZ fun _ _ K hn => RL (yP (eo hn).1) (yP (eo hn).2) K []) (aK (gZ fun _ _ K hn => Dl (eo hn).1 (eo hn).2 K []) (aK (QC fun _ K hn => B9 (yP (HO hn)) K []) (aK Nu
 (aK (gZ fun _ _ K hn => Jx (eo hn).1 (eo hn).2 K) (aK (gZ fun _ _ K hn => C9 (eo hn).1 (eo hn).2 K) (aK (gZ fun _ _ K hn => A6 (eo hn).1 (eo hn).2 K) aZ)))))))))
end Go.Am.B

/- ref02: Quo, Over. -/
namespace Go.Am.B
open Go Go.Am.N AV
end Go.Am.B
