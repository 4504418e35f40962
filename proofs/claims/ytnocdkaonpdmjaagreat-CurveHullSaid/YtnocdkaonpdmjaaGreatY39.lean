/- aQ for numbers of known size: the numbers. -/
import Derived.Test.YtnocdkaonpdmjaaGreatB34
import Derived.Test.YtnocdkaonpdmjaaGreatZ2
set_option linter.unusedVariables false
namespace Go.Am.B
open Go Go.Am.N AV
structure Kd (α : Type) where
 read : AV → Option α
 make : α → AV
 ok : ∀ {v : AV} {a : α}, read v = some a → bA v (make a)
def Cl : AV → Option (V3 × Nat)
 | .agg [x, y, z] => match gG x, gG y, gG z with
  | some (x, a), some (y, b), some (z, c) => some (⟨x, y, z⟩, max a (max b c))
  | _, _, _ => none
 | _ => none
theorem Zx {v : AV} {a : V3 × Nat} (h : Cl v = some a) : bA v (vA a.1 a.2) := by
 unfold Cl at h
 split at h
 ·split at h
  ·rename_i h1 h2 h3
   simp only [Option.some.injEq] at h
   subst h
   exact ee ⟨(iz h1).trans (cm rfl (by simp only; omega)), (iz h2).trans (cm rfl (by simp only; omega)), (iz h3).trans (cm rfl (by simp only; omega)), trivial⟩
  ·simp at h
 ·simp at h
def dR : Kd (Rat × Nat) := ⟨gG, fun a => rA a.1 a.2, iz⟩
def dV : Kd (V3 × Nat) := ⟨Cl, fun a => vA a.1 a.2, Zx⟩
section specs
variable {α β γ δ : Type} {f : FuncId}
def Dm (k : Kd α) (g : α → AV) (B : α → Bool) : Spec := bu fun l => match l with
 | [x] => match k.read x with
  | some a => match B a with
   | true => some (aG (g a) [])
   | false => none
  | _ => none
 | _ => none
theorem EH {k : Kd α} {g : α → AV} {B : α → Bool} (h : ∀ a K, B a = true → aA P f K [k.make a] [] (aG (g a) [])) : ∀ K args pre r, Dm k g B K args pre = some r → aA P f K args pre r := by
 refine bN fun K args r hk hs _ => ?_
 split at hs
 ·split at hs
  ·rename_i h1
   split at hs
   ·rename_i hB
    simp only [Option.some.injEq] at hs
    subst hs
    exact fc (h _ K hB) hk ⟨k.ok h1, trivial⟩ []
   ·simp at hs
  ·simp at hs
 ·simp at hs
def iu (k : Kd α) (k2 : Kd β) (g : α → β → AV) (B : α → β → Bool) : Spec := bu fun l => match l with
 | [x, y] => match k.read x, k2.read y with
  | some a, some b => match B a b with
   | true => some (aG (g a b) [])
   | false => none
  | _, _ => none
 | _ => none
theorem iE {k : Kd α} {k2 : Kd β} {g : α → β → AV} {B : α → β → Bool} (h : ∀ a b K, B a b = true → aA P f K [k.make a, k2.make b] [] (aG (g a b) [])) : ∀ K args pre r, iu k k2 g B K args pre = some r → aA P f K args pre r := by
 refine bN fun K args r hk hs _ => ?_
 split at hs
 ·split at hs
  ·rename_i h1 h2
   split at hs
   ·rename_i hB
    simp only [Option.some.injEq] at hs
    subst hs
    exact fc (h _ _ K hB) hk ⟨k.ok h1, k2.ok h2, trivial⟩ []
   ·simp at hs
  ·simp at hs
 ·simp at hs
end specs
def b1 {α : Type} (e : Nat) (a : α × Nat) : Bool := Nat.blt a.2 (2 ^ e)
def b2 {α β : Type} (e : Nat) (a : α × Nat) (b : β × Nat) : Bool := Nat.blt a.2 (2 ^ e) && Nat.blt b.2 (2 ^ e)
def b3 {α β γ : Type} (e : Nat) (a : α × Nat) (b : β × Nat) (c : γ × Nat) : Bool := Nat.blt a.2 (2 ^ e) && (Nat.blt b.2 (2 ^ e) && Nat.blt c.2 (2 ^ e))
theorem G9 {a b : Nat} : Nat.blt a b = true ↔ a < b := by rw [Nat.blt_eq]
theorem Z5 {α : Type} {e : Nat} {a : α × Nat} (h : b1 e a = true) : a.2 < 2 ^ e := G9.1 h
theorem ey {α β : Type} {e : Nat} {a : α × Nat} {b : β × Nat} (h : b2 e a b = true) : a.2 < 2 ^ e ∧ b.2 < 2 ^ e := by
 simp only [b2, Bool.and_eq_true, G9] at h; exact h
def yL : Spec := bu fun l => match l with
 | [.int .i64 n] => match decide (-2 ^ 63 ≤ n ∧ n < 2 ^ 63) with
  | true => some (aG (.rat (n : Rat) (max 1 (aZ n.natAbs))) [])
  | false => none
 | _ => none
abbrev Ci : FuncId × Spec := (nO, yL)
abbrev B2 : FuncId × Spec := (ym, iu dR dR Qh (b2 42))
abbrev AF : FuncId × Spec := (yh, iu dR dR MC (b2 42))
def x7 : aQ := [(vk, iu dR dR jx (b2 42)), (r7, iu dR dR xZ (b2 42)), (uW, iu dR dR Ai (b2 42)), (fj, iu dR dR AB (b2 42)), (iy, iu dR dR zx (b2 42)), (oF, Dm dR Aj (b1 42)), Ci, (pW, iu dR dR Bx (b2 42)), B2, AF]
def ql : aQ := [(oA, iu dR dR jx (b2 41)), (v9, iu dR dR xZ (b2 41)), (uK, iu dR dR Ai (b2 41)), (rT, iu dR dR AB (b2 41)), (xg, iu dR dR zx (b2 41)), (oX, Dm dR Aj (b1 41)), (lS, yL)]
theorem Df {n : Nat} (h : n < 2 ^ 42) : n < 2 ^ 44 := Nat.lt_trans h (by omega)
theorem I6 {n : Nat} (h : n < 2 ^ 41) : n < 2 ^ 44 := Nat.lt_trans h (by omega)
theorem Di {f : FuncId} (h : ∀ {n : Int}, -2 ^ 63 ≤ n → n < 2 ^ 63 → ∀ K, aA P f K [.int .i64 n] [] (aG (.rat (n : Rat) (max 1 (aZ n.natAbs))) [])) : ∀ K args pre r, yL K args pre = some r → aA P f K args pre r := by
 refine bN fun K args r hk hs _ => ?_
 split at hs
 ·split at hs
  ·rename_i hc
   simp only [Option.some.injEq] at hs
   subst hs
   have := of_decide_eq_true hc
   exact h this.1 this.2 K
  ·simp at hs
 ·simp at hs
theorem U6 : ∀ K args pre r, Ci.2 K args pre = some r → aA P Ci.1 K args pre r := Di DP
theorem SL : ∀ K args pre r, B2.2 K args pre = some r → aA P B2.1 K args pre r := iE fun _ _ K hn => Ur (ey hn).1 (ey hn).2 K
theorem Sl : ∀ K args pre r, AF.2 K args pre = some r → aA P AF.1 K args pre r := iE fun _ _ K hn => acF (ey hn).1 (ey hn).2 K
theorem Dy : bg P x7 := aH (iE fun _ _ K hn => F7 (ey hn).1 (ey hn).2 K) (aH (iE fun _ _ K hn => FU (ey hn).1 (ey hn).2 K) (aH (iE fun _ _ K hn => Ii (ey hn).1 (ey hn).2 K)
 (aH (iE fun _ _ K hn => Ik (Df (ey hn).1) (Df (ey hn).2) K []) (aH (iE fun _ _ K hn => DM (ey hn).1 (ey hn).2 K []) (aH (EH fun _ K hn => CI (Df (Z5 hn)) K []) (aH U6
 (aH (iE fun _ _ K hn => CL (ey hn).1 (ey hn).2 K) (aH SL (aH Sl bn)))))))))
theorem wC : bg P ql := aH (iE fun _ _ K hn => Dr (ey hn).1 (ey hn).2 K) (aH (iE fun _ _ K hn => IC (ey hn).1 (ey hn).2 K) (aH (iE fun _ _ K hn => Gf (ey hn).1 (ey hn).2 K)
 (aH (iE fun _ _ K hn => JS (I6 (ey hn).1) (I6 (ey hn).2) K []) (aH (iE fun _ _ K hn => Hf (ey hn).1 (ey hn).2 K) (aH (EH fun _ K _ => BF K []) (aH (Di EG) bn))))))
end Go.Am.B

/- ref02: Quo, Over. -/
namespace Go.Am.B
open Go Go.Am.N AV
end Go.Am.B
