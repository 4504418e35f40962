/- bf by the shape of the arguments: numbers, points, planes, maps. -/
import Derived.Test.YtjhhblmbiaghfaaB33
set_option linter.unusedVariables false
namespace Go.Am.B
open Go Go.Am.N AV
@[ext] structure V3 where
 x : Rat
 y : Rat
 z : Rat
structure Pl where
 n : V3
 d : Rat
structure M3 where
 a : V3
 b : V3
 c : V3
structure Mp where
 m : M3
 t : V3
abbrev rA (q : Rat) (n : Nat) : AV := .rat q n
abbrev vA (v : V3) (n : Nat) : AV := .agg [.rat v.x n, .rat v.y n, .rat v.z n]
theorem iU {q r : Rat} {n k : Nat} (h : q = r) (hk : n ≤ k) : bn (.rat q n) (.rat r k) := h ▸ iB hk
structure Kind (α : Type) where
 read : AV → Option (α × List Prop)
 make : α → AV
 ok : ∀ {v : AV} {a : α} {q : List Prop}, read v = some (a, q) → az q → bn v (make a)
def kT : AV → Option (Rat × Nat)
 | .rat q n => some (q, n)
 | .agg [.bool false, .mag 0, .mag 0] => some (0, 1)
 | _ => none
theorem oB {v : AV} {a : Rat × Nat} (h : kT v = some a) : bn v (rA a.1 a.2) := by
 unfold kT at h
 split at h
 ·simp only [Option.some.injEq] at h; subst h; exact .refl _
 ·simp only [Option.some.injEq] at h; subst h; exact lZ
 ·simp at h
def xp (v : AV) : Option ((Rat × Nat) × List Prop) := match kT v with
 | some a => some (a, [])
 | none => none
theorem KM {v : AV} {a : Rat × Nat} {q : List Prop} (h : xp v = some (a, q)) (_ : az q) : bn v (rA a.1 a.2) := by
 unfold xp at h
 split at h
 ·rename_i h1
  simp only [Option.some.injEq, Prod.mk.injEq] at h
  obtain ⟨rfl, rfl⟩ := h
  exact oB h1
 ·simp at h
def yF : AV → Option (Int × List Prop)
 | .int .i64 n => some (n, [])
 | _ => none
theorem Um {v : AV} {a : Int} {q : List Prop} (h : yF v = some (a, q)) (_ : az q) : bn v (.int .i64 a) := by
 unfold yF at h
 split at h
 ·simp only [Option.some.injEq, Prod.mk.injEq] at h
  obtain ⟨rfl, rfl⟩ := h
  exact .refl _
 ·simp at h
def kR : Kind (Rat × Nat) := ⟨xp, fun a => rA a.1 a.2, KM⟩
def kI : Kind Int := ⟨yF, fun a => .int .i64 a, Um⟩
section specs
variable {α β γ δ : Type} {f : FuncId}
def B5 (k : Kind α) (g : α → AV) (need : α → List Prop) : Spec := bp fun l => match l with
 | [x] => match k.read x with
  | some (a, p) => some (aJ (g a) (p ++ need a))
  | none => none
 | _ => none
theorem Ry {k : Kind α} {g : α → AV} {need : α → List Prop} (h : ∀ a K, az (need a) → aC P f K [k.make a] [] (aJ (g a) [])) : ∀ K args pre r, B5 k g need K args pre = some r → aC P f K args pre r := by
 refine bK fun K args r hk hs _ => ?_
 split at hs
 ·split at hs
  ·rename_i h1
   simp only [Option.some.injEq] at hs
   subst hs
   intro hn
   obtain ⟨n1, hn⟩ := dU.1 hn
   exact eJ (h _ K hn) hk ⟨k.ok h1 n1, trivial⟩ [] trivial
  ·simp at hs
 ·simp at hs
def n9 (k : Kind α) (k2 : Kind β) (g : α → β → AV) (need : α → β → List Prop) : Spec := bp fun l => match l with
 | [x, y] => match k.read x, k2.read y with
  | some (a, p), some (b, q) => some (aJ (g a b) (p ++ (q ++ need a b)))
  | _, _ => none
 | _ => none
theorem qS {k : Kind α} {k2 : Kind β} {g : α → β → AV} {need : α → β → List Prop} (h : ∀ a b K, az (need a b) → aC P f K [k.make a, k2.make b] [] (aJ (g a b) [])) : ∀ K args pre r, n9 k k2 g need K args pre = some r → aC P f K args pre r := by
 refine bK fun K args r hk hs _ => ?_
 split at hs
 ·split at hs
  ·rename_i h1 h2
   simp only [Option.some.injEq] at hs
   subst hs
   intro hn
   obtain ⟨n1, hn⟩ := dU.1 hn
   obtain ⟨n2, hn⟩ := dU.1 hn
   exact eJ (h _ _ K hn) hk ⟨k.ok h1 n1, k2.ok h2 n2, trivial⟩ [] trivial
  ·simp at hs
 ·simp at hs
end specs
def rP (a b : Rat × Nat) : List Prop := [a.2 < 2 ^ 41, b.2 < 2 ^ 41]
def Dx (a b : Rat × Nat) : AV := rA (a.1 + b.1) (a.2 + b.2 + 1)
def Df (a b : Rat × Nat) : AV := rA (a.1 - b.1) (a.2 + b.2 + 1)
def Ez (a b : Rat × Nat) : AV := rA (a.1 * b.1) (a.2 + b.2)
def Ll (a b : Rat × Nat) : AV := .tuple [rA (a.1 / b.1) (a.2 + b.2), .int .i64 (if b.1 = 0 then 3 else 0)]
def xU (a b : Rat × Nat) : AV := rA (cO a.1 b.1) (max a.2 b.2)
def zw (a b : Rat × Nat) : AV := rA (cQ a.1 b.1) (max a.2 b.2)
def BZ (a b : Rat × Nat) : AV := .int .i64 (dJ a.1 b.1)
def Fs (a b : Rat × Nat) : AV := .bool (decide (a.1 = b.1))
def Ew (a : Rat × Nat) : AV := .int .i64 (dG a.1)
def tX : bf := [(nu, n9 kR kR Dx rP), (wV, n9 kR kR Df rP), (uX, n9 kR kR Ez rP), (uK, n9 kR kR Fs rP), (vB, n9 kR kR BZ rP), (oK, B5 kR Ew fun a => [a.2 < 2 ^ 41]), (mW, vZ)]
theorem x7 : bC P tX := aK (qS fun _ _ K hn => BX hn.1 hn.2 K) (aK (qS fun _ _ K hn => S9 hn.1 hn.2 K) (aK (qS fun _ _ K hn => T1 hn.1 hn.2 K)
 (aK (qS fun _ _ K hn => Nl (Nat.lt_trans hn.1 (by omega)) (Nat.lt_trans hn.2 (by omega)) K []) (aK (qS fun _ _ K hn => Tn hn.1 hn.2 K) (aK (Ry fun _ K _ => BG K []) (aK xY aZ))))))
end Go.Am.B
