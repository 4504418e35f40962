/- aW by the shape of the arguments: numbers, points, planes, maps. -/
import Derived.Test.YtjhhblmbiaghfaaGreatB33
set_option linter.unusedVariables false
namespace Go.Am.B
open Go Go.Am.N AV
@[ext] structure V3 where
 x : Rat
 y : Rat
 z : Rat
structure Pl where
 n : V3
 d : Rat
structure M3 where
 a : V3
 b : V3
 c : V3
structure Mp where
 m : M3
 t : V3
abbrev rA (q : Rat) (n : Nat) : AV := .rat q n
abbrev vA (v : V3) (n : Nat) : AV := .agg [.rat v.x n, .rat v.y n, .rat v.z n]
theorem ic {q r : Rat} {n k : Nat} (h : q = r) (hk : n ≤ k) : bq (.rat q n) (.rat r k) := h ▸ jb hk
structure Kind (α : Type) where
 read : AV → Option (α × List Prop)
 make : α → AV
 ok : ∀ {v : AV} {a : α} {q : List Prop}, read v = some (a, q) → ay q → bq v (make a)
def mF : AV → Option (Rat × Nat)
 | .rat q n => some (q, n)
 | .agg [.bool false, .mag 0, .mag 0] => some (0, 1)
 | _ => none
theorem oX {v : AV} {a : Rat × Nat} (h : mF v = some a) : bq v (rA a.1 a.2) := by
 unfold mF at h
 split at h
 ·simp only [Option.some.injEq] at h; subst h; exact .refl _
 ·simp only [Option.some.injEq] at h; subst h; exact mW
 ·simp at h
def BR (v : AV) : Option ((Rat × Nat) × List Prop) := match mF v with
 | some a => some (a, [])
 | none => none
theorem UI {v : AV} {a : Rat × Nat} {q : List Prop} (h : BR v = some (a, q)) (_ : ay q) : bq v (rA a.1 a.2) := by
 unfold BR at h
 split at h
 ·rename_i h1
  simp only [Option.some.injEq, Prod.mk.injEq] at h
  obtain ⟨rfl, rfl⟩ := h
  exact oX h1
 ·simp at h
def AW : AV → Option (Int × List Prop)
 | .int .i64 n => some (n, [])
 | _ => none
theorem L5 {v : AV} {a : Int} {q : List Prop} (h : AW v = some (a, q)) (_ : ay q) : bq v (.int .i64 a) := by
 unfold AW at h
 split at h
 ·simp only [Option.some.injEq, Prod.mk.injEq] at h
  obtain ⟨rfl, rfl⟩ := h
  exact .refl _
 ·simp at h
def kR : Kind (Rat × Nat) := ⟨BR, fun a => rA a.1 a.2, UI⟩
def kI : Kind Int := ⟨AW, fun a => .int .i64 a, L5⟩
section specs
variable {α β γ δ : Type} {f : FuncId}
def H9 (k : Kind α) (g : α → AV) (need : α → List Prop) : Spec := bu fun l => match l with
 | [x] => match k.read x with
  | some (a, p) => some (aK (g a) (p ++ need a))
  | none => none
 | _ => none
theorem Jy {k : Kind α} {g : α → AV} {need : α → List Prop} (h : ∀ a K, ay (need a) → aC P f K [k.make a] [] (aK (g a) [])) : ∀ K args pre r, H9 k g need K args pre = some r → aC P f K args pre r := by
 refine bQ fun K args r hk hs _ => ?_
 split at hs
 ·split at hs
  ·rename_i h1
   simp only [Option.some.injEq] at hs
   subst hs
   intro hn
   obtain ⟨n1, hn⟩ := ep.1 hn
   exact fm (h _ K hn) hk ⟨k.ok h1 n1, trivial⟩ [] trivial
  ·simp at hs
 ·simp at hs
def oI (k : Kind α) (k2 : Kind β) (g : α → β → AV) (need : α → β → List Prop) : Spec := bu fun l => match l with
 | [x, y] => match k.read x, k2.read y with
  | some (a, p), some (b, q) => some (aK (g a b) (p ++ (q ++ need a b)))
  | _, _ => none
 | _ => none
theorem sN {k : Kind α} {k2 : Kind β} {g : α → β → AV} {need : α → β → List Prop} (h : ∀ a b K, ay (need a b) → aC P f K [k.make a, k2.make b] [] (aK (g a b) [])) : ∀ K args pre r, oI k k2 g need K args pre = some r → aC P f K args pre r := by
 refine bQ fun K args r hk hs _ => ?_
 split at hs
 ·split at hs
  ·rename_i h1 h2
   simp only [Option.some.injEq] at hs
   subst hs
   intro hn
   obtain ⟨n1, hn⟩ := ep.1 hn
   obtain ⟨n2, hn⟩ := ep.1 hn
   exact fm (h _ _ K hn) hk ⟨k.ok h1 n1, k2.ok h2 n2, trivial⟩ [] trivial
  ·simp at hs
 ·simp at hs
end specs
def tS (a b : Rat × Nat) : List Prop := [a.2 < 2 ^ 41, b.2 < 2 ^ 41]
def EN (a b : Rat × Nat) : AV := rA (a.1 + b.1) (a.2 + b.2 + 1)
def FX (a b : Rat × Nat) : AV := rA (a.1 - b.1) (a.2 + b.2 + 1)
def FA (a b : Rat × Nat) : AV := rA (a.1 * b.1) (a.2 + b.2)
def Sb (a b : Rat × Nat) : AV := .tuple [rA (a.1 / b.1) (a.2 + b.2), .int .i64 (if b.1 = 0 then 3 else 0)]
def A1 (a b : Rat × Nat) : AV := rA (cR a.1 b.1) (max a.2 b.2)
def Ap (a b : Rat × Nat) : AV := rA (cW a.1 b.1) (max a.2 b.2)
def DK (a b : Rat × Nat) : AV := .int .i64 (cB a.1 b.1)
def Gs (a b : Rat × Nat) : AV := .bool (decide (a.1 = b.1))
def Gl (a : Rat × Nat) : AV := .int .i64 (dO a.1)
def pX : aW := [(pQ, oI kR kR EN tS), (yu, oI kR kR FX tS), (zj, oI kR kR FA tS), (wQ, oI kR kR Gs tS), (wW, oI kR kR DK tS), (oK, H9 kR Gl fun a => [a.2 < 2 ^ 41]), (oB, xV)]
theorem th : br P pX := aJ (sN fun _ _ K hn => FO hn.1 hn.2 K) (aJ (sN fun _ _ K hn => TM hn.1 hn.2 K) (aJ (sN fun _ _ K hn => Ra hn.1 hn.2 K)
 (aJ (sN fun _ _ K hn => Md (Nat.lt_trans hn.1 (by omega)) (Nat.lt_trans hn.2 (by omega)) K []) (aJ (sN fun _ _ K hn => Ov hn.1 hn.2 K) (aJ (Jy fun _ K _ => Ew K []) (aJ zU aY))))))
end Go.Am.B
