/- aP by the shape of the arguments: numbers, points, planes, maps. -/
import Derived.Test.YtbghpkgbokbmlaaGreatB33
set_option linter.unusedVariables false
namespace Go.Am.B
open Go Go.Am.N AV
@[ext] structure V3 where
 x : Rat
 y : Rat
 z : Rat
structure Pl where
 n : V3
 d : Rat
structure M3 where
 a : V3
 b : V3
 c : V3
structure Mp where
 m : M3
 t : V3
abbrev rA (q : Rat) (n : Nat) : AV := .rat q n
abbrev vA (v : V3) (n : Nat) : AV := .agg [.rat v.x n, .rat v.y n, .rat v.z n]
abbrev eu (p : Pl) (n : Nat) : AV := .agg [vA p.n n, .rat p.d n]
theorem bJ {q r : Rat} {n k : Nat} (h : q = r) (hk : n ≤ k) : bp (.rat q n) (.rat r k) := h ▸ dZ hk
theorem EK {u v : V3} {n k : Nat} (h : u = v) (hk : n ≤ k) : bp (vA u n) (vA v k) :=
 h ▸ cN ⟨bJ rfl hk, bJ rfl hk, bJ rfl hk, trivial⟩
structure Kind (α : Type) where
 read : AV → Option (α × List Prop)
 make : α → AV
 ok : ∀ {v : AV} {a : α} {q : List Prop}, read v = some (a, q) → ay q → bp v (make a)
def ga : AV → Option (Rat × Nat)
 | .rat q n => some (q, n)
 | .agg [.bool false, .mag 0, .mag 0] => some (0, 1)
 | _ => none
theorem gD {v : AV} {a : Rat × Nat} (h : ga v = some a) : bp v (rA a.1 a.2) := by
 unfold ga at h
 split at h
 ·simp only [Option.some.injEq] at h; subst h; exact .refl _
 ·simp only [Option.some.injEq] at h; subst h; exact hJ
 ·simp at h
def ya (v : AV) : Option ((Rat × Nat) × List Prop) := match ga v with
 | some a => some (a, [])
 | none => none
theorem MG {v : AV} {a : Rat × Nat} {q : List Prop} (h : ya v = some (a, q)) (_ : ay q) : bp v (rA a.1 a.2) := by
 unfold ya at h
 split at h
 ·rename_i h1
  simp only [Option.some.injEq, Prod.mk.injEq] at h
  obtain ⟨rfl, rfl⟩ := h
  exact gD h1
 ·simp at h
def yS : AV → Option (Int × List Prop)
 | .int .i64 n => some (n, [])
 | _ => none
theorem Ky {v : AV} {a : Int} {q : List Prop} (h : yS v = some (a, q)) (_ : ay q) : bp v (.int .i64 a) := by
 unfold yS at h
 split at h
 ·simp only [Option.some.injEq, Prod.mk.injEq] at h
  obtain ⟨rfl, rfl⟩ := h
  exact .refl _
 ·simp at h
def kR : Kind (Rat × Nat) := ⟨ya, fun a => rA a.1 a.2, MG⟩
def kI : Kind Int := ⟨yS, fun a => .int .i64 a, Ky⟩
section specs
variable {α β γ δ : Type} {f : FuncId}
def Ch (k : Kind α) (g : α → AV) (need : α → List Prop) : Spec := bk fun l => match l with
 | [x] => match k.read x with
  | some (a, p) => some (aG (g a) (p ++ need a))
  | none => none
 | _ => none
theorem J3 {k : Kind α} {g : α → AV} {need : α → List Prop} (h : ∀ a K, ay (need a) → az P f K [k.make a] [] (aG (g a) [])) : ∀ K args pre r, Ch k g need K args pre = some r → az P f K args pre r := by
 refine bD fun K args r hk hs _ => ?_
 split at hs
 ·split at hs
  ·rename_i h1
   simp only [Option.some.injEq] at hs
   subst hs
   intro hn
   obtain ⟨n1, hn⟩ := dU.1 hn
   exact eF (h _ K hn) hk ⟨k.ok h1 n1, trivial⟩ [] trivial
  ·simp at hs
 ·simp at hs
def jA (k : Kind α) (k2 : Kind β) (g : α → β → AV) (need : α → β → List Prop) : Spec := bk fun l => match l with
 | [x, y] => match k.read x, k2.read y with
  | some (a, p), some (b, q) => some (aG (g a b) (p ++ (q ++ need a b)))
  | _, _ => none
 | _ => none
theorem kn {k : Kind α} {k2 : Kind β} {g : α → β → AV} {need : α → β → List Prop} (h : ∀ a b K, ay (need a b) → az P f K [k.make a, k2.make b] [] (aG (g a b) [])) : ∀ K args pre r, jA k k2 g need K args pre = some r → az P f K args pre r := by
 refine bD fun K args r hk hs _ => ?_
 split at hs
 ·split at hs
  ·rename_i h1 h2
   simp only [Option.some.injEq] at hs
   subst hs
   intro hn
   obtain ⟨n1, hn⟩ := dU.1 hn
   obtain ⟨n2, hn⟩ := dU.1 hn
   exact eF (h _ _ K hn) hk ⟨k.ok h1 n1, k2.ok h2 n2, trivial⟩ [] trivial
  ·simp at hs
 ·simp at hs
end specs
def kP (a b : Rat × Nat) : List Prop := [a.2 < 2 ^ 41, b.2 < 2 ^ 41]
def l6 (a b : Rat × Nat) : AV := rA (a.1 + b.1) (a.2 + b.2 + 1)
def yu (a b : Rat × Nat) : AV := rA (a.1 - b.1) (a.2 + b.2 + 1)
def yc (a b : Rat × Nat) : AV := rA (a.1 * b.1) (a.2 + b.2)
def vf (a b : Rat × Nat) : AV := .tuple [rA (a.1 / b.1) (a.2 + b.2), .int .i64 (if b.1 = 0 then 3 else 0)]
def Hr (a b : Rat × Nat) : AV := rA (vq a.1 b.1) (max a.2 b.2)
def QD (a b : Rat × Nat) : AV := rA (tU a.1 b.1) (max a.2 b.2)
def xd (a b : Rat × Nat) : AV := .int .i64 (fy a.1 b.1)
def wS (a b : Rat × Nat) : AV := .bool (decide (a.1 = b.1))
def xP (a : Rat × Nat) : AV := .int .i64 (dc a.1)
abbrev w9 : FuncId × Spec := (lG, xG)
def iq : aP := [(mw, jA kR kR l6 kP), (rY, jA kR kR yu kP), (sr, jA kR kR yc kP), (p9, jA kR kR wS kP), (rB, jA kR kR xd kP), (lH, Ch kR xP fun a => [a.2 < 2 ^ 41]), (gW, qp)]
theorem Qf : ∀ K args pre r, w9.2 K args pre = some r → az P w9.1 K args pre r := Cl
theorem ja : aX P iq := aE (kn fun _ _ K hn => wE hn.1 hn.2 K) (aE (kn fun _ _ K hn => Cb hn.1 hn.2 K) (aE (kn fun _ _ K hn => F4 hn.1 hn.2 K)
 (aE (kn fun _ _ K hn => En (Nat.lt_trans hn.1 (by omega)) (Nat.lt_trans hn.2 (by omega)) K []) (aE (kn fun _ _ K hn => Eg hn.1 hn.2 K) (aE (J3 fun _ K _ => wq K []) (aE vt aZ))))))
end Go.Am.B
