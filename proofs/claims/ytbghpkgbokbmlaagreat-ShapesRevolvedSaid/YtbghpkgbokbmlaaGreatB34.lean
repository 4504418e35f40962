/- aT by the shape of the arguments: numbers, points, planes, maps. -/
import Derived.Test.YtbghpkgbokbmlaaGreatB33
set_option linter.unusedVariables false
namespace Go.Am.B
open Go Go.Am.N AV
@[ext] structure V3 where
 x : Rat
 y : Rat
 z : Rat
structure Pl where
 n : V3
 d : Rat
structure M3 where
 a : V3
 b : V3
 c : V3
structure Mp where
 m : M3
 t : V3
abbrev rA (q : Rat) (n : Nat) : AV := .rat q n
abbrev vA (v : V3) (n : Nat) : AV := .agg [.rat v.x n, .rat v.y n, .rat v.z n]
abbrev dO (p : Pl) (n : Nat) : AV := .agg [vA p.n n, .rat p.d n]
theorem cV {q r : Rat} {n k : Nat} (h : q = r) (hk : n ≤ k) : bD (.rat q n) (.rat r k) := h ▸ dF hk
theorem Wm {u v : V3} {n k : Nat} (h : u = v) (hk : n ≤ k) : bD (vA u n) (vA v k) :=
 h ▸ eG ⟨cV rfl hk, cV rfl hk, cV rfl hk, trivial⟩
structure Kind (α : Type) where
 read : AV → Option (α × List Prop)
 make : α → AV
 ok : ∀ {v : AV} {a : α} {q : List Prop}, read v = some (a, q) → ax q → bD v (make a)
def iK : AV → Option (Rat × Nat)
 | .rat q n => some (q, n)
 | .agg [.bool false, .mag 0, .mag 0] => some (0, 1)
 | _ => none
theorem jM {v : AV} {a : Rat × Nat} (h : iK v = some a) : bD v (rA a.1 a.2) := by
 unfold iK at h
 split at h
 ·simp only [Option.some.injEq] at h; subst h; exact .refl _
 ·simp only [Option.some.injEq] at h; subst h; exact jh
 ·simp at h
def zK (v : AV) : Option ((Rat × Nat) × List Prop) := match iK v with
 | some a => some (a, [])
 | none => none
theorem aa2 {v : AV} {a : Rat × Nat} {q : List Prop} (h : zK v = some (a, q)) (_ : ax q) : bD v (rA a.1 a.2) := by
 unfold zK at h
 split at h
 ·rename_i h1
  simp only [Option.some.injEq, Prod.mk.injEq] at h
  obtain ⟨rfl, rfl⟩ := h
  exact jM h1
 ·simp at h
def BI : AV → Option (Int × List Prop)
 | .int .i64 n => some (n, [])
 | _ => none
theorem VZ {v : AV} {a : Int} {q : List Prop} (h : BI v = some (a, q)) (_ : ax q) : bD v (.int .i64 a) := by
 unfold BI at h
 split at h
 ·simp only [Option.some.injEq, Prod.mk.injEq] at h
  obtain ⟨rfl, rfl⟩ := h
  exact .refl _
 ·simp at h
def kR : Kind (Rat × Nat) := ⟨zK, fun a => rA a.1 a.2, aa2⟩
def kI : Kind Int := ⟨BI, fun a => .int .i64 a, VZ⟩
section specs
variable {α β γ δ : Type} {f : FuncId}
def zA (k : Kind α) (g : α → AV) (need : α → List Prop) : Spec := bt fun l => match l with
 | [x] => match k.read x with
  | some (a, p) => some (aH (g a) (p ++ need a))
  | none => none
 | _ => none
theorem Fl {k : Kind α} {g : α → AV} {need : α → List Prop} (h : ∀ a K, ax (need a) → aB P f K [k.make a] [] (aH (g a) [])) : ∀ K args pre r, zA k g need K args pre = some r → aB P f K args pre r := by
 refine bJ fun K args r hk hs _ => ?_
 split at hs
 ·split at hs
  ·rename_i h1
   simp only [Option.some.injEq] at hs
   subst hs
   intro hn
   obtain ⟨n1, hn⟩ := dX.1 hn
   exact fu (h _ K hn) hk ⟨k.ok h1 n1, trivial⟩ [] trivial
  ·simp at hs
 ·simp at hs
def hU (k : Kind α) (k2 : Kind β) (g : α → β → AV) (need : α → β → List Prop) : Spec := bt fun l => match l with
 | [x, y] => match k.read x, k2.read y with
  | some (a, p), some (b, q) => some (aH (g a b) (p ++ (q ++ need a b)))
  | _, _ => none
 | _ => none
theorem iC {k : Kind α} {k2 : Kind β} {g : α → β → AV} {need : α → β → List Prop} (h : ∀ a b K, ax (need a b) → aB P f K [k.make a, k2.make b] [] (aH (g a b) [])) : ∀ K args pre r, hU k k2 g need K args pre = some r → aB P f K args pre r := by
 refine bJ fun K args r hk hs _ => ?_
 split at hs
 ·split at hs
  ·rename_i h1 h2
   simp only [Option.some.injEq] at hs
   subst hs
   intro hn
   obtain ⟨n1, hn⟩ := dX.1 hn
   obtain ⟨n2, hn⟩ := dX.1 hn
   exact fu (h _ _ K hn) hk ⟨k.ok h1 n1, k2.ok h2 n2, trivial⟩ [] trivial
  ·simp at hs
 ·simp at hs
end specs
def vr (a b : Rat × Nat) : List Prop := [a.2 < 2 ^ 42, b.2 < 2 ^ 42]
def lS (a b : Rat × Nat) : List Prop := [a.2 < 2 ^ 41, b.2 < 2 ^ 41]
def jq (a b : Rat × Nat) : AV := rA (a.1 + b.1) (a.2 + b.2 + 1)
def xQ (a b : Rat × Nat) : AV := rA (a.1 - b.1) (a.2 + b.2 + 1)
def zn (a b : Rat × Nat) : AV := rA (a.1 * b.1) (a.2 + b.2)
def BK (a b : Rat × Nat) : AV := .tuple [rA (a.1 / b.1) (a.2 + b.2), .int .i64 (if b.1 = 0 then 3 else 0)]
def UM (a b : Rat × Nat) : AV := rA (xk a.1 b.1) (max a.2 b.2)
def Mg (a b : Rat × Nat) : AV := rA (w7 a.1 b.1) (max a.2 b.2)
def yT (a b : Rat × Nat) : AV := .int .i64 (fS a.1 b.1)
def xA (a b : Rat × Nat) : AV := .bool (decide (a.1 = b.1))
def xM (a : Rat × Nat) : AV := .int .i64 (dA a.1)
abbrev Bo : FuncId × Spec := (mZ, Cg)
def JE : aT := [(v5, hU kR kR jq vr), (rY, hU kR kR xQ vr), (rR, hU kR kR zn vr), (rj, hU kR kR xA vr), (mX, hU kR kR yT vr), (nF, zA kR xM fun a => [a.2 < 2 ^ 42]), Bo]
def iT : aT := [(nw, hU kR kR jq lS), (tn, hU kR kR xQ lS), (tN, hU kR kR zn lS), (ry, hU kR kR xA lS), (td, hU kR kR yT lS), (nY, zA kR xM fun a => [a.2 < 2 ^ 41]), (iy, oI)]
theorem QX : ∀ K args pre r, Bo.2 K args pre = some r → aB P Bo.1 K args pre r := Gb
theorem T7 : bh P JE := aE (iC fun _ _ K hn => Ik hn.1 hn.2 K) (aE (iC fun _ _ K hn => Jj hn.1 hn.2 K) (aE (iC fun _ _ K hn => CT hn.1 hn.2 K)
 (aE (iC fun _ _ K hn => Gd (Nat.lt_trans hn.1 (by omega)) (Nat.lt_trans hn.2 (by omega)) K []) (aE (iC fun _ _ K hn => BO hn.1 hn.2 K []) (aE (Fl fun _ K hn => Ad (Nat.lt_trans hn (by omega)) K []) (aE QX aY))))))
theorem jA : bh P iT := aE (iC fun _ _ K hn => BG hn.1 hn.2 K) (aE (iC fun _ _ K hn => EP hn.1 hn.2 K) (aE (iC fun _ _ K hn => GO hn.1 hn.2 K)
 (aE (iC fun _ _ K hn => Ie (Nat.lt_trans hn.1 (by omega)) (Nat.lt_trans hn.2 (by omega)) K []) (aE (iC fun _ _ K hn => GU hn.1 hn.2 K) (aE (Fl fun _ K _ => Aj K []) (aE tY aY))))))
end Go.Am.B
