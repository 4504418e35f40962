/- aQ by the shape of the arguments: numbers, points, planes, maps. -/
import Derived.Test.YtnocdkaonpdmjaaGreatB33
set_option linter.unusedVariables false
namespace Go.Am.B
open Go Go.Am.N AV
@[ext] structure V3 where
 x : Rat
 y : Rat
 z : Rat
structure Pl where
 n : V3
 d : Rat
structure M3 where
 a : V3
 b : V3
 c : V3
structure Mp where
 m : M3
 t : V3
abbrev rA (q : Rat) (n : Nat) : AV := .rat q n
abbrev vA (v : V3) (n : Nat) : AV := .agg [.rat v.x n, .rat v.y n, .rat v.z n]
abbrev cY (p : Pl) (n : Nat) : AV := .agg [vA p.n n, .rat p.d n]
theorem cm {q r : Rat} {n k : Nat} (h : q = r) (hk : n ≤ k) : bA (.rat q n) (.rat r k) := h ▸ ew hk
theorem yc {u v : V3} {n k : Nat} (h : u = v) (hk : n ≤ k) : bA (vA u n) (vA v k) :=
 h ▸ ee ⟨cm rfl hk, cm rfl hk, cm rfl hk, trivial⟩
structure Kind (α : Type) where
 read : AV → Option (α × List Prop)
 make : α → AV
 ok : ∀ {v : AV} {a : α} {q : List Prop}, read v = some (a, q) → ay q → bA v (make a)
def gG : AV → Option (Rat × Nat)
 | .rat q n => some (q, n)
 | .agg [.bool false, .mag 0, .mag 0] => some (0, 1)
 | _ => none
theorem iz {v : AV} {a : Rat × Nat} (h : gG v = some a) : bA v (rA a.1 a.2) := by
 unfold gG at h
 split at h
 ·simp only [Option.some.injEq] at h; subst h; exact .refl _
 ·simp only [Option.some.injEq] at h; subst h; exact kz
 ·simp at h
def C2 : AV → Option ((V3 × Nat) × List Prop)
 | .agg [x, y, z] => match gG x, gG y, gG z with
  | some (x, a), some (y, b), some (z, c) => some ((⟨x, y, z⟩, a), [b ≤ a, c ≤ a])
  | _, _, _ => none
 | _ => none
theorem Rx {v : AV} {a : V3 × Nat} {q : List Prop} (h : C2 v = some (a, q)) (hq : ay q) : bA v (vA a.1 a.2) := by
 unfold C2 at h
 split at h
 ·split at h
  ·rename_i h1 h2 h3
   simp only [Option.some.injEq, Prod.mk.injEq] at h
   obtain ⟨rfl, rfl⟩ := h
   exact ee ⟨iz h1, (iz h2).trans (cm rfl hq.1), (iz h3).trans (cm rfl hq.2), trivial⟩
  ·simp at h
 ·simp at h
def yB : AV → Option ((Pl × Nat) × List Prop)
 | .agg [v, d] => match C2 v, gG d with
  | some ((v, a), q), some (d, b) => some ((⟨v, d⟩, max a b), q)
  | _, _ => none
 | _ => none
theorem Ui {v : AV} {a : Pl × Nat} {q : List Prop} (h : yB v = some (a, q)) (hq : ay q) : bA v (cY a.1 a.2) := by
 unfold yB at h
 split at h
 ·split at h
  ·rename_i h1 h2
   simp only [Option.some.injEq, Prod.mk.injEq] at h
   obtain ⟨rfl, rfl⟩ := h
   exact ee ⟨(Rx h1 hq).trans (yc rfl (by simp only; omega)), (iz h2).trans (cm rfl (by simp only; omega)), trivial⟩
  ·simp at h
 ·simp at h
def Dt (v : AV) : Option ((Rat × Nat) × List Prop) := match gG v with
 | some a => some (a, [])
 | none => none
theorem V0 {v : AV} {a : Rat × Nat} {q : List Prop} (h : Dt v = some (a, q)) (_ : ay q) : bA v (rA a.1 a.2) := by
 unfold Dt at h
 split at h
 ·rename_i h1
  simp only [Option.some.injEq, Prod.mk.injEq] at h
  obtain ⟨rfl, rfl⟩ := h
  exact iz h1
 ·simp at h
def Cx : AV → Option (Int × List Prop)
 | .int .i64 n => some (n, [])
 | _ => none
theorem TV {v : AV} {a : Int} {q : List Prop} (h : Cx v = some (a, q)) (_ : ay q) : bA v (.int .i64 a) := by
 unfold Cx at h
 split at h
 ·simp only [Option.some.injEq, Prod.mk.injEq] at h
  obtain ⟨rfl, rfl⟩ := h
  exact .refl _
 ·simp at h
def kR : Kind (Rat × Nat) := ⟨Dt, fun a => rA a.1 a.2, V0⟩
def Ub : Kind (Pl × Nat) := ⟨yB, fun a => cY a.1 a.2, Ui⟩
def kI : Kind Int := ⟨Cx, fun a => .int .i64 a, TV⟩
section specs
variable {α β γ δ : Type} {f : FuncId}
def AR (k : Kind α) (g : α → AV) (need : α → List Prop) : Spec := bu fun l => match l with
 | [x] => match k.read x with
  | some (a, p) => some (aG (g a) (p ++ need a))
  | none => none
 | _ => none
theorem KH {k : Kind α} {g : α → AV} {need : α → List Prop} (h : ∀ a K, ay (need a) → aA P f K [k.make a] [] (aG (g a) [])) : ∀ K args pre r, AR k g need K args pre = some r → aA P f K args pre r := by
 refine bN fun K args r hk hs _ => ?_
 split at hs
 ·split at hs
  ·rename_i h1
   simp only [Option.some.injEq] at hs
   subst hs
   intro hn
   obtain ⟨n1, hn⟩ := dy.1 hn
   exact fc (h _ K hn) hk ⟨k.ok h1 n1, trivial⟩ [] trivial
  ·simp at hs
 ·simp at hs
def iH (k : Kind α) (k2 : Kind β) (g : α → β → AV) (need : α → β → List Prop) : Spec := bu fun l => match l with
 | [x, y] => match k.read x, k2.read y with
  | some (a, p), some (b, q) => some (aG (g a b) (p ++ (q ++ need a b)))
  | _, _ => none
 | _ => none
theorem jc {k : Kind α} {k2 : Kind β} {g : α → β → AV} {need : α → β → List Prop} (h : ∀ a b K, ay (need a b) → aA P f K [k.make a, k2.make b] [] (aG (g a b) [])) : ∀ K args pre r, iH k k2 g need K args pre = some r → aA P f K args pre r := by
 refine bN fun K args r hk hs _ => ?_
 split at hs
 ·split at hs
  ·rename_i h1 h2
   simp only [Option.some.injEq] at hs
   subst hs
   intro hn
   obtain ⟨n1, hn⟩ := dy.1 hn
   obtain ⟨n2, hn⟩ := dy.1 hn
   exact fc (h _ _ K hn) hk ⟨k.ok h1 n1, k2.ok h2 n2, trivial⟩ [] trivial
  ·simp at hs
 ·simp at hs
end specs
def o3 (a b : Rat × Nat) : List Prop := [a.2 < 2 ^ 42, b.2 < 2 ^ 42]
def tQ (a b : Rat × Nat) : List Prop := [a.2 < 2 ^ 41, b.2 < 2 ^ 41]
def jx (a b : Rat × Nat) : AV := rA (a.1 + b.1) (a.2 + b.2 + 1)
def xZ (a b : Rat × Nat) : AV := rA (a.1 - b.1) (a.2 + b.2 + 1)
def Ai (a b : Rat × Nat) : AV := rA (a.1 * b.1) (a.2 + b.2)
def Bx (a b : Rat × Nat) : AV := .tuple [rA (a.1 / b.1) (a.2 + b.2), .int .i64 (if b.1 = 0 then 3 else 0)]
def Qh (a b : Rat × Nat) : AV := rA (ou a.1 b.1) (max a.2 b.2)
def MC (a b : Rat × Nat) : AV := rA (nB a.1 b.1) (max a.2 b.2)
def zx (a b : Rat × Nat) : AV := .int .i64 (ef a.1 b.1)
def AB (a b : Rat × Nat) : AV := .bool (decide (a.1 = b.1))
def Aj (a : Rat × Nat) : AV := .int .i64 (bK a.1)
abbrev DA : FuncId × Spec := (nO, KA)
def fZ : aQ := [(vk, iH kR kR jx o3), (r7, iH kR kR xZ o3), (uW, iH kR kR Ai o3), (fj, iH kR kR AB o3), (iy, iH kR kR zx o3), (oF, AR kR Aj fun a => [a.2 < 2 ^ 42]), DA]
def Ih : aQ := [(oA, iH kR kR jx tQ), (v9, iH kR kR xZ tQ), (uK, iH kR kR Ai tQ), (rT, iH kR kR AB tQ), (xg, iH kR kR zx tQ), (oX, AR kR Aj fun a => [a.2 < 2 ^ 41]), (lS, xG)]
theorem Wg : ∀ K args pre r, DA.2 K args pre = some r → aA P DA.1 K args pre r := Mx
theorem gU : bg P fZ := aH (jc fun _ _ K hn => F7 hn.1 hn.2 K) (aH (jc fun _ _ K hn => FU hn.1 hn.2 K) (aH (jc fun _ _ K hn => Ii hn.1 hn.2 K)
 (aH (jc fun _ _ K hn => Ik (Nat.lt_trans hn.1 (by omega)) (Nat.lt_trans hn.2 (by omega)) K []) (aH (jc fun _ _ K hn => DM hn.1 hn.2 K []) (aH (KH fun _ K hn => CI (Nat.lt_trans hn (by omega)) K []) (aH Wg bn))))))
theorem WA : bg P Ih := aH (jc fun _ _ K hn => Dr hn.1 hn.2 K) (aH (jc fun _ _ K hn => IC hn.1 hn.2 K) (aH (jc fun _ _ K hn => Gf hn.1 hn.2 K)
 (aH (jc fun _ _ K hn => JS (Nat.lt_trans hn.1 (by omega)) (Nat.lt_trans hn.2 (by omega)) K []) (aH (jc fun _ _ K hn => Hf hn.1 hn.2 K) (aH (KH fun _ K _ => BF K []) (aH Aa bn))))))
end Go.Am.B
