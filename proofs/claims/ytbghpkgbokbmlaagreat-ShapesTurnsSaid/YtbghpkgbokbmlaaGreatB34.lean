/- aO by the shape of the arguments: numbers, points, planes, maps. -/
import Derived.Test.YtbghpkgbokbmlaaGreatB33
set_option linter.unusedVariables false
namespace Go.Am.B
open Go Go.Am.N AV
@[ext] structure V3 where
 x : Rat
 y : Rat
 z : Rat
structure Pl where
 n : V3
 d : Rat
structure M3 where
 a : V3
 b : V3
 c : V3
structure Mp where
 m : M3
 t : V3
abbrev rA (q : Rat) (n : Nat) : AV := .rat q n
abbrev vA (v : V3) (n : Nat) : AV := .agg [.rat v.x n, .rat v.y n, .rat v.z n]
abbrev cU (p : Pl) (n : Nat) : AV := .agg [vA p.n n, .rat p.d n]
abbrev yX (m : M3) (n : Nat) : AV := .agg [vA m.a n, vA m.b n, vA m.c n]
abbrev eR (m : Mp) (n : Nat) : AV := .agg [yX m.m n, vA m.t n]
theorem bS {q r : Rat} {n k : Nat} (h : q = r) (hk : n ≤ k) : bu (.rat q n) (.rat r k) := h ▸ dY hk
theorem kU {u v : V3} {n k : Nat} (h : u = v) (hk : n ≤ k) : bu (vA u n) (vA v k) :=
 h ▸ cE ⟨bS rfl hk, bS rfl hk, bS rfl hk, trivial⟩
structure Kind (α : Type) where
 read : AV → Option (α × List Prop)
 make : α → AV
 ok : ∀ {v : AV} {a : α} {q : List Prop}, read v = some (a, q) → ax q → bu v (make a)
def gA : AV → Option (Rat × Nat)
 | .rat q n => some (q, n)
 | .agg [.bool false, .mag 0, .mag 0] => some (0, 1)
 | _ => none
theorem ig {v : AV} {a : Rat × Nat} (h : gA v = some a) : bu v (rA a.1 a.2) := by
 unfold gA at h
 split at h
 ·simp only [Option.some.injEq] at h; subst h; exact .refl _
 ·simp only [Option.some.injEq] at h; subst h; exact ji
 ·simp at h
def pz : AV → Option ((V3 × Nat) × List Prop)
 | .agg [x, y, z] => match gA x, gA y, gA z with
  | some (x, a), some (y, b), some (z, c) => some ((⟨x, y, z⟩, a), [b ≤ a, c ≤ a])
  | _, _, _ => none
 | _ => none
theorem yU {v : AV} {a : V3 × Nat} {q : List Prop} (h : pz v = some (a, q)) (hq : ax q) : bu v (vA a.1 a.2) := by
 unfold pz at h
 split at h
 ·split at h
  ·rename_i h1 h2 h3
   simp only [Option.some.injEq, Prod.mk.injEq] at h
   obtain ⟨rfl, rfl⟩ := h
   exact cE ⟨ig h1, (ig h2).trans (bS rfl hq.1), (ig h3).trans (bS rfl hq.2), trivial⟩
  ·simp at h
 ·simp at h
def By : AV → Option ((M3 × Nat) × List Prop)
 | .agg [x, y, z] => match pz x, pz y, pz z with
  | some ((x, a), p), some ((y, b), q), some ((z, c), r) => some ((⟨x, y, z⟩, a), [b ≤ a, c ≤ a] ++ (p ++ (q ++ r)))
  | _, _, _ => none
 | _ => none
theorem Mt {v : AV} {a : M3 × Nat} {q : List Prop} (h : By v = some (a, q)) (hq : ax q) : bu v (yX a.1 a.2) := by
 unfold By at h
 split at h
 ·split at h
  ·rename_i h1 h2 h3
   simp only [Option.some.injEq, Prod.mk.injEq] at h
   obtain ⟨rfl, rfl⟩ := h
   obtain ⟨q1, q2⟩ := dm.1 hq
   obtain ⟨q2, q3⟩ := dm.1 q2
   obtain ⟨q3, q4⟩ := dm.1 q3
   exact cE ⟨yU h1 q2, (yU h2 q3).trans (kU rfl q1.1), (yU h3 q4).trans (kU rfl q1.2), trivial⟩
  ·simp at h
 ·simp at h
theorem FX {u v : M3} {n k : Nat} (h : u = v) (hk : n ≤ k) : bu (yX u n) (yX v k) :=
 h ▸ cE ⟨kU rfl hk, kU rfl hk, kU rfl hk, trivial⟩
def A8 : AV → Option ((Mp × Nat) × List Prop)
 | .agg [v, d] => match By v, pz d with
  | some ((v, a), p), some ((d, b), q) => some ((⟨v, d⟩, max a b), p ++ q)
  | _, _ => none
 | _ => none
theorem aaM {v : AV} {a : Mp × Nat} {q : List Prop} (h : A8 v = some (a, q)) (hq : ax q) : bu v (eR a.1 a.2) := by
 unfold A8 at h
 split at h
 ·split at h
  ·rename_i h1 h2
   simp only [Option.some.injEq, Prod.mk.injEq] at h
   obtain ⟨rfl, rfl⟩ := h
   obtain ⟨q1, q2⟩ := dm.1 hq
   exact cE ⟨(Mt h1 q1).trans (FX rfl (by simp only; omega)), (yU h2 q2).trans (kU rfl (by simp only; omega)), trivial⟩
  ·simp at h
 ·simp at h
theorem OI {u v : Mp} {n k : Nat} (h : u = v) (hk : n ≤ k) : bu (eR u n) (eR v k) :=
 h ▸ cE ⟨FX rfl hk, kU rfl hk, trivial⟩
def AF (v : AV) : Option ((Rat × Nat) × List Prop) := match gA v with
 | some a => some (a, [])
 | none => none
theorem Wi {v : AV} {a : Rat × Nat} {q : List Prop} (h : AF v = some (a, q)) (_ : ax q) : bu v (rA a.1 a.2) := by
 unfold AF at h
 split at h
 ·rename_i h1
  simp only [Option.some.injEq, Prod.mk.injEq] at h
  obtain ⟨rfl, rfl⟩ := h
  exact ig h1
 ·simp at h
def z3 : AV → Option (Int × List Prop)
 | .int .i64 n => some (n, [])
 | _ => none
theorem Vu {v : AV} {a : Int} {q : List Prop} (h : z3 v = some (a, q)) (_ : ax q) : bu v (.int .i64 a) := by
 unfold z3 at h
 split at h
 ·simp only [Option.some.injEq, Prod.mk.injEq] at h
  obtain ⟨rfl, rfl⟩ := h
  exact .refl _
 ·simp at h
def kR : Kind (Rat × Nat) := ⟨AF, fun a => rA a.1 a.2, Wi⟩
def kI : Kind Int := ⟨z3, fun a => .int .i64 a, Vu⟩
section specs
variable {α β γ δ : Type} {f : FuncId}
def BO (k : Kind α) (g : α → AV) (need : α → List Prop) : Spec := bp fun l => match l with
 | [x] => match k.read x with
  | some (a, p) => some (aG (g a) (p ++ need a))
  | none => none
 | _ => none
theorem JW {k : Kind α} {g : α → AV} {need : α → List Prop} (h : ∀ a K, ax (need a) → aA P f K [k.make a] [] (aG (g a) [])) : ∀ K args pre r, BO k g need K args pre = some r → aA P f K args pre r := by
 refine bF fun K args r hk hs _ => ?_
 split at hs
 ·split at hs
  ·rename_i h1
   simp only [Option.some.injEq] at hs
   subst hs
   intro hn
   obtain ⟨n1, hn⟩ := dm.1 hn
   exact fk (h _ K hn) hk ⟨k.ok h1 n1, trivial⟩ [] trivial
  ·simp at hs
 ·simp at hs
def gF (k : Kind α) (k2 : Kind β) (g : α → β → AV) (need : α → β → List Prop) : Spec := bp fun l => match l with
 | [x, y] => match k.read x, k2.read y with
  | some (a, p), some (b, q) => some (aG (g a b) (p ++ (q ++ need a b)))
  | _, _ => none
 | _ => none
theorem hH {k : Kind α} {k2 : Kind β} {g : α → β → AV} {need : α → β → List Prop} (h : ∀ a b K, ax (need a b) → aA P f K [k.make a, k2.make b] [] (aG (g a b) [])) : ∀ K args pre r, gF k k2 g need K args pre = some r → aA P f K args pre r := by
 refine bF fun K args r hk hs _ => ?_
 split at hs
 ·split at hs
  ·rename_i h1 h2
   simp only [Option.some.injEq] at hs
   subst hs
   intro hn
   obtain ⟨n1, hn⟩ := dm.1 hn
   obtain ⟨n2, hn⟩ := dm.1 hn
   exact fk (h _ _ K hn) hk ⟨k.ok h1 n1, k2.ok h2 n2, trivial⟩ [] trivial
  ·simp at hs
 ·simp at hs
end specs
def tE (a b : Rat × Nat) : List Prop := [a.2 < 2 ^ 42, b.2 < 2 ^ 42]
def mz (a b : Rat × Nat) : List Prop := [a.2 < 2 ^ 41, b.2 < 2 ^ 41]
def jh (a b : Rat × Nat) : AV := rA (a.1 + b.1) (a.2 + b.2 + 1)
def xW (a b : Rat × Nat) : AV := rA (a.1 - b.1) (a.2 + b.2 + 1)
def xz (a b : Rat × Nat) : AV := rA (a.1 * b.1) (a.2 + b.2)
def BD (a b : Rat × Nat) : AV := .tuple [rA (a.1 / b.1) (a.2 + b.2), .int .i64 (if b.1 = 0 then 3 else 0)]
def Z8 (a b : Rat × Nat) : AV := rA (xA a.1 b.1) (max a.2 b.2)
def KQ (a b : Rat × Nat) : AV := rA (xC a.1 b.1) (max a.2 b.2)
def yL (a b : Rat × Nat) : AV := .int .i64 (fH a.1 b.1)
def xd (a b : Rat × Nat) : AV := .bool (decide (a.1 = b.1))
def wK (a : Rat × Nat) : AV := .int .i64 (dA a.1)
abbrev zL : FuncId × Spec := (nY, Bz)
def AO : aO := [(r6, gF kR kR jh tE), (vj, gF kR kR xW tE), (uT, gF kR kR xz tE), (uG, gF kR kR xd tE), (nT, gF kR kR yL tE), (nE, BO kR wK fun a => [a.2 < 2 ^ 42]), zL]
def iN : aO := [(nr, gF kR kR jh mz), (vk, gF kR kR xW mz), (rJ, gF kR kR xz mz), (ux, gF kR kR xd mz), (rU, gF kR kR yL mz), (ni, BO kR wK fun a => [a.2 < 2 ^ 41]), (ir, pZ)]
theorem Mq : ∀ K args pre r, zL.2 K args pre = some r → aA P zL.1 K args pre r := Ew
theorem CM : aV P AO := aD (hH fun _ _ K hn => Ke hn.1 hn.2 K) (aD (hH fun _ _ K hn => Iz hn.1 hn.2 K) (aD (hH fun _ _ K hn => Fl hn.1 hn.2 K)
 (aD (hH fun _ _ K hn => FE (Nat.lt_trans hn.1 (by omega)) (Nat.lt_trans hn.2 (by omega)) K []) (aD (hH fun _ _ K hn => Cm hn.1 hn.2 K []) (aD (JW fun _ K hn => z4 (Nat.lt_trans hn (by omega)) K []) (aD Mq aU))))))
theorem jK : aV P iN := aD (hH fun _ _ K hn => AD hn.1 hn.2 K) (aD (hH fun _ _ K hn => DV hn.1 hn.2 K) (aD (hH fun _ _ K hn => Kh hn.1 hn.2 K)
 (aD (hH fun _ _ K hn => Fx (Nat.lt_trans hn.1 (by omega)) (Nat.lt_trans hn.2 (by omega)) K []) (aD (hH fun _ _ K hn => Dx hn.1 hn.2 K) (aD (JW fun _ K _ => zN K []) (aD vK aU))))))
end Go.Am.B
