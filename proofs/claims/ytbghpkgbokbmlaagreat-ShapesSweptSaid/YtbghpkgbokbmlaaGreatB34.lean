/- aQ by the shape of the arguments: numbers, points, planes, maps. -/
import Derived.Test.YtbghpkgbokbmlaaGreatB33
set_option linter.unusedVariables false
namespace Go.Am.B
open Go Go.Am.N AV
@[ext] structure V3 where
 x : Rat
 y : Rat
 z : Rat
structure Pl where
 n : V3
 d : Rat
structure M3 where
 a : V3
 b : V3
 c : V3
structure Mp where
 m : M3
 t : V3
abbrev rA (q : Rat) (n : Nat) : AV := .rat q n
abbrev vA (v : V3) (n : Nat) : AV := .agg [.rat v.x n, .rat v.y n, .rat v.z n]
abbrev bw (p : Pl) (n : Nat) : AV := .agg [vA p.n n, .rat p.d n]
abbrev zn (m : M3) (n : Nat) : AV := .agg [vA m.a n, vA m.b n, vA m.c n]
abbrev jR (m : Mp) (n : Nat) : AV := .agg [zn m.m n, vA m.t n]
theorem cr {q r : Rat} {n k : Nat} (h : q = r) (hk : n ≤ k) : bn (.rat q n) (.rat r k) := h ▸ dN hk
theorem mc {u v : V3} {n k : Nat} (h : u = v) (hk : n ≤ k) : bn (vA u n) (vA v k) :=
 h ▸ cN ⟨cr rfl hk, cr rfl hk, cr rfl hk, trivial⟩
structure Kind (α : Type) where
 read : AV → Option (α × List Prop)
 make : α → AV
 ok : ∀ {v : AV} {a : α} {q : List Prop}, read v = some (a, q) → ax q → bn v (make a)
def gf : AV → Option (Rat × Nat)
 | .rat q n => some (q, n)
 | .agg [.bool false, .mag 0, .mag 0] => some (0, 1)
 | _ => none
theorem gG {v : AV} {a : Rat × Nat} (h : gf v = some a) : bn v (rA a.1 a.2) := by
 unfold gf at h
 split at h
 ·simp only [Option.some.injEq] at h; subst h; exact .refl _
 ·simp only [Option.some.injEq] at h; subst h; exact jI
 ·simp at h
def qY : AV → Option ((V3 × Nat) × List Prop)
 | .agg [x, y, z] => match gf x, gf y, gf z with
  | some (x, a), some (y, b), some (z, c) => some ((⟨x, y, z⟩, a), [b ≤ a, c ≤ a])
  | _, _, _ => none
 | _ => none
theorem zl {v : AV} {a : V3 × Nat} {q : List Prop} (h : qY v = some (a, q)) (hq : ax q) : bn v (vA a.1 a.2) := by
 unfold qY at h
 split at h
 ·split at h
  ·rename_i h1 h2 h3
   simp only [Option.some.injEq, Prod.mk.injEq] at h
   obtain ⟨rfl, rfl⟩ := h
   exact cN ⟨gG h1, (gG h2).trans (cr rfl hq.1), (gG h3).trans (cr rfl hq.2), trivial⟩
  ·simp at h
 ·simp at h
def CE : AV → Option ((M3 × Nat) × List Prop)
 | .agg [x, y, z] => match qY x, qY y, qY z with
  | some ((x, a), p), some ((y, b), q), some ((z, c), r) => some ((⟨x, y, z⟩, a), [b ≤ a, c ≤ a] ++ (p ++ (q ++ r)))
  | _, _, _ => none
 | _ => none
theorem XW {v : AV} {a : M3 × Nat} {q : List Prop} (h : CE v = some (a, q)) (hq : ax q) : bn v (zn a.1 a.2) := by
 unfold CE at h
 split at h
 ·split at h
  ·rename_i h1 h2 h3
   simp only [Option.some.injEq, Prod.mk.injEq] at h
   obtain ⟨rfl, rfl⟩ := h
   obtain ⟨q1, q2⟩ := dA.1 hq
   obtain ⟨q2, q3⟩ := dA.1 q2
   obtain ⟨q3, q4⟩ := dA.1 q3
   exact cN ⟨zl h1 q2, (zl h2 q3).trans (mc rfl q1.1), (zl h3 q4).trans (mc rfl q1.2), trivial⟩
  ·simp at h
 ·simp at h
theorem K2 {u v : M3} {n k : Nat} (h : u = v) (hk : n ≤ k) : bn (zn u n) (zn v k) :=
 h ▸ cN ⟨mc rfl hk, mc rfl hk, mc rfl hk, trivial⟩
def CY : AV → Option ((Mp × Nat) × List Prop)
 | .agg [v, d] => match CE v, qY d with
  | some ((v, a), p), some ((d, b), q) => some ((⟨v, d⟩, max a b), p ++ q)
  | _, _ => none
 | _ => none
theorem RZ {v : AV} {a : Mp × Nat} {q : List Prop} (h : CY v = some (a, q)) (hq : ax q) : bn v (jR a.1 a.2) := by
 unfold CY at h
 split at h
 ·split at h
  ·rename_i h1 h2
   simp only [Option.some.injEq, Prod.mk.injEq] at h
   obtain ⟨rfl, rfl⟩ := h
   obtain ⟨q1, q2⟩ := dA.1 hq
   exact cN ⟨(XW h1 q1).trans (K2 rfl (by simp only; omega)), (zl h2 q2).trans (mc rfl (by simp only; omega)), trivial⟩
  ·simp at h
 ·simp at h
theorem Sg {u v : Mp} {n k : Nat} (h : u = v) (hk : n ≤ k) : bn (jR u n) (jR v k) :=
 h ▸ cN ⟨K2 rfl hk, mc rfl hk, trivial⟩
def BP (v : AV) : Option ((Rat × Nat) × List Prop) := match gf v with
 | some a => some (a, [])
 | none => none
theorem Wk {v : AV} {a : Rat × Nat} {q : List Prop} (h : BP v = some (a, q)) (_ : ax q) : bn v (rA a.1 a.2) := by
 unfold BP at h
 split at h
 ·rename_i h1
  simp only [Option.some.injEq, Prod.mk.injEq] at h
  obtain ⟨rfl, rfl⟩ := h
  exact gG h1
 ·simp at h
def CJ : AV → Option (Int × List Prop)
 | .int .i64 n => some (n, [])
 | _ => none
theorem Vt {v : AV} {a : Int} {q : List Prop} (h : CJ v = some (a, q)) (_ : ax q) : bn v (.int .i64 a) := by
 unfold CJ at h
 split at h
 ·simp only [Option.some.injEq, Prod.mk.injEq] at h
  obtain ⟨rfl, rfl⟩ := h
  exact .refl _
 ·simp at h
def kR : Kind (Rat × Nat) := ⟨BP, fun a => rA a.1 a.2, Wk⟩
def kI : Kind Int := ⟨CJ, fun a => .int .i64 a, Vt⟩
section specs
variable {α β γ δ : Type} {f : FuncId}
def AL (k : Kind α) (g : α → AV) (need : α → List Prop) : Spec := bt fun l => match l with
 | [x] => match k.read x with
  | some (a, p) => some (aF (g a) (p ++ need a))
  | none => none
 | _ => none
theorem E7 {k : Kind α} {g : α → AV} {need : α → List Prop} (h : ∀ a K, ax (need a) → az P f K [k.make a] [] (aF (g a) [])) : ∀ K args pre r, AL k g need K args pre = some r → az P f K args pre r := by
 refine bH fun K args r hk hs _ => ?_
 split at hs
 ·split at hs
  ·rename_i h1
   simp only [Option.some.injEq] at hs
   subst hs
   intro hn
   obtain ⟨n1, hn⟩ := dA.1 hn
   exact fk (h _ K hn) hk ⟨k.ok h1 n1, trivial⟩ [] trivial
  ·simp at hs
 ·simp at hs
def iq (k : Kind α) (k2 : Kind β) (g : α → β → AV) (need : α → β → List Prop) : Spec := bt fun l => match l with
 | [x, y] => match k.read x, k2.read y with
  | some (a, p), some (b, q) => some (aF (g a b) (p ++ (q ++ need a b)))
  | _, _ => none
 | _ => none
theorem iN {k : Kind α} {k2 : Kind β} {g : α → β → AV} {need : α → β → List Prop} (h : ∀ a b K, ax (need a b) → az P f K [k.make a, k2.make b] [] (aF (g a b) [])) : ∀ K args pre r, iq k k2 g need K args pre = some r → az P f K args pre r := by
 refine bH fun K args r hk hs _ => ?_
 split at hs
 ·split at hs
  ·rename_i h1 h2
   simp only [Option.some.injEq] at hs
   subst hs
   intro hn
   obtain ⟨n1, hn⟩ := dA.1 hn
   obtain ⟨n2, hn⟩ := dA.1 hn
   exact fk (h _ _ K hn) hk ⟨k.ok h1 n1, k2.ok h2 n2, trivial⟩ [] trivial
  ·simp at hs
 ·simp at hs
end specs
def sN (a b : Rat × Nat) : List Prop := [a.2 < 2 ^ 42, b.2 < 2 ^ 42]
def mD (a b : Rat × Nat) : List Prop := [a.2 < 2 ^ 41, b.2 < 2 ^ 41]
def jE (a b : Rat × Nat) : AV := rA (a.1 + b.1) (a.2 + b.2 + 1)
def zW (a b : Rat × Nat) : AV := rA (a.1 - b.1) (a.2 + b.2 + 1)
def xV (a b : Rat × Nat) : AV := rA (a.1 * b.1) (a.2 + b.2)
def BF (a b : Rat × Nat) : AV := .tuple [rA (a.1 / b.1) (a.2 + b.2), .int .i64 (if b.1 = 0 then 3 else 0)]
def K9 (a b : Rat × Nat) : AV := rA (mW a.1 b.1) (max a.2 b.2)
def Hy (a b : Rat × Nat) : AV := rA (nc a.1 b.1) (max a.2 b.2)
def yL (a b : Rat × Nat) : AV := .int .i64 (eV a.1 b.1)
def zu (a b : Rat × Nat) : AV := .bool (decide (a.1 = b.1))
def xy (a : Rat × Nat) : AV := .int .i64 (dD a.1)
abbrev x3 : FuncId × Spec := (oI, Al)
def s8 : aQ := [(wM, iq kR kR jE sN), (td, iq kR kR zW sN), (uO, iq kR kR xV sN), (kf, iq kR kR zu sN), (nU, iq kR kR yL sN), (oM, AL kR xy fun a => [a.2 < 2 ^ 42]), x3]
def iy : aQ := [(ni, iq kR kR jE mD), (vl, iq kR kR zW mD), (vG, iq kR kR xV mD), (tE, iq kR kR zu mD), (vD, iq kR kR yL mD), (oq, AL kR xy fun a => [a.2 < 2 ^ 41]), (iI, pD)]
theorem Iz : ∀ K args pre r, x3.2 K args pre = some r → az P x3.1 K args pre r := J0
theorem yx : aW P s8 := aC (iN fun _ _ K hn => Iy hn.1 hn.2 K) (aC (iN fun _ _ K hn => G5 hn.1 hn.2 K) (aC (iN fun _ _ K hn => Jg hn.1 hn.2 K)
 (aC (iN fun _ _ K hn => D0 (Nat.lt_trans hn.1 (by omega)) (Nat.lt_trans hn.2 (by omega)) K []) (aC (iN fun _ _ K hn => Dz hn.1 hn.2 K []) (aC (E7 fun _ K hn => C8 (Nat.lt_trans hn (by omega)) K []) (aC Iz aT))))))
theorem ja : aW P iy := aC (iN fun _ _ K hn => A8 hn.1 hn.2 K) (aC (iN fun _ _ K hn => HX hn.1 hn.2 K) (aC (iN fun _ _ K hn => F0 hn.1 hn.2 K)
 (aC (iN fun _ _ K hn => JB (Nat.lt_trans hn.1 (by omega)) (Nat.lt_trans hn.2 (by omega)) K []) (aC (iN fun _ _ K hn => HU hn.1 hn.2 K) (aC (E7 fun _ K _ => Dt K []) (aC uV aT))))))
end Go.Am.B
