/- aO by the shape of the arguments: numbers, points, planes, maps. -/
import Derived.Test.YtbghpkgbokbmlaaGreatB33
set_option linter.unusedVariables false
namespace Go.Am.B
open Go Go.Am.N AV
@[ext] structure V3 where
 x : Rat
 y : Rat
 z : Rat
structure Pl where
 n : V3
 d : Rat
structure M3 where
 a : V3
 b : V3
 c : V3
structure Mp where
 m : M3
 t : V3
abbrev rA (q : Rat) (n : Nat) : AV := .rat q n
abbrev vA (v : V3) (n : Nat) : AV := .agg [.rat v.x n, .rat v.y n, .rat v.z n]
abbrev aS (p : Pl) (n : Nat) : AV := .agg [vA p.n n, .rat p.d n]
abbrev xk (m : M3) (n : Nat) : AV := .agg [vA m.a n, vA m.b n, vA m.c n]
abbrev fK (m : Mp) (n : Nat) : AV := .agg [xk m.m n, vA m.t n]
theorem bI {q r : Rat} {n k : Nat} (h : q = r) (hk : n ≤ k) : bu (.rat q n) (.rat r k) := h ▸ dF hk
theorem lH {u v : V3} {n k : Nat} (h : u = v) (hk : n ≤ k) : bu (vA u n) (vA v k) :=
 h ▸ cq ⟨bI rfl hk, bI rfl hk, bI rfl hk, trivial⟩
structure Kind (α : Type) where
 read : AV → Option (α × List Prop)
 make : α → AV
 ok : ∀ {v : AV} {a : α} {q : List Prop}, read v = some (a, q) → ax q → bu v (make a)
def fW : AV → Option (Rat × Nat)
 | .rat q n => some (q, n)
 | .agg [.bool false, .mag 0, .mag 0] => some (0, 1)
 | _ => none
theorem gv {v : AV} {a : Rat × Nat} (h : fW v = some a) : bu v (rA a.1 a.2) := by
 unfold fW at h
 split at h
 ·simp only [Option.some.injEq] at h; subst h; exact .refl _
 ·simp only [Option.some.injEq] at h; subst h; exact ji
 ·simp at h
def pE : AV → Option ((V3 × Nat) × List Prop)
 | .agg [x, y, z] => match fW x, fW y, fW z with
  | some (x, a), some (y, b), some (z, c) => some ((⟨x, y, z⟩, a), [b ≤ a, c ≤ a])
  | _, _, _ => none
 | _ => none
theorem x6 {v : AV} {a : V3 × Nat} {q : List Prop} (h : pE v = some (a, q)) (hq : ax q) : bu v (vA a.1 a.2) := by
 unfold pE at h
 split at h
 ·split at h
  ·rename_i h1 h2 h3
   simp only [Option.some.injEq, Prod.mk.injEq] at h
   obtain ⟨rfl, rfl⟩ := h
   exact cq ⟨gv h1, (gv h2).trans (bI rfl hq.1), (gv h3).trans (bI rfl hq.2), trivial⟩
  ·simp at h
 ·simp at h
def Ce : AV → Option ((M3 × Nat) × List Prop)
 | .agg [x, y, z] => match pE x, pE y, pE z with
  | some ((x, a), p), some ((y, b), q), some ((z, c), r) => some ((⟨x, y, z⟩, a), [b ≤ a, c ≤ a] ++ (p ++ (q ++ r)))
  | _, _, _ => none
 | _ => none
theorem aaF {v : AV} {a : M3 × Nat} {q : List Prop} (h : Ce v = some (a, q)) (hq : ax q) : bu v (xk a.1 a.2) := by
 unfold Ce at h
 split at h
 ·split at h
  ·rename_i h1 h2 h3
   simp only [Option.some.injEq, Prod.mk.injEq] at h
   obtain ⟨rfl, rfl⟩ := h
   obtain ⟨q1, q2⟩ := dn.1 hq
   obtain ⟨q2, q3⟩ := dn.1 q2
   obtain ⟨q3, q4⟩ := dn.1 q3
   exact cq ⟨x6 h1 q2, (x6 h2 q3).trans (lH rfl q1.1), (x6 h3 q4).trans (lH rfl q1.2), trivial⟩
  ·simp at h
 ·simp at h
theorem GV {u v : M3} {n k : Nat} (h : u = v) (hk : n ≤ k) : bu (xk u n) (xk v k) :=
 h ▸ cq ⟨lH rfl hk, lH rfl hk, lH rfl hk, trivial⟩
def z6 : AV → Option ((Mp × Nat) × List Prop)
 | .agg [v, d] => match Ce v, pE d with
  | some ((v, a), p), some ((d, b), q) => some ((⟨v, d⟩, max a b), p ++ q)
  | _, _ => none
 | _ => none
theorem P5 {v : AV} {a : Mp × Nat} {q : List Prop} (h : z6 v = some (a, q)) (hq : ax q) : bu v (fK a.1 a.2) := by
 unfold z6 at h
 split at h
 ·split at h
  ·rename_i h1 h2
   simp only [Option.some.injEq, Prod.mk.injEq] at h
   obtain ⟨rfl, rfl⟩ := h
   obtain ⟨q1, q2⟩ := dn.1 hq
   exact cq ⟨(aaF h1 q1).trans (GV rfl (by simp only; omega)), (x6 h2 q2).trans (lH rfl (by simp only; omega)), trivial⟩
  ·simp at h
 ·simp at h
theorem OW {u v : Mp} {n k : Nat} (h : u = v) (hk : n ≤ k) : bu (fK u n) (fK v k) :=
 h ▸ cq ⟨GV rfl hk, lH rfl hk, trivial⟩
def A1 (v : AV) : Option ((Rat × Nat) × List Prop) := match fW v with
 | some a => some (a, [])
 | none => none
theorem O3 {v : AV} {a : Rat × Nat} {q : List Prop} (h : A1 v = some (a, q)) (_ : ax q) : bu v (rA a.1 a.2) := by
 unfold A1 at h
 split at h
 ·rename_i h1
  simp only [Option.some.injEq, Prod.mk.injEq] at h
  obtain ⟨rfl, rfl⟩ := h
  exact gv h1
 ·simp at h
def zp : AV → Option (Int × List Prop)
 | .int .i64 n => some (n, [])
 | _ => none
theorem OQ {v : AV} {a : Int} {q : List Prop} (h : zp v = some (a, q)) (_ : ax q) : bu v (.int .i64 a) := by
 unfold zp at h
 split at h
 ·simp only [Option.some.injEq, Prod.mk.injEq] at h
  obtain ⟨rfl, rfl⟩ := h
  exact .refl _
 ·simp at h
def kR : Kind (Rat × Nat) := ⟨A1, fun a => rA a.1 a.2, O3⟩
def kI : Kind Int := ⟨zp, fun a => .int .i64 a, OQ⟩
section specs
variable {α β γ δ : Type} {f : FuncId}
def zR (k : Kind α) (g : α → AV) (need : α → List Prop) : Spec := bA fun l => match l with
 | [x] => match k.read x with
  | some (a, p) => some (aF (g a) (p ++ need a))
  | none => none
 | _ => none
theorem IP {k : Kind α} {g : α → AV} {need : α → List Prop} (h : ∀ a K, ax (need a) → ay P f K [k.make a] [] (aF (g a) [])) : ∀ K args pre r, zR k g need K args pre = some r → ay P f K args pre r := by
 refine bQ fun K args r hk hs _ => ?_
 split at hs
 ·split at hs
  ·rename_i h1
   simp only [Option.some.injEq] at hs
   subst hs
   intro hn
   obtain ⟨n1, hn⟩ := dn.1 hn
   exact fk (h _ K hn) hk ⟨k.ok h1 n1, trivial⟩ [] trivial
  ·simp at hs
 ·simp at hs
def gJ (k : Kind α) (k2 : Kind β) (g : α → β → AV) (need : α → β → List Prop) : Spec := bA fun l => match l with
 | [x, y] => match k.read x, k2.read y with
  | some (a, p), some (b, q) => some (aF (g a b) (p ++ (q ++ need a b)))
  | _, _ => none
 | _ => none
theorem iB {k : Kind α} {k2 : Kind β} {g : α → β → AV} {need : α → β → List Prop} (h : ∀ a b K, ax (need a b) → ay P f K [k.make a, k2.make b] [] (aF (g a b) [])) : ∀ K args pre r, gJ k k2 g need K args pre = some r → ay P f K args pre r := by
 refine bQ fun K args r hk hs _ => ?_
 split at hs
 ·split at hs
  ·rename_i h1 h2
   simp only [Option.some.injEq] at hs
   subst hs
   intro hn
   obtain ⟨n1, hn⟩ := dn.1 hn
   obtain ⟨n2, hn⟩ := dn.1 hn
   exact fk (h _ _ K hn) hk ⟨k.ok h1 n1, k2.ok h2 n2, trivial⟩ [] trivial
  ·simp at hs
 ·simp at hs
end specs
def rM (a b : Rat × Nat) : List Prop := [a.2 < 2 ^ 42, b.2 < 2 ^ 42]
def mG (a b : Rat × Nat) : List Prop := [a.2 < 2 ^ 41, b.2 < 2 ^ 41]
def jt (a b : Rat × Nat) : AV := rA (a.1 + b.1) (a.2 + b.2 + 1)
def yY (a b : Rat × Nat) : AV := rA (a.1 - b.1) (a.2 + b.2 + 1)
def wR (a b : Rat × Nat) : AV := rA (a.1 * b.1) (a.2 + b.2)
def BM (a b : Rat × Nat) : AV := .tuple [rA (a.1 / b.1) (a.2 + b.2), .int .i64 (if b.1 = 0 then 3 else 0)]
def OE (a b : Rat × Nat) : AV := rA (yO a.1 b.1) (max a.2 b.2)
def Vr (a b : Rat × Nat) : AV := rA (yH a.1 b.1) (max a.2 b.2)
def yL (a b : Rat × Nat) : AV := .int .i64 (gl a.1 b.1)
def ye (a b : Rat × Nat) : AV := .bool (decide (a.1 = b.1))
def yU (a : Rat × Nat) : AV := .int .i64 (ej a.1)
abbrev BN : FuncId × Spec := (mU, AK)
def pW : aO := [(vt, gJ kR kR jt rM), (rE, gJ kR kR yY rM), (sP, gJ kR kR wR rM), (kf, gJ kR kR ye rM), (nN, gJ kR kR yL rM), (nr, zR kR yU fun a => [a.2 < 2 ^ 42]), BN]
def iy : aO := [(nI, gJ kR kR jt mG), (rY, gJ kR kR yY mG), (rK, gJ kR kR wR mG), (qU, gJ kR kR ye mG), (qW, gJ kR kR yL mG), (ot, zR kR yU fun a => [a.2 < 2 ^ 41]), (ir, qx)]
theorem Wo : ∀ K args pre r, BN.2 K args pre = some r → ay P BN.1 K args pre r := CG
theorem qN : aW P pW := aD (iB fun _ _ K hn => EO hn.1 hn.2 K) (aD (iB fun _ _ K hn => JA hn.1 hn.2 K) (aD (iB fun _ _ K hn => CP hn.1 hn.2 K)
 (aD (iB fun _ _ K hn => FM (Nat.lt_trans hn.1 (by omega)) (Nat.lt_trans hn.2 (by omega)) K []) (aD (iB fun _ _ K hn => zU hn.1 hn.2 K []) (aD (IP fun _ K hn => AS (Nat.lt_trans hn (by omega)) K []) (aD Wo bg))))))
theorem jw : aW P iy := aD (iB fun _ _ K hn => BI hn.1 hn.2 K) (aD (iB fun _ _ K hn => HC hn.1 hn.2 K) (aD (iB fun _ _ K hn => Fc hn.1 hn.2 K)
 (aD (iB fun _ _ K hn => Ew (Nat.lt_trans hn.1 (by omega)) (Nat.lt_trans hn.2 (by omega)) K []) (aD (iB fun _ _ K hn => Jd hn.1 hn.2 K) (aD (IP fun _ K _ => B9 K []) (aD sX bg))))))
end Go.Am.B
