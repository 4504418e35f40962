/- aQ by the shape of the arguments: numbers, points, planes, maps. -/
import Derived.Test.YtnocdkaonpdmjaaGreatB33
set_option linter.unusedVariables false
namespace Go.Am.B
open Go Go.Am.N AV
@[ext] structure V3 where
 x : Rat
 y : Rat
 z : Rat
structure Pl where
 n : V3
 d : Rat
structure M3 where
 a : V3
 b : V3
 c : V3
structure Mp where
 m : M3
 t : V3
abbrev rA (q : Rat) (n : Nat) : AV := .rat q n
abbrev vA (v : V3) (n : Nat) : AV := .agg [.rat v.x n, .rat v.y n, .rat v.z n]
abbrev cS (p : Pl) (n : Nat) : AV := .agg [vA p.n n, .rat p.d n]
theorem bK {q r : Rat} {n k : Nat} (h : q = r) (hk : n ≤ k) : bB (.rat q n) (.rat r k) := h ▸ dm hk
theorem Bd {u v : V3} {n k : Nat} (h : u = v) (hk : n ≤ k) : bB (vA u n) (vA v k) :=
 h ▸ dx ⟨bK rfl hk, bK rfl hk, bK rfl hk, trivial⟩
structure Kind (α : Type) where
 read : AV → Option (α × List Prop)
 make : α → AV
 ok : ∀ {v : AV} {a : α} {q : List Prop}, read v = some (a, q) → ay q → bB v (make a)
def gH : AV → Option (Rat × Nat)
 | .rat q n => some (q, n)
 | .agg [.bool false, .mag 0, .mag 0] => some (0, 1)
 | _ => none
theorem iB {v : AV} {a : Rat × Nat} (h : gH v = some a) : bB v (rA a.1 a.2) := by
 unfold gH at h
 split at h
 ·simp only [Option.some.injEq] at h; subst h; exact .refl _
 ·simp only [Option.some.injEq] at h; subst h; exact iu
 ·simp at h
def Ea : AV → Option ((V3 × Nat) × List Prop)
 | .agg [x, y, z] => match gH x, gH y, gH z with
  | some (x, a), some (y, b), some (z, c) => some ((⟨x, y, z⟩, a), [b ≤ a, c ≤ a])
  | _, _, _ => none
 | _ => none
theorem Sj {v : AV} {a : V3 × Nat} {q : List Prop} (h : Ea v = some (a, q)) (hq : ay q) : bB v (vA a.1 a.2) := by
 unfold Ea at h
 split at h
 ·split at h
  ·rename_i h1 h2 h3
   simp only [Option.some.injEq, Prod.mk.injEq] at h
   obtain ⟨rfl, rfl⟩ := h
   exact dx ⟨iB h1, (iB h2).trans (bK rfl hq.1), (iB h3).trans (bK rfl hq.2), trivial⟩
  ·simp at h
 ·simp at h
def Ao : AV → Option ((Pl × Nat) × List Prop)
 | .agg [v, d] => match Ea v, gH d with
  | some ((v, a), q), some (d, b) => some ((⟨v, d⟩, max a b), q)
  | _, _ => none
 | _ => none
theorem ad7 {v : AV} {a : Pl × Nat} {q : List Prop} (h : Ao v = some (a, q)) (hq : ay q) : bB v (cS a.1 a.2) := by
 unfold Ao at h
 split at h
 ·split at h
  ·rename_i h1 h2
   simp only [Option.some.injEq, Prod.mk.injEq] at h
   obtain ⟨rfl, rfl⟩ := h
   exact dx ⟨(Sj h1 hq).trans (Bd rfl (by simp only; omega)), (iB h2).trans (bK rfl (by simp only; omega)), trivial⟩
  ·simp at h
 ·simp at h
def CO (v : AV) : Option ((Rat × Nat) × List Prop) := match gH v with
 | some a => some (a, [])
 | none => none
theorem Tb {v : AV} {a : Rat × Nat} {q : List Prop} (h : CO v = some (a, q)) (_ : ay q) : bB v (rA a.1 a.2) := by
 unfold CO at h
 split at h
 ·rename_i h1
  simp only [Option.some.injEq, Prod.mk.injEq] at h
  obtain ⟨rfl, rfl⟩ := h
  exact iB h1
 ·simp at h
def Bs : AV → Option (Int × List Prop)
 | .int .i64 n => some (n, [])
 | _ => none
theorem Qf {v : AV} {a : Int} {q : List Prop} (h : Bs v = some (a, q)) (_ : ay q) : bB v (.int .i64 a) := by
 unfold Bs at h
 split at h
 ·simp only [Option.some.injEq, Prod.mk.injEq] at h
  obtain ⟨rfl, rfl⟩ := h
  exact .refl _
 ·simp at h
def kR : Kind (Rat × Nat) := ⟨CO, fun a => rA a.1 a.2, Tb⟩
def N8 : Kind (Pl × Nat) := ⟨Ao, fun a => cS a.1 a.2, ad7⟩
def kI : Kind Int := ⟨Bs, fun a => .int .i64 a, Qf⟩
section specs
variable {α β γ δ : Type} {f : FuncId}
def Dx (k : Kind α) (g : α → AV) (need : α → List Prop) : Spec := bw fun l => match l with
 | [x] => match k.read x with
  | some (a, p) => some (aG (g a) (p ++ need a))
  | none => none
 | _ => none
theorem Jf {k : Kind α} {g : α → AV} {need : α → List Prop} (h : ∀ a K, ay (need a) → aA P f K [k.make a] [] (aG (g a) [])) : ∀ K args pre r, Dx k g need K args pre = some r → aA P f K args pre r := by
 refine bI fun K args r hk hs _ => ?_
 split at hs
 ·split at hs
  ·rename_i h1
   simp only [Option.some.injEq] at hs
   subst hs
   intro hn
   obtain ⟨n1, hn⟩ := dF.1 hn
   exact eR (h _ K hn) hk ⟨k.ok h1 n1, trivial⟩ [] trivial
  ·simp at hs
 ·simp at hs
def gM (k : Kind α) (k2 : Kind β) (g : α → β → AV) (need : α → β → List Prop) : Spec := bw fun l => match l with
 | [x, y] => match k.read x, k2.read y with
  | some (a, p), some (b, q) => some (aG (g a b) (p ++ (q ++ need a b)))
  | _, _ => none
 | _ => none
theorem hU {k : Kind α} {k2 : Kind β} {g : α → β → AV} {need : α → β → List Prop} (h : ∀ a b K, ay (need a b) → aA P f K [k.make a, k2.make b] [] (aG (g a b) [])) : ∀ K args pre r, gM k k2 g need K args pre = some r → aA P f K args pre r := by
 refine bI fun K args r hk hs _ => ?_
 split at hs
 ·split at hs
  ·rename_i h1 h2
   simp only [Option.some.injEq] at hs
   subst hs
   intro hn
   obtain ⟨n1, hn⟩ := dF.1 hn
   obtain ⟨n2, hn⟩ := dF.1 hn
   exact eR (h _ _ K hn) hk ⟨k.ok h1 n1, k2.ok h2 n2, trivial⟩ [] trivial
  ·simp at hs
 ·simp at hs
end specs
def oR (a b : Rat × Nat) : List Prop := [a.2 < 2 ^ 42, b.2 < 2 ^ 42]
def mm (a b : Rat × Nat) : List Prop := [a.2 < 2 ^ 41, b.2 < 2 ^ 41]
def gX (a b : Rat × Nat) : AV := rA (a.1 + b.1) (a.2 + b.2 + 1)
def yA (a b : Rat × Nat) : AV := rA (a.1 - b.1) (a.2 + b.2 + 1)
def AR (a b : Rat × Nat) : AV := rA (a.1 * b.1) (a.2 + b.2)
def ug (a b : Rat × Nat) : AV := .tuple [rA (a.1 / b.1) (a.2 + b.2), .int .i64 (if b.1 = 0 then 3 else 0)]
def RR (a b : Rat × Nat) : AV := rA (oq a.1 b.1) (max a.2 b.2)
def Oo (a b : Rat × Nat) : AV := rA (oG a.1 b.1) (max a.2 b.2)
def zY (a b : Rat × Nat) : AV := .int .i64 (dK a.1 b.1)
def yy (a b : Rat × Nat) : AV := .bool (decide (a.1 = b.1))
def yW (a : Rat × Nat) : AV := .int .i64 (dO a.1)
abbrev Cl : FuncId × Spec := (oP, Jv)
def fT : aQ := [(tH, gM kR kR gX oR), (uF, gM kR kR yA oR), (uw, gM kR kR AR oR), (fk, gM kR kR yy oR), (iF, gM kR kR zY oR), (oK, Dx kR yW fun a => [a.2 < 2 ^ 42]), Cl]
def jf : aQ := [(o3, gM kR kR gX mm), (vH, gM kR kR yA mm), (sx, gM kR kR AR mm), (tE, gM kR kR yy mm), (sS, gM kR kR zY mm), (pK, Dx kR yW fun a => [a.2 < 2 ^ 41]), (jv, vL)]
theorem VS : ∀ K args pre r, Cl.2 K args pre = some r → aA P Cl.1 K args pre r := WV
theorem g8 : aY P fT := aF (hU fun _ _ K hn => Gx hn.1 hn.2 K) (aF (hU fun _ _ K hn => Jb hn.1 hn.2 K) (aF (hU fun _ _ K hn => E3 hn.1 hn.2 K)
 (aF (hU fun _ _ K hn => ER (Nat.lt_trans hn.1 (by omega)) (Nat.lt_trans hn.2 (by omega)) K []) (aF (hU fun _ _ K hn => B3 hn.1 hn.2 K []) (aF (Jf fun _ K hn => CL (Nat.lt_trans hn (by omega)) K []) (aF VS bk))))))
theorem kr : aY P jf := aF (hU fun _ _ K hn => Ej hn.1 hn.2 K) (aF (hU fun _ _ K hn => Is hn.1 hn.2 K) (aF (hU fun _ _ K hn => II hn.1 hn.2 K)
 (aF (hU fun _ _ K hn => IB (Nat.lt_trans hn.1 (by omega)) (Nat.lt_trans hn.2 (by omega)) K []) (aF (hU fun _ _ K hn => GB hn.1 hn.2 K) (aF (Jf fun _ K _ => CX K []) (aF z9 bk))))))
end Go.Am.B
