/- Contracts by the shape of the arguments: numbers, points, planes, maps. -/
import Derived.Test.YtnocdkaonpdmjaaB33
set_option linter.unusedVariables false
namespace Go.Am.B
open Go Go.Am.N AV
@[ext] structure V3 where
  x : Rat
  y : Rat
  z : Rat
structure Pl where
  n : V3
  d : Rat
structure M3 where
  a : V3
  b : V3
  c : V3
structure Mp where
  m : M3
  t : V3
abbrev rA (q : Rat) (n : Nat) : AV := .rat q n
abbrev vA (v : V3) (n : Nat) : AV := .agg [.rat v.x n, .rat v.y n, .rat v.z n]
theorem avLe0_rat_up {q r : Rat} {n k : Nat} (h : q = r) (hk : n ≤ k) : avLe0 (.rat q n) (.rat r k) := h ▸ avLe0_rat_more hk
structure Kind (α : Type) where
  read : AV → Option (α × List Prop)
  make : α → AV
  ok : ∀ {v : AV} {a : α} {q : List Prop}, read v = some (a, q) → allP q → avLe0 v (make a)
def ratOf : AV → Option (Rat × Nat)
  | .rat q n => some (q, n)
  | .agg [.bool false, .mag 0, .mag 0] => some (0, 1)
  | _ => none
theorem ratOf_ok {v : AV} {a : Rat × Nat} (h : ratOf v = some a) : avLe0 v (rA a.1 a.2) := by
  unfold ratOf at h
  split at h
  · simp only [Option.some.injEq] at h; subst h; exact .refl _
  · simp only [Option.some.injEq] at h; subst h; exact avLe0_zero
  · simp at h
def ratOf' (v : AV) : Option ((Rat × Nat) × List Prop) := match ratOf v with
  | some a => some (a, [])
  | none => none
theorem ratOf'_ok {v : AV} {a : Rat × Nat} {q : List Prop} (h : ratOf' v = some (a, q)) (_ : allP q) : avLe0 v (rA a.1 a.2) := by
  unfold ratOf' at h
  split at h
  · rename_i h1
    simp only [Option.some.injEq, Prod.mk.injEq] at h
    obtain ⟨rfl, rfl⟩ := h
    exact ratOf_ok h1
  · simp at h
def intsOf : AV → Option (Int × List Prop)
  | .int .i64 n => some (n, [])
  | _ => none
theorem intsOf_ok {v : AV} {a : Int} {q : List Prop} (h : intsOf v = some (a, q)) (_ : allP q) : avLe0 v (.int .i64 a) := by
  unfold intsOf at h
  split at h
  · simp only [Option.some.injEq, Prod.mk.injEq] at h
    obtain ⟨rfl, rfl⟩ := h
    exact .refl _
  · simp at h
def kR : Kind (Rat × Nat) := ⟨ratOf', fun a => rA a.1 a.2, ratOf'_ok⟩
def kI : Kind Int := ⟨intsOf, fun a => .int .i64 a, intsOf_ok⟩
section specs
variable {α β γ δ : Type} {f : FuncId}
def sp1 (k : Kind α) (g : α → AV) (need : α → List Prop) : Spec := pureSpec fun l => match l with
  | [x] => match k.read x with
    | some (a, p) => some (pres (g a) (p ++ need a))
    | none => none
  | _ => none
theorem sp1_ok {k : Kind α} {g : α → AV} {need : α → List Prop} (h : ∀ a K, allP (need a) → FOK P f K [k.make a] [] (pres (g a) [])) : ∀ K args pre r, sp1 k g need K args pre = some r → FOK P f K args pre r := by
  refine pureSpec_ok fun K args r hk hs _ => ?_
  split at hs
  · split at hs
    · rename_i h1
      simp only [Option.some.injEq] at hs
      subst hs
      intro hn
      obtain ⟨n1, hn⟩ := allP_append.1 hn
      exact fok_weak (h _ K hn) hk ⟨k.ok h1 n1, trivial⟩ [] trivial
    · simp at hs
  · simp at hs
def sp2 (k : Kind α) (k2 : Kind β) (g : α → β → AV) (need : α → β → List Prop) : Spec := pureSpec fun l => match l with
  | [x, y] => match k.read x, k2.read y with
    | some (a, p), some (b, q) => some (pres (g a b) (p ++ (q ++ need a b)))
    | _, _ => none
  | _ => none
theorem sp2_ok {k : Kind α} {k2 : Kind β} {g : α → β → AV} {need : α → β → List Prop} (h : ∀ a b K, allP (need a b) → FOK P f K [k.make a, k2.make b] [] (pres (g a b) [])) : ∀ K args pre r, sp2 k k2 g need K args pre = some r → FOK P f K args pre r := by
  refine pureSpec_ok fun K args r hk hs _ => ?_
  split at hs
  · split at hs
    · rename_i h1 h2
      simp only [Option.some.injEq] at hs
      subst hs
      intro hn
      obtain ⟨n1, hn⟩ := allP_append.1 hn
      obtain ⟨n2, hn⟩ := allP_append.1 hn
      exact fok_weak (h _ _ K hn) hk ⟨k.ok h1 n1, k2.ok h2 n2, trivial⟩ [] trivial
    · simp at hs
  · simp at hs
end specs
def rNeed (a b : Rat × Nat) : List Prop := [a.2 < 2 ^ 42, b.2 < 2 ^ 42]
def eNeed (a b : Rat × Nat) : List Prop := [a.2 < 2 ^ 41, b.2 < 2 ^ 41]
def oAdd (a b : Rat × Nat) : AV := rA (a.1 + b.1) (a.2 + b.2 + 1)
def oSub (a b : Rat × Nat) : AV := rA (a.1 - b.1) (a.2 + b.2 + 1)
def oMul (a b : Rat × Nat) : AV := rA (a.1 * b.1) (a.2 + b.2)
def oQuo (a b : Rat × Nat) : AV := .tuple [rA (a.1 / b.1) (a.2 + b.2), .int .i64 (if b.1 = 0 then 3 else 0)]
def oCmp (a b : Rat × Nat) : AV := .int .i64 (cmpR a.1 b.1)
def oSame (a b : Rat × Nat) : AV := .bool (decide (a.1 = b.1))
def oSign (a : Rat × Nat) : AV := .int .i64 (sgnR a.1)
abbrev rIntD : FuncId × Spec := (999999990, fun _ _ _ => none)
def GR0 : Contracts := [(rational_Add, sp2 kR kR oAdd rNeed), (rational_Sub, sp2 kR kR oSub rNeed), (rational_Mul, sp2 kR kR oMul rNeed), (rational_Same, sp2 kR kR oSame rNeed), (rational_Cmp, sp2 kR kR oCmp rNeed), (rational_Sign, sp1 kR oSign fun a => [a.2 < 2 ^ 42]), rIntD]
def GE0 : Contracts := [(ref02_Add, sp2 kR kR oAdd eNeed), (ref02_Sub, sp2 kR kR oSub eNeed), (ref02_Mul, sp2 kR kR oMul eNeed), (ref02_Same, sp2 kR kR oSame eNeed), (ref02_Cmp, sp2 kR kR oCmp eNeed), (ref02_Sign, sp1 kR oSign fun a => [a.2 < 2 ^ 41]), (ref02_Int, s_eInt)]
theorem rIntD_ok : ∀ K args pre r, rIntD.2 K args pre = some r → FOK P rIntD.1 K args pre r := fun _ _ _ _ h => nomatch h
theorem GR0_ok : GOK P GR0 := gok_cons (sp2_ok fun _ _ K hn => rAdd_ok hn.1 hn.2 K) (gok_cons (sp2_ok fun _ _ K hn => rSub_ok hn.1 hn.2 K) (gok_cons (sp2_ok fun _ _ K hn => rMul_ok hn.1 hn.2 K)
  (gok_cons (sp2_ok fun _ _ K hn => rSame_ok (Nat.lt_trans hn.1 (by omega)) (Nat.lt_trans hn.2 (by omega)) K []) (gok_cons (sp2_ok fun _ _ K hn => rCmp_ok hn.1 hn.2 K []) (gok_cons (sp1_ok fun _ K hn => rSign_ok (Nat.lt_trans hn (by omega)) K []) (gok_cons rIntD_ok gok_nil))))))
theorem GE0_ok : GOK P GE0 := gok_cons (sp2_ok fun _ _ K hn => eAdd_ok hn.1 hn.2 K) (gok_cons (sp2_ok fun _ _ K hn => eSub_ok hn.1 hn.2 K) (gok_cons (sp2_ok fun _ _ K hn => eMul_ok hn.1 hn.2 K)
  (gok_cons (sp2_ok fun _ _ K hn => eSame_ok (Nat.lt_trans hn.1 (by omega)) (Nat.lt_trans hn.2 (by omega)) K []) (gok_cons (sp2_ok fun _ _ K hn => eCmp_ok hn.1 hn.2 K) (gok_cons (sp1_ok fun _ K _ => eSign_ok K []) (gok_cons s_eInt_ok gok_nil))))))
end Go.Am.B
