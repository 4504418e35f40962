/- Contracts by the shape of the arguments: numbers, points, planes, maps. -/
import Derived.Test.YthnoegfjpmlndaaB33
set_option linter.unusedVariables false
namespace Go.Am.B
open Go Go.Am.N AV

/-- A point, a plane, a map. -/
@[ext] structure V3 where
  x : Rat
  y : Rat
  z : Rat
structure Pl where
  n : V3
  d : Rat
structure M3 where
  a : V3
  b : V3
  c : V3
structure Mp where
  m : M3
  t : V3
abbrev rA (q : Rat) (n : Nat) : AV := .rat q n
abbrev vA (v : V3) (n : Nat) : AV := .agg [.rat v.x n, .rat v.y n, .rat v.z n]
abbrev plA (p : Pl) (n : Nat) : AV := .agg [vA p.n n, .rat p.d n]
abbrev m3A (m : M3) (n : Nat) : AV := .agg [vA m.a n, vA m.b n, vA m.c n]
abbrev mpA (m : Mp) (n : Nat) : AV := .agg [m3A m.m n, vA m.t n]

theorem avLe0_rat_up {q r : Rat} {n k : Nat} (h : q = r) (hk : n ≤ k) : avLe0 (.rat q n) (.rat r k) := h ▸ avLe0_rat_more hk
theorem avLe0_vA {u v : V3} {n k : Nat} (h : u = v) (hk : n ≤ k) : avLe0 (vA u n) (vA v k) :=
  h ▸ avLe0_agg ⟨avLe0_rat_up rfl hk, avLe0_rat_up rfl hk, avLe0_rat_up rfl hk, trivial⟩

/-- How an argument of a kind is read; what has to hold beside it. -/
structure Kind (α : Type) where
  read : AV → Option (α × List Prop)
  make : α → AV
  ok : ∀ {v : AV} {a : α} {q : List Prop}, read v = some (a, q) → allP q → avLe0 v (make a)

def ratOf : AV → Option (Rat × Nat)
  | .rat q n => some (q, n)
  | .agg [.bool false, .mag 0, .mag 0] => some (0, 1)
  | _ => none
theorem ratOf_ok {v : AV} {a : Rat × Nat} (h : ratOf v = some a) : avLe0 v (rA a.1 a.2) := by
  unfold ratOf at h
  split at h
  · simp only [Option.some.injEq] at h; subst h; exact .refl _
  · simp only [Option.some.injEq] at h; subst h; exact avLe0_zero
  · simp at h
def vecOf : AV → Option ((V3 × Nat) × List Prop)
  | .agg [x, y, z] => match ratOf x, ratOf y, ratOf z with
    | some (x, a), some (y, b), some (z, c) => some ((⟨x, y, z⟩, a), [b ≤ a, c ≤ a])
    | _, _, _ => none
  | _ => none
theorem vecOf_ok {v : AV} {a : V3 × Nat} {q : List Prop} (h : vecOf v = some (a, q)) (hq : allP q) : avLe0 v (vA a.1 a.2) := by
  unfold vecOf at h
  split at h
  · split at h
    · rename_i h1 h2 h3
      simp only [Option.some.injEq, Prod.mk.injEq] at h
      obtain ⟨rfl, rfl⟩ := h
      exact avLe0_agg ⟨ratOf_ok h1, (ratOf_ok h2).trans (avLe0_rat_up rfl hq.1), (ratOf_ok h3).trans (avLe0_rat_up rfl hq.2), trivial⟩
    · simp at h
  · simp at h
def plOf : AV → Option ((Pl × Nat) × List Prop)
  | .agg [v, d] => match vecOf v, ratOf d with
    | some ((v, a), q), some (d, b) => some ((⟨v, d⟩, max a b), q)
    | _, _ => none
  | _ => none
theorem plOf_ok {v : AV} {a : Pl × Nat} {q : List Prop} (h : plOf v = some (a, q)) (hq : allP q) : avLe0 v (plA a.1 a.2) := by
  unfold plOf at h
  split at h
  · split at h
    · rename_i h1 h2
      simp only [Option.some.injEq, Prod.mk.injEq] at h
      obtain ⟨rfl, rfl⟩ := h
      exact avLe0_agg ⟨(vecOf_ok h1 hq).trans (avLe0_vA rfl (by simp only; omega)), (ratOf_ok h2).trans (avLe0_rat_up rfl (by simp only; omega)), trivial⟩
    · simp at h
  · simp at h
def m3Of : AV → Option ((M3 × Nat) × List Prop)
  | .agg [x, y, z] => match vecOf x, vecOf y, vecOf z with
    | some ((x, a), p), some ((y, b), q), some ((z, c), r) => some ((⟨x, y, z⟩, a), [b ≤ a, c ≤ a] ++ (p ++ (q ++ r)))
    | _, _, _ => none
  | _ => none
theorem m3Of_ok {v : AV} {a : M3 × Nat} {q : List Prop} (h : m3Of v = some (a, q)) (hq : allP q) : avLe0 v (m3A a.1 a.2) := by
  unfold m3Of at h
  split at h
  · split at h
    · rename_i h1 h2 h3
      simp only [Option.some.injEq, Prod.mk.injEq] at h
      obtain ⟨rfl, rfl⟩ := h
      obtain ⟨q1, q2⟩ := allP_append.1 hq
      obtain ⟨q2, q3⟩ := allP_append.1 q2
      obtain ⟨q3, q4⟩ := allP_append.1 q3
      exact avLe0_agg ⟨vecOf_ok h1 q2, (vecOf_ok h2 q3).trans (avLe0_vA rfl q1.1), (vecOf_ok h3 q4).trans (avLe0_vA rfl q1.2), trivial⟩
    · simp at h
  · simp at h
theorem avLe0_m3A {u v : M3} {n k : Nat} (h : u = v) (hk : n ≤ k) : avLe0 (m3A u n) (m3A v k) :=
  h ▸ avLe0_agg ⟨avLe0_vA rfl hk, avLe0_vA rfl hk, avLe0_vA rfl hk, trivial⟩
def mpOf : AV → Option ((Mp × Nat) × List Prop)
  | .agg [v, d] => match m3Of v, vecOf d with
    | some ((v, a), p), some ((d, b), q) => some ((⟨v, d⟩, max a b), p ++ q)
    | _, _ => none
  | _ => none
theorem mpOf_ok {v : AV} {a : Mp × Nat} {q : List Prop} (h : mpOf v = some (a, q)) (hq : allP q) : avLe0 v (mpA a.1 a.2) := by
  unfold mpOf at h
  split at h
  · split at h
    · rename_i h1 h2
      simp only [Option.some.injEq, Prod.mk.injEq] at h
      obtain ⟨rfl, rfl⟩ := h
      obtain ⟨q1, q2⟩ := allP_append.1 hq
      exact avLe0_agg ⟨(m3Of_ok h1 q1).trans (avLe0_m3A rfl (by simp only; omega)), (vecOf_ok h2 q2).trans (avLe0_vA rfl (by simp only; omega)), trivial⟩
    · simp at h
  · simp at h
theorem avLe0_plA {u v : Pl} {n k : Nat} (h : u = v) (hk : n ≤ k) : avLe0 (plA u n) (plA v k) :=
  h ▸ avLe0_agg ⟨avLe0_vA rfl hk, avLe0_rat_up rfl hk, trivial⟩
theorem avLe0_mpA {u v : Mp} {n k : Nat} (h : u = v) (hk : n ≤ k) : avLe0 (mpA u n) (mpA v k) :=
  h ▸ avLe0_agg ⟨avLe0_m3A rfl hk, avLe0_vA rfl hk, trivial⟩
def ratOf' (v : AV) : Option ((Rat × Nat) × List Prop) := match ratOf v with
  | some a => some (a, [])
  | none => none
theorem ratOf'_ok {v : AV} {a : Rat × Nat} {q : List Prop} (h : ratOf' v = some (a, q)) (_ : allP q) : avLe0 v (rA a.1 a.2) := by
  unfold ratOf' at h
  split at h
  · rename_i h1
    simp only [Option.some.injEq, Prod.mk.injEq] at h
    obtain ⟨rfl, rfl⟩ := h
    exact ratOf_ok h1
  · simp at h
def intsOf : AV → Option (Int × List Prop)
  | .int .i64 n => some (n, [])
  | _ => none
theorem intsOf_ok {v : AV} {a : Int} {q : List Prop} (h : intsOf v = some (a, q)) (_ : allP q) : avLe0 v (.int .i64 a) := by
  unfold intsOf at h
  split at h
  · simp only [Option.some.injEq, Prod.mk.injEq] at h
    obtain ⟨rfl, rfl⟩ := h
    exact .refl _
  · simp at h

def kR : Kind (Rat × Nat) := ⟨ratOf', fun a => rA a.1 a.2, ratOf'_ok⟩
def kV : Kind (V3 × Nat) := ⟨vecOf, fun a => vA a.1 a.2, vecOf_ok⟩
def kPl : Kind (Pl × Nat) := ⟨plOf, fun a => plA a.1 a.2, plOf_ok⟩
def kM : Kind (M3 × Nat) := ⟨m3Of, fun a => m3A a.1 a.2, m3Of_ok⟩
def kMp : Kind (Mp × Nat) := ⟨mpOf, fun a => mpA a.1 a.2, mpOf_ok⟩
def kI : Kind Int := ⟨intsOf, fun a => .int .i64 a, intsOf_ok⟩

section specs
variable {α β γ δ : Type} {f : FuncId}
def sp1 (k : Kind α) (g : α → AV) (need : α → List Prop) : Spec := pureSpec fun l => match l with
  | [x] => match k.read x with
    | some (a, p) => some (pres (g a) (p ++ need a))
    | none => none
  | _ => none
theorem sp1_ok {k : Kind α} {g : α → AV} {need : α → List Prop} (h : ∀ a K, allP (need a) → FOK P f K [k.make a] [] (pres (g a) [])) : ∀ K args pre r, sp1 k g need K args pre = some r → FOK P f K args pre r := by
  refine pureSpec_ok fun K args r hk hs _ => ?_
  split at hs
  · split at hs
    · rename_i h1
      simp only [Option.some.injEq] at hs
      subst hs
      intro hn
      obtain ⟨n1, hn⟩ := allP_append.1 hn
      exact fok_weak (h _ K hn) hk ⟨k.ok h1 n1, trivial⟩ [] trivial
    · simp at hs
  · simp at hs
def sp2 (k : Kind α) (k2 : Kind β) (g : α → β → AV) (need : α → β → List Prop) : Spec := pureSpec fun l => match l with
  | [x, y] => match k.read x, k2.read y with
    | some (a, p), some (b, q) => some (pres (g a b) (p ++ (q ++ need a b)))
    | _, _ => none
  | _ => none
theorem sp2_ok {k : Kind α} {k2 : Kind β} {g : α → β → AV} {need : α → β → List Prop} (h : ∀ a b K, allP (need a b) → FOK P f K [k.make a, k2.make b] [] (pres (g a b) [])) : ∀ K args pre r, sp2 k k2 g need K args pre = some r → FOK P f K args pre r := by
  refine pureSpec_ok fun K args r hk hs _ => ?_
  split at hs
  · split at hs
    · rename_i h1 h2
      simp only [Option.some.injEq] at hs
      subst hs
      intro hn
      obtain ⟨n1, hn⟩ := allP_append.1 hn
      obtain ⟨n2, hn⟩ := allP_append.1 hn
      exact fok_weak (h _ _ K hn) hk ⟨k.ok h1 n1, k2.ok h2 n2, trivial⟩ [] trivial
    · simp at hs
  · simp at hs
def sp3 (k : Kind α) (k2 : Kind β) (k3 : Kind γ) (g : α → β → γ → AV) (need : α → β → γ → List Prop) : Spec := pureSpec fun l => match l with
  | [x, y, z] => match k.read x, k2.read y, k3.read z with
    | some (a, p), some (b, q), some (c, r) => some (pres (g a b c) (p ++ (q ++ (r ++ need a b c))))
    | _, _, _ => none
  | _ => none
theorem sp3_ok {k : Kind α} {k2 : Kind β} {k3 : Kind γ} {g : α → β → γ → AV} {need : α → β → γ → List Prop} (h : ∀ a b c K, allP (need a b c) → FOK P f K [k.make a, k2.make b, k3.make c] [] (pres (g a b c) [])) : ∀ K args pre r, sp3 k k2 k3 g need K args pre = some r → FOK P f K args pre r := by
  refine pureSpec_ok fun K args r hk hs _ => ?_
  split at hs
  · split at hs
    · rename_i h1 h2 h3
      simp only [Option.some.injEq] at hs
      subst hs
      intro hn
      obtain ⟨n1, hn⟩ := allP_append.1 hn
      obtain ⟨n2, hn⟩ := allP_append.1 hn
      obtain ⟨n3, hn⟩ := allP_append.1 hn
      exact fok_weak (h _ _ _ K hn) hk ⟨k.ok h1 n1, k2.ok h2 n2, k3.ok h3 n3, trivial⟩ [] trivial
    · simp at hs
  · simp at hs
def sp4 (k : Kind α) (k2 : Kind β) (k3 : Kind γ) (k4 : Kind δ) (g : α → β → γ → δ → AV) (need : α → β → γ → δ → List Prop) : Spec := pureSpec fun l => match l with
  | [x, y, z, w] => match k.read x, k2.read y, k3.read z, k4.read w with
    | some (a, p), some (b, q), some (c, r), some (d, s) => some (pres (g a b c d) (p ++ (q ++ (r ++ (s ++ need a b c d)))))
    | _, _, _, _ => none
  | _ => none
theorem sp4_ok {k : Kind α} {k2 : Kind β} {k3 : Kind γ} {k4 : Kind δ} {g : α → β → γ → δ → AV} {need : α → β → γ → δ → List Prop} (h : ∀ a b c d K, allP (need a b c d) → FOK P f K [k.make a, k2.make b, k3.make c, k4.make d] [] (pres (g a b c d) [])) : ∀ K args pre r, sp4 k k2 k3 k4 g need K args pre = some r → FOK P f K args pre r := by
  refine pureSpec_ok fun K args r hk hs _ => ?_
  split at hs
  · split at hs
    · rename_i h1 h2 h3 h4
      simp only [Option.some.injEq] at hs
      subst hs
      intro hn
      obtain ⟨n1, hn⟩ := allP_append.1 hn
      obtain ⟨n2, hn⟩ := allP_append.1 hn
      obtain ⟨n3, hn⟩ := allP_append.1 hn
      obtain ⟨n4, hn⟩ := allP_append.1 hn
      exact fok_weak (h _ _ _ _ K hn) hk ⟨k.ok h1 n1, k2.ok h2 n2, k3.ok h3 n3, k4.ok h4 n4, trivial⟩ [] trivial
    · simp at hs
  · simp at hs
end specs

/-- The operations of numbers. -/
def rNeed (a b : Rat × Nat) : List Prop := [a.2 < 2 ^ 42, b.2 < 2 ^ 42]
def eNeed (a b : Rat × Nat) : List Prop := [a.2 < 2 ^ 41, b.2 < 2 ^ 41]
def oAdd (a b : Rat × Nat) : AV := rA (a.1 + b.1) (a.2 + b.2 + 1)
def oSub (a b : Rat × Nat) : AV := rA (a.1 - b.1) (a.2 + b.2 + 1)
def oMul (a b : Rat × Nat) : AV := rA (a.1 * b.1) (a.2 + b.2)
def oQuo (a b : Rat × Nat) : AV := .tuple [rA (a.1 / b.1) (a.2 + b.2), .int .i64 (if b.1 = 0 then 3 else 0)]
def oMin (a b : Rat × Nat) : AV := rA (minR a.1 b.1) (max a.2 b.2)
def oMax (a b : Rat × Nat) : AV := rA (maxR a.1 b.1) (max a.2 b.2)
def oCmp (a b : Rat × Nat) : AV := .int .i64 (cmpR a.1 b.1)
def oSame (a b : Rat × Nat) : AV := .bool (decide (a.1 = b.1))
def oSign (a : Rat × Nat) : AV := .int .i64 (sgnR a.1)
def GR0 : Contracts := [(rational_Add, sp2 kR kR oAdd rNeed), (rational_Sub, sp2 kR kR oSub rNeed), (rational_Mul, sp2 kR kR oMul rNeed), (rational_Same, sp2 kR kR oSame rNeed), (rational_Cmp, sp2 kR kR oCmp rNeed), (rational_Sign, sp1 kR oSign fun a => [a.2 < 2 ^ 42]), (rational_Int, s_int)]
def GE0 : Contracts := [(ref02_Add, sp2 kR kR oAdd eNeed), (ref02_Sub, sp2 kR kR oSub eNeed), (ref02_Mul, sp2 kR kR oMul eNeed), (ref02_Same, sp2 kR kR oSame eNeed), (ref02_Cmp, sp2 kR kR oCmp eNeed), (ref02_Sign, sp1 kR oSign fun a => [a.2 < 2 ^ 41]), (ref02_Int, s_eInt)]
theorem r_ok {f : FuncId} {g : Rat → Nat → Rat → Nat → AV} (h : ∀ {q r : Rat} {n m : Nat}, n < 2 ^ 42 → m < 2 ^ 42 → ∀ K, FOK P f K [.rat q n, .rat r m] [] (pres (g q n r m) [])) :
    ∀ K args pre r, sp2 kR kR (fun a b => g a.1 a.2 b.1 b.2) rNeed K args pre = some r → FOK P f K args pre r := sp2_ok fun _ _ K hn => h hn.1 hn.2 K
theorem e_ok {f : FuncId} {g : Rat → Nat → Rat → Nat → AV} (h : ∀ {q r : Rat} {n m : Nat}, n < 2 ^ 41 → m < 2 ^ 41 → ∀ K, FOK P f K [.rat q n, .rat r m] [] (pres (g q n r m) [])) :
    ∀ K args pre r, sp2 kR kR (fun a b => g a.1 a.2 b.1 b.2) eNeed K args pre = some r → FOK P f K args pre r := sp2_ok fun _ _ K hn => h hn.1 hn.2 K
theorem GR0_ok : GOK P GR0 := gok_cons (sp2_ok fun _ _ K hn => rAdd_ok hn.1 hn.2 K) (gok_cons (sp2_ok fun _ _ K hn => rSub_ok hn.1 hn.2 K) (gok_cons (sp2_ok fun _ _ K hn => rMul_ok hn.1 hn.2 K)
  (gok_cons (sp2_ok fun _ _ K hn => rSame_ok (Nat.lt_trans hn.1 (by omega)) (Nat.lt_trans hn.2 (by omega)) K []) (gok_cons (sp2_ok fun _ _ K hn => rCmp_ok hn.1 hn.2 K []) (gok_cons (sp1_ok fun _ K hn => rSign_ok (Nat.lt_trans hn (by omega)) K []) (gok_cons s_int_ok gok_nil))))))
theorem GE0_ok : GOK P GE0 := gok_cons (sp2_ok fun _ _ K hn => eAdd_ok hn.1 hn.2 K) (gok_cons (sp2_ok fun _ _ K hn => eSub_ok hn.1 hn.2 K) (gok_cons (sp2_ok fun _ _ K hn => eMul_ok hn.1 hn.2 K)
  (gok_cons (sp2_ok fun _ _ K hn => eSame_ok (Nat.lt_trans hn.1 (by omega)) (Nat.lt_trans hn.2 (by omega)) K []) (gok_cons (sp2_ok fun _ _ K hn => eCmp_ok hn.1 hn.2 K) (gok_cons (sp1_ok fun _ K _ => eSign_ok K []) (gok_cons s_eInt_ok gok_nil))))))
end Go.Am.B
