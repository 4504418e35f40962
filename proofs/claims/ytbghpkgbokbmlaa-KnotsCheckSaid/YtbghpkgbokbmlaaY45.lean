/- brepkernelmade: Rat, Within; lists of numbers as arguments. -/
import Derived.Test.YtbghpkgbokbmlaaB43
import Derived.Test.YtbghpkgbokbmlaaY39
import Derived.Test.YtbghpkgbokbmlaaZ2
import Derived.Test.YtbghpkgbokbmlaaC4
import Derived.Test.YtbghpkgbokbmlaaD1
set_option linter.unusedVariables false
namespace Go.Am.B
open Go Go.Am.N AV
theorem is_mRat : FnIs P made_Rat fn_made_Rat (codeOf fn_made_Rat) := fnIs get_made_Rat (by kernel_rfl) (by kernel_rfl) (by kernel_rfl)
theorem mRat_end {x y : Int} : funT T GPart [] 60 fn_made_Rat (codeOf fn_made_Rat) ⟨zipSlots 0 [.int .i64 x, .int .i64 y], [], 0⟩ =
    some (ATree.must [(0 : Int) < (41 : Int), (41 : Int) < (2 : Int) ^ 62, (0 : Int) < (8 : Int), (8 : Int) < (2 : Int) ^ 62, -(2 : Int) ^ 63 ≤ IntKind.i64.wrap (x % (41 : Int) - (20 : Int)), IntKind.i64.wrap (x % (41 : Int) - (20 : Int)) < (2 : Int) ^ 63, -(2 : Int) ^ 63 ≤ IntKind.i64.wrap (y % (8 : Int) + (1 : Int)), IntKind.i64.wrap (y % (8 : Int) + (1 : Int)) < (2 : Int) ^ 63, (0 : Nat) < 1] (ATree.must [(0 : Nat) < 1] (ATree.leaf AEx.ret [rat ((↑(IntKind.i64.wrap (x % (41 : Int) - (20 : Int))) : Rat) / (↑(IntKind.i64.wrap (y % (8 : Int) + (1 : Int))) : Rat)) 64]))) := by kernel_rfl
def ratM (x y : Int) : Rat := ((x % 41 - 20 : Int) : Rat) / ((y % 8 + 1 : Int) : Rat)
def s_mRat : Spec := pureSpec fun l => match l with
  | [.int .i64 x, .int .i64 y] => some (pres (.rat (ratM x y) 64) [])
  | _ => none
theorem s_mRat_ok : ∀ K args pre r, s_mRat K args pre = some r → FOK P made_Rat K args pre r := by
  refine pureSpec_ok fun K args r hk hs _ => ?_
  split at hs
  · rename_i x y
    simp only [Option.some.injEq] at hs
    subst hs
    refine fok_tree hT (gok_cons s_mMod_ok (gok_cons s_eFrac_ok gok_nil)) hm is_mRat rfl (of_decide_eq_true (by kernel_rfl)) rfl 60 mRat_end (fun _ => ?_) K []
    unfold ratM
    have w1 := Int.emod_nonneg x (show (41 : Int) ≠ 0 by omega)
    have w2 := Int.emod_lt_of_pos x (show (0 : Int) < 41 by omega)
    have v1 := Int.emod_nonneg y (show (8 : Int) ≠ 0 by omega)
    have v2 := Int.emod_lt_of_pos y (show (0 : Int) < 8 by omega)
    generalize x % 41 = u at *
    generalize y % 8 = v at *
    have e1 : IntKind.i64.wrap (u - 20) = u - 20 := wrap_i64 (by omega) (by omega)
    have e2 : IntKind.i64.wrap (v + 1) = v + 1 := wrap_i64 (by omega) (by omega)
    rw [e1, e2]
    simp only [ATree.all, allP]
    exact ⟨⟨by omega, by omega, by omega, by omega, by omega, by omega, by omega, by omega⟩, by omega, .refl _⟩
  · simp at hs
def kL (s : Nat) : Kind (Nat × (Nat → Rat)) := ⟨fun v => match lsOf v with
  | some (n, f) => some ((n, fun i => ratV (f i)), [allRat f n s])
  | none => none, fun a => lsA a.2 a.1 s, fun {v a q} h hq => by
    split at h
    · rename_i h1
      simp only [Option.some.injEq, Prod.mk.injEq] at h
      obtain ⟨rfl, rfl⟩ := h
      exact lsOf_ok h1 hq
    · simp at h⟩
def kRs (s : Nat) : Kind Rat := ⟨fun v => match ratOf v with
  | some (q, n) => some (q, [n ≤ s])
  | none => none, fun a => .rat a s, fun {v a q} h hq => by
    split at h
    · rename_i h1
      simp only [Option.some.injEq, Prod.mk.injEq] at h
      obtain ⟨rfl, rfl⟩ := h
      exact (ratOf_ok h1).trans (avLe0_rat_more hq)
    · simp at h⟩
structure KindL (α : Type) where
  read : List AV → Option (α × List Prop)
  make : α → List AV
  ok : ∀ {l : List AV} {a : α} {q : List Prop}, read l = some (a, q) → allP q → avLes0 l (make a)
def kN : KindL Unit := ⟨fun l => match l with
  | [] => some ((), [])
  | _ => none, fun _ => [], fun {l a q} h _ => by
    split at h
    · trivial
    · simp at h⟩
def kC {α β : Type} (k : Kind α) (kl : KindL β) : KindL (α × β) := ⟨fun l => match l with
  | v :: l => match k.read v, kl.read l with
    | some (a, p), some (b, q) => some ((a, b), p ++ q)
    | _, _ => none
  | [] => none, fun a => k.make a.1 :: kl.make a.2, fun {l a q} h hq => by
    split at h
    · split at h
      · rename_i h1 h2
        simp only [Option.some.injEq, Prod.mk.injEq] at h
        obtain ⟨rfl, rfl⟩ := h
        obtain ⟨q1, q2⟩ := allP_append.1 hq
        exact ⟨k.ok h1 q1, kl.ok h2 q2⟩
      · simp at h
    · simp at h⟩
def spL {α : Type} (k : KindL α) (g : α → AV) (need : α → List Prop) : Spec := pureSpec fun l => match k.read l with
  | some (a, p) => some (pres (g a) (p ++ need a))
  | none => none
theorem spL_ok {α : Type} {f : FuncId} {k : KindL α} {g : α → AV} {need : α → List Prop} (h : ∀ a K, allP (need a) → FOK P f K (k.make a) [] (pres (g a) [])) : ∀ K args pre r, spL k g need K args pre = some r → FOK P f K args pre r := by
  refine pureSpec_ok fun K args r hk hs _ => ?_
  split at hs
  · rename_i h1
    simp only [Option.some.injEq] at hs
    subst hs
    intro hn
    obtain ⟨n1, hn⟩ := allP_append.1 hn
    exact fok_weak (h _ K hn) hk (k.ok h1 n1) [] trivial
  · simp at hs
end Go.Am.B

/- knots.Interval, ref08.Interval; numbers of poles. -/
namespace Go.Am.B
open Go Go.Am.N AV ATree AEx IntKind
def nRat : Contracts := nG :: tRat
def nRef : Contracts := nG :: tRef
abbrev sK : Nat := 4096
abbrev ls (k : Nat → Rat) (n : Nat) : AV := lsA k n sK
abbrev tP (t : Rat) (s : Nat) : AObj := ⟨false, true, 3, 1, fun _ => .rat t s⟩
abbrev hvV (n : Nat) (k : Nat → Rat) (i : Nat) : List AV := [ls k n, .ptr 0 0 3 0 [], .int .i64 i, .int .i64 0, .int .i64 0]
theorem nRat_ok : GOK P nRat := gok_plain tRat_ok
theorem nRef_ok : GOK P nRef := gok_plain tRef_ok
theorem ratV_rat {q : Rat} {n : Nat} : ratV (.rat q n) = q := rfl
theorem rowAdd {rl : List (Nat × Nat)} {l i s s' s2 : Nat} {x y : Nat → Rat} {t : Rat} (hx : ∀ i, i < l → x i = y i) (ht : t = y l) (h1 : s ≤ s2) (h2 : s' ≤ s2) (hi : i < l + 1) : avQ rl (if i < l then .rat (x i) s else nth [.rat t s'] (.rat 0 1) (i - l + 0)) (.rat (y i) s2) := by
  by_cases h : i < l
  · rw [if_pos h, hx i h]; exact .inr ⟨rfl, avLe0_rat_up rfl h1⟩
  · have : i = l := by omega
    subst this
    rw [if_neg h, Nat.sub_self, ht]
    exact .inr ⟨rfl, avLe0_rat_up rfl h2⟩
def ivOut (n : Nat) (k : Nat → Rat) (t : Rat) : Prop := t < k 0 ∨ k (n - 1) < t
instance {n : Nat} {k : Nat → Rat} {t : Rat} : Decidable (ivOut n k t) := inferInstanceAs (Decidable (t < k 0 ∨ k (n - 1) < t))
end Go.Am.B

/- basis.fraction, basis.Values. -/
namespace Go.Am.B
open Go Go.Am.N AV ATree AEx IntKind
def hfB (k : Nat → Rat) (i : Nat) (t : Rat) (d j : Nat) : Rat := if j = 0 then 0 else fr (k (i - d + (j - 1))) (k (i - d + (j - 1) + (d + 1))) t * vB k i t d (j - 1)
end Go.Am.B

/- basis.Sum; numbers of poles. -/
namespace Go.Am.B
open Go Go.Am.N AV ATree AEx IntKind
theorem is_kPo : FnIs P knots_Poles fn_knots_Poles (codeOf fn_knots_Poles) := fnIs get_knots_Poles (by kernel_rfl) (by kernel_rfl) (by kernel_rfl)
theorem is_hPo : FnIs P ref08_Poles fn_ref08_Poles (codeOf fn_ref08_Poles) := fnIs get_ref08_Poles (by kernel_rfl) (by kernel_rfl) (by kernel_rfl)
def tPol : Spec := spL (kC (kL sK) (kC kI kN)) (fun a => .int .i64 ((a.1.1 : Int) - a.2.1 - 1)) fun a => [a.1.1 < 2 ^ 40, -2 ^ 40 < a.2.1, a.2.1 < 2 ^ 40]
theorem kpo_end {n : Nat} {k : Nat → Rat} {p : Int} : funT T [nG] [] 60 fn_knots_Poles (codeOf fn_knots_Poles) ⟨zipSlots 0 [ls k n, .int .i64 p], [], 0⟩ =
    let c3 : Int := (↑n : Int) - p; let c1 : Int := (2 : Int) ^ 63; let c2 : Int := c3 - (1 : Int); some (must [-c1 ≤ c3 ∧ c3 < c1, -c1 ≤ c2 ∧ c2 < c1] (leaf ret [int i64 c2])) := by kernel_rfl
theorem hpo_end {n : Nat} {k : Nat → Rat} {p : Int} : funT T [nG] [] 60 fn_ref08_Poles (codeOf fn_ref08_Poles) ⟨zipSlots 0 [ls k n, .int .i64 p], [], 0⟩ =
    let c3 : Int := (↑n : Int) - p; let c1 : Int := (2 : Int) ^ 63; let c2 : Int := c3 - (1 : Int); some (must [-c1 ≤ c3 ∧ c3 < c1, -c1 ≤ c2 ∧ c2 < c1] (leaf ret [int i64 c2])) := by kernel_rfl
theorem tPolk_ok : ∀ K args pre r, tPol K args pre = some r → FOK P knots_Poles K args pre r := spL_ok fun ⟨⟨n, k⟩, p, _⟩ K hn => by
  obtain ⟨h1, h2, h3⟩ := hn
  have h3 : p < 2 ^ 40 := h3
  simp only at h1 h2
  refine fok_tree (r := pres (.int .i64 ((n : Int) - p - 1)) []) hT (gok_plain gok_nil) hm is_kPo rfl (of_decide_eq_true (by kernel_rfl)) rfl 60 kpo_end (fun _ => ?_) K []
  simp only [ATree.all, allP]
  exact ⟨by omega, .refl _⟩
theorem tPolh_ok : ∀ K args pre r, tPol K args pre = some r → FOK P ref08_Poles K args pre r := spL_ok fun ⟨⟨n, k⟩, p, _⟩ K hn => by
  obtain ⟨h1, h2, h3⟩ := hn
  have h3 : p < 2 ^ 40 := h3
  simp only at h1 h2
  refine fok_tree (r := pres (.int .i64 ((n : Int) - p - 1)) []) hT (gok_plain gok_nil) hm is_hPo rfl (of_decide_eq_true (by kernel_rfl)) rfl 60 hpo_end (fun _ => ?_) K []
  simp only [ATree.all, allP]
  exact ⟨by omega, .refl _⟩
end Go.Am.B
