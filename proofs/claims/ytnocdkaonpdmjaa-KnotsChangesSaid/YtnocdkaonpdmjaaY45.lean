/- brepkernelmade: Rat, Within; lists of numbers as arguments. -/
import Derived.Test.YtnocdkaonpdmjaaB43
import Derived.Test.YtnocdkaonpdmjaaY39
import Derived.Test.YtnocdkaonpdmjaaZ2
import Derived.Test.YtnocdkaonpdmjaaC4
import Derived.Test.YtnocdkaonpdmjaaD1
import Derived.Test.YtnocdkaonpdmjaaC2
set_option linter.unusedVariables false
namespace Go.Am.B
open Go Go.Am.N AV
theorem is_mRat : FnIs P made_Rat fn_made_Rat (codeOf fn_made_Rat) := fnIs get_made_Rat (by kernel_rfl) (by kernel_rfl) (by kernel_rfl)
theorem mRat_end {x y : Int} : funT T GPart [] 60 fn_made_Rat (codeOf fn_made_Rat) ⟨zipSlots 0 [.int .i64 x, .int .i64 y], [], 0⟩ =
    some (ATree.must [(0 : Int) < (41 : Int), (41 : Int) < (2 : Int) ^ 62, (0 : Int) < (8 : Int), (8 : Int) < (2 : Int) ^ 62, -(2 : Int) ^ 63 ≤ IntKind.i64.wrap (x % (41 : Int) - (20 : Int)), IntKind.i64.wrap (x % (41 : Int) - (20 : Int)) < (2 : Int) ^ 63, -(2 : Int) ^ 63 ≤ IntKind.i64.wrap (y % (8 : Int) + (1 : Int)), IntKind.i64.wrap (y % (8 : Int) + (1 : Int)) < (2 : Int) ^ 63, (0 : Nat) < 1] (ATree.must [(0 : Nat) < 1] (ATree.leaf AEx.ret [rat ((↑(IntKind.i64.wrap (x % (41 : Int) - (20 : Int))) : Rat) / (↑(IntKind.i64.wrap (y % (8 : Int) + (1 : Int))) : Rat)) 64]))) := by kernel_rfl
def ratM (x y : Int) : Rat := ((x % 41 - 20 : Int) : Rat) / ((y % 8 + 1 : Int) : Rat)
def s_mRat : Spec := pureSpec fun l => match l with
  | [.int .i64 x, .int .i64 y] => some (pres (.rat (ratM x y) 64) [])
  | _ => none
theorem s_mRat_ok : ∀ K args pre r, s_mRat K args pre = some r → FOK P made_Rat K args pre r := by
  refine pureSpec_ok fun K args r hk hs _ => ?_
  split at hs
  · rename_i x y
    simp only [Option.some.injEq] at hs
    subst hs
    refine fok_tree hT (gok_cons s_mMod_ok (gok_cons s_eFrac_ok gok_nil)) hm is_mRat rfl (of_decide_eq_true (by kernel_rfl)) rfl 60 mRat_end (fun _ => ?_) K []
    unfold ratM
    have w1 := Int.emod_nonneg x (show (41 : Int) ≠ 0 by omega)
    have w2 := Int.emod_lt_of_pos x (show (0 : Int) < 41 by omega)
    have v1 := Int.emod_nonneg y (show (8 : Int) ≠ 0 by omega)
    have v2 := Int.emod_lt_of_pos y (show (0 : Int) < 8 by omega)
    generalize x % 41 = u at *
    generalize y % 8 = v at *
    have e1 : IntKind.i64.wrap (u - 20) = u - 20 := wrap_i64 (by omega) (by omega)
    have e2 : IntKind.i64.wrap (v + 1) = v + 1 := wrap_i64 (by omega) (by omega)
    rw [e1, e2]
    simp only [ATree.all, allP]
    exact ⟨⟨by omega, by omega, by omega, by omega, by omega, by omega, by omega, by omega⟩, by omega, .refl _⟩
  · simp at hs
def kL (s : Nat) : Kind (Nat × (Nat → Rat)) := ⟨fun v => match lsOf v with
  | some (n, f) => some ((n, fun i => ratV (f i)), [allRat f n s])
  | none => none, fun a => lsA a.2 a.1 s, fun {v a q} h hq => by
    split at h
    · rename_i h1
      simp only [Option.some.injEq, Prod.mk.injEq] at h
      obtain ⟨rfl, rfl⟩ := h
      exact lsOf_ok h1 hq
    · simp at h⟩
def kRs (s : Nat) : Kind Rat := ⟨fun v => match ratOf v with
  | some (q, n) => some (q, [n ≤ s])
  | none => none, fun a => .rat a s, fun {v a q} h hq => by
    split at h
    · rename_i h1
      simp only [Option.some.injEq, Prod.mk.injEq] at h
      obtain ⟨rfl, rfl⟩ := h
      exact (ratOf_ok h1).trans (avLe0_rat_more hq)
    · simp at h⟩
structure KindL (α : Type) where
  read : List AV → Option (α × List Prop)
  make : α → List AV
  ok : ∀ {l : List AV} {a : α} {q : List Prop}, read l = some (a, q) → allP q → avLes0 l (make a)
def kN : KindL Unit := ⟨fun l => match l with
  | [] => some ((), [])
  | _ => none, fun _ => [], fun {l a q} h _ => by
    split at h
    · trivial
    · simp at h⟩
def kC {α β : Type} (k : Kind α) (kl : KindL β) : KindL (α × β) := ⟨fun l => match l with
  | v :: l => match k.read v, kl.read l with
    | some (a, p), some (b, q) => some ((a, b), p ++ q)
    | _, _ => none
  | [] => none, fun a => k.make a.1 :: kl.make a.2, fun {l a q} h hq => by
    split at h
    · split at h
      · rename_i h1 h2
        simp only [Option.some.injEq, Prod.mk.injEq] at h
        obtain ⟨rfl, rfl⟩ := h
        obtain ⟨q1, q2⟩ := allP_append.1 hq
        exact ⟨k.ok h1 q1, kl.ok h2 q2⟩
      · simp at h
    · simp at h⟩
def spL {α : Type} (k : KindL α) (g : α → AV) (need : α → List Prop) : Spec := pureSpec fun l => match k.read l with
  | some (a, p) => some (pres (g a) (p ++ need a))
  | none => none
theorem spL_ok {α : Type} {f : FuncId} {k : KindL α} {g : α → AV} {need : α → List Prop} (h : ∀ a K, allP (need a) → FOK P f K (k.make a) [] (pres (g a) [])) : ∀ K args pre r, spL k g need K args pre = some r → FOK P f K args pre r := by
  refine pureSpec_ok fun K args r hk hs _ => ?_
  split at hs
  · rename_i h1
    simp only [Option.some.injEq] at hs
    subst hs
    intro hn
    obtain ⟨n1, hn⟩ := allP_append.1 hn
    exact fok_weak (h _ K hn) hk (k.ok h1 n1) [] trivial
  · simp at hs
end Go.Am.B

/- knots.Interval, ref08.Interval; numbers of poles. -/
namespace Go.Am.B
open Go Go.Am.N AV ATree AEx IntKind
def nRat : Contracts := nG :: tRat
def nRef : Contracts := nG :: tRef
abbrev sK : Nat := 4096
abbrev ls (k : Nat → Rat) (n : Nat) : AV := lsA k n sK
abbrev tP (t : Rat) (s : Nat) : AObj := ⟨false, true, 3, 1, fun _ => .rat t s⟩
abbrev hvV (n : Nat) (k : Nat → Rat) (i : Nat) : List AV := [ls k n, .ptr 0 0 3 0 [], .int .i64 i, .int .i64 0, .int .i64 0]
theorem nRat_ok : GOK P nRat := gok_plain tRat_ok
theorem nRef_ok : GOK P nRef := gok_plain tRef_ok
theorem ratV_rat {q : Rat} {n : Nat} : ratV (.rat q n) = q := rfl
theorem cmpR_ge {a b : Rat} : cmpR a b ≥ (0 : Int) ↔ b ≤ a := by
  have := @cmpR_lt a b
  constructor
  · intro h
    have : ¬ a < b := fun h' => by have := cmpR_lt.2 h'; omega
    grind
  · intro h
    have : ¬ cmpR a b < 0 := fun h' => by have := cmpR_lt.1 h'; grind
    omega
theorem rowAdd {rl : List (Nat × Nat)} {l i s s' s2 : Nat} {x y : Nat → Rat} {t : Rat} (hx : ∀ i, i < l → x i = y i) (ht : t = y l) (h1 : s ≤ s2) (h2 : s' ≤ s2) (hi : i < l + 1) : avQ rl (if i < l then .rat (x i) s else nth [.rat t s'] (.rat 0 1) (i - l + 0)) (.rat (y i) s2) := by
  by_cases h : i < l
  · rw [if_pos h, hx i h]; exact .inr ⟨rfl, avLe0_rat_up rfl h1⟩
  · have : i = l := by omega
    subst this
    rw [if_neg h, Nat.sub_self, ht]
    exact .inr ⟨rfl, avLe0_rat_up rfl h2⟩
theorem rowOne {rl : List (Nat × Nat)} {i s' s2 : Nat} {y : Nat → Rat} {t : Rat} (ht : t = y 0) (h2 : s' ≤ s2) (hi : i < 1) : avQ rl (nth [.rat t s'] (.rat 0 1) (i + 0)) (.rat (y i) s2) := by
  have : i = 0 := by omega
  subst this
  rw [ht]
  exact .inr ⟨rfl, avLe0_rat_up rfl h2⟩
def ivOut (n : Nat) (k : Nat → Rat) (t : Rat) : Prop := t < k 0 ∨ k (n - 1) < t
instance {n : Nat} {k : Nat → Rat} {t : Rat} : Decidable (ivOut n k t) := inferInstanceAs (Decidable (t < k 0 ∨ k (n - 1) < t))
end Go.Am.B

/- basis.fraction, basis.Values. -/
namespace Go.Am.B
open Go Go.Am.N AV ATree AEx IntKind
abbrev rowS (m : Nat) (x : Nat → Rat) (s : Nat → Nat) : AObj := ⟨true, true, 3, m, fun i => .rat (x i) (s i)⟩
def hfB (k : Nat → Rat) (i : Nat) (t : Rat) (d j : Nat) : Rat := if j = 0 then 0 else fr (k (i - d + (j - 1))) (k (i - d + (j - 1) + (d + 1))) t * vB k i t d (j - 1)
end Go.Am.B

/- basis.Sum; numbers of poles. -/
namespace Go.Am.B
open Go Go.Am.N AV ATree AEx IntKind
theorem is_kPo : FnIs P knots_Poles fn_knots_Poles (codeOf fn_knots_Poles) := fnIs get_knots_Poles (by kernel_rfl) (by kernel_rfl) (by kernel_rfl)
theorem is_hPo : FnIs P ref08_Poles fn_ref08_Poles (codeOf fn_ref08_Poles) := fnIs get_ref08_Poles (by kernel_rfl) (by kernel_rfl) (by kernel_rfl)
def tPol : Spec := spL (kC (kL sK) (kC kI kN)) (fun a => .int .i64 ((a.1.1 : Int) - a.2.1 - 1)) fun a => [a.1.1 < 2 ^ 40, -2 ^ 40 < a.2.1, a.2.1 < 2 ^ 40]
theorem kpo_end {n : Nat} {k : Nat → Rat} {p : Int} : funT T [nG] [] 60 fn_knots_Poles (codeOf fn_knots_Poles) ⟨zipSlots 0 [ls k n, .int .i64 p], [], 0⟩ =
    let c3 : Int := (↑n : Int) - p; let c1 : Int := (2 : Int) ^ 63; let c2 : Int := c3 - (1 : Int); some (must [-c1 ≤ c3 ∧ c3 < c1, -c1 ≤ c2 ∧ c2 < c1] (leaf ret [int i64 c2])) := by kernel_rfl
theorem hpo_end {n : Nat} {k : Nat → Rat} {p : Int} : funT T [nG] [] 60 fn_ref08_Poles (codeOf fn_ref08_Poles) ⟨zipSlots 0 [ls k n, .int .i64 p], [], 0⟩ =
    let c3 : Int := (↑n : Int) - p; let c1 : Int := (2 : Int) ^ 63; let c2 : Int := c3 - (1 : Int); some (must [-c1 ≤ c3 ∧ c3 < c1, -c1 ≤ c2 ∧ c2 < c1] (leaf ret [int i64 c2])) := by kernel_rfl
theorem tPolk_ok : ∀ K args pre r, tPol K args pre = some r → FOK P knots_Poles K args pre r := spL_ok fun ⟨⟨n, k⟩, p, _⟩ K hn => by
  obtain ⟨h1, h2, h3⟩ := hn
  have h3 : p < 2 ^ 40 := h3
  simp only at h1 h2
  refine fok_tree (r := pres (.int .i64 ((n : Int) - p - 1)) []) hT (gok_plain gok_nil) hm is_kPo rfl (of_decide_eq_true (by kernel_rfl)) rfl 60 kpo_end (fun _ => ?_) K []
  simp only [ATree.all, allP]
  exact ⟨by omega, .refl _⟩
theorem tPolh_ok : ∀ K args pre r, tPol K args pre = some r → FOK P ref08_Poles K args pre r := spL_ok fun ⟨⟨n, k⟩, p, _⟩ K hn => by
  obtain ⟨h1, h2, h3⟩ := hn
  have h3 : p < 2 ^ 40 := h3
  simp only at h1 h2
  refine fok_tree (r := pres (.int .i64 ((n : Int) - p - 1)) []) hT (gok_plain gok_nil) hm is_hPo rfl (of_decide_eq_true (by kernel_rfl)) rfl 60 hpo_end (fun _ => ?_) K []
  simp only [ATree.all, allP]
  exact ⟨by omega, .refl _⟩
abbrev sU : Nat := 4294967296
end Go.Am.B

/- ref09: part, function, Values. -/
namespace Go.Am.B
open Go Go.Am.N AV ATree AEx IntKind
end Go.Am.B

/- ref09.Sum; contracts of sums. -/
namespace Go.Am.B
open Go Go.Am.N AV ATree AEx IntKind
end Go.Am.B

/- basis.Blossom. -/
namespace Go.Am.B
open Go Go.Am.N AV ATree AEx IntKind
end Go.Am.B

/- ref09.Polar, ref09.Blossom; contracts of polar forms. -/
namespace Go.Am.B
open Go Go.Am.N AV ATree AEx IntKind
def GPo : Contracts := nG :: (ref02_Over, sp2 kR kR oOver eNeed) :: GE0
theorem GPo_ok : GOK P GPo := gok_plain (gok_cons (sp2_ok fun _ _ K hn => eOver_ok hn.1 hn.2 K) GE0_ok)
end Go.Am.B

/- ref02: SameList, Mid, Text; ref08.Greville. -/
namespace Go.Am.B
open Go Go.Am.N AV ATree AEx IntKind
theorem is_eSL : FnIs P ref02_SameList fn_ref02_SameList (codeOf fn_ref02_SameList) := fnIs get_ref02_SameList (by kernel_rfl) (by kernel_rfl) (by kernel_rfl)
theorem is_eText : FnIs P ref02_Text fn_ref02_Text (codeOf fn_ref02_Text) := fnIs get_ref02_Text (by kernel_rfl) (by kernel_rfl) (by kernel_rfl)
theorem is_fText : FnIs P ref01_Text fn_ref01_Text (codeOf fn_ref01_Text) := fnIs get_ref01_Text (by kernel_rfl) (by kernel_rfl) (by kernel_rfl)
theorem is_hGr : FnIs P ref08_Greville fn_ref08_Greville (codeOf fn_ref08_Greville) := fnIs get_ref08_Greville (by kernel_rfl) (by kernel_rfl) (by kernel_rfl)
abbrev slL : List Nat := [0, 1, 4, 5]
abbrev slV (n m : Nat) (f g : Nat → Rat) (i : Nat) : List AV := [lsA f n sU, lsA g m sU, .bool false, .int .i64 i]
noncomputable abbrev slC : Code := codeOf fn_ref02_SameList
theorem sl_pre {n m : Nat} {f g : Nat → Rat} : seeL T nRef [10] 60 slL (before slC [1,1,0,1]) ⟨zipSlots 0 [lsA f n sU, lsA g m sU], [], 0⟩ =
    let c2 : AV := tab 3 m fun i ↦ rat (g i) 4294967296; let c1 : AV := tab 3 n fun i ↦ rat (f i) 4294967296; some (fork ((↑n : Int) != (↑m : Int)) (leaf ret ([c1, c2, AV.bool false, tuple []], [])) (leaf normal ([c1, c2, AV.bool false, int i64 (0 : Int)], []))) := by kernel_rfl
theorem sl_b {n m i : Nat} {f g : Nat → Rat} : seeL T nRef [14, 26] 60 slL [part slC [1,1,0,1,0,0]] ⟨zipL slL (slV n m f g i), [], 0⟩ =
    let c4 : AV := tab 3 m fun i ↦ rat (g i) 4294967296; let c3 : AV := tab 3 n fun i ↦ rat (f i) 4294967296; let c2 : Int := (↑i : Int); let c5 : Int := c2 + (1 : Int); let c1 : List AV × Store := ([c3, c4, AV.bool false, int i64 c2], []); some (fork (decide (c2 < (↑n : Int))) (must [(0 : Int) ≤ c2 ∧ c2.toNat < n, (0 : Int) ≤ c2 ∧ c2.toNat < m] (fork (!decide (f c2.toNat = g c2.toNat)) (leaf ret c1) (must [-(2 : Int) ^ 63 ≤ c5 ∧ c5 < (2 : Int) ^ 63] (leaf normal ([c3, c4, AV.bool false, int i64 c5], []))))) (leaf (exit 0) c1)) := by kernel_rfl
theorem sl_e {n m i : Nat} {f g : Nat → Rat} : endL T nRef [] 60 fn_ref02_SameList [part slC [1,1,1]] ⟨zipL slL (slV n m f g i), [], 0⟩ =
    some (leaf ret [AV.bool true]) := by kernel_rfl
def sameL (n : Nat) (f : Nat → Rat) (m : Nat) (g : Nat → Rat) : Bool := decide (n = m ∧ ∀ i, i < n → f i = g i)
theorem eSL_ok {n m : Nat} {f g : Nat → Rat} (hn : n < 2 ^ 40) (hm2 : m < 2 ^ 40) (K : Nat) : FOK P ref02_SameList K [lsA f n sU, lsA g m sU] [] (pres (.bool (sameL n f m g)) []) := by
  refine fok_loop (r := pres (.bool (sameL n f m g)) []) hT nRef_ok hm is_eSL rfl (of_decide_eq_true (by kernel_rfl)) rfl [1,1,0,1] (i := 0) (y := part slC [1,1,0,1,0,0]) (z := part slC [1,1,1]) (by kernel_rfl) (by kernel_rfl) (by kernel_rfl) (f1 := [10]) (f2 := [14, 26]) (f3 := []) 60 slL 0
    (fun i : Nat => slV n m f g i) (fun _ => []) (fun i => i ≤ n ∧ n = m ∧ ∀ j, j < i → f j = g j) (fun i => i = n ∧ n = m ∧ ∀ j, j < i → f j = g j) (fun i => n - i) (fun _ => ⟨⟨_, sl_pre, ?_⟩, fun i ⟨h1, h2, h3⟩ => ⟨_, sl_b, ?_⟩, fun i ⟨h1, h2, h3⟩ => ⟨_, sl_e, ?_⟩⟩) K []
  · simp only [ATree.all, allP, bne_iff_ne, ne_eq, bne_eq_false_iff_eq]
    exact ⟨fun h => ⟨[.bool false], by kernel_rfl, avLe0_bool (decide_eq_false (fun hh => h (by omega))).symm⟩, fun h => ⟨0, ⟨by omega, by omega, fun j hj => by omega⟩, .vals rfl⟩⟩
  · simp only [ATree.all, allP, decide_eq_true_eq, decide_eq_false_iff_not, Bool.not_eq_true', Bool.not_eq_false', Int.toNat_natCast]
    (repeat' with_reducible first | refine And.intro ?_ ?_ | intro _)
    all_goals first | omega | skip
    · rename_i a b
      exact ⟨[.bool false], by kernel_rfl, avLe0_bool (decide_eq_false (fun hh => b (hh.2 i (by omega)))).symm⟩
    · rename_i a b
      refine ⟨i + 1, ⟨by omega, h2, fun j hj => ?_⟩, by dsimp only; omega, .vals rfl⟩
      by_cases hj2 : j = i
      · subst hj2; exact b
      · exact h3 j (by omega)
    · exact ⟨rfl, i, ⟨by omega, h2, h3⟩, .vals rfl⟩
  · subst h1
    exact avLe0_bool (decide_eq_true ⟨h2, h3⟩).symm
def s_eSL : Spec := spL (kC (kL sU) (kC (kL sU) kN)) (fun a => .bool (sameL a.1.1 a.1.2 a.2.1.1 a.2.1.2)) fun a => [a.1.1 < 2 ^ 40, a.2.1.1 < 2 ^ 40]
theorem s_eSL_ok : ∀ K args pre r, s_eSL K args pre = some r → FOK P ref02_SameList K args pre r := spL_ok fun _ K hn => eSL_ok hn.1 hn.2 K
abbrev grL1 : List Nat := [0, 1, 5, 6]
abbrev gk (k : Nat → Rat) (n : Nat) : AV := lsA k n 64
abbrev grV1 (n : Nat) (k : Nat → Rat) (p i : Nat) (v : AV) : List AV := [gk k n, .int .i64 p, v, .int .i64 i]
abbrev grO (j : Nat) (x : Nat → Rat) : Store := match j with
  | 0 => []
  | _ + 1 => [(1, rowS j x fun _ => 512)]
noncomputable abbrev grC : Code := codeOf fn_ref08_Greville
noncomputable abbrev grY : Code := part grC [1,1,0,1,0,0]
noncomputable abbrev grX : Code := part grY [1,0,0]
abbrev grL2 : List Nat := [0, 1, 5, 6, 7, 8]
abbrev grV2 (n : Nat) (k : Nat → Rat) (p i : Nat) (v : AV) (j : Nat) : List AV := [gk k n, .int .i64 p, v, .int .i64 i, .ptr 2 0 3 0 [], .int .i64 j]
def GGr : Contracts := nG :: (ref08_Poles, tPol) :: (ref02_Frac, s_eFrac) :: GE0
theorem gr_pre {n p : Nat} {k : Nat → Rat} : seeL T GGr [] 60 grL1 (before grC [1,1,0,1]) ⟨zipSlots 0 [gk k n, .int .i64 p], [], 0⟩ =
    some (leaf normal ([tab 3 n fun i ↦ rat (k i) 64, int i64 (↑p : Int), nil, int i64 (0 : Int)], [])) := by kernel_rfl
theorem gr_o0 {n p i : Nat} {k : Nat → Rat} : seeL T GGr [13] 60 grL1 (before grY [1,0]) ⟨zipL grL1 (grV1 n k p i .nil), [], 2⟩ =
    let c3 : Int := (↑p : Int); let c2 : Int := (↑n : Int) - c3 - (1 : Int); let c1 : List AV := [tab 3 n fun i ↦ rat (k i) 64, int i64 c3, nil, int i64 (↑i : Int)]; some (must [allRat (fun i ↦ rat (k i) 64) n sK, n < 2 ^ 40, -(2 : Int) ^ 40 < c3, c3 < (2 : Int) ^ 40] (fork (decide ((↑i : Int) < c2)) (leaf normal (c1, [])) (leaf (exit 0) (c1, [])))) := by kernel_rfl
theorem gr_oS {n p i j : Nat} {k x : Nat → Rat} : seeL T GGr [13] 60 grL1 (before grY [1,0]) ⟨zipL grL1 (grV1 n k p i (.own 1 3 0 (j + 1))), [(1, rowS (j + 1) x fun _ => 512)], 2⟩ =
    let c3 : Int := (↑p : Int); let c2 : Int := (↑n : Int) - c3 - (1 : Int); let c1 : List AV × Store := ([tab 3 n fun i ↦ rat (k i) 64, int i64 c3, own 1 3 0 (j + 1), int i64 (↑i : Int)], [((1 : Nat), AObj.mk true true 3 (j + 1) fun i ↦ rat (x i) 512)]); some (must [allRat (fun i ↦ rat (k i) 64) n sK, n < 2 ^ 40, -(2 : Int) ^ 40 < c3, c3 < (2 : Int) ^ 40] (fork (decide ((↑i : Int) < c2)) (leaf normal c1) (leaf (exit 0) c1))) := by kernel_rfl
theorem gr_i0 {n p i : Nat} {k : Nat → Rat} : seeL T GGr [] 60 grL2 (before grX [1,0,1]) ⟨zipL grL1 (grV1 n k p i .nil), [], 2⟩ =
    some (leaf normal ([tab 3 n fun i ↦ rat (k i) 64, int i64 (↑p : Int), nil, int i64 (↑i : Int), ptr 2 0 3 0 [], int i64 (1 : Int)], [((2 : Nat), AObj.mk false true 3 1 fun x ↦ rat 0 1)])) := by kernel_rfl
theorem gr_iS {n p i j : Nat} {k x : Nat → Rat} : seeL T GGr [] 60 grL2 (before grX [1,0,1]) ⟨zipL grL1 (grV1 n k p i (.own 1 3 0 (j + 1))), [(1, rowS (j + 1) x fun _ => 512)], 2⟩ =
    some (leaf normal ([tab 3 n fun i ↦ rat (k i) 64, int i64 (↑p : Int), own 1 3 0 (j + 1), int i64 (↑i : Int), ptr 2 0 3 0 [], int i64 (1 : Int)], [((2 : Nat), AObj.mk false true 3 1 fun x ↦ rat 0 1), ((1 : Nat), AObj.mk true true 3 (j + 1) fun i ↦ rat (x i) 512)])) := by kernel_rfl
theorem gr_b0 {n p i j s : Nat} {k : Nat → Rat} {q : Rat} : seeL T GGr [18] 60 grL2 [part grX [1,0,1,0,0]] ⟨zipL grL2 (grV2 n k p i .nil (j + 1)), [(2, tP q s)], 3⟩ =
    let c7 : Int := (↑p : Int); let c5 : AV := tab 3 n fun i ↦ rat (k i) 64; let c4 : AV := ptr 2 0 3 0 []; let c2 : Int := (2 : Int) ^ 63; let c1 : Int := (↑(j + 1) : Int); let c6 : Int := c1 + (1 : Int); let c3 : Int := (↑i : Int) + c1; some (fork (decide (c1 ≤ c7)) (must [(0 : Nat) < 1, -c2 ≤ c3 ∧ c3 < c2, (0 : Int) ≤ c3 ∧ c3.toNat < n, s < 2 ^ 41, (64 : Nat) < 2 ^ 41, (0 : Nat) < 1] (must [-c2 ≤ c6 ∧ c6 < c2] (leaf normal ([c5, int i64 c7, nil, int i64 (↑i : Int), c4, int i64 c6], [((2 : Nat), AObj.mk false true 3 1 fun j ↦ if (j == 0) = true then deN (oAdd (q, s) (k c3.toNat, (64 : Nat))) else rat q s)])))) (leaf (exit 2) ([c5, int i64 c7, nil, int i64 (↑i : Int), c4, int i64 c1], [((2 : Nat), AObj.mk false true 3 1 fun x ↦ rat q s)]))) := by kernel_rfl
theorem gr_bS {n p i j j' s : Nat} {k x : Nat → Rat} {q : Rat} : seeL T GGr [18] 60 grL2 [part grX [1,0,1,0,0]] ⟨zipL grL2 (grV2 n k p i (.own 1 3 0 (j' + 1)) (j + 1)), [(2, tP q s), (1, rowS (j' + 1) x fun _ => 512)], 3⟩ =
    let c9 : Int := (↑p : Int); let c7 : AV := tab 3 n fun i ↦ rat (k i) 64; let c6 : AV := ptr 2 0 3 0 []; let c4 : AV := own 1 3 0 (j' + 1); let c3 : Int := (2 : Int) ^ 63; let c2 : Nat × AObj := ((1 : Nat), AObj.mk true true 3 (j' + 1) fun i ↦ rat (x i) 512); let c1 : Int := (↑(j + 1) : Int); let c8 : Int := c1 + (1 : Int); let c5 : Int := (↑i : Int) + c1; some (fork (decide (c1 ≤ c9)) (must [(0 : Nat) < 1, -c3 ≤ c5 ∧ c5 < c3, (0 : Int) ≤ c5 ∧ c5.toNat < n, s < 2 ^ 41, (64 : Nat) < 2 ^ 41, (0 : Nat) < 1] (must [-c3 ≤ c8 ∧ c8 < c3] (leaf normal ([c7, int i64 c9, c4, int i64 (↑i : Int), c6, int i64 c8], [((2 : Nat), AObj.mk false true 3 1 fun j ↦ if (j == 0) = true then deN (oAdd (q, s) (k c5.toNat, (64 : Nat))) else rat q s), c2])))) (leaf (exit 2) ([c7, int i64 c9, c4, int i64 (↑i : Int), c6, int i64 c1], [((2 : Nat), AObj.mk false true 3 1 fun x ↦ rat q s), c2]))) := by kernel_rfl
theorem gr_t0 {n p i j s : Nat} {k : Nat → Rat} {q : Rat} : seeL T GGr [] 60 grL1 [part grX [1,1], part grY [1,1]] ⟨zipL grL2 (grV2 n k p i .nil (j + 1)), [(2, tP q s)], 3⟩ =
    let c3 : Int := (↑p : Int); let c2 : Int := (↑i : Int) + (1 : Int); let c1 : Int := (2 : Int) ^ 63; some (must [(0 : Nat) < 1, -c1 ≤ (1 : Int), (1 : Int) < c1, -c1 ≤ c3, c3 < c1, s < 2 ^ 41, (64 : Nat) < 2 ^ 41, (1 : Nat) * 3 ≤ 2 ^ 24, (0 : Nat) < 1 ∧ 1 * ((56 : Nat) + 1) * 2 ≤ 2 ^ 47] (must [-c1 ≤ c2 ∧ c2 < c1] (leaf normal ([tab 3 n fun i ↦ rat (k i) 64, int i64 c3, own 24579 3 0 1, int i64 c2], [((24579 : Nat), AObj.mk true true 3 1 fun i ↦ nth [rat (q * ((↑(1 : Int) : Rat) / (↑c3 : Rat))) (s + 64)] (rat 0 1) (i + 0))])))) := by kernel_rfl
theorem gr_tS {n p i j j' s : Nat} {k x : Nat → Rat} {q : Rat} : seeL T GGr [] 60 grL1 [part grX [1,1], part grY [1,1]] ⟨zipL grL2 (grV2 n k p i (.own 1 3 0 (j' + 1)) (j + 1)), [(2, tP q s), (1, rowS (j' + 1) x fun _ => 512)], 3⟩ =
    let c5 : Int := (↑p : Int); let c3 : Int := (↑i : Int) + (1 : Int); let c2 : Nat := j' + 1; let c1 : Int := (2 : Int) ^ 63; let c4 : Nat := c2 + 1; some (must [(0 : Nat) < 1, -c1 ≤ (1 : Int), (1 : Int) < c1, -c1 ≤ c5, c5 < c1, s < 2 ^ 41, (64 : Nat) < 2 ^ 41, (1 : Nat) * 3 ≤ 2 ^ 24, c4 * ((56 : Nat) + 1) * 2 ≤ 2 ^ 47] (must [-c1 ≤ c3 ∧ c3 < c1] (leaf normal ([tab 3 n fun i ↦ rat (k i) 64, int i64 c5, own 24579 3 0 c4, int i64 c3], [((24579 : Nat), AObj.mk true true 3 c4 fun i ↦ if i < c2 then rat (x i) 512 else nth [rat (q * ((↑(1 : Int) : Rat) / (↑c5 : Rat))) (s + 64)] (rat 0 1) (i - c2 + 0))])))) := by kernel_rfl
theorem gr_e {n p i j : Nat} {k x : Nat → Rat} : endL T GGr [] 60 fn_ref08_Greville [part grC [1,1,1]] ⟨zipL grL1 (grV1 n k p i (.own 1 3 0 (j + 1))), [(1, rowS (j + 1) x fun _ => 512)], 2⟩ =
    some (leaf ret [tab 3 (j + 1) fun i ↦ rat (x (i + 0)) 512]) := by kernel_rfl
theorem GGr_ok : GOK P GGr := gok_plain (gok_cons tPolh_ok (gok_cons s_eFrac_ok GE0_ok))
def grev (k : Nat → Rat) (p i : Nat) : Rat := kS k (i + 1) p * (((1 : Int) : Rat) / ((p : Int) : Rat))
def grS (j : Nat) : Nat := 1 + 65 * j
theorem hGr_ok {n p : Nat} {k : Nat → Rat} (hp1 : 1 ≤ p) (hp6 : p ≤ 6) (hn : n < 2 ^ 40) (hpn : p + 1 < n) (K : Nat) : FOK P ref08_Greville K [gk k n, .int .i64 p] [] (pres (lsA (grev k p) (n - p - 1) 512) []) := by
  refine fok_down (r := pres (lsA (grev k p) (n - p - 1) 512) []) hT is_hGr rfl (of_decide_eq_true (by kernel_rfl)) rfl (fun _ cx h0 => ?_) K []
  have hk := kept_nil h0
  have hSK : sK = 4096 := rfl
  obtain ⟨N, hN⟩ : ∃ N, N = n - p - 1 := ⟨_, rfl⟩
  rw [← hN]
  have w : (n : Int) - (p : Int) - 1 = (N : Int) := by omega
  let v : Nat → AV := fun i => match i with
    | 0 => .nil
    | _ + 1 => .own 1 3 0 i
  refine AWp.hloopW hT GGr_ok hm [1,1,0,1] (i := 0) (y := grY) (z := part grC [1,1,1]) (by kernel_rfl) (by kernel_rfl) (by kernel_rfl) is_hGr.dst hk (f1 := []) 60 grL1 2 (fun i : Nat => grV1 n k p i (v i)) (fun i => grO i (grev k p))
    (fun i => i ≤ N) (fun i => i = N) (fun i => N - i) (fun _ => False) ⟨_, gr_pre, 0, by omega, .vals rfl⟩ (fun i hi => ?_) (fun i hi => ?_) (fun _ _ h => h.elim)
  · have hal : allRat (fun i => rat (k i) 64) n sK := allRat_ls (by omega)
    have inner : ∀ {Q : AEx → AState → Prop} {zb : Code}, i < N → (∀ s', (∃ ρ, Le cx ρ s' ⟨zipL grL2 (grV2 n k p i (v i) (p + 1)), (2, tP (kS k (i + 1) p) (grS p)) :: grO i (grev k p), 3⟩) → AWpL P cx fn_ref08_Greville.ntmps [part grX [1,1]] s' Q) → AWp P cx fn_ref08_Greville.ntmps grX ⟨zipL grL1 (grV1 n k p i (v i)), grO i (grev k p), 2⟩ Q := fun {Q zb} hiN hq => by
      refine AWp.hloop0 hT GGr_ok hm (x := grX) [1,0,1] (i := 2) (y := part grX [1,0,1,0,0]) (by kernel_rfl) (by kernel_rfl) (by kernel_rfl) hk (f1 := []) (f2 := [18]) 60 grL2 3 (fun j : Nat => grV2 n k p i (v i) (j + 1)) (fun j => (2, tP (kS k (i + 1) j) (grS j)) :: grO i (grev k p)) (fun j => j ≤ p) (fun j => j = p) (fun j => p - j) (fun _ => False) ?_ (fun j hj => ?_) (fun j s' hj hle => ?_) (fun _ _ h => h.elim)
      · cases i with
        | zero => exact ⟨_, gr_i0, 0, by omega, [(2, 2)], rfl, rfl, rfl, objsQ_one (f := fun _ => rat 0 1) rfl rfl (avQ_eq rfl rfl) trivial⟩
        | succ i => exact ⟨_, gr_iS, 0, by omega, [(1, 1), (2, 2)], rfl, rfl, rfl, objsQ_one (f := fun _ => rat 0 1) rfl rfl (avQ_eq rfl rfl) (objsQ_cons rfl rfl rfl (fun i hi => avQ_eq rfl rfl) trivial)⟩
      · have e1 : ((i : Int) + ((j + 1 : Nat) : Int)).toNat = i + 1 + j := by omega
        have hg : grS j < 2 ^ 40 := by unfold grS; omega
        have val : avQ [(1, 1), (2, 2)] (rat (kS k (i + 1) j + k (i + 1 + j)) (grS j + 64 + 1)) (rat (kS k (i + 1) (j + 1)) (grS (j + 1))) := .inr ⟨rfl, avLe0_rat_up rfl (by unfold grS; omega)⟩
        have val0 : avQ [(2, 2)] (rat (kS k (i + 1) j + k (i + 1 + j)) (grS j + 64 + 1)) (rat (kS k (i + 1) (j + 1)) (grS (j + 1))) := .inr ⟨rfl, avLe0_rat_up rfl (by unfold grS; omega)⟩
        cases i with
        | zero =>
          refine ⟨_, gr_b0, ?_⟩
          simp only [ATree.all, allP, decide_eq_true_eq, decide_eq_false_iff_not, e1]
          exact ⟨fun h1 => ⟨by omega, by omega, j + 1, by omega, by dsimp only; omega, [(2, 2)], rfl, rfl, rfl, objsQ_one rfl rfl val0 trivial⟩, fun h1 => ⟨rfl, j, by omega, [(2, 2)], rfl, rfl, rfl, objsQ_one rfl rfl (avQ_eq rfl rfl) trivial⟩⟩
        | succ i =>
          refine ⟨_, gr_bS, ?_⟩
          simp only [ATree.all, allP, decide_eq_true_eq, decide_eq_false_iff_not, e1]
          exact ⟨fun h1 => ⟨by omega, by omega, j + 1, by omega, by dsimp only; omega, [(1, 1), (2, 2)], rfl, rfl, rfl, objsQ_one rfl rfl val (objsQ_cons rfl rfl rfl (fun i hi => avQ_eq rfl rfl) trivial)⟩, fun h1 => ⟨rfl, j, by omega, [(1, 1), (2, 2)], rfl, rfl, rfl, objsQ_one rfl rfl (avQ_eq rfl rfl) (objsQ_cons rfl rfl rfl (fun i hi => avQ_eq rfl rfl) trivial)⟩⟩
      · subst hj
        rw [show behind grX [1,0,1] = [part grX [1,1]] from by kernel_rfl]
        exact hq s' hle
    refine AWp.into hT GGr_ok hm (y := grY) (x1 := grX) (zb := part grY [1,1]) [1,0] (j := 1) (by kernel_rfl) (by kernel_rfl) (by kernel_rfl) (by kernel_rfl) hk (f1 := [13]) 60 grL1 2 (fun _ : Unit => grV1 n k p i (v i)) (fun _ => grO i (grev k p)) (fun _ => i < N) ?_ (fun _ hi' => inner (zb := part grY [1,1]) hi' fun s' hle => ?_)
    · cases i with
      | zero =>
        refine ⟨_, gr_o0, ?_⟩
        simp only [ATree.all, allP, decide_eq_true_eq, decide_eq_false_iff_not, w]
        exact ⟨⟨hal, hn, by omega, by omega⟩, fun h1 => ⟨(), by omega, .vals rfl⟩, fun h1 => by omega⟩
      | succ i =>
        refine ⟨_, gr_oS, ?_⟩
        simp only [ATree.all, allP, decide_eq_true_eq, decide_eq_false_iff_not, w]
        have re : ReOK [] ([tab 3 n fun i ↦ rat (k i) 64, int i64 p, own 1 3 0 (i + 1), int i64 ((i + 1 : Nat) : Int)], [((1 : Nat), AObj.mk true true 3 (i + 1) fun i ↦ rat (grev k p i) 512)]) (grV1 n k p (i + 1) (v (i + 1))) (grO (i + 1) (grev k p)) 2 :=
          ⟨[(1, 1)], rfl, rfl, rfl, objsQ_cons rfl rfl rfl (fun i hi => avQ_eq rfl rfl) trivial⟩
        exact ⟨⟨hal, hn, by omega, by omega⟩, fun h1 => ⟨(), by omega, re⟩, fun h1 s' hs' => ⟨rfl, i + 1, by omega, re.le hs' hk⟩⟩
    · refine AWpL.one (AWp.tail (fun s' hh => by have := hh.1; omega) (AWpL.weak rfl hle ?_))
      have hg : grS p + 64 ≤ 512 := by unfold grS; omega
      cases i with
      | zero =>
        refine AWpL.see hT GGr_ok hm 60 grL1 gr_t0 (by kernel_rfl) ?_
        simp only [ATree.all, allP]
        exact ⟨by omega, by omega, fun s' hs' => ⟨1, by omega, by dsimp only; omega, ReOK.le ⟨[(1, 24579)], rfl, rfl, rfl, objsQ_cons rfl rfl rfl (fun i hi => rowOne (y := grev k p) rfl hg hi) trivial⟩ hs' hk⟩⟩
      | succ i =>
        refine AWpL.see hT GGr_ok hm 60 grL1 gr_tS (by kernel_rfl) ?_
        simp only [ATree.all, allP]
        exact ⟨by omega, by omega, fun s' hs' => ⟨i + 2, by omega, by dsimp only; omega, ReOK.le ⟨[(1, 24579)], rfl, rfl, rfl, objsQ_cons rfl rfl rfl (fun i hi => rowAdd (y := grev k p) (fun _ _ => rfl) rfl (Nat.le_refl _) hg hi) trivial⟩ hs' hk⟩⟩
  · subst hi
    obtain ⟨j, rfl⟩ : ∃ j, i = j + 1 := ⟨i - 1, by omega⟩
    exact AWp.ofL ((AWpL.fin hT GGr_ok hm 60 gr_e (by kernel_rfl) (avLe0_tab fun _ _ => .refl _)).mono fun _ _ h => .inl h)
def s_hGr : Spec := spL (kC (kL 64) (kC kI kN)) (fun a => lsA (grev a.1.2 a.2.1.toNat) (a.1.1 - a.2.1.toNat - 1) 512) fun a => [1 ≤ a.2.1, a.2.1 ≤ 6, a.1.1 < 2 ^ 40, a.2.1 + 1 < a.1.1]
theorem s_hGr_ok : ∀ K args pre r, s_hGr K args pre = some r → FOK P ref08_Greville K args pre r := spL_ok fun ⟨⟨n, k⟩, p, _⟩ K hn => by
  obtain ⟨h1, h2, h3, h4⟩ := hn
  have h4 : p + 1 < n := h4
  simp only at h1 h2 h3
  have := hGr_ok (p := p.toNat) (k := k) (by omega) (by omega) h3 (by omega) K
  rw [Int.toNat_of_nonneg (by omega)] at this
  exact this
end Go.Am.B
