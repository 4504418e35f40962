/- brepkernelmade: Rat, Within; lists of numbers as arguments. -/
import Derived.Test.YtnocdkaonpdmjaaB43
import Derived.Test.YtnocdkaonpdmjaaY39
import Derived.Test.YtnocdkaonpdmjaaZ2
import Derived.Test.YtnocdkaonpdmjaaC4
import Derived.Test.YtnocdkaonpdmjaaD1
import Derived.Test.YtnocdkaonpdmjaaC2
set_option linter.unusedVariables false
namespace Go.Am.B
open Go Go.Am.N AV
theorem is_mWithin : FnIs P made_Within fn_made_Within (codeOf fn_made_Within) := fnIs get_made_Within (by kernel_rfl) (by kernel_rfl) (by kernel_rfl)
noncomputable def gWithin : Contracts := [(made_Within, aSpec T (sG :: (made_Part, s_mPart) :: tRef) [] 60 fn_made_Within)]
theorem gWithin_ok : GOK P gWithin := gok_cons (aSpec_ok hT (gok_strict (gok_cons s_mPart_ok tRef_ok)) hm is_mWithin _ _) gok_nil
def kL (s : Nat) : Kind (Nat × (Nat → Rat)) := ⟨fun v => match lsOf v with
  | some (n, f) => some ((n, fun i => ratV (f i)), [allRat f n s])
  | none => none, fun a => lsA a.2 a.1 s, fun {v a q} h hq => by
    split at h
    · rename_i h1
      simp only [Option.some.injEq, Prod.mk.injEq] at h
      obtain ⟨rfl, rfl⟩ := h
      exact lsOf_ok h1 hq
    · simp at h⟩
def kRs (s : Nat) : Kind Rat := ⟨fun v => match ratOf v with
  | some (q, n) => some (q, [n ≤ s])
  | none => none, fun a => .rat a s, fun {v a q} h hq => by
    split at h
    · rename_i h1
      simp only [Option.some.injEq, Prod.mk.injEq] at h
      obtain ⟨rfl, rfl⟩ := h
      exact (ratOf_ok h1).trans (avLe0_rat_more hq)
    · simp at h⟩
structure KindL (α : Type) where
  read : List AV → Option (α × List Prop)
  make : α → List AV
  ok : ∀ {l : List AV} {a : α} {q : List Prop}, read l = some (a, q) → allP q → avLes0 l (make a)
def kN : KindL Unit := ⟨fun l => match l with
  | [] => some ((), [])
  | _ => none, fun _ => [], fun {l a q} h _ => by
    split at h
    · trivial
    · simp at h⟩
def kC {α β : Type} (k : Kind α) (kl : KindL β) : KindL (α × β) := ⟨fun l => match l with
  | v :: l => match k.read v, kl.read l with
    | some (a, p), some (b, q) => some ((a, b), p ++ q)
    | _, _ => none
  | [] => none, fun a => k.make a.1 :: kl.make a.2, fun {l a q} h hq => by
    split at h
    · split at h
      · rename_i h1 h2
        simp only [Option.some.injEq, Prod.mk.injEq] at h
        obtain ⟨rfl, rfl⟩ := h
        obtain ⟨q1, q2⟩ := allP_append.1 hq
        exact ⟨k.ok h1 q1, kl.ok h2 q2⟩
      · simp at h
    · simp at h⟩
def spL {α : Type} (k : KindL α) (g : α → AV) (need : α → List Prop) : Spec := pureSpec fun l => match k.read l with
  | some (a, p) => some (pres (g a) (p ++ need a))
  | none => none
theorem spL_ok {α : Type} {f : FuncId} {k : KindL α} {g : α → AV} {need : α → List Prop} (h : ∀ a K, allP (need a) → FOK P f K (k.make a) [] (pres (g a) [])) : ∀ K args pre r, spL k g need K args pre = some r → FOK P f K args pre r := by
  refine pureSpec_ok fun K args r hk hs _ => ?_
  split at hs
  · rename_i h1
    simp only [Option.some.injEq] at hs
    subst hs
    intro hn
    obtain ⟨n1, hn⟩ := allP_append.1 hn
    exact fok_weak (h _ K hn) hk (k.ok h1 n1) [] trivial
  · simp at hs
end Go.Am.B

/- knots.Interval, ref08.Interval; numbers of poles. -/
namespace Go.Am.B
open Go Go.Am.N AV ATree AEx IntKind
theorem is_kIv : FnIs P knots_Interval fn_knots_Interval (codeOf fn_knots_Interval) := fnIs get_knots_Interval (by kernel_rfl) (by kernel_rfl) (by kernel_rfl)
def nRat : Contracts := nG :: tRat
def nRef : Contracts := nG :: tRef
abbrev sK : Nat := 4096
abbrev ls (k : Nat → Rat) (n : Nat) : AV := lsA k n sK
abbrev tP (t : Rat) (s : Nat) : AObj := ⟨false, true, 3, 1, fun _ => .rat t s⟩
abbrev ivL : List Nat := [0, 5, 8, 9, 6, 7]
abbrev ivV (n : Nat) (k : Nat → Rat) (l i : Nat) : List AV := [ls k n, .ptr 0 0 3 0 [], .int .i64 l, .int .i64 i, .int .i64 0, .int .i64 0]
noncomputable abbrev ivC : Code := codeOf fn_knots_Interval
theorem kiv_pre {n : Nat} {k : Nat → Rat} {p : Int} {t : Rat} : seeL T nRat [200013, 21, 31] 60 ivL (before ivC [1,1,1,0,1]) ⟨zipSlots 0 [ls k n, .int .i64 p, .rat t sK], [], 0⟩ =
    let c11 : Prop := ((↑n : Int) == (0 : Int)) = false; let c10 : Prop := 0 < 1; let c9 : AV := tab 3 n fun i ↦ rat (k i) 4096; let c8 : Nat := Int.toNat (0 : Int); let c7 : AV := ptr 0 0 (deN (rat t sK)).size 0 []; let c6 : AV := int i64 (0 : Int); let c5 : Nat × AObj := ((0 : Nat), AObj.mk false true (deN (rat t sK)).size 1 fun x ↦ rat t 4096); let c4 : Int := (↑n : Int) - (1 : Int); let c12 : Prop := (0 : Int) ≤ (0 : Int) ∧ c8 < n; let c3 : Bool := bif false then true else decide (cmpR t (k c8) < (0 : Int)); let c2 : ATree (List AV × Store) := leaf ret ([c9, c7, tuple [], tuple [], c6, int i64 (7 : Int)], [c5]); let c1 : ATree (List AV × Store) := leaf normal ([c9, c7, c6, c6, c6, c6], [c5]); some (fork c3 (must [c11, c10, c12, c3 = true] (fork true c2 c1)) (must [c11, c10, c12, c3 = false, c10, -(2 : Int) ^ 63 ≤ c4 ∧ c4 < (2 : Int) ^ 63, (0 : Int) ≤ c4 ∧ c4.toNat < n] (fork (bif false then true else decide (cmpR t (k c4.toNat) > (0 : Int))) c2 c1))) := by kernel_rfl
theorem kiv_b {n l i : Nat} {k : Nat → Rat} {t : Rat} : seeL T nRat [36, 49, 58] 60 ivL [part ivC [1,1,1,0,1,0,0]] ⟨zipL ivL (ivV n k l i), [(0, tP t sK)], 1⟩ =
    let c7 : Int := (↑i : Int); let c6 : List AV := [int i64 (0 : Int), int i64 (0 : Int)]; let c5 : AV := ptr 0 0 3 0 []; let c4 : AV := tab 3 n fun i ↦ rat (k i) 4096; let c2 : Nat × AObj := ((0 : Nat), AObj.mk false true 3 1 fun x ↦ rat t 4096); let c10 : AV := int i64 c7; let c1 : Int := c7 + (1 : Int); let c8 : Int := cmpR (k c7.toNat) (k c1.toNat); let c3 : Prop := -(2 : Int) ^ 63 ≤ c1 ∧ c1 < (2 : Int) ^ 63; let c9 : List Prop := [c3, (0 : Int) ≤ c1 ∧ c1.toNat < n]; some (must [c3] (fork (decide (c1 < (↑n : Int))) (must (((0 : Int) ≤ c7 ∧ c7.toNat < n) :: c9) (fork (decide (c8 ≥ (0 : Int))) (must [c3] (leaf normal (c4 :: c5 :: int i64 (↑l : Int) :: int i64 c1 :: c6, [c2]))) (must (((0 : Nat) < 1) :: c9) (fork (decide (cmpR t (k c1.toNat) < (0 : Int))) (leaf (exit 0) (c4 :: c5 :: c10 :: c10 :: c6, [c2])) (must [c3] (leaf normal (c4 :: c5 :: c10 :: int i64 c1 :: c6, [c2]))))))) (leaf (exit 0) (c4 :: c5 :: int i64 (↑l : Int) :: c10 :: c6, [c2])))) := by kernel_rfl
theorem kiv_e {n l i : Nat} {k : Nat → Rat} {t : Rat} : endL T nRat [] 60 fn_knots_Interval [part ivC [1,1,1,1]] ⟨zipL ivL (ivV n k l i), [(0, tP t sK)], 1⟩ =
    some (leaf ret [int i64 (↑l : Int), int i64 (0 : Int)]) := by kernel_rfl
abbrev hvV (n : Nat) (k : Nat → Rat) (i : Nat) : List AV := [ls k n, .ptr 0 0 3 0 [], .int .i64 i, .int .i64 0, .int .i64 0]
theorem nRat_ok : GOK P nRat := gok_plain tRat_ok
theorem nRef_ok : GOK P nRef := gok_plain tRef_ok
theorem ratV_rat {q : Rat} {n : Nat} : ratV (.rat q n) = q := rfl
theorem cmpR_ge {a b : Rat} : cmpR a b ≥ (0 : Int) ↔ b ≤ a := by
  have := @cmpR_lt a b
  constructor
  · intro h
    have : ¬ a < b := fun h' => by have := cmpR_lt.2 h'; omega
    grind
  · intro h
    have : ¬ cmpR a b < 0 := fun h' => by have := cmpR_lt.1 h'; grind
    omega
theorem rowAdd {rl : List (Nat × Nat)} {l i s s' s2 : Nat} {x y : Nat → Rat} {t : Rat} (hx : ∀ i, i < l → x i = y i) (ht : t = y l) (h1 : s ≤ s2) (h2 : s' ≤ s2) (hi : i < l + 1) : avQ rl (if i < l then .rat (x i) s else nth [.rat t s'] (.rat 0 1) (i - l + 0)) (.rat (y i) s2) := by
  by_cases h : i < l
  · rw [if_pos h, hx i h]; exact .inr ⟨rfl, avLe0_rat_up rfl h1⟩
  · have : i = l := by omega
    subst this
    rw [if_neg h, Nat.sub_self, ht]
    exact .inr ⟨rfl, avLe0_rat_up rfl h2⟩
def ivOut (n : Nat) (k : Nat → Rat) (t : Rat) : Prop := t < k 0 ∨ k (n - 1) < t
instance {n : Nat} {k : Nat → Rat} {t : Rat} : Decidable (ivOut n k t) := inferInstanceAs (Decidable (t < k 0 ∨ k (n - 1) < t))
def ivI (n : Nat) (k : Nat → Rat) (t : Rat) : Nat := if ivOut n k t then 0 else ivl n k t
def ivE (n : Nat) (k : Nat → Rat) (t : Rat) : Int := if ivOut n k t then 7 else 0
abbrev ivRes (n : Nat) (k : Nat → Rat) (t : Rat) : AV := .tuple [.int .i64 (ivI n k t), .int .i64 (ivE n k t)]
theorem ivRes_out {n : Nat} {k : Nat → Rat} {t : Rat} (h : ivOut n k t) : resOK [.int .i64 0, .int .i64 7] (ivRes n k t) :=
  ⟨avLe0_int (by unfold ivI; rw [if_pos h]; rfl), avLe0_int (by unfold ivE; rw [if_pos h]), trivial⟩
theorem ivRes_in {n i : Nat} {k : Nat → Rat} {t : Rat} (h : ¬ ivOut n k t) (hi : i = ivl n k t) : resOK [.int .i64 i, .int .i64 0] (ivRes n k t) :=
  ⟨avLe0_int (by unfold ivI; rw [if_neg h, hi]), avLe0_int (by unfold ivE; rw [if_neg h]), trivial⟩
abbrev lgK (k : Nat → Rat) (t : Rat) (i : Nat) : Nat := lastGood (fun i => decide (k i < k (i + 1)) && decide (k i ≤ t)) i
theorem lastGood_step {g : Nat → Bool} {m : Nat} : lastGood g (m + 1) = if g m then m else lastGood g m := rfl
theorem kIv_ok {n p0 : Nat} {k : Nat → Rat} {p : Int} {t : Rat} (h : Kn n p0 k) (hn : n < 2 ^ 40) (K : Nat) : FOK P knots_Interval K [ls k n, .int .i64 p, .rat t sK] [] (pres (ivRes n k t) []) := by
  have hp := h.p1
  have hl := h.len
  refine fok_loop (r := pres (ivRes n k t) []) hT nRat_ok hm is_kIv rfl (of_decide_eq_true (by kernel_rfl)) rfl [1,1,1,0,1] (i := 0) (y := part ivC [1,1,1,0,1,0,0]) (z := part ivC [1,1,1,1]) (by kernel_rfl) (by kernel_rfl) (by kernel_rfl) (f1 := [200013, 21, 31]) (f2 := [36, 49, 58]) (f3 := []) 60 ivL 1
    (fun a : Nat × Nat => ivV n k a.2 a.1) (fun _ => [(0, tP t sK)]) (fun a => a.1 + 1 ≤ n ∧ a.2 = lgK k t a.1 ∧ k a.1 ≤ t ∧ ¬ ivOut n k t) (fun a => a.2 = ivl n k t ∧ ¬ ivOut n k t) (fun a => n - a.1) (fun _ => ⟨⟨_, kiv_pre, ?_⟩, fun ⟨i, l⟩ ⟨h1, h2, h3, h4⟩ => ⟨_, kiv_b, ?_⟩, fun ⟨i, l⟩ ⟨h1, h2⟩ => ⟨_, kiv_e, ivRes_in h2 h1⟩⟩) K []
  · simp only [ATree.all, allP, decide_eq_true_eq, decide_eq_false_iff_not, cmpR_lt, cmpR_gt, cond_false, Int.toNat_zero, beq_eq_false_iff_ne, ne_eq, show ((n : Int) - 1).toNat = n - 1 by omega]
    (repeat' with_reducible first | refine And.intro ?_ ?_ | intro _)
    all_goals first | omega | assumption | skip
    · exact ⟨_, by kernel_rfl, ivRes_out (.inl ‹_›)⟩
    · exact absurd ‹true = false› (by decide)
    · exact ⟨_, by kernel_rfl, ivRes_out (.inr ‹_›)⟩
    · rename_i a b
      have hin : ¬ ivOut n k t := fun h => h.elim (fun h => a h) fun h => b h
      exact ⟨(0, 0), ⟨by omega, rfl, by show k 0 ≤ t; grind, hin⟩, [(0, 0)], rfl, rfl, rfl, objsQ_one rfl rfl (avQ_eq rfl rfl) trivial⟩
  · have hs : ∀ i, i + 1 < n → k i ≤ k (i + 1) := h.sorted
    simp only at h1 h2 h3
    simp only [ATree.all, allP, decide_eq_true_eq, decide_eq_false_iff_not, cmpR_lt, cmpR_ge, Int.toNat_natCast, show ((i : Int) + 1).toNat = i + 1 by omega]
    (repeat' with_reducible first | refine And.intro ?_ ?_ | intro _)
    all_goals first | omega | assumption | skip
    · rename_i hi hge
      have := hs i (by omega)
      have e : lgK k t (i + 1) = lgK k t i := by
        have : ¬ k i < k (i + 1) := by grind
        rw [lgK, lastGood_step, if_neg (by simp [this])]
      exact ⟨(i + 1, l), ⟨by omega, h2.trans e.symm, by show k (i + 1) ≤ t; grind, h4⟩, by dsimp only; omega, [(0, 0)], rfl, rfl, rfl, objsQ_one rfl rfl (avQ_eq rfl rfl) trivial⟩
    · rename_i hi hlt hb
      have : k i < k (i + 1) := by grind
      have hiv : ivl n k t = i := ivl_is ⟨⟨by omega, hs, this⟩, h3, by grind, .inl hb⟩
      exact ⟨rfl, (i, i), ⟨hiv.symm, h4⟩, [(0, 0)], rfl, rfl, rfl, objsQ_one rfl rfl (avQ_eq rfl rfl) trivial⟩
    · rename_i hi hlt hb
      have : k i < k (i + 1) := by grind
      have e : lgK k t (i + 1) = i := by
        rw [lgK, lastGood_step, if_pos (by simp [this, h3])]
      exact ⟨(i + 1, i), ⟨by omega, e.symm, by show k (i + 1) ≤ t; grind, h4⟩, by dsimp only; omega, [(0, 0)], rfl, rfl, rfl, objsQ_one rfl rfl (avQ_eq rfl rfl) trivial⟩
    · have hin : i = n - 1 := by omega
      subst hin
      exact ⟨rfl, (n - 1, l), ⟨h2, h4⟩, [(0, 0)], rfl, rfl, rfl, objsQ_one rfl rfl (avQ_eq rfl rfl) trivial⟩
abbrev kdR : KindL ((Nat × (Nat → Rat)) × Int × Rat × Unit) := kC (kL sK) (kC kI (kC (kRs sK) kN))
def s_kIv : Spec := spL kdR (fun a => ivRes a.1.1 a.1.2 a.2.2.1) fun a => [Kn a.1.1 a.2.1.toNat a.1.2, 0 ≤ a.2.1, a.1.1 < 2 ^ 40]
theorem s_kIv_ok : ∀ K args pre r, s_kIv K args pre = some r → FOK P knots_Interval K args pre r := spL_ok fun _ K hn => kIv_ok hn.1 hn.2.2 K
end Go.Am.B

/- basis.fraction, basis.Values. -/
namespace Go.Am.B
open Go Go.Am.N AV ATree AEx IntKind
def hfB (k : Nat → Rat) (i : Nat) (t : Rat) (d j : Nat) : Rat := if j = 0 then 0 else fr (k (i - d + (j - 1))) (k (i - d + (j - 1) + (d + 1))) t * vB k i t d (j - 1)
end Go.Am.B

/- basis.Sum; numbers of poles. -/
namespace Go.Am.B
open Go Go.Am.N AV ATree AEx IntKind
theorem is_kPo : FnIs P knots_Poles fn_knots_Poles (codeOf fn_knots_Poles) := fnIs get_knots_Poles (by kernel_rfl) (by kernel_rfl) (by kernel_rfl)
def tPol : Spec := spL (kC (kL sK) (kC kI kN)) (fun a => .int .i64 ((a.1.1 : Int) - a.2.1 - 1)) fun a => [a.1.1 < 2 ^ 40, -2 ^ 40 < a.2.1, a.2.1 < 2 ^ 40]
theorem kpo_end {n : Nat} {k : Nat → Rat} {p : Int} : funT T [nG] [] 60 fn_knots_Poles (codeOf fn_knots_Poles) ⟨zipSlots 0 [ls k n, .int .i64 p], [], 0⟩ =
    let c3 : Int := (↑n : Int) - p; let c1 : Int := (2 : Int) ^ 63; let c2 : Int := c3 - (1 : Int); some (must [-c1 ≤ c3 ∧ c3 < c1, -c1 ≤ c2 ∧ c2 < c1] (leaf ret [int i64 c2])) := by kernel_rfl
theorem tPolk_ok : ∀ K args pre r, tPol K args pre = some r → FOK P knots_Poles K args pre r := spL_ok fun ⟨⟨n, k⟩, p, _⟩ K hn => by
  obtain ⟨h1, h2, h3⟩ := hn
  have h3 : p < 2 ^ 40 := h3
  simp only at h1 h2
  refine fok_tree (r := pres (.int .i64 ((n : Int) - p - 1)) []) hT (gok_plain gok_nil) hm is_kPo rfl (of_decide_eq_true (by kernel_rfl)) rfl 60 kpo_end (fun _ => ?_) K []
  simp only [ATree.all, allP]
  exact ⟨by omega, .refl _⟩
abbrev sU : Nat := 4294967296
theorem Kn.iv_in {n p : Nat} {k : Nat → Rat} (h : Kn n p k) {t : Rat} (hin : ¬ ivOut n k t) : p ≤ ivl n k t ∧ ivl n k t + p + 1 < n := by
  have h1 : ¬ t < k 0 := fun h => hin (.inl h)
  have h2 : ¬ k (n - 1) < t := fun h => hin (.inr h)
  exact (h.ivl_ok (by grind) (by grind)).2
end Go.Am.B

/- ref09: part, function, Values. -/
namespace Go.Am.B
open Go Go.Am.N AV ATree AEx IntKind
end Go.Am.B

/- ref09.Sum; contracts of sums. -/
namespace Go.Am.B
open Go Go.Am.N AV ATree AEx IntKind
end Go.Am.B

/- basis.Blossom. -/
namespace Go.Am.B
open Go Go.Am.N AV ATree AEx IntKind
end Go.Am.B

/- ref09.Polar, ref09.Blossom; contracts of polar forms. -/
namespace Go.Am.B
open Go Go.Am.N AV ATree AEx IntKind
end Go.Am.B

/- ref02: SameList, Mid, Text; ref08.Greville. -/
namespace Go.Am.B
open Go Go.Am.N AV ATree AEx IntKind
theorem is_eSL : FnIs P ref02_SameList fn_ref02_SameList (codeOf fn_ref02_SameList) := fnIs get_ref02_SameList (by kernel_rfl) (by kernel_rfl) (by kernel_rfl)
theorem is_eText : FnIs P ref02_Text fn_ref02_Text (codeOf fn_ref02_Text) := fnIs get_ref02_Text (by kernel_rfl) (by kernel_rfl) (by kernel_rfl)
theorem is_fText : FnIs P ref01_Text fn_ref01_Text (codeOf fn_ref01_Text) := fnIs get_ref01_Text (by kernel_rfl) (by kernel_rfl) (by kernel_rfl)
abbrev slL : List Nat := [0, 1, 4, 5]
abbrev slV (n m : Nat) (f g : Nat → Rat) (i : Nat) : List AV := [lsA f n sU, lsA g m sU, .bool false, .int .i64 i]
noncomputable abbrev slC : Code := codeOf fn_ref02_SameList
theorem sl_pre {n m : Nat} {f g : Nat → Rat} : seeL T nRef [10] 60 slL (before slC [1,1,0,1]) ⟨zipSlots 0 [lsA f n sU, lsA g m sU], [], 0⟩ =
    let c2 : AV := tab 3 m fun i ↦ rat (g i) 4294967296; let c1 : AV := tab 3 n fun i ↦ rat (f i) 4294967296; some (fork ((↑n : Int) != (↑m : Int)) (leaf ret ([c1, c2, AV.bool false, tuple []], [])) (leaf normal ([c1, c2, AV.bool false, int i64 (0 : Int)], []))) := by kernel_rfl
theorem sl_b {n m i : Nat} {f g : Nat → Rat} : seeL T nRef [14, 26] 60 slL [part slC [1,1,0,1,0,0]] ⟨zipL slL (slV n m f g i), [], 0⟩ =
    let c4 : AV := tab 3 m fun i ↦ rat (g i) 4294967296; let c3 : AV := tab 3 n fun i ↦ rat (f i) 4294967296; let c2 : Int := (↑i : Int); let c5 : Int := c2 + (1 : Int); let c1 : List AV × Store := ([c3, c4, AV.bool false, int i64 c2], []); some (fork (decide (c2 < (↑n : Int))) (must [(0 : Int) ≤ c2 ∧ c2.toNat < n, (0 : Int) ≤ c2 ∧ c2.toNat < m] (fork (!decide (f c2.toNat = g c2.toNat)) (leaf ret c1) (must [-(2 : Int) ^ 63 ≤ c5 ∧ c5 < (2 : Int) ^ 63] (leaf normal ([c3, c4, AV.bool false, int i64 c5], []))))) (leaf (exit 0) c1)) := by kernel_rfl
theorem sl_e {n m i : Nat} {f g : Nat → Rat} : endL T nRef [] 60 fn_ref02_SameList [part slC [1,1,1]] ⟨zipL slL (slV n m f g i), [], 0⟩ =
    some (leaf ret [AV.bool true]) := by kernel_rfl
def sameL (n : Nat) (f : Nat → Rat) (m : Nat) (g : Nat → Rat) : Bool := decide (n = m ∧ ∀ i, i < n → f i = g i)
theorem eSL_ok {n m : Nat} {f g : Nat → Rat} (hn : n < 2 ^ 40) (hm2 : m < 2 ^ 40) (K : Nat) : FOK P ref02_SameList K [lsA f n sU, lsA g m sU] [] (pres (.bool (sameL n f m g)) []) := by
  refine fok_loop (r := pres (.bool (sameL n f m g)) []) hT nRef_ok hm is_eSL rfl (of_decide_eq_true (by kernel_rfl)) rfl [1,1,0,1] (i := 0) (y := part slC [1,1,0,1,0,0]) (z := part slC [1,1,1]) (by kernel_rfl) (by kernel_rfl) (by kernel_rfl) (f1 := [10]) (f2 := [14, 26]) (f3 := []) 60 slL 0
    (fun i : Nat => slV n m f g i) (fun _ => []) (fun i => i ≤ n ∧ n = m ∧ ∀ j, j < i → f j = g j) (fun i => i = n ∧ n = m ∧ ∀ j, j < i → f j = g j) (fun i => n - i) (fun _ => ⟨⟨_, sl_pre, ?_⟩, fun i ⟨h1, h2, h3⟩ => ⟨_, sl_b, ?_⟩, fun i ⟨h1, h2, h3⟩ => ⟨_, sl_e, ?_⟩⟩) K []
  · simp only [ATree.all, allP, bne_iff_ne, ne_eq, bne_eq_false_iff_eq]
    exact ⟨fun h => ⟨[.bool false], by kernel_rfl, avLe0_bool (decide_eq_false (fun hh => h (by omega))).symm⟩, fun h => ⟨0, ⟨by omega, by omega, fun j hj => by omega⟩, .vals rfl⟩⟩
  · simp only [ATree.all, allP, decide_eq_true_eq, decide_eq_false_iff_not, Bool.not_eq_true', Bool.not_eq_false', Int.toNat_natCast]
    (repeat' with_reducible first | refine And.intro ?_ ?_ | intro _)
    all_goals first | omega | skip
    · rename_i a b
      exact ⟨[.bool false], by kernel_rfl, avLe0_bool (decide_eq_false (fun hh => b (hh.2 i (by omega)))).symm⟩
    · rename_i a b
      refine ⟨i + 1, ⟨by omega, h2, fun j hj => ?_⟩, by dsimp only; omega, .vals rfl⟩
      by_cases hj2 : j = i
      · subst hj2; exact b
      · exact h3 j (by omega)
    · exact ⟨rfl, i, ⟨by omega, h2, h3⟩, .vals rfl⟩
  · subst h1
    exact avLe0_bool (decide_eq_true ⟨h2, h3⟩).symm
def s_eSL : Spec := spL (kC (kL sU) (kC (kL sU) kN)) (fun a => .bool (sameL a.1.1 a.1.2 a.2.1.1 a.2.1.2)) fun a => [a.1.1 < 2 ^ 40, a.2.1.1 < 2 ^ 40]
theorem s_eSL_ok : ∀ K args pre r, s_eSL K args pre = some r → FOK P ref02_SameList K args pre r := spL_ok fun _ K hn => eSL_ok hn.1 hn.2 K
abbrev gk (k : Nat → Rat) (n : Nat) : AV := lsA k n 64
def grev (k : Nat → Rat) (p i : Nat) : Rat := kS k (i + 1) p * (((1 : Int) : Rat) / ((p : Int) : Rat))
def grS (j : Nat) : Nat := 1 + 65 * j
def s_hGr : Spec := spL (kC (kL 64) (kC kI kN)) (fun a => lsA (grev a.1.2 a.2.1.toNat) (a.1.1 - a.2.1.toNat - 1) 512) fun a => [1 ≤ a.2.1, a.2.1 ≤ 6, a.1.1 < 2 ^ 40, a.2.1 + 1 < a.1.1]
end Go.Am.B
