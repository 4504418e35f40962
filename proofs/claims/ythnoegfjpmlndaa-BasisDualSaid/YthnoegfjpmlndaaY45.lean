/- brepkernelmade: Rat, Within; lists of numbers as arguments. -/
import Derived.Test.YthnoegfjpmlndaaB43
import Derived.Test.YthnoegfjpmlndaaY39
import Derived.Test.YthnoegfjpmlndaaZ2
import Derived.Test.YthnoegfjpmlndaaC4
import Derived.Test.YthnoegfjpmlndaaD1
import Derived.Test.YthnoegfjpmlndaaC2
import Derived.Test.YthnoegfjpmlndaaB33
set_option linter.unusedVariables false
namespace Go.Am.B
open Go Go.Am.N AV
theorem is_mRat : FnIs P made_Rat fn_made_Rat (codeOf fn_made_Rat) := fnIs get_made_Rat (by kernel_rfl) (by kernel_rfl) (by kernel_rfl)
theorem is_mWithin : FnIs P made_Within fn_made_Within (codeOf fn_made_Within) := fnIs get_made_Within (by kernel_rfl) (by kernel_rfl) (by kernel_rfl)
theorem mRat_end {x y : Int} : funT T GPart [] 60 fn_made_Rat (codeOf fn_made_Rat) ⟨zipSlots 0 [.int .i64 x, .int .i64 y], [], 0⟩ =
    some (ATree.must [(0 : Int) < (41 : Int), (41 : Int) < (2 : Int) ^ 62, (0 : Int) < (8 : Int), (8 : Int) < (2 : Int) ^ 62, -(2 : Int) ^ 63 ≤ IntKind.i64.wrap (x % (41 : Int) - (20 : Int)), IntKind.i64.wrap (x % (41 : Int) - (20 : Int)) < (2 : Int) ^ 63, -(2 : Int) ^ 63 ≤ IntKind.i64.wrap (y % (8 : Int) + (1 : Int)), IntKind.i64.wrap (y % (8 : Int) + (1 : Int)) < (2 : Int) ^ 63, (0 : Nat) < 1] (ATree.must [(0 : Nat) < 1] (ATree.leaf AEx.ret [rat ((↑(IntKind.i64.wrap (x % (41 : Int) - (20 : Int))) : Rat) / (↑(IntKind.i64.wrap (y % (8 : Int) + (1 : Int))) : Rat)) 64]))) := by kernel_rfl
def ratM (x y : Int) : Rat := ((x % 41 - 20 : Int) : Rat) / ((y % 8 + 1 : Int) : Rat)
def s_mRat : Spec := pureSpec fun l => match l with
  | [.int .i64 x, .int .i64 y] => some (pres (.rat (ratM x y) 64) [])
  | _ => none
theorem s_mRat_ok : ∀ K args pre r, s_mRat K args pre = some r → FOK P made_Rat K args pre r := by
  refine pureSpec_ok fun K args r hk hs _ => ?_
  split at hs
  · rename_i x y
    simp only [Option.some.injEq] at hs
    subst hs
    refine fok_tree hT (gok_cons s_mMod_ok (gok_cons s_eFrac_ok gok_nil)) hm is_mRat rfl (of_decide_eq_true (by kernel_rfl)) rfl 60 mRat_end (fun _ => ?_) K []
    unfold ratM
    have w1 := Int.emod_nonneg x (show (41 : Int) ≠ 0 by omega)
    have w2 := Int.emod_lt_of_pos x (show (0 : Int) < 41 by omega)
    have v1 := Int.emod_nonneg y (show (8 : Int) ≠ 0 by omega)
    have v2 := Int.emod_lt_of_pos y (show (0 : Int) < 8 by omega)
    generalize x % 41 = u at *
    generalize y % 8 = v at *
    have e1 : IntKind.i64.wrap (u - 20) = u - 20 := wrap_i64 (by omega) (by omega)
    have e2 : IntKind.i64.wrap (v + 1) = v + 1 := wrap_i64 (by omega) (by omega)
    rw [e1, e2]
    simp only [ATree.all, allP]
    exact ⟨⟨by omega, by omega, by omega, by omega, by omega, by omega, by omega, by omega⟩, by omega, .refl _⟩
  · simp at hs
noncomputable def gWithin : Contracts := [(made_Within, aSpec T (sG :: (made_Part, s_mPart) :: tRef) [] 60 fn_made_Within)]
theorem gWithin_ok : GOK P gWithin := gok_cons (aSpec_ok hT (gok_strict (gok_cons s_mPart_ok tRef_ok)) hm is_mWithin _ _) gok_nil
def kL (s : Nat) : Kind (Nat × (Nat → Rat)) := ⟨fun v => match lsOf v with
  | some (n, f) => some ((n, fun i => ratV (f i)), [allRat f n s])
  | none => none, fun a => lsA a.2 a.1 s, fun {v a q} h hq => by
    split at h
    · rename_i h1
      simp only [Option.some.injEq, Prod.mk.injEq] at h
      obtain ⟨rfl, rfl⟩ := h
      exact lsOf_ok h1 hq
    · simp at h⟩
def kRs (s : Nat) : Kind Rat := ⟨fun v => match ratOf v with
  | some (q, n) => some (q, [n ≤ s])
  | none => none, fun a => .rat a s, fun {v a q} h hq => by
    split at h
    · rename_i h1
      simp only [Option.some.injEq, Prod.mk.injEq] at h
      obtain ⟨rfl, rfl⟩ := h
      exact (ratOf_ok h1).trans (avLe0_rat_more hq)
    · simp at h⟩
structure KindL (α : Type) where
  read : List AV → Option (α × List Prop)
  make : α → List AV
  ok : ∀ {l : List AV} {a : α} {q : List Prop}, read l = some (a, q) → allP q → avLes0 l (make a)
def kN : KindL Unit := ⟨fun l => match l with
  | [] => some ((), [])
  | _ => none, fun _ => [], fun {l a q} h _ => by
    split at h
    · trivial
    · simp at h⟩
def kC {α β : Type} (k : Kind α) (kl : KindL β) : KindL (α × β) := ⟨fun l => match l with
  | v :: l => match k.read v, kl.read l with
    | some (a, p), some (b, q) => some ((a, b), p ++ q)
    | _, _ => none
  | [] => none, fun a => k.make a.1 :: kl.make a.2, fun {l a q} h hq => by
    split at h
    · split at h
      · rename_i h1 h2
        simp only [Option.some.injEq, Prod.mk.injEq] at h
        obtain ⟨rfl, rfl⟩ := h
        obtain ⟨q1, q2⟩ := allP_append.1 hq
        exact ⟨k.ok h1 q1, kl.ok h2 q2⟩
      · simp at h
    · simp at h⟩
def spL {α : Type} (k : KindL α) (g : α → AV) (need : α → List Prop) : Spec := pureSpec fun l => match k.read l with
  | some (a, p) => some (pres (g a) (p ++ need a))
  | none => none
theorem spL_ok {α : Type} {f : FuncId} {k : KindL α} {g : α → AV} {need : α → List Prop} (h : ∀ a K, allP (need a) → FOK P f K (k.make a) [] (pres (g a) [])) : ∀ K args pre r, spL k g need K args pre = some r → FOK P f K args pre r := by
  refine pureSpec_ok fun K args r hk hs _ => ?_
  split at hs
  · rename_i h1
    simp only [Option.some.injEq] at hs
    subst hs
    intro hn
    obtain ⟨n1, hn⟩ := allP_append.1 hn
    exact fok_weak (h _ K hn) hk (k.ok h1 n1) [] trivial
  · simp at hs
end Go.Am.B

/- knots.Interval, ref08.Interval; numbers of poles. -/
namespace Go.Am.B
open Go Go.Am.N AV ATree AEx IntKind
theorem is_kIv : FnIs P knots_Interval fn_knots_Interval (codeOf fn_knots_Interval) := fnIs get_knots_Interval (by kernel_rfl) (by kernel_rfl) (by kernel_rfl)
def nRat : Contracts := nG :: tRat
abbrev sK : Nat := 1048576
abbrev ls (k : Nat → Rat) (n : Nat) : AV := lsA k n sK
abbrev tP (t : Rat) (s : Nat) : AObj := ⟨false, true, 3, 1, fun _ => .rat t s⟩
abbrev ivL : List Nat := [0, 5, 8, 9, 6, 7]
abbrev ivV (n : Nat) (k : Nat → Rat) (l i : Nat) : List AV := [ls k n, .ptr 0 0 3 0 [], .int .i64 l, .int .i64 i, .int .i64 0, .int .i64 0]
noncomputable abbrev ivC : Code := codeOf fn_knots_Interval
theorem kiv_pre {n : Nat} {k : Nat → Rat} {p : Int} {t : Rat} : seeL T nRat [200013, 21, 31] 60 ivL (before ivC [1,1,1,0,1]) ⟨zipSlots 0 [ls k n, .int .i64 p, .rat t sK], [], 0⟩ =
    let c11 : Prop := ((↑n : Int) == (0 : Int)) = false; let c10 : Prop := 0 < 1; let c9 : AV := tab 3 n fun i ↦ rat (k i) 1048576; let c8 : Nat := Int.toNat (0 : Int); let c7 : AV := ptr 0 0 (deN (rat t sK)).size 0 []; let c6 : AV := int i64 (0 : Int); let c5 : Nat × AObj := ((0 : Nat), AObj.mk false true (deN (rat t sK)).size 1 fun x ↦ rat t 1048576); let c4 : Int := (↑n : Int) - (1 : Int); let c12 : Prop := (0 : Int) ≤ (0 : Int) ∧ c8 < n; let c3 : Bool := bif false then true else decide (cmpR t (k c8) < (0 : Int)); let c2 : ATree (List AV × Store) := leaf ret ([c9, c7, tuple [], tuple [], c6, int i64 (7 : Int)], [c5]); let c1 : ATree (List AV × Store) := leaf normal ([c9, c7, c6, c6, c6, c6], [c5]); some (fork c3 (must [c11, c10, c12, c3 = true] (fork true c2 c1)) (must [c11, c10, c12, c3 = false, c10, -(2 : Int) ^ 63 ≤ c4 ∧ c4 < (2 : Int) ^ 63, (0 : Int) ≤ c4 ∧ c4.toNat < n] (fork (bif false then true else decide (cmpR t (k c4.toNat) > (0 : Int))) c2 c1))) := by kernel_rfl
theorem kiv_b {n l i : Nat} {k : Nat → Rat} {t : Rat} : seeL T nRat [36, 49, 58] 60 ivL [part ivC [1,1,1,0,1,0,0]] ⟨zipL ivL (ivV n k l i), [(0, tP t sK)], 1⟩ =
    let c7 : Int := (↑i : Int); let c6 : List AV := [int i64 (0 : Int), int i64 (0 : Int)]; let c5 : AV := ptr 0 0 3 0 []; let c4 : AV := tab 3 n fun i ↦ rat (k i) 1048576; let c2 : Nat × AObj := ((0 : Nat), AObj.mk false true 3 1 fun x ↦ rat t 1048576); let c10 : AV := int i64 c7; let c1 : Int := c7 + (1 : Int); let c8 : Int := cmpR (k c7.toNat) (k c1.toNat); let c3 : Prop := -(2 : Int) ^ 63 ≤ c1 ∧ c1 < (2 : Int) ^ 63; let c9 : List Prop := [c3, (0 : Int) ≤ c1 ∧ c1.toNat < n]; some (must [c3] (fork (decide (c1 < (↑n : Int))) (must (((0 : Int) ≤ c7 ∧ c7.toNat < n) :: c9) (fork (decide (c8 ≥ (0 : Int))) (must [c3] (leaf normal (c4 :: c5 :: int i64 (↑l : Int) :: int i64 c1 :: c6, [c2]))) (must (((0 : Nat) < 1) :: c9) (fork (decide (cmpR t (k c1.toNat) < (0 : Int))) (leaf (exit 0) (c4 :: c5 :: c10 :: c10 :: c6, [c2])) (must [c3] (leaf normal (c4 :: c5 :: c10 :: int i64 c1 :: c6, [c2]))))))) (leaf (exit 0) (c4 :: c5 :: int i64 (↑l : Int) :: c10 :: c6, [c2])))) := by kernel_rfl
theorem kiv_e {n l i : Nat} {k : Nat → Rat} {t : Rat} : endL T nRat [] 60 fn_knots_Interval [part ivC [1,1,1,1]] ⟨zipL ivL (ivV n k l i), [(0, tP t sK)], 1⟩ =
    some (leaf ret [int i64 (↑l : Int), int i64 (0 : Int)]) := by kernel_rfl
abbrev hvV (n : Nat) (k : Nat → Rat) (i : Nat) : List AV := [ls k n, .ptr 0 0 3 0 [], .int .i64 i, .int .i64 0, .int .i64 0]
theorem nRat_ok : GOK P nRat := gok_plain tRat_ok
theorem ratV_rat {q : Rat} {n : Nat} : ratV (.rat q n) = q := rfl
theorem bits1 : max 1 (bitsN (Int.natAbs 1)) = 1 := by decide
theorem cmpR_ge {a b : Rat} : cmpR a b ≥ (0 : Int) ↔ b ≤ a := by
  have := @cmpR_lt a b
  constructor
  · intro h
    have : ¬ a < b := fun h' => by have := cmpR_lt.2 h'; omega
    grind
  · intro h
    have : ¬ cmpR a b < 0 := fun h' => by have := cmpR_lt.1 h'; grind
    omega
theorem rowAdd {rl : List (Nat × Nat)} {l i s s' s2 : Nat} {x y : Nat → Rat} {t : Rat} (hx : ∀ i, i < l → x i = y i) (ht : t = y l) (h1 : s ≤ s2) (h2 : s' ≤ s2) (hi : i < l + 1) : avQ rl (if i < l then .rat (x i) s else nth [.rat t s'] (.rat 0 1) (i - l + 0)) (.rat (y i) s2) := by
  by_cases h : i < l
  · rw [if_pos h, hx i h]; exact .inr ⟨rfl, avLe0_rat_up rfl h1⟩
  · have : i = l := by omega
    subst this
    rw [if_neg h, Nat.sub_self, ht]
    exact .inr ⟨rfl, avLe0_rat_up rfl h2⟩
theorem rowOne {rl : List (Nat × Nat)} {i s' s2 : Nat} {y : Nat → Rat} {t : Rat} (ht : t = y 0) (h2 : s' ≤ s2) (hi : i < 1) : avQ rl (nth [.rat t s'] (.rat 0 1) (i + 0)) (.rat (y i) s2) := by
  have : i = 0 := by omega
  subst this
  rw [ht]
  exact .inr ⟨rfl, avLe0_rat_up rfl h2⟩
def ivOut (n : Nat) (k : Nat → Rat) (t : Rat) : Prop := t < k 0 ∨ k (n - 1) < t
instance {n : Nat} {k : Nat → Rat} {t : Rat} : Decidable (ivOut n k t) := inferInstanceAs (Decidable (t < k 0 ∨ k (n - 1) < t))
def ivI (n : Nat) (k : Nat → Rat) (t : Rat) : Nat := if ivOut n k t then 0 else ivl n k t
def ivE (n : Nat) (k : Nat → Rat) (t : Rat) : Int := if ivOut n k t then 7 else 0
abbrev ivRes (n : Nat) (k : Nat → Rat) (t : Rat) : AV := .tuple [.int .i64 (ivI n k t), .int .i64 (ivE n k t)]
theorem ivRes_out {n : Nat} {k : Nat → Rat} {t : Rat} (h : ivOut n k t) : resOK [.int .i64 0, .int .i64 7] (ivRes n k t) :=
  ⟨avLe0_int (by unfold ivI; rw [if_pos h]; rfl), avLe0_int (by unfold ivE; rw [if_pos h]), trivial⟩
theorem ivRes_in {n i : Nat} {k : Nat → Rat} {t : Rat} (h : ¬ ivOut n k t) (hi : i = ivl n k t) : resOK [.int .i64 i, .int .i64 0] (ivRes n k t) :=
  ⟨avLe0_int (by unfold ivI; rw [if_neg h, hi]), avLe0_int (by unfold ivE; rw [if_neg h]), trivial⟩
abbrev lgK (k : Nat → Rat) (t : Rat) (i : Nat) : Nat := lastGood (fun i => decide (k i < k (i + 1)) && decide (k i ≤ t)) i
theorem lastGood_step {g : Nat → Bool} {m : Nat} : lastGood g (m + 1) = if g m then m else lastGood g m := rfl
theorem kIv_ok {n p0 : Nat} {k : Nat → Rat} {p : Int} {t : Rat} (h : Kn n p0 k) (hn : n < 2 ^ 40) (K : Nat) : FOK P knots_Interval K [ls k n, .int .i64 p, .rat t sK] [] (pres (ivRes n k t) []) := by
  have hp := h.p1
  have hl := h.len
  refine fok_loop (r := pres (ivRes n k t) []) hT nRat_ok hm is_kIv rfl (of_decide_eq_true (by kernel_rfl)) rfl [1,1,1,0,1] (i := 0) (y := part ivC [1,1,1,0,1,0,0]) (z := part ivC [1,1,1,1]) (by kernel_rfl) (by kernel_rfl) (by kernel_rfl) (f1 := [200013, 21, 31]) (f2 := [36, 49, 58]) (f3 := []) 60 ivL 1
    (fun a : Nat × Nat => ivV n k a.2 a.1) (fun _ => [(0, tP t sK)]) (fun a => a.1 + 1 ≤ n ∧ a.2 = lgK k t a.1 ∧ k a.1 ≤ t ∧ ¬ ivOut n k t) (fun a => a.2 = ivl n k t ∧ ¬ ivOut n k t) (fun a => n - a.1) (fun _ => ⟨⟨_, kiv_pre, ?_⟩, fun ⟨i, l⟩ ⟨h1, h2, h3, h4⟩ => ⟨_, kiv_b, ?_⟩, fun ⟨i, l⟩ ⟨h1, h2⟩ => ⟨_, kiv_e, ivRes_in h2 h1⟩⟩) K []
  · simp only [ATree.all, allP, decide_eq_true_eq, decide_eq_false_iff_not, cmpR_lt, cmpR_gt, cond_false, Int.toNat_zero, beq_eq_false_iff_ne, ne_eq, show ((n : Int) - 1).toNat = n - 1 by omega]
    (repeat' with_reducible first | refine And.intro ?_ ?_ | intro _)
    all_goals first | omega | assumption | skip
    · exact ⟨_, by kernel_rfl, ivRes_out (.inl ‹_›)⟩
    · exact absurd ‹true = false› (by decide)
    · exact ⟨_, by kernel_rfl, ivRes_out (.inr ‹_›)⟩
    · rename_i a b
      have hin : ¬ ivOut n k t := fun h => h.elim (fun h => a h) fun h => b h
      exact ⟨(0, 0), ⟨by omega, rfl, by show k 0 ≤ t; grind, hin⟩, [(0, 0)], rfl, rfl, rfl, objsQ_one rfl rfl (avQ_eq rfl rfl) trivial⟩
  · have hs : ∀ i, i + 1 < n → k i ≤ k (i + 1) := h.sorted
    simp only at h1 h2 h3
    simp only [ATree.all, allP, decide_eq_true_eq, decide_eq_false_iff_not, cmpR_lt, cmpR_ge, Int.toNat_natCast, show ((i : Int) + 1).toNat = i + 1 by omega]
    (repeat' with_reducible first | refine And.intro ?_ ?_ | intro _)
    all_goals first | omega | assumption | skip
    · rename_i hi hge
      have := hs i (by omega)
      have e : lgK k t (i + 1) = lgK k t i := by
        have : ¬ k i < k (i + 1) := by grind
        rw [lgK, lastGood_step, if_neg (by simp [this])]
      exact ⟨(i + 1, l), ⟨by omega, h2.trans e.symm, by show k (i + 1) ≤ t; grind, h4⟩, by dsimp only; omega, [(0, 0)], rfl, rfl, rfl, objsQ_one rfl rfl (avQ_eq rfl rfl) trivial⟩
    · rename_i hi hlt hb
      have : k i < k (i + 1) := by grind
      have hiv : ivl n k t = i := ivl_is ⟨⟨by omega, hs, this⟩, h3, by grind, .inl hb⟩
      exact ⟨rfl, (i, i), ⟨hiv.symm, h4⟩, [(0, 0)], rfl, rfl, rfl, objsQ_one rfl rfl (avQ_eq rfl rfl) trivial⟩
    · rename_i hi hlt hb
      have : k i < k (i + 1) := by grind
      have e : lgK k t (i + 1) = i := by
        rw [lgK, lastGood_step, if_pos (by simp [this, h3])]
      exact ⟨(i + 1, i), ⟨by omega, e.symm, by show k (i + 1) ≤ t; grind, h4⟩, by dsimp only; omega, [(0, 0)], rfl, rfl, rfl, objsQ_one rfl rfl (avQ_eq rfl rfl) trivial⟩
    · have hin : i = n - 1 := by omega
      subst hin
      exact ⟨rfl, (n - 1, l), ⟨h2, h4⟩, [(0, 0)], rfl, rfl, rfl, objsQ_one rfl rfl (avQ_eq rfl rfl) trivial⟩
abbrev kdR : KindL ((Nat × (Nat → Rat)) × Int × Rat × Unit) := kC (kL sK) (kC kI (kC (kRs sK) kN))
def s_kIv : Spec := spL kdR (fun a => ivRes a.1.1 a.1.2 a.2.2.1) fun a => [Kn a.1.1 a.2.1.toNat a.1.2, 0 ≤ a.2.1, a.1.1 < 2 ^ 40]
theorem s_kIv_ok : ∀ K args pre r, s_kIv K args pre = some r → FOK P knots_Interval K args pre r := spL_ok fun _ K hn => kIv_ok hn.1 hn.2.2 K
end Go.Am.B

/- basis.fraction, basis.Values. -/
namespace Go.Am.B
open Go Go.Am.N AV ATree AEx IntKind
theorem is_bFr : FnIs P basis_fraction fn_basis_fraction (codeOf fn_basis_fraction) := fnIs get_basis_fraction (by kernel_rfl) (by kernel_rfl) (by kernel_rfl)
theorem is_bVa : FnIs P basis_Values fn_basis_Values (codeOf fn_basis_Values) := fnIs get_basis_Values (by kernel_rfl) (by kernel_rfl) (by kernel_rfl)
def GFr : Contracts := (rational_Quo, sp2 kR kR oQuo rNeed) :: GR0
theorem bfr_end {a b t : Rat} {n : Nat} : funT T GFr [] 60 fn_basis_fraction (codeOf fn_basis_fraction) ⟨zipSlots 0 [.rat a n, .rat b n, .rat t n], [], 0⟩ =
    let c3 : Nat := n + n + 1; let c2 : Nat := 2 ^ 42; let c1 : Prop := 0 < 1; some (must [c1, c1, n < c2, n < c2, c1, c1, n < c2, n < c2, c3 < c2, c3 < c2, c1] (must [c1, c1] (must [c1] (leaf ret [rat ((t - a) / (b - a)) (c3 + c3)])))) := by kernel_rfl
abbrev sF : Nat := 4194306
def s_bFr : Spec := spL (kC (kRs sK) (kC (kRs sK) (kC (kRs sK) kN))) (fun a => .rat (fr a.1 a.2.1 a.2.2.1) sF) fun _ => []
theorem GFr_ok : GOK P GFr := gok_cons (sp2_ok fun _ _ K hn => rQuo_ok hn.1 hn.2 K) GR0_ok
theorem s_bFr_ok : ∀ K args pre r, s_bFr K args pre = some r → FOK P basis_fraction K args pre r := spL_ok fun ⟨a, b, t, _⟩ K _ => by
  refine fok_tree (r := pres (.rat (fr a b t) sF) []) hT GFr_ok hm is_bFr rfl (of_decide_eq_true (by kernel_rfl)) rfl 60 bfr_end (fun _ => ?_) K []
  simp only [ATree.all, allP]
  have h1 : sK = 1048576 := rfl
  (repeat' with_reducible refine And.intro ?_ ?_)
  all_goals first | omega | exact (avLe0_rat_up rfl (show sK + sK + 1 + (sK + sK + 1) ≤ sF by decide))
def GVa : Contracts := nG :: (knots_Interval, s_kIv) :: (basis_fraction, s_bFr) :: (rational_Int, tInt) :: GR0
def SB (d : Nat) : Nat := 16777216 * 4 ^ d
abbrev HB (d : Nat) : Nat := 1 + (sF + SB d) + 1
abbrev vaL1 : List Nat := [0, 1, 5, 9, 11, 12, 6, 7, 8]
abbrev vaV1 (n : Nat) (k : Nat → Rat) (p i d : Nat) : List AV := [ls k n, .int .i64 p, .ptr 0 0 3 0 [], .int .i64 i, .own 2 3 0 (d + 1), .int .i64 ((d + 1 : Nat) : Int), .int .i64 0, .nil, .int .i64 0]
abbrev rowS (m : Nat) (x : Nat → Rat) (s : Nat → Nat) : AObj := ⟨true, true, 3, m, fun i => .rat (x i) (s i)⟩
noncomputable abbrev vaC : Code := codeOf fn_basis_Values
noncomputable abbrev vaY : Code := part vaC [1,1,1,1,1,0,1,0,0]
noncomputable abbrev vaX : Code := part vaY [1,0,0]
abbrev vaL2 : List Nat := [0, 1, 5, 9, 12, 13, 54, 55, 56, 6, 7, 8]
abbrev vaV2 (n : Nat) (k : Nat → Rat) (p i d j : Nat) : List AV := [ls k n, .int .i64 p, .ptr 0 0 3 0 [], .int .i64 i, .int .i64 ((d + 1 : Nat) : Int), .own 3 3 0 (d + 2), .own 2 3 0 (d + 1), .int .i64 ((d + 1 : Nat) : Int), .int .i64 j, .int .i64 0, .nil, .int .i64 0]
theorem va_pre {n p : Nat} {k : Nat → Rat} {t : Rat} : seeL T GVa [26, 30, 36, 43] 60 vaL1 (before vaC [1,1,1,1,1,0,1]) ⟨zipSlots 0 [ls k n, .int .i64 p, .rat t sK], [], 0⟩ =
    let c13 : Int := ivE n (fun i ↦ ratV (rat (k i) sK)) t; let c12 : AV := int i64 (0 : Int); let c9 : AV := tab 3 n fun i ↦ rat (k i) 1048576; let c7 : AV := ptr 0 0 (deN (rat t sK)).size 0 []; let c6 : Int := (2 : Int) ^ 63; let c5 : Nat × AObj := ((0 : Nat), AObj.mk false true (deN (rat t sK)).size 1 fun x ↦ rat t 1048576); let c4 : Int := (↑p : Int); let c3 : Int := (↑(ivI n (fun i ↦ ratV (rat (k i) sK)) t) : Int); let c15 : Prop := -c6 ≤ c3 - c4 ∧ c3 - c4 < c6; let c14 : Prop := -c6 ≤ c3 + c4 ∧ c3 + c4 < c6; let c11 : Bool := bif false then true else decide (c3 + c4 ≥ (↑n : Int)); let c10 : Bool := decide (c4 < (0 : Int)); let c8 : Bool := bif false then true else decide (c3 - c4 < (0 : Int)); let c2 : ATree (List AV × Store) := leaf ret ([c9, int i64 c4, c7, int i64 c3, tuple [], tuple [], c12, nil, int i64 (7 : Int)], [c5]); let c1 : ATree (List AV × Store) := must [(1 : Nat) * 3 ≤ 2 ^ 24] (leaf normal ([c9, int i64 c4, c7, int i64 c3, own 131072 3 0 1, int i64 (1 : Int), c12, nil, c12], [((131072 : Nat), AObj.mk true true 3 1 fun i ↦ nth [rat (↑(1 : Int) : Rat) (Max.max 1 (bitsN (Int.natAbs (1 : Int))))] (rat 0 1) i), c5])); some (must [(0 : Nat) < 1, allRat (fun i ↦ rat (k i) sK) n sK, sK ≤ sK, Kn n c4.toNat fun i ↦ ratV (rat (k i) sK), (0 : Int) ≤ c4, n < 2 ^ 40] (fork (c13 != (0 : Int)) (leaf ret ([c9, int i64 c4, c7, int i64 c3, tuple [], tuple [], c12, nil, int i64 c13], [c5])) (fork false (fork true (must [c10 = true, true = true] (fork true c2 c1)) (must [c10 = true, true = false, c14] (fork c11 c2 c1))) (fork c8 (must [c10 = false, c15, c8 = true] (fork true c2 c1)) (must [c10 = false, c15, c8 = false, c14] (fork c11 c2 c1)))))) := by kernel_rfl
theorem va_o {n p i d : Nat} {k x : Nat → Rat} {t : Rat} : seeL T GVa [48] 60 vaL1 (before vaY [1,0]) ⟨zipL vaL1 (vaV1 n k p i d), [(2, rowS (d + 1) x fun _ => SB d), (0, tP t sK)], 3⟩ =
    let c2 : Int := (↑(d + 1) : Int); let c1 : List AV × Store := ([tab 3 n fun i ↦ rat (k i) 1048576, int i64 (↑p : Int), ptr 0 0 3 0 [], int i64 (↑i : Int), own 2 3 0 (d + 1), int i64 c2, int i64 (0 : Int), nil, int i64 (0 : Int)], [((2 : Nat), AObj.mk true true 3 (d + 1) fun i ↦ rat (x i) (SB d)), ((0 : Nat), AObj.mk false true 3 1 fun x ↦ rat t 1048576)]); some (fork (decide (c2 ≤ (↑p : Int))) (leaf normal c1) (leaf (exit 0) c1)) := by kernel_rfl
theorem va_i {n p i d : Nat} {k x : Nat → Rat} {t : Rat} : seeL T GVa [] 60 vaL2 (before vaX [1,0,1]) ⟨zipL vaL1 (vaV1 n k p i d), [(2, rowS (d + 1) x fun _ => SB d), (0, tP t sK)], 3⟩ =
    let c3 : AV := int i64 (0 : Int); let c2 : Int := (↑(d + 1) : Int); let c1 : Int := c2 + (1 : Int); some (must [-(2 : Int) ^ 63 ≤ c1 ∧ c1 < (2 : Int) ^ 63, (0 : Int) ≤ c1 ∧ c1 ≤ c1 ∧ c1 ≤ (2 : Int) ^ 47 ∧ c1 * (↑(56 : Nat) : Int) ≤ (2 : Int) ^ 47] (leaf normal ([tab 3 n fun i ↦ rat (k i) 1048576, int i64 (↑p : Int), ptr 0 0 3 0 [], int i64 (↑i : Int), int i64 c2, own 8195 3 0 c1.toNat, own 2 3 0 (d + 1), int i64 c2, c3, c3, nil, c3], [((2 : Nat), AObj.mk true true 3 (d + 1) fun i ↦ rat (x i) (SB d)), ((8195 : Nat), AObj.mk true true 3 c1.toNat fun x ↦ rat 0 1), ((0 : Nat), AObj.mk false true 3 1 fun x ↦ rat t 1048576)]))) := by kernel_rfl
theorem va_b {n p i d j : Nat} {k x y : Nat → Rat} {s : Nat → Nat} {t : Rat} : seeL T GVa [57] 60 vaL2 [part vaX [1,0,1,0,0]] ⟨zipL vaL2 (vaV2 n k p i d j), [(3, rowS (d + 2) y s), (2, rowS (d + 1) x fun _ => SB d), (0, tP t sK)], 4⟩ =
    let c20 : AV := int i64 (0 : Int); let c19 : AV := ptr 0 0 3 0 []; let c18 : AV := tab 3 n fun i ↦ rat (k i) 1048576; let c16 : Nat := d + 1; let c13 : Nat × AObj := ((0 : Nat), AObj.mk false true 3 1 fun x ↦ rat t 1048576); let c11 : Int := (↑j : Int); let c10 : Prop := 0 < 1; let c9 : Nat := d + 2; let c8 : Nat := Max.max 1 (bitsN (Int.natAbs (1 : Int))); let c7 : Nat := 2 ^ 42; let c5 : Int := (2 : Int) ^ 63; let c25 : Prop := (0 : Int) ≤ c11 ∧ c11.toNat < c9; let c23 : Nat := c8 + sF + 1; let c22 : AV := own 3 3 0 c9; let c21 : AV := own 2 3 0 c16; let c12 : Nat × AObj := ((2 : Nat), AObj.mk true true 3 c16 fun i ↦ rat (x i) (SB d)); let c6 : Int := c11 + (1 : Int); let c4 : Nat := c11.toNat + 0; let c3 : Int := (↑c16 : Int); let c29 : AV := int i64 c3; let c27 : Prop := (0 : Int) ≤ c6 ∧ c6.toNat < c9; let c24 : Prop := -c5 ≤ c6 ∧ c6 < c5; let c17 : Int := (↑i : Int) - c3; let c2 : Nat := c6.toNat + 0; let c28 : Int := c17 + (1 : Int); let c26 : Nat := s c2 + (sF + SB d) + 1; let c15 : Nat := bif c4 == c2 then c26 else s c4; let c1 : Int := c28 + c11; let c14 : Rat := fr (k c1.toNat) (k (c1 + c3).toNat) t; some (fork (decide (c11 < c3)) (must [(0 : Int) ≤ c11 ∧ c11.toNat < c16, c4 < c16, c10] (must [-c5 ≤ c17 ∧ c17 < c5, -c5 ≤ c28 ∧ c28 < c5, -c5 ≤ c1 ∧ c1 < c5] (must [(0 : Int) ≤ c1 ∧ c1.toNat < n, -c5 ≤ c1 + c3 ∧ c1 + c3 < c5, (0 : Int) ≤ c1 + c3 ∧ (c1 + c3).toNat < n, c10, sK ≤ sK, sK ≤ sK, sK ≤ sK, c10] (must [c24, c24, c27, c2 < c9, c10, c10, sF < c7, SB d < c7, s c2 < c7, sF + SB d < c7, c27, c2 < c9] (must [c25, c4 < c9, c10, c8 < c7, sF < c7, c10, c23 < c7, SB d < c7, c15 < c7, c23 + SB d < c7, c25, c4 < c9] (must [c24] (leaf normal ([c18, int i64 (↑p : Int), c19, int i64 (↑i : Int), c29, c22, c21, c29, int i64 c6, c20, nil, c20], [c12, ((3 : Nat), AObj.mk true true 3 c9 fun j ↦ rat (bif j == c4 then (bif c4 == c2 then y c2 + c14 * x c4 else y c4) + ((↑(1 : Int) : Rat) - c14) * x c4 else bif j == c2 then y c2 + c14 * x c4 else y j) (bif j == c4 then c15 + (c23 + SB d) + 1 else bif j == c2 then c26 else s j)), c13])))))))) (leaf (exit 2) ([c18, int i64 (↑p : Int), c19, int i64 (↑i : Int), c29, c22, c21, c29, int i64 c11, c20, nil, c20], [c12, ((3 : Nat), AObj.mk true true 3 c9 fun i ↦ rat (y i) (s i)), c13]))) := by kernel_rfl
theorem va_t {n p i d j : Nat} {k x y : Nat → Rat} {s : Nat → Nat} {t : Rat} : seeL T GVa [] 60 vaL1 [part vaX [1,1], part vaY [1,1]] ⟨zipL vaL2 (vaV2 n k p i d j), [(3, rowS (d + 2) y s), (2, rowS (d + 1) x fun _ => SB d), (0, tP t sK)], 4⟩ =
    let c1 : Int := (↑(d + 1) : Int) + (1 : Int); some (must [-(2 : Int) ^ 63 ≤ c1 ∧ c1 < (2 : Int) ^ 63] (leaf normal ([tab 3 n fun i ↦ rat (k i) 1048576, int i64 (↑p : Int), ptr 0 0 3 0 [], int i64 (↑i : Int), own 3 3 0 (d + 2), int i64 c1, int i64 (0 : Int), nil, int i64 (0 : Int)], [((3 : Nat), AObj.mk true true 3 (d + 2) fun i ↦ rat (y i) (s i)), ((0 : Nat), AObj.mk false true 3 1 fun x ↦ rat t 1048576)]))) := by kernel_rfl
theorem va_e {n p i d : Nat} {k x : Nat → Rat} {t : Rat} : endL T GVa [] 60 fn_basis_Values [part vaC [1,1,1,1,1,1]] ⟨zipL vaL1 (vaV1 n k p i d), [(2, rowS (d + 1) x fun _ => SB d), (0, tP t sK)], 3⟩ =
    let c1 : Int := (↑i : Int) - (↑p : Int); some (must [-(2 : Int) ^ 63 ≤ c1 ∧ c1 < (2 : Int) ^ 63] (leaf ret [int i64 c1, tab 3 (d + 1) fun i ↦ rat (x (i + 0)) (SB d), int i64 (0 : Int)])) := by kernel_rfl
theorem SB_succ {d : Nat} : SB (d + 1) = 4 * SB d := by unfold SB; rw [Nat.pow_succ]; omega
theorem SB_lo : ∀ {d : Nat}, 16777216 ≤ SB d
  | 0 => by unfold SB; omega
  | d + 1 => by rw [SB_succ]; have := SB_lo (d := d); omega
theorem sF_is : sF = 4194306 := rfl
theorem SB_mono {d e : Nat} (h : d ≤ e) : SB d ≤ SB e := Nat.mul_le_mul_left _ (Nat.pow_le_pow_right (by omega) h)
abbrev sV : Nat := 68719476736
theorem SB_hi {d : Nat} (h : d ≤ 6) : SB d ≤ sV := Nat.le_trans (SB_mono h) (by decide)
def vaOut (n : Nat) (k : Nat → Rat) (p : Nat) (t : Rat) (f : Nat → Rat) : AV := .tuple [.int .i64 (if ivOut n k t then 0 else (ivl n k t : Int) - p), .tab 3 (if ivOut n k t then 0 else p + 1) (fun j => .rat (f j) sV), .int .i64 (ivE n k t)]
abbrev vaRes (n : Nat) (k : Nat → Rat) (p : Nat) (t : Rat) : AV := vaOut n k p t (vB k (ivl n k t) t p)
theorem vaOut_out {n p : Nat} {k f : Nat → Rat} {t : Rat} (h : ivOut n k t) : resOK [.int .i64 0, .nil, .int .i64 7] (vaOut n k p t f) := by
  unfold vaOut ivE
  rw [if_pos h, if_pos h, if_pos h]
  exact ⟨.refl _, avLe0_nil_tab (by omega), .refl _, trivial⟩
theorem vaOut_in {n p : Nat} {k f : Nat → Rat} {t : Rat} {g : Nat → AV} (h : ¬ ivOut n k t) (hg : ∀ j, j < p + 1 → avLe0 (g j) (.rat (f j) sV)) : resOK [.int .i64 ((ivl n k t : Int) - p), .tab 3 (p + 1) g, .int .i64 0] (vaOut n k p t f) := by
  unfold vaOut ivE
  rw [if_neg h, if_neg h, if_neg h]
  exact ⟨.refl _, avLe0_tab hg, .refl _, trivial⟩
theorem GVa_ok : GOK P GVa := gok_plain (gok_cons s_kIv_ok (gok_cons s_bFr_ok (gok_cons (tInt_ok rInt_ok) GR0_ok)))
def hfB (k : Nat → Rat) (i : Nat) (t : Rat) (d j : Nat) : Rat := if j = 0 then 0 else fr (k (i - d + (j - 1))) (k (i - d + (j - 1) + (d + 1))) t * vB k i t d (j - 1)
def nxV (k : Nat → Rat) (i : Nat) (t : Rat) (d j x : Nat) : Rat := if x < j then vB k i t (d + 1) x else if x = j then hfB k i t d j else 0
def nxS (d j x : Nat) : Nat := if x < j then SB (d + 1) else if x = j then HB d else 1
theorem nx_next {rl : List (Nat × Nat)} {k : Nat → Rat} {i d j x : Nat} {t : Rat} (hj : j ≤ d) :
    avQ rl (.rat (bif x == j then (bif j == j + 1 then nxV k i t d j (j + 1) + fr (k (i - d + j)) (k (i - d + j + (d + 1))) t * vB k i t d j else nxV k i t d j j) + (((1 : Int) : Rat) - fr (k (i - d + j)) (k (i - d + j + (d + 1))) t) * vB k i t d j
      else bif x == j + 1 then nxV k i t d j (j + 1) + fr (k (i - d + j)) (k (i - d + j + (d + 1))) t * vB k i t d j else nxV k i t d j x)
      (bif x == j then (bif j == j + 1 then nxS d j (j + 1) + (sF + SB d) + 1 else nxS d j j) + (1 + sF + 1 + SB d) + 1 else bif x == j + 1 then nxS d j (j + 1) + (sF + SB d) + 1 else nxS d j x))
      (.rat (nxV k i t d (j + 1) x) (nxS d (j + 1) x)) := by
  have h1 := SB_succ (d := d)
  have h2 := SB_lo (d := d)
  have h3 := sF_is
  have hjj : (j == j + 1) = false := by simp
  rw [hjj]
  refine .inr ⟨rfl, ?_⟩
  by_cases hx : x = j
  · subst hx
    simp only [beq_self_eq_true, cond_true, cond_false]
    refine avLe0_rat_up ?_ ?_
    · unfold nxV
      rw [if_neg (by omega), if_pos rfl, if_pos (by omega), vB, if_pos hj]
      have : ((1 : Int) : Rat) = 1 := rfl
      rw [this]; rfl
    · unfold nxS HB
      rw [if_neg (by omega), if_pos rfl, if_pos (by omega)]; omega
  · have hb : (x == j) = false := by simpa using hx
    rw [hb]
    by_cases hx2 : x = j + 1
    · subst hx2
      simp only [beq_self_eq_true, cond_true, cond_false]
      refine avLe0_rat_up ?_ ?_
      · unfold nxV hfB
        rw [if_neg (by omega), if_neg (by omega), if_neg (by omega), if_pos rfl, if_neg (by omega), Nat.add_sub_cancel, Rat.zero_add]
      · unfold nxS HB
        rw [if_neg (by omega), if_neg (by omega), if_neg (by omega), if_pos rfl]; omega
    · have hb2 : (x == j + 1) = false := by simpa using hx2
      rw [hb2]
      simp only [cond_false]
      refine avLe0_rat_up ?_ ?_
      · unfold nxV
        by_cases hlt : x < j
        · rw [if_pos hlt, if_pos (by omega)]
        · rw [if_neg hlt, if_neg hx, if_neg (by omega), if_neg hx2]
      · unfold nxS
        by_cases hlt : x < j
        · rw [if_pos hlt, if_pos (by omega)]; omega
        · rw [if_neg hlt, if_neg hx, if_neg (by omega), if_neg hx2]; omega
theorem bVa_ok {n p : Nat} {k : Nat → Rat} {t : Rat} (h : Kn n p k) (hp6 : p ≤ 6) (hn : n < 2 ^ 40) (K : Nat) : FOK P basis_Values K [ls k n, .int .i64 p, .rat t sK] [] (pres (vaRes n k p t) []) := by
  refine fok_down (r := pres (vaRes n k p t) []) hT is_bVa rfl (of_decide_eq_true (by kernel_rfl)) rfl (fun _ c h0 => ?_) K []
  have hk := kept_nil h0
  have hiv : ¬ ivOut n k t → p ≤ ivl n k t ∧ ivl n k t + p + 1 < n := fun hin => by
    have h1 : ¬ t < k 0 := fun h => hin (.inl h)
    have h2 : ¬ k (n - 1) < t := fun h => hin (.inr h)
    exact (h.ivl_ok (by grind) (by grind)).2
  have hp1 := h.p1
  have hl := h.len
  refine AWp.hloopW hT GVa_ok hm [1,1,1,1,1,0,1] (i := 0) (y := vaY) (z := part vaC [1,1,1,1,1,1]) (by kernel_rfl) (by kernel_rfl) (by kernel_rfl) is_bVa.dst hk (f1 := [26, 30, 36, 43]) 60 vaL1 3 (fun d : Nat => vaV1 n k p (ivl n k t) d) (fun d => [(2, rowS (d + 1) (vB k (ivl n k t) t d) fun _ => SB d), (0, tP t sK)])
    (fun d => d ≤ p ∧ ¬ ivOut n k t) (fun d => d = p ∧ ¬ ivOut n k t) (fun d => p - d) (RetV fn_basis_Values vaL1 (vaRes n k p t)) ⟨_, va_pre, ?_⟩ (fun d ⟨hd, hin⟩ => ?_) (fun d ⟨hd, hin⟩ => ?_) (fun v s' hv hs' => hv.fin hs')
  · simp only [ATree.all, allP, ratV_rat, bne_iff_ne, ne_eq, bne_eq_false_iff_eq, decide_eq_true_eq, decide_eq_false_iff_not, cond_false, Int.toNat_natCast]
    refine ⟨⟨by omega, allRat_ls (Nat.le_refl _), Nat.le_refl _, h, by omega, hn⟩, fun hout => ?_, fun hin => ?_⟩
    · have hout : ivOut n k t := by
        unfold ivE at hout
        by_cases ho : ivOut n k t
        · exact ho
        · rw [if_neg ho] at hout; exact absurd rfl hout
      refine ⟨[.int .i64 0, .nil, .int .i64 7], ?_, vaOut_out hout⟩
      unfold ivE
      rw [if_pos hout]
      kernel_rfl
    · have hin : ¬ ivOut n k t := fun ho => by unfold ivE at hin; rw [if_pos ho] at hin; omega
      have hii : ivI n k t = ivl n k t := by unfold ivI; rw [if_neg hin]
      have hv := hiv hin
      simp only [hii, decide_eq_true_eq, decide_eq_false_iff_not]
      (repeat' with_reducible first | refine And.intro ?_ ?_ | intro _)
      all_goals first | omega | (exfalso; omega) | exact absurd ‹false = true› (by decide) | exact absurd ‹true = false› (by decide) | skip
      refine ⟨0, ⟨by omega, hin⟩, [(0, 0), (2, 131072)], rfl, rfl, rfl, objsQ_cons rfl rfl rfl (fun i hi => ?_) (objsQ_one rfl rfl (avQ_eq rfl rfl) trivial)⟩
      have : i = 0 := by omega
      subst this
      exact .inr ⟨rfl, avLe0_rat_up rfl (by have := SB_lo (d := 0); exact Nat.le_trans (by decide) this)⟩
  · have hv := hiv hin
    refine AWp.into hT GVa_ok hm (y := vaY) (x1 := vaX) (zb := part vaY [1,1]) [1,0] (j := 1) (by kernel_rfl) (by kernel_rfl) (by kernel_rfl) (by kernel_rfl) hk (f1 := [48]) 60 vaL1 3 (fun _ : Unit => vaV1 n k p (ivl n k t) d) (fun _ => [(2, rowS (d + 1) (vB k (ivl n k t) t d) fun _ => SB d), (0, tP t sK)]) (fun _ => d + 1 ≤ p) ⟨_, va_o, ?_⟩ (fun _ hd' => ?_)
    · simp only [ATree.all, allP, decide_eq_true_eq, decide_eq_false_iff_not]
      have re : ReOK [] ([tab 3 n fun i => rat (k i) sK, int i64 p, ptr 0 0 3 0 [], int i64 (ivl n k t), own 2 3 0 (d + 1), int i64 ((d + 1 : Nat) : Int), int i64 (0 : Int), nil, int i64 (0 : Int)], [((2 : Nat), AObj.mk true true 3 (d + 1) fun i ↦ rat (vB k (ivl n k t) t d i) (SB d)), ((0 : Nat), AObj.mk false true 3 1 fun x ↦ rat t sK)]) (vaV1 n k p (ivl n k t) d) [(2, rowS (d + 1) (vB k (ivl n k t) t d) fun _ => SB d), (0, tP t sK)] 3 :=
        ⟨[(0, 0), (2, 2)], rfl, rfl, rfl, objsQ_cons rfl rfl rfl (fun i hi => avQ_eq rfl rfl) (objsQ_one rfl rfl (avQ_eq rfl rfl) trivial)⟩
      exact ⟨fun h1 => ⟨(), by omega, re⟩, fun h1 s' hs' => ⟨rfl, d, ⟨by omega, hin⟩, re.le hs' hk⟩⟩
    refine AWp.hloop hT GVa_ok hm (x := vaX) (z := part vaX [1,1]) [1,0,1] (i := 2) (y := part vaX [1,0,1,0,0]) (by kernel_rfl) (by kernel_rfl) (by kernel_rfl) (by kernel_rfl) hk (f1 := []) (f2 := [57]) 60 vaL2 4 (fun j : Nat => vaV2 n k p (ivl n k t) d j)
      (fun j => [(3, rowS (d + 2) (nxV k (ivl n k t) t d j) (nxS d j)), (2, rowS (d + 1) (vB k (ivl n k t) t d) fun _ => SB d), (0, tP t sK)]) (fun j => j ≤ d + 1) (fun j => j = d + 1) (fun j => d + 1 - j) (fun _ => False) ⟨_, va_i, ?_⟩ (fun j hj => ⟨_, va_b, ?_⟩) (fun j hj => ?_) (fun _ _ h => h.elim)
    · simp only [ATree.all, allP]
      rw [show (((d + 1 : Nat) : Int) + 1).toNat = d + 2 by omega]
      refine ⟨⟨by omega, by omega⟩, 0, by omega, [(0, 0), (2, 2), (3, 8195)], rfl, rfl, rfl, objsQ_cons rfl rfl rfl (fun i hi => ?_) (objsQ_cons rfl rfl rfl (fun i hi => avQ_eq rfl rfl) (objsQ_one rfl rfl (avQ_eq rfl rfl) trivial))⟩
      refine .inr ⟨rfl, avLe0_rat_up ?_ ?_⟩
      · unfold nxV hfB; rw [if_neg (by omega)]; split <;> rfl
      · unfold nxS HB; rw [if_neg (by omega)]; split <;> omega
    · have hF := sF_is
      have h1 := SB_lo (d := d)
      have h2 := SB_hi (d := d) (by omega)
      have h3 := SB_hi (d := d + 1) (by omega)
      have h5 : sV = 68719476736 := rfl
      have s0 : nxS d j j = HB d := by unfold nxS; rw [if_neg (by omega), if_pos rfl]
      have s1 : nxS d j (j + 1) = 1 := by unfold nxS; rw [if_neg (by omega), if_neg (by omega)]
      have e0 : ((ivl n k t : Int) - ((d + 1 : Nat) : Int) + 1 + (j : Int)).toNat = ivl n k t - d + j := by omega
      have e1 : ((ivl n k t : Int) - ((d + 1 : Nat) : Int) + 1 + (j : Int) + ((d + 1 : Nat) : Int)).toNat = ivl n k t - d + j + (d + 1) := by omega
      have e2 : ((j : Int) + 1).toNat = j + 1 := by omega
      simp only [ATree.all, allP, decide_eq_true_eq, decide_eq_false_iff_not, Int.toNat_natCast, Nat.add_zero, e0, e1, e2, bits1]
      have hjj : (j == j + 1) = false := by simp
      refine ⟨fun h4 => ?_, fun h4 => ⟨rfl, j, by omega, [(0, 0), (2, 2), (3, 3)], rfl, rfl, rfl, objsQ_cons rfl rfl rfl (fun i hi => avQ_eq rfl rfl) (objsQ_cons rfl rfl rfl (fun i hi => avQ_eq rfl rfl) (objsQ_one rfl rfl (avQ_eq rfl rfl) trivial))⟩⟩
      (repeat' with_reducible refine And.intro ?_ ?_)
      all_goals first | omega | (rw [s1]; omega) | (rw [hjj, cond_false, s0]; unfold HB; omega) | skip
      refine ⟨j + 1, by omega, by dsimp only; omega, [(0, 0), (2, 2), (3, 3)], rfl, rfl, rfl, objsQ_cons rfl rfl rfl (fun x hx => nx_next (by omega)) (objsQ_cons rfl rfl rfl (fun i hi => avQ_eq rfl rfl) (objsQ_one rfl rfl (avQ_eq rfl rfl) trivial))⟩
    · subst hj
      refine AWp.tail (fun s' hh => by have := hh.1; omega) (AWpL.see hT GVa_ok hm 60 vaL1 va_t (by kernel_rfl) ?_)
      simp only [ATree.all, allP]
      refine ⟨by omega, fun s' hs' => ⟨d + 1, ⟨hd', hin⟩, by dsimp only; omega, ReOK.le ⟨[(0, 0), (2, 3)], rfl, rfl, rfl, objsQ_cons rfl rfl rfl (fun x hx => ?_) (objsQ_one rfl rfl (avQ_eq rfl rfl) trivial)⟩ hs' hk⟩⟩
      refine .inr ⟨rfl, avLe0_rat_up ?_ ?_⟩
      · unfold nxV
        by_cases hlt : x < d + 1
        · rw [if_pos hlt]
        · have : x = d + 1 := by omega
          subst this
          rw [if_neg (by omega), if_pos rfl, vB, if_neg (show ¬ d + 1 ≤ d by omega), Rat.add_zero]; rfl
      · have h1 := SB_succ (d := d)
        have h2 := SB_lo (d := d)
        have hF := sF_is
        show _ ≤ SB (d + 1)
        unfold nxS HB
        split
        · omega
        · split <;> omega
  · subst hd
    refine AWp.ofL ((AWpL.fin hT GVa_ok hm 60 va_e (by kernel_rfl) ?_).mono fun _ _ h => .inl h)
    simp only [ATree.all, allP]
    exact ⟨by have := hiv hin; omega, vaOut_in hin fun j _ => avLe0_rat_more (SB_hi hp6)⟩
end Go.Am.B

/- basis.Sum; numbers of poles. -/
namespace Go.Am.B
open Go Go.Am.N AV ATree AEx IntKind
theorem is_kPo : FnIs P knots_Poles fn_knots_Poles (codeOf fn_knots_Poles) := fnIs get_knots_Poles (by kernel_rfl) (by kernel_rfl) (by kernel_rfl)
theorem is_bSu : FnIs P basis_Sum fn_basis_Sum (codeOf fn_basis_Sum) := fnIs get_basis_Sum (by kernel_rfl) (by kernel_rfl) (by kernel_rfl)
def s_bVa : Spec := spL kdR (fun a => vaRes a.1.1 a.1.2 a.2.1.toNat a.2.2.1) fun a => [Kn a.1.1 a.2.1.toNat a.1.2, 0 ≤ a.2.1, a.2.1 ≤ 6, a.1.1 < 2 ^ 40]
theorem s_bVa_ok : ∀ K args pre r, s_bVa K args pre = some r → FOK P basis_Values K args pre r := spL_ok fun ⟨⟨n, k⟩, p, t, _⟩ K hn => by
  obtain ⟨h1, h2, h3, h4⟩ := hn
  have h3 : p ≤ 6 := h3
  have := bVa_ok h1 (by simp only; omega) h4 K (t := t)
  rw [Int.toNat_of_nonneg h2] at this
  exact this
def tPol : Spec := spL (kC (kL sK) (kC kI kN)) (fun a => .int .i64 ((a.1.1 : Int) - a.2.1 - 1)) fun a => [a.1.1 < 2 ^ 40, -2 ^ 40 < a.2.1, a.2.1 < 2 ^ 40]
theorem kpo_end {n : Nat} {k : Nat → Rat} {p : Int} : funT T [nG] [] 60 fn_knots_Poles (codeOf fn_knots_Poles) ⟨zipSlots 0 [ls k n, .int .i64 p], [], 0⟩ =
    let c3 : Int := (↑n : Int) - p; let c1 : Int := (2 : Int) ^ 63; let c2 : Int := c3 - (1 : Int); some (must [-c1 ≤ c3 ∧ c3 < c1, -c1 ≤ c2 ∧ c2 < c1] (leaf ret [int i64 c2])) := by kernel_rfl
theorem tPolk_ok : ∀ K args pre r, tPol K args pre = some r → FOK P knots_Poles K args pre r := spL_ok fun ⟨⟨n, k⟩, p, _⟩ K hn => by
  obtain ⟨h1, h2, h3⟩ := hn
  have h3 : p < 2 ^ 40 := h3
  simp only at h1 h2
  refine fok_tree (r := pres (.int .i64 ((n : Int) - p - 1)) []) hT (gok_plain gok_nil) hm is_kPo rfl (of_decide_eq_true (by kernel_rfl)) rfl 60 kpo_end (fun _ => ?_) K []
  simp only [ATree.all, allP]
  exact ⟨by omega, .refl _⟩
def GSu : Contracts := nG :: (knots_Poles, tPol) :: (basis_Values, s_bVa) :: GR0
abbrev suL : List Nat := [8, 9, 2, 10, 13, 35, 36, 37]
abbrev suV (m : Nat) (c x : Nat → Rat) (p i j : Nat) : List AV := [.ptr 0 0 3 0 [], .int .i64 0, ls c m, .int .i64 ((i : Int) - p), .ptr 1 0 3 0 [], .tab 3 (p + 1) (fun j => .rat (x j) sV), .int .i64 ((p + 1 : Nat) : Int), .int .i64 j]
abbrev zO : AObj := ⟨false, true, 3, 1, fun _ => .rat 0 1⟩
noncomputable abbrev suC : Code := codeOf fn_basis_Sum
theorem su_pre {n m p : Nat} {k c : Nat → Rat} {t : Rat} : seeL T GSu [21, 32] 60 suL (before suC [1,1,1,1,1,0,1]) ⟨zipSlots 0 [ls k n, .int .i64 p, ls c m, .rat t sK], [], 0⟩ =
    let c15 : Prop := n < 2 ^ 40; let c14 : Prop := allRat (fun i ↦ rat (k i) sK) n sK; let c13 : Nat := ivl n (fun i ↦ ratV (rat (k i) sK)) t; let c12 : Int := ivE n (fun i ↦ ratV (rat (k i) sK)) t; let c11 : Prop := 0 < 1; let c10 : Prop := ivOut n (fun i ↦ ratV (rat (k i) sK)) t; let c9 : AV := tuple []; let c8 : AV := rat 0 1; let c7 : Int := (↑p : Int); let c4 : AV := tab 3 m fun i ↦ rat (c i) 1048576; let c3 : AV := ptr 4096 0 3 0 []; let c6 : AObj := AObj.mk false true 3 1 fun x ↦ c8; let c5 : Nat := if c10 then 0 else c7.toNat + 1; let c2 : AV := int i64 (if c10 then (0 : Int) else (↑c13 : Int) - (↑c7.toNat : Int)); let c1 : Nat × AObj := ((4096 : Nat), AObj.mk false true 3 1 fun j ↦ if (j == 0) = true then deN (agg c8.kids) else c8); some (must [c14, c15, -(2 : Int) ^ 40 < c7, c7 < (2 : Int) ^ 40] (fork ((↑m : Int) != (↑n : Int) - c7 - (1 : Int)) (must [c11] (leaf ret ([c3, int i64 (1 : Int), c4, c9, c9, c9, c9, c9], [c1]))) (must [c11, c14, sK ≤ sK, Kn n c7.toNat fun i ↦ ratV (rat (k i) sK), (0 : Int) ≤ c7, c7 ≤ (6 : Int), c15] (fork (c12 != (0 : Int)) (must [c11] (leaf ret ([c3, int i64 c12, c4, c2, c9, c9, c9, c9], [c1]))) (leaf normal ([c3, int i64 (0 : Int), c4, c2, ptr 90112 0 3 0 [], tab 3 c5 fun j ↦ rat (vB (fun i ↦ ratV (rat (k i) sK)) c13 t c7.toNat j) 68719476736, int i64 (↑c5 : Int), int i64 (0 : Int)], [((90112 : Nat), c6), ((4096 : Nat), c6)])))))) := by kernel_rfl
theorem su_b {m p i j s : Nat} {c x : Nat → Rat} {q : Rat} : seeL T GSu [38] 60 suL [part suC [1,1,1,1,1,0,1,0,0]] ⟨zipL suL (suV m c x p i j), [(1, tP q s), (0, zO)], 2⟩ =
    let c12 : Int := (↑i : Int) - (↑p : Int); let c11 : AV := ptr 1 0 3 0 []; let c10 : AV := ptr 0 0 3 0 []; let c9 : AV := tab 3 m fun i ↦ rat (c i) 1048576; let c8 : Prop := 0 < 1; let c7 : Nat := 2 ^ 42; let c6 : Int := (2 : Int) ^ 63; let c5 : Int := (↑j : Int); let c4 : Int := (↑(p + 1) : Int); let c3 : AV := tab 3 (p + 1) fun j ↦ rat (x j) 68719476736; let c2 : Nat × AObj := ((0 : Nat), AObj.mk false true 3 1 fun x ↦ rat 0 1); let c13 : Int := c5 + (1 : Int); let c1 : Int := c12 + c5; some (fork (decide (c5 < c4)) (must [(0 : Int) ≤ c5 ∧ c5.toNat < p + 1, c8] (must [c8, -c6 ≤ c1 ∧ c1 < c6, (0 : Int) ≤ c1 ∧ c1.toNat < m, c8, sK < c7, sV < c7, s < c7, sK + sV < c7, c8] (must [-c6 ≤ c13 ∧ c13 < c6] (leaf normal ([c10, int i64 (0 : Int), c9, int i64 c12, c11, c3, int i64 c4, int i64 c13], [((1 : Nat), AObj.mk false true 3 1 fun j ↦ if (j == 0) = true then deN (oAdd (q, s) (c c1.toNat * x c5.toNat, sK + sV)) else rat q s), c2]))))) (leaf (exit 0) ([c10, int i64 (0 : Int), c9, int i64 c12, c11, c3, int i64 c4, int i64 c5], [((1 : Nat), AObj.mk false true 3 1 fun x ↦ rat q s), c2]))) := by kernel_rfl
theorem su_r {e : Int} : endT T fn_basis_Sum .ret ⟨zipL [8, 9] [.ptr 4096 0 3 0 [], .int .i64 e], [(4096, ⟨false, true, 3, 1, fun j => if (j == 0) = true then deN (agg (kids (.rat 0 1))) else .rat 0 1⟩)], 4097⟩ =
    some (must [(0 : Nat) < 1] (leaf ret [agg [AV.bool false, mag 0, mag 0], int i64 e])) := by kernel_rfl
theorem su_e {m p i j s : Nat} {c x : Nat → Rat} {q : Rat} : endL T GSu [] 60 fn_basis_Sum [part suC [1,1,1,1,1,1]] ⟨zipL suL (suV m c x p i j), [(1, tP q s), (0, zO)], 2⟩ =
    let c1 : Prop := 0 < 1; some (must [c1, c1] (must [c1] (leaf ret [rat q s, int i64 (0 : Int)]))) := by kernel_rfl
abbrev sU : Nat := 1099511627776
def suE (n : Nat) (k : Nat → Rat) (p m : Nat) (t : Rat) : Int := if (m : Int) ≠ (n : Int) - p - 1 then 1 else ivE n k t
def suV' (n : Nat) (k : Nat → Rat) (p m : Nat) (c : Nat → Rat) (t : Rat) (x : Nat → Rat) : Rat := if suE n k p m t = 0 then sumR (p + 1) fun j => c (ivl n k t - p + j) * x j else 0
abbrev suRes (n : Nat) (k : Nat → Rat) (p m : Nat) (c : Nat → Rat) (t : Rat) (x : Nat → Rat) : AV := .tuple [.rat (suV' n k p m c t x) sU, .int .i64 (suE n k p m t)]
theorem GSu_ok : GOK P GSu := gok_plain (gok_cons tPolk_ok (gok_cons s_bVa_ok GR0_ok))
theorem suRes_err {n p m : Nat} {k c x : Nat → Rat} {t : Rat} {e : Int} (h : suE n k p m t = e) (he : e ≠ 0) : resOK [.agg [.bool false, .mag 0, .mag 0], .int .i64 e] (suRes n k p m c t x) :=
  ⟨by unfold suV'; rw [if_neg (by rw [h]; exact he)]; exact avLe0_zero, avLe0_int h.symm, trivial⟩
theorem ivE_eq {n : Nat} {k : Nat → Rat} {t : Rat} (h : ivE n k t = 0) : ¬ ivOut n k t := fun ho => by unfold ivE at h; rw [if_pos ho] at h; omega
abbrev zsU (j : Nat) : Nat := 1 + j * 137438953472
theorem Kn.iv_in {n p : Nat} {k : Nat → Rat} (h : Kn n p k) {t : Rat} (hin : ¬ ivOut n k t) : p ≤ ivl n k t ∧ ivl n k t + p + 1 < n := by
  have h1 : ¬ t < k 0 := fun h => hin (.inl h)
  have h2 : ¬ k (n - 1) < t := fun h => hin (.inr h)
  exact (h.ivl_ok (by grind) (by grind)).2
theorem bSu_ok {n p m : Nat} {k c : Nat → Rat} {t : Rat} (h : Kn n p k) (hp6 : p ≤ 6) (hn : n < 2 ^ 40) (K : Nat) : FOK P basis_Sum K [ls k n, .int .i64 p, ls c m, .rat t sK] [] (pres (suRes n k p m c t (vB k (ivl n k t) t p)) []) := by
  refine fok_down (r := pres (suRes n k p m c t (vB k (ivl n k t) t p)) []) hT is_bSu rfl (of_decide_eq_true (by kernel_rfl)) rfl (fun _ cx h0 => ?_) K []
  have hk := kept_nil h0
  refine AWp.hloop hT GSu_ok hm [1,1,1,1,1,0,1] (i := 0) (y := part suC [1,1,1,1,1,0,1,0,0]) (z := part suC [1,1,1,1,1,1]) (by kernel_rfl) (by kernel_rfl) (by kernel_rfl) is_bSu.dst hk (f1 := [21, 32]) (f2 := [38]) 60 suL 2 (fun j : Nat => suV m c (vB k (ivl n k t) t p) p (ivl n k t) j) (fun j => [(1, tP (sumR j fun j => c (ivl n k t - p + j) * vB k (ivl n k t) t p j) (zsU j)), (0, zO)])
    (fun j => j ≤ p + 1 ∧ ¬ ivOut n k t ∧ (m : Int) = (n : Int) - p - 1) (fun j => j = p + 1 ∧ ¬ ivOut n k t ∧ (m : Int) = (n : Int) - p - 1) (fun j => p + 1 - j) (RetT T fn_basis_Sum [8, 9] (suRes n k p m c t (vB k (ivl n k t) t p))) ⟨_, su_pre, ?_⟩ (fun j ⟨hj, hin, hmn⟩ => ⟨_, su_b, ?_⟩) (fun j ⟨hj, hin, hmn⟩ => ?_) (fun v s' hv hs' => hv.fin (L1 := [2, 10, 13, 35, 36, 37]) hk hs')
  · simp only [ATree.all, allP, ratV_rat, bne_iff_ne, ne_eq, bne_eq_false_iff_eq, Int.toNat_natCast]
    have hp1 := h.p1
    have hl := h.len
    refine ⟨⟨allRat_ls (Nat.le_refl _), hn, by omega, by omega⟩, fun hmn => ⟨by omega, ?_⟩, fun hmn => ⟨⟨by omega, allRat_ls (Nat.le_refl _), Nat.le_refl _, h, by omega, by omega, hn⟩, fun hout => ⟨by omega, ?_⟩, fun hin => ?_⟩⟩
    · have he : suE n k p m t = 1 := by unfold suE; rw [if_pos hmn]
      exact ⟨[_, _], _, 4097, _, rfl, rfl, rfl, su_r, rfl, ⟨⟨by omega, fun i _ => keys_ite rfl rfl⟩, trivial⟩, Nat.zero_lt_one, suRes_err he (by omega)⟩
    · have he : suE n k p m t = ivE n k t := by unfold suE; rw [if_neg (fun h => h hmn)]
      exact ⟨[_, _], _, 4097, _, rfl, rfl, rfl, su_r, rfl, ⟨⟨by omega, fun i _ => keys_ite rfl rfl⟩, trivial⟩, Nat.zero_lt_one, suRes_err he hout⟩
    · have hin := ivE_eq hin
      simp only [show ivOut n (fun i => k i) t = ivOut n k t from rfl, if_neg hin]
      refine ⟨0, ⟨by omega, hin, hmn⟩, [(0, 4096), (1, 90112)], rfl, rfl, rfl, objsQ_one rfl rfl (avQ_eq rfl rfl) (objsQ_one rfl rfl (avQ_eq rfl rfl) trivial)⟩
  · have hv := h.iv_in hin
    have e0 : ((ivl n k t : Int) - p + j).toNat = ivl n k t - p + j := by omega
    simp only [ATree.all, allP, decide_eq_true_eq, decide_eq_false_iff_not, Int.toNat_natCast, e0]
    have h1 : sK = 1048576 := rfl
    have h2 : sV = 68719476736 := rfl
    have h3 : zsU j = 1 + j * 137438953472 := rfl
    refine ⟨fun h4 => ?_, fun h4 => ⟨rfl, j, ⟨by omega, hin, hmn⟩, [(0, 0), (1, 1)], rfl, rfl, rfl, objsQ_one rfl rfl (avQ_eq rfl rfl) (objsQ_one rfl rfl (avQ_eq rfl rfl) trivial)⟩⟩
    (repeat' with_reducible refine And.intro ?_ ?_)
    all_goals first | omega | skip
    exact ⟨j + 1, ⟨by omega, hin, hmn⟩, by dsimp only; omega, [(0, 0), (1, 1)], rfl, rfl, rfl, objsQ_one rfl rfl (.inr ⟨rfl, avLe0_rat_up rfl (by show zsU j + (sK + sV) + 1 ≤ 1 + (j + 1) * 137438953472; omega)⟩) (objsQ_one rfl rfl (avQ_eq rfl rfl) trivial)⟩
  · subst hj
    refine AWp.ofL ((AWpL.fin hT GSu_ok hm 60 su_e (by kernel_rfl) ?_).mono fun _ _ h => .inl h)
    simp only [ATree.all, allP]
    have he : suE n k p m t = 0 := by unfold suE; rw [if_neg (fun h => h hmn)]; unfold ivE; rw [if_neg hin]
    refine ⟨by omega, by omega, ?_, avLe0_int he.symm, trivial⟩
    unfold suV'
    rw [if_pos he]
    exact avLe0_rat_more (by show 1 + (p + 1) * 137438953472 ≤ 1099511627776; omega)
end Go.Am.B

/- ref09: part, function, Values. -/
namespace Go.Am.B
open Go Go.Am.N AV ATree AEx IntKind
end Go.Am.B

/- ref09.Sum; contracts of sums. -/
namespace Go.Am.B
open Go Go.Am.N AV ATree AEx IntKind
abbrev kdRL : KindL ((Nat × (Nat → Rat)) × Int × (Nat × (Nat → Rat)) × Rat × Unit) := kC (kL sK) (kC kI (kC (kL sK) (kC (kRs sK) kN)))
def s_bSu : Spec := spL kdRL (fun a => suRes a.1.1 a.1.2 a.2.1.toNat a.2.2.1.1 a.2.2.1.2 a.2.2.2.1 (vB a.1.2 (ivl a.1.1 a.1.2 a.2.2.2.1) a.2.2.2.1 a.2.1.toNat)) fun a => [Kn a.1.1 a.2.1.toNat a.1.2, 0 ≤ a.2.1, a.2.1 ≤ 6, a.1.1 < 2 ^ 40]
theorem s_bSu_ok : ∀ K args pre r, s_bSu K args pre = some r → FOK P basis_Sum K args pre r := spL_ok fun ⟨⟨n, k⟩, p, ⟨m, c⟩, t, _⟩ K hn => by
  obtain ⟨h1, h2, h3, h4⟩ := hn
  have h3 : p ≤ 6 := h3
  have := bSu_ok h1 (by simp only; omega) h4 K (t := t) (m := m) (c := c)
  rw [Int.toNat_of_nonneg h2] at this
  exact this
end Go.Am.B

/- basis.Blossom. -/
namespace Go.Am.B
open Go Go.Am.N AV ATree AEx IntKind
theorem is_bBl : FnIs P basis_Blossom fn_basis_Blossom (codeOf fn_basis_Blossom) := fnIs get_basis_Blossom (by kernel_rfl) (by kernel_rfl) (by kernel_rfl)
def GBl : Contracts := nG :: (knots_Poles, tPol) :: (basis_fraction, s_bFr) :: GR0
abbrev blL1 : List Nat := [10, 11, 0, 1, 3, 12, 66, 67, 68]
abbrev blV1 (n : Nat) (k : Nat → Rat) (p i : Nat) (a : Nat → Rat) (r : Nat) : List AV := [.ptr 0 0 3 0 [], .int .i64 0, ls k n, .int .i64 p, .int .i64 i, .own 1 3 0 (p + 1), ls a p, .int .i64 p, .int .i64 r]
abbrev blO (p : Nat) (x : Nat → Rat) (s : Nat → Nat) : Store := [(1, rowS (p + 1) x s), (0, zO)]
noncomputable abbrev blC : Code := codeOf fn_basis_Blossom
noncomputable abbrev blY : Code := part blC [1,1,1,1,0,1,0,0]
noncomputable abbrev blX : Code := part blY [1,1,0,0]
abbrev blL2 : List Nat := [10, 11, 0, 1, 3, 12, 66, 67, 68, 13, 14, 15]
abbrev blV2 (n : Nat) (k : Nat → Rat) (p i : Nat) (a : Nat → Rat) (r j : Nat) : List AV := [.ptr 0 0 3 0 [], .int .i64 0, ls k n, .int .i64 p, .int .i64 i, .own 1 3 0 (p + 1), ls a p, .int .i64 p, .int .i64 r, .int .i64 r, .ptr 2 0 3 0 [], .int .i64 j]
theorem bl_pre {n m p l : Nat} {k c a : Nat → Rat} {i : Int} : seeL T GBl [18, 25, 36, 42, 32] 60 blL1 (before blC [1,1,1,1,0,1]) ⟨zipSlots 0 [ls k n, .int .i64 p, ls c m, .int .i64 i, ls a l], [], 0⟩ =
    let c25 : Prop := n < 2 ^ 40; let c24 : Prop := sK < 2 ^ 42; let c23 : Prop := allRat (fun i ↦ rat (k i) sK) n sK; let c22 : Int := i + (1 : Int); let c20 : AV := tab 3 n fun i ↦ rat (k i) 1048576; let c18 : Int := (2 : Int) ^ 40; let c17 : AV := rat 0 1; let c14 : AV := ptr 0 0 3 0 []; let c13 : Int := (2 : Int) ^ 63; let c12 : Int := (↑m : Int); let c5 : Int := (↑p : Int); let c19 : Bool := decide (i < c5); let c16 : Bool := c12 != (↑n : Int) - c5 - (1 : Int); let c15 : Bool := bif false then true else decide (i ≥ c12); let c11 : Int := c5 + (1 : Int); let c10 : List AV := [c20, int i64 c5, int i64 i, tuple [], tuple [], tuple [], tuple []]; let c9 : Int := cmpR (k i.toNat) (k c22.toNat); let c7 : Nat × AObj := ((0 : Nat), AObj.mk false true 3 1 fun j ↦ if (j == 0) = true then deN (agg c17.kids) else c17); let c6 : List Prop := [(0 : Int) ≤ i ∧ i.toNat < n, -c13 ≤ c22 ∧ c22 < c13, (0 : Int) ≤ c22 ∧ c22.toNat < n, c24, c24]; let c21 : Bool := bif false then true else decide (c9 ≥ (0 : Int)); let c8 : Nat := 0 + Min.min (c12.toNat - (i - c5).toNat) c11.toNat; let c4 : ATree (List AV × Store) := must [(0 : Nat) < 1] (leaf ret (c14 :: int i64 (1 : Int) :: c10, [c7])); let c3 : ATree (List AV × Store) := must [(0 : Nat) < 1] (leaf ret (c14 :: int i64 (7 : Int) :: c10, [c7])); let c1 : ATree (List AV × Store) := must [-c13 ≤ c11 ∧ c11 < c13, (0 : Int) ≤ c11 ∧ c11 ≤ c11 ∧ c11 ≤ (2 : Int) ^ 47 ∧ c11 * (↑(56 : Nat) : Int) ≤ (2 : Int) ^ 47] (must [-c13 ≤ i - c5 ∧ i - c5 < c13, (0 : Int) ≤ i - c5 ∧ i - c5 ≤ c12 ∧ c12 ≤ c12 ∧ c12 ≤ c12] (leaf normal ([c14, int i64 (0 : Int), c20, int i64 c5, int i64 i, own 163840 3 0 c11.toNat, tab 3 l fun i ↦ rat (a i) 1048576, int i64 (↑l : Int), int i64 (0 : Int)], [((163840 : Nat), AObj.mk true true 3 c11.toNat fun i_1 ↦ if 0 ≤ i_1 ∧ i_1 < c8 then rat (c (i_1 - 0 + (i - c5).toNat)) sK else c17), ((0 : Nat), AObj.mk false true 3 1 fun x ↦ c17)]))); let c2 : ATree (List AV × Store) := fork c19 (fork true (must [c19 = true, true = true] (fork true c3 c1)) (must ((c19 = true) :: (true = false) :: c6) (fork c21 c3 c1))) (fork c15 (must [c19 = false, c15 = true] (fork true c3 c1)) (must ((c19 = false) :: (c15 = false) :: c6) (fork c21 c3 c1))); some (fork c16 (must [c23, c25, -c18 < c5, c5 < c18, c16 = true] (fork true c4 c2)) (must [c23, c25, -c18 < c5, c5 < c18, c16 = false] (fork (bif false then true else (↑l : Int) != c5) c4 c2))) := by kernel_rfl
theorem bl_r {e : Int} : endT T fn_basis_Blossom .ret ⟨zipL [10, 11] [.ptr 0 0 3 0 [], .int .i64 e], [(0, ⟨false, true, 3, 1, fun j => if (j == 0) = true then deN (agg (kids (.rat 0 1))) else .rat 0 1⟩)], 1⟩ =
    some (must [(0 : Nat) < 1] (leaf ret [agg [AV.bool false, mag 0, mag 0], int i64 e])) := by kernel_rfl
theorem bl_o {n p i r : Nat} {k a x : Nat → Rat} {s : Nat → Nat} : seeL T GBl [69] 60 blL1 (before blY [1,1,0]) ⟨zipL blL1 (blV1 n k p i a r), blO p x s, 2⟩ =
    let c2 : Int := (↑p : Int); let c1 : List AV × Store := ([ptr 0 0 3 0 [], int i64 (0 : Int), tab 3 n fun i ↦ rat (k i) 1048576, int i64 c2, int i64 (↑i : Int), own 1 3 0 (p + 1), tab 3 p fun i ↦ rat (a i) 1048576, int i64 c2, int i64 (↑r : Int)], [((1 : Nat), AObj.mk true true 3 (p + 1) fun i ↦ rat (x i) (s i)), ((0 : Nat), AObj.mk false true 3 1 fun x ↦ rat 0 1)]); some (fork (decide ((↑r : Int) < c2)) (leaf normal c1) (leaf (exit 1) c1)) := by kernel_rfl
theorem bl_i {n p i r : Nat} {k a x : Nat → Rat} {s : Nat → Nat} : seeL T GBl [] 60 blL2 (before blX [1,1]) ⟨zipL blL1 (blV1 n k p i a r), blO p x s, 2⟩ =
    let c3 : AV := rat 0 1; let c2 : Int := (↑r : Int); let c1 : AV := int i64 (↑p : Int); some (must [(0 : Int) ≤ c2 ∧ c2.toNat < p, (0 : Nat) < 1] (leaf normal ([ptr 0 0 3 0 [], int i64 (0 : Int), tab 3 n fun i ↦ rat (k i) 1048576, c1, int i64 (↑i : Int), own 1 3 0 (p + 1), tab 3 p fun i ↦ rat (a i) 1048576, c1, int i64 c2, int i64 c2, ptr 12290 0 3 0 [], c1], [((12290 : Nat), AObj.mk false true 3 1 fun j ↦ if (j == 0) = true then deN (rat (a c2.toNat) sK) else c3), ((1 : Nat), AObj.mk true true 3 (p + 1) fun i ↦ rat (x i) (s i)), ((0 : Nat), AObj.mk false true 3 1 fun x ↦ c3)]))) := by kernel_rfl
theorem bl_b {n p i r j : Nat} {k a x : Nat → Rat} {s : Nat → Nat} {t : Rat} : seeL T GBl [76] 60 blL2 [part blX [1,1,0,0]] ⟨zipL blL2 (blV2 n k p i a r j), (2, tP t sK) :: blO p x s, 3⟩ =
    let c26 : Int := (↑r : Int); let c23 : Int := (↑i : Int); let c19 : Prop := 0 < 1; let c17 : AV := ptr 2 0 3 0 []; let c16 : AV := ptr 0 0 3 0 []; let c14 : AV := tab 3 n fun i ↦ rat (k i) 1048576; let c13 : AV := tab 3 p fun i ↦ rat (a i) 1048576; let c12 : Int := (↑j : Int); let c11 : Int := (↑p : Int); let c10 : Nat × AObj := ((2 : Nat), AObj.mk false true 3 1 fun x ↦ rat t 1048576); let c9 : Nat × AObj := ((0 : Nat), AObj.mk false true 3 1 fun x ↦ rat 0 1); let c8 : Nat := 2 ^ 42; let c6 : Nat := p + 1; let c3 : Int := (2 : Int) ^ 63; let c25 : AV := int i64 c11; let c22 : Prop := (0 : Int) ≤ c12 ∧ c12.toNat < c6; let c20 : AV := own 1 3 0 c6; let c15 : AV := int i64 c26; let c4 : Nat := c12.toNat + 0; let c2 : Int := c23 - c11 + c12; let c1 : Int := c12 - (1 : Int); let c24 : Prop := (0 : Int) ≤ c1 ∧ c1.toNat < c6; let c21 : Prop := -c3 ≤ c1 ∧ c1 < c3; let c7 : Int := c2 + c11 - c26; let c5 : Nat := c1.toNat + 0; let c18 : Nat := s c4 + s c5 + 1; some (fork (decide (c12 > c26)) (must [-c3 ≤ c23 - c11 ∧ c23 - c11 < c3, -c3 ≤ c2 ∧ c2 < c3] (must [(0 : Int) ≤ c2 ∧ c2.toNat < n, -c3 ≤ c2 + c11 ∧ c2 + c11 < c3, -c3 ≤ c7 ∧ c7 < c3, (0 : Int) ≤ c7 ∧ c7.toNat < n, c19, sK ≤ sK, sK ≤ sK, sK ≤ sK, c19] (must [c21, c24, c5 < c6, c19, c22, c4 < c6, c21, c24, c5 < c6, s c4 < c8, s c5 < c8, sF < c8, c18 < c8, s c5 < c8, sF + c18 < c8, c22, c4 < c6] (must [c21] (leaf normal ([c16, int i64 (0 : Int), c14, c25, int i64 c23, c20, c13, c25, c15, c15, c17, int i64 c1], [c10, ((1 : Nat), AObj.mk true true 3 c6 fun j ↦ rat (bif j == c4 then x c5 + fr (k c2.toNat) (k c7.toNat) t * (x c4 - x c5) else x j) (bif j == c4 then s c5 + (sF + c18) + 1 else s j)), c9])))))) (leaf (exit 3) ([c16, int i64 (0 : Int), c14, c25, int i64 c23, c20, c13, c25, c15, c15, c17, int i64 c12], [c10, ((1 : Nat), AObj.mk true true 3 c6 fun i ↦ rat (x i) (s i)), c9]))) := by kernel_rfl
theorem bl_t {n p i r j : Nat} {k a x : Nat → Rat} {s : Nat → Nat} {t : Rat} : seeL T GBl [] 60 blL1 [part blY [1,1,1]] ⟨zipL blL2 (blV2 n k p i a r j), (2, tP t sK) :: blO p x s, 3⟩ =
    let c1 : Int := (↑r : Int) + (1 : Int); some (must [-(2 : Int) ^ 63 ≤ c1 ∧ c1 < (2 : Int) ^ 63] (leaf normal ([ptr 0 0 3 0 [], int i64 (0 : Int), tab 3 n fun i ↦ rat (k i) 1048576, int i64 (↑p : Int), int i64 (↑i : Int), own 1 3 0 (p + 1), tab 3 p fun i ↦ rat (a i) 1048576, int i64 (↑p : Int), int i64 c1], [((1 : Nat), AObj.mk true true 3 (p + 1) fun i ↦ rat (x i) (s i)), ((0 : Nat), AObj.mk false true 3 1 fun x ↦ rat 0 1)]))) := by kernel_rfl
theorem bl_e {n p i r : Nat} {k a x : Nat → Rat} {s : Nat → Nat} : endL T GBl [] 60 fn_basis_Blossom [part blC [1,1,1,1,1]] ⟨zipL blL1 (blV1 n k p i a r), blO p x s, 2⟩ =
    let c1 : Nat := (↑p : Int).toNat + 0; some (must [(0 : Int) ≤ (↑p : Int) ∧ (↑p : Int).toNat < p + 1, c1 < p + 1, s c1 < 2 ^ 42, (1 : Nat) < 2 ^ 42, (0 : Nat) < 1] (must [(0 : Nat) < 1] (leaf ret [rat (x c1 + 0) (s c1 + 1 + 1), int i64 (0 : Int)]))) := by kernel_rfl
abbrev sB : Nat := 137438953472
theorem GBl_ok : GOK P GBl := gok_plain (gok_cons tPolk_ok (gok_cons s_bFr_ok GR0_ok))
def blE (n : Nat) (k : Nat → Rat) (p m l : Nat) (i : Int) : Int := if (m : Int) ≠ (n : Int) - p - 1 ∨ l ≠ p then 1 else if i < p ∨ (m : Int) ≤ i ∨ k (i.toNat + 1) ≤ k i.toNat then 7 else 0
def blR (n : Nat) (k : Nat → Rat) (p m : Nat) (c : Nat → Rat) (i : Int) (l : Nat) (a : Nat → Rat) : Rat := if blE n k p m l i = 0 then bR k (i.toNat - p) p a (fun j => c (i.toNat - p + j)) p p else 0
abbrev blRes (n : Nat) (k : Nat → Rat) (p m : Nat) (c : Nat → Rat) (i : Int) (l : Nat) (a : Nat → Rat) : AV := .tuple [.rat (blR n k p m c i l a) sB, .int .i64 (blE n k p m l i)]
theorem blRes_err {n p m l : Nat} {k c a : Nat → Rat} {i e : Int} (h : blE n k p m l i = e) (he : e ≠ 0) : resOK [.agg [.bool false, .mag 0, .mag 0], .int .i64 e] (blRes n k p m c i l a) :=
  ⟨by unfold blR; rw [if_neg (by rw [h]; exact he)]; exact avLe0_zero, avLe0_int h.symm, trivial⟩
theorem blE_arg {n p m l : Nat} {k : Nat → Rat} {i : Int} (h : (m : Int) ≠ (n : Int) - p - 1 ∨ l ≠ p) : blE n k p m l i = 1 := if_pos h
theorem blE_range {n p m l : Nat} {k : Nat → Rat} {i : Int} (h : (m : Int) = (n : Int) - p - 1) (hl : l = p) (h2 : i < p ∨ (m : Int) ≤ i ∨ k (i.toNat + 1) ≤ k i.toNat) : blE n k p m l i = 7 := by
  unfold blE; rw [if_neg (by omega), if_pos h2]
theorem blE_ok {n p m l : Nat} {k : Nat → Rat} {i : Int} (h : (m : Int) = (n : Int) - p - 1) (hl : l = p) (h2 : ¬ (i < p ∨ (m : Int) ≤ i ∨ k (i.toNat + 1) ≤ k i.toNat)) : blE n k p m l i = 0 := by
  unfold blE; rw [if_neg (by omega), if_neg h2]
def upB (k : Nat → Rat) (b p r : Nat) (t : Rat) (x : Nat → Rat) (j i : Nat) : Rat := if i ≤ j then x i else stepB k b p r t x i
def upS (r j i : Nat) : Nat := if i ≤ j then SB r else SB (r + 1)
theorem up_next {rl : List (Nat × Nat)} {k : Nat → Rat} {b p r j i s : Nat} {t : Rat} {x : Nat → Rat} (hj : r < j) (hs : s ≤ SB (r + 1)) :
    avQ rl (.rat (bif i == j then upB k b p r t x j (j - 1) + fr (k (b + j)) (k (b + j + (p - r))) t * (upB k b p r t x j j - upB k b p r t x j (j - 1)) else upB k b p r t x j i) (bif i == j then s else upS r j i)) (.rat (upB k b p r t x (j - 1) i) (upS r (j - 1) i)) := by
  refine .inr ⟨rfl, ?_⟩
  by_cases h : i = j
  · subst h
    simp only [beq_self_eq_true, cond_true]
    refine avLe0_rat_up ?_ ?_
    · unfold upB
      rw [if_pos (by omega), if_pos (by omega), if_neg (by omega)]
      unfold stepB
      rw [if_pos hj]
    · unfold upS
      rw [if_neg (by omega)]; exact hs
  · have hb : (i == j) = false := by simpa using h
    rw [hb]
    refine avLe0_rat_up ?_ ?_
    · simp only [cond_false]
      unfold upB
      by_cases h2 : i ≤ j
      · rw [if_pos h2, if_pos (by omega)]
      · rw [if_neg h2, if_neg (by omega)]
    · simp only [cond_false]
      unfold upS
      by_cases h2 : i ≤ j
      · rw [if_pos h2, if_pos (by omega)]; exact Nat.le_refl _
      · rw [if_neg h2, if_neg (by omega)]; exact Nat.le_refl _
theorem up_end {k : Nat → Rat} {b p r i : Nat} {t : Rat} {x : Nat → Rat} : upB k b p r t x r i = stepB k b p r t x i := by
  unfold upB
  split
  · unfold stepB; rw [if_neg (by omega)]
  · rfl
theorem bBl_ok {n p m l : Nat} {k c a : Nat → Rat} {i : Int} (hp1 : 1 ≤ p) (hp6 : p ≤ 6) (hn : n < 2 ^ 40) (hm2 : m < 2 ^ 40) (hi : -2 ^ 40 < i) (hi2 : i < 2 ^ 40) (K : Nat) : FOK P basis_Blossom K [ls k n, .int .i64 p, ls c m, .int .i64 i, ls a l] [] (pres (blRes n k p m c i l a) []) := by
  refine fok_down (r := pres (blRes n k p m c i l a) []) hT is_bBl rfl (of_decide_eq_true (by kernel_rfl)) rfl (fun _ cx h0 => ?_) K []
  have hk := kept_nil h0
  obtain ⟨b, hb⟩ : ∃ b, b = i.toNat - p := ⟨_, rfl⟩
  obtain ⟨x, hx⟩ : ∃ x : Nat → Nat → Rat, x = fun r => bR k b p a (fun j => c (b + j)) r := ⟨_, rfl⟩
  have hx0 : x 0 = fun j => c (b + j) := by rw [hx]; rfl
  have hxS : ∀ r, x (r + 1) = stepB k b p r (a r) (x r) := fun r => by rw [hx]; rfl
  have hSF := sF_is
  have hSK : sK = 1048576 := rfl
  have hSV : sV = 68719476736 := rfl
  refine AWp.hloopW hT GBl_ok hm [1,1,1,1,0,1] (i := 1) (y := blY) (z := part blC [1,1,1,1,1]) (by kernel_rfl) (by kernel_rfl) (by kernel_rfl) is_bBl.dst hk (f1 := [18, 25, 36, 42, 32]) 60 blL1 2 (fun r : Nat => blV1 n k p i.toNat a r) (fun r => blO p (x r) fun _ => SB r)
    (fun r => r ≤ p ∧ blE n k p m l i = 0) (fun r => r = p ∧ blE n k p m l i = 0) (fun r => p - r) (RetT T fn_basis_Blossom [10, 11] (blRes n k p m c i l a)) ⟨_, bl_pre, ?_⟩ (fun r ⟨hr, he⟩ => ?_) (fun r ⟨hr, he⟩ => ?_) (fun v s' hv hs' => hv.fin (L1 := [0, 1, 3, 12, 66, 67, 68]) hk hs')
  · simp only [ATree.all, allP, ratV_rat, bne_iff_ne, ne_eq, bne_eq_false_iff_eq, Int.toNat_natCast, cond_false, decide_eq_true_eq, decide_eq_false_iff_not, cmpR_ge]
    have ret : ∀ {e : Int} {us : List AV}, blE n k p m l i = e → e ≠ 0 → keysL us = [] → RetT T fn_basis_Blossom [10, 11] (blRes n k p m c i l a) ([ptr 0 0 3 0 [], int i64 e] ++ us, [((0 : Nat), AObj.mk false true 3 1 fun j ↦ if (j == 0) = true then deN (agg (kids (.rat 0 1))) else .rat 0 1)]) := fun {e us} h1 h2 h3 =>
      ⟨[_, _], us, 1, _, rfl, rfl, h3, bl_r, rfl, ⟨⟨by omega, fun i _ => keys_ite rfl rfl⟩, trivial⟩, Nat.zero_lt_one, blRes_err h1 h2⟩
    (repeat' with_reducible first | refine And.intro ?_ ?_ | intro _)
    all_goals first | omega | exact allRat_ls (Nat.le_refl _) | exact absurd ‹true = false› (by decide) | assumption | skip
    all_goals first | exact ret (blE_arg (.inl ‹_›)) (by decide) rfl | exact ret (blE_arg (.inr (by omega))) (by decide) rfl | skip
    all_goals first | exact ret (blE_range (by omega) (by omega) (.inl (by omega))) (by decide) rfl | exact ret (blE_range (by omega) (by omega) (.inr (.inl (by omega)))) (by decide) rfl | skip
    all_goals have e1 : (i + 1).toNat = i.toNat + 1 := by omega
    · exact ret (blE_range (by omega) (by omega) (.inr (.inr (by rw [← e1]; assumption)))) (by decide) rfl
    · rename_i h1
      rw [e1] at h1
      have hlp : l = p := by omega
      subst hlp
      refine ⟨0, ⟨by omega, blE_ok (by omega) rfl (by rintro (h | h | h) <;> first | omega | exact h1 h)⟩, [(0, 0), (1, 163840)], rfl, ?_, rfl, objsQ_cons rfl rfl (by omega) (fun j hj => ?_) (objsQ_one rfl rfl (avQ_eq rfl rfl) trivial)⟩
      · rw [show ((l : Int) + 1).toNat = l + 1 by omega]
        show _ = [_, _, _, _, AV.int i64 ((i.toNat : Nat) : Int), _, _, _, _]
        rw [show ((i.toNat : Nat) : Int) = i by omega]
        rfl
      · rw [if_pos (by omega), hx0, show (i - (l : Int)).toNat = b by omega, Nat.sub_zero, Nat.add_comm j b]
        exact .inr ⟨rfl, avLe0_rat_up rfl (show sK ≤ SB 0 by decide)⟩
  · have hin : (m : Int) = (n : Int) - p - 1 ∧ p ≤ i.toNat ∧ i.toNat < m ∧ i.toNat = b + p := by
      unfold blE at he
      split at he
      · omega
      · split at he
        · omega
        · omega
    obtain ⟨i1, i2, i3, i4⟩ := hin
    refine AWp.into hT GBl_ok hm (y := blY) (x1 := blX) (zb := part blY [1,1,1]) [1,1,0] (j := 2) (by kernel_rfl) (by kernel_rfl) (by kernel_rfl) (by kernel_rfl) hk (f1 := [69]) 60 blL1 2 (fun _ : Unit => blV1 n k p i.toNat a r) (fun _ => blO p (x r) fun _ => SB r) (fun _ => r < p) ⟨_, bl_o, ?_⟩ (fun _ hr' => ?_)
    · simp only [ATree.all, allP, decide_eq_true_eq, decide_eq_false_iff_not]
      have re : ∀ {s : Nat → Nat} {y : Nat → Rat}, ReOK [] ([ptr 0 0 3 0 [], int i64 (0 : Int), tab 3 n fun i ↦ rat (k i) sK, int i64 p, int i64 (i.toNat : Nat), own 1 3 0 (p + 1), tab 3 p fun i ↦ rat (a i) sK, int i64 p, int i64 (r : Nat)], [((1 : Nat), AObj.mk true true 3 (p + 1) fun i ↦ rat (y i) (s i)), ((0 : Nat), AObj.mk false true 3 1 fun x ↦ rat 0 1)]) (blV1 n k p i.toNat a r) (blO p y s) 2 :=
        ⟨[(0, 0), (1, 1)], rfl, rfl, rfl, objsQ_cons rfl rfl rfl (fun i hi => avQ_eq rfl rfl) (objsQ_one rfl rfl (avQ_eq rfl rfl) trivial)⟩
      exact ⟨fun h1 => ⟨(), by omega, re⟩, fun h1 s' hs' => ⟨rfl, r, ⟨by omega, he⟩, re.le hs' hk⟩⟩
    have h1 := SB_lo (d := r)
    have h2 := SB_hi (d := r) (by omega)
    have h3 := SB_succ (d := r)
    refine AWp.hloop0 hT GBl_ok hm (x := blX) [1,1] (i := 3) (y := part blX [1,1,0,0]) (by kernel_rfl) (by kernel_rfl) (by kernel_rfl) hk (f1 := []) (f2 := [76]) 60 blL2 3 (fun j : Nat => blV2 n k p i.toNat a r j) (fun j => (2, tP (a r) sK) :: blO p (upB k b p r (a r) (x r) j) (upS r j)) (fun j => r ≤ j ∧ j ≤ p) (fun j => j = r) (fun j => j) (fun _ => False) ⟨_, bl_i, ?_⟩ (fun j hj => ⟨_, bl_b, ?_⟩) (fun j s' hj hle => ?_) (fun _ _ h => h.elim)
    · simp only [ATree.all, allP, Int.toNat_natCast]
      refine ⟨by omega, p, by omega, [(0, 0), (1, 1), (2, 12290)], rfl, rfl, rfl, objsQ_one rfl rfl (avQ_eq rfl rfl) (objsQ_cons rfl rfl rfl (fun j hj => avQ_eq rfl ?_) (objsQ_one rfl rfl (avQ_eq rfl rfl) trivial))⟩
      unfold upB upS
      rw [if_pos (by omega), if_pos (by omega)]
    · obtain ⟨hj1, hj2⟩ := hj
      have e1 : ((i.toNat : Nat) : Int) - (p : Int) + (j : Int) = ((b + j : Nat) : Int) := by omega
      have e2 : ((b + j : Nat) : Int) + (p : Int) - (r : Int) = ((b + j + (p - r) : Nat) : Int) := by omega
      have u1 : ∀ {j' : Nat}, j' ≤ j → upS r j j' = SB r := fun h => by unfold upS; rw [if_pos h]
      simp only [ATree.all, allP, decide_eq_true_eq, decide_eq_false_iff_not, e1, e2, Int.toNat_natCast, Nat.add_zero]
      refine ⟨fun h4 => ?_, fun h4 => ⟨rfl, j, by omega, [(0, 0), (1, 1), (2, 2)], rfl, rfl, rfl, objsQ_one rfl rfl (avQ_eq rfl rfl) (objsQ_cons rfl rfl rfl (fun j hj => avQ_eq rfl rfl) (objsQ_one rfl rfl (avQ_eq rfl rfl) trivial))⟩⟩
      have e3 : ((j : Int) - 1).toNat = j - 1 := by omega
      have u2 := u1 (j' := j) (Nat.le_refl _)
      have u3 := u1 (j' := j - 1) (by omega)
      simp only [e3, u2, u3]
      (repeat' with_reducible refine And.intro ?_ ?_)
      all_goals first | omega | skip
      exact ⟨j - 1, by omega, by dsimp only; omega, [(0, 0), (1, 1), (2, 2)], rfl, by rw [show (j : Int) - 1 = ((j - 1 : Nat) : Int) by omega]; rfl, rfl, objsQ_one rfl rfl (avQ_eq rfl rfl) (objsQ_cons rfl rfl rfl (fun q hq => up_next (by omega) (by omega)) (objsQ_one rfl rfl (avQ_eq rfl rfl) trivial))⟩
    · subst hj
      show AWp P cx fn_basis_Blossom.ntmps (part blY [1,1,1]) s' _
      refine AWp.weakE hle (AWp.see hT GBl_ok hm 60 blL1 bl_t (by kernel_rfl) ?_)
      simp only [ATree.all, allP]
      refine ⟨by omega, fun s' hs' => ⟨j + 1, ⟨by omega, he⟩, by dsimp only; omega, ReOK.le ⟨[(0, 0), (1, 1)], rfl, rfl, rfl, objsQ_cons rfl rfl rfl (fun q hq => ?_) (objsQ_one rfl rfl (avQ_eq rfl rfl) trivial)⟩ hs' hk⟩⟩
      refine .inr ⟨rfl, avLe0_rat_up (by rw [up_end, hxS]) ?_⟩
      show upS j j q ≤ SB (j + 1)
      unfold upS
      split <;> omega
  · subst hr
    refine AWp.ofL ((AWpL.fin hT GBl_ok hm 60 bl_e (by kernel_rfl) ?_).mono fun _ _ h => .inl h)
    have h2 := SB_hi (d := r) hp6
    simp only [ATree.all, allP, Int.toNat_natCast, Nat.add_zero]
    refine ⟨⟨by omega, by omega, by omega, by omega, by omega⟩, by omega, avLe0_rat_up ?_ (by show SB r + 1 + 1 ≤ 137438953472; omega), avLe0_int he.symm, trivial⟩
    unfold blR
    rw [if_pos he, ← hb, hx, Rat.add_zero]
end Go.Am.B

/- ref09.Polar, ref09.Blossom; contracts of polar forms. -/
namespace Go.Am.B
open Go Go.Am.N AV ATree AEx IntKind
abbrev kdBl : KindL ((Nat × (Nat → Rat)) × Int × (Nat × (Nat → Rat)) × Int × (Nat × (Nat → Rat)) × Unit) := kC (kL sK) (kC kI (kC (kL sK) (kC kI (kC (kL sK) kN))))
def s_bBl : Spec := spL kdBl (fun a => blRes a.1.1 a.1.2 a.2.1.toNat a.2.2.1.1 a.2.2.1.2 a.2.2.2.1 a.2.2.2.2.1.1 a.2.2.2.2.1.2) fun a => [Kn a.1.1 a.2.1.toNat a.1.2, 0 ≤ a.2.1, a.2.1 ≤ 6, a.1.1 < 2 ^ 40, a.2.2.1.1 < 2 ^ 40, -2 ^ 40 < a.2.2.2.1, a.2.2.2.1 < 2 ^ 40]
theorem s_bBl_ok : ∀ K args pre r, s_bBl K args pre = some r → FOK P basis_Blossom K args pre r := spL_ok fun ⟨⟨n, k⟩, p, ⟨m, c⟩, i, ⟨l, a⟩, _⟩ K hn => by
  obtain ⟨h1, h2, h3, h4, h5, h6, h7⟩ := hn
  have h3 : p ≤ 6 := h3
  have h7 : i < 2 ^ 40 := h7
  have := bBl_ok (l := l) (k := k) (c := c) (a := a) h1.p1 (by simp only; omega) h4 h5 h6 h7 K
  rw [Int.toNat_of_nonneg h2] at this
  exact this
end Go.Am.B

/- ref02: SameList, Mid, Text; ref08.Greville. -/
namespace Go.Am.B
open Go Go.Am.N AV ATree AEx IntKind
theorem is_eMid : FnIs P ref02_Mid fn_ref02_Mid (codeOf fn_ref02_Mid) := fnIs get_ref02_Mid (by kernel_rfl) (by kernel_rfl) (by kernel_rfl)
theorem is_eText : FnIs P ref02_Text fn_ref02_Text (codeOf fn_ref02_Text) := fnIs get_ref02_Text (by kernel_rfl) (by kernel_rfl) (by kernel_rfl)
theorem is_fText : FnIs P ref01_Text fn_ref01_Text (codeOf fn_ref01_Text) := fnIs get_ref01_Text (by kernel_rfl) (by kernel_rfl) (by kernel_rfl)
noncomputable def gMid : Contracts := [(ref02_Mid, aSpec T (sG :: (ref02_Frac, s_eFrac) :: tRef) [] 60 fn_ref02_Mid)]
theorem gMid_ok : GOK P gMid := gok_cons (aSpec_ok hT (gok_strict (gok_cons s_eFrac_ok tRef_ok)) hm is_eMid _ _) gok_nil
end Go.Am.B

/- brepkernelmade: Knots. -/
namespace Go.Am.B
open Go Go.Am.N AV ATree AEx IntKind
theorem is_mKnots : FnIs P made_Dice_Knots fn_made_Dice_Knots (codeOf fn_made_Dice_Knots) := fnIs get_made_Dice_Knots (by kernel_rfl) (by kernel_rfl) (by kernel_rfl)
def GKn : Contracts := nG :: (made_Dice_Next, diceSpec g_next) :: (ref02_Int, s_eInt) :: (ref02_Frac, s_eFrac) :: GE0
abbrev knD (n : Nat) (z : Nat → Int) (a : Int) : AObj := diceO n (fun i => .int .i64 (z i)) a
abbrev tO (t : Rat) : AObj := ⟨false, true, 3, 1, fun _ => .rat t 64⟩
abbrev rowR (m : Nat) (k : Nat → Rat) : AObj := ⟨true, true, 3, m, fun i => .rat (k i) 64⟩
abbrev knL1 : List Nat := [0, 1, 2, 7, 8, 9]
abbrev knV1 (p m : Int) (v : AV) (i : Int) : List AV := [.ptr 0 0 2 0 [], .int .i64 p, .int .i64 m, .ptr 1 0 3 0 [], v, .int .i64 i]
noncomputable abbrev knC : Code := codeOf fn_made_Dice_Knots
noncomputable abbrev knX2 : Code := part knC [1,1,1,1]
noncomputable abbrev knX3 : Code := part knX2 [1]
abbrev knL2 : List Nat := [0, 1, 7, 8, 10]
abbrev knL3 : List Nat := [0, 1, 7, 8, 11]
abbrev knV2 (p : Int) (l : Nat) (i : Int) : List AV := [.ptr 0 0 2 0 [], .int .i64 p, .ptr 1 0 3 0 [], .own 2 3 0 l, .int .i64 i]
abbrev knO (n : Nat) (z : Nat → Int) (a : Int) (t : Rat) (l : Nat) (k : Nat → Rat) : Store := [(2, rowR l k), (1, tO t), (0, knD n z a)]
theorem ms_pre {n : Nat} {z : Nat → Int} {a p m : Int} : seeL T GKn [] 60 knL1 (before knC [1,1,1,0,1]) ⟨zipSlots 0 [.ptr 0 0 2 0 [], .int .i64 p, .int .i64 m], [(0, knD n z a)], 1⟩ =
    let c2 : Int := (2 : Int) ^ 63; let c1 : Int := nextV n (fun i ↦ int i64 (z i)) a (4 : Int) - (2 : Int); some (must [DiceOK n (fun i ↦ int i64 (z i)) a, (0 : Int) < (4 : Int), (4 : Int) < (2 : Int) ^ 62, -c2 ≤ c1 ∧ c1 < c2, -c2 ≤ c1, c1 < c2, (0 : Nat) < 1] (leaf normal ([ptr 0 0 2 0 [], int i64 p, int i64 m, ptr 20481 0 3 0 [], nil, int i64 (0 : Int)], [((20481 : Nat), AObj.mk false true 3 1 fun j ↦ if (j == 0) = true then deN (rat (↑c1 : Rat) (Max.max 1 (bitsN c1.natAbs))) else rat 0 1), ((0 : Nat), AObj.mk false true 2 1 fun x ↦ agg [tab 1 n fun i ↦ int i64 (z i), int i64 (nextA n a)])]))) := by kernel_rfl
theorem ms_10 {n : Nat} {z : Nat → Int} {a p m : Int} {t : Rat} : seeL T GKn [18] 60 knL1 [part knC [1,1,1,0,1,0,0]] ⟨zipL knL1 (knV1 p m .nil 0), [(1, tO t), (0, knD n z a)], 3⟩ =
    let c3 : AV := ptr 1 0 3 0 []; let c2 : AV := ptr 0 0 2 0 []; let c1 : List (Nat × AObj) := [((1 : Nat), AObj.mk false true 3 1 fun x ↦ rat t 64), ((0 : Nat), AObj.mk false true 2 1 fun x ↦ agg [tab 1 n fun i ↦ int i64 (z i), int i64 a])]; some (fork (decide ((0 : Int) ≤ p)) (must [(0 : Nat) < 1, (1 : Nat) * 3 ≤ 2 ^ 24, (0 : Nat) < 1 ∧ 1 * ((56 : Nat) + 1) * 2 ≤ 2 ^ 47] (must [-(2 : Int) ^ 63 ≤ (0 : Int) + (1 : Int) ∧ (0 : Int) + (1 : Int) < (2 : Int) ^ 63] (leaf normal ([c2, int i64 p, int i64 m, c3, own 24579 3 0 1, int i64 (1 : Int)], ((24579 : Nat), AObj.mk true true 3 1 fun i ↦ nth [rat t 64] (rat 0 1) (i + 0)) :: c1)))) (leaf (exit 0) ([c2, int i64 p, int i64 m, c3, nil, int i64 (0 : Int)], c1))) := by kernel_rfl
theorem ms_1S {n j : Nat} {z : Nat → Int} {a p m : Int} {t : Rat} {k : Nat → Rat} : seeL T GKn [18] 60 knL1 [part knC [1,1,1,0,1,0,0]] ⟨zipL knL1 (knV1 p m (.own 2 3 0 (j + 1)) ((j + 1 : Nat) : Int)), knO n z a t (j + 1) k, 3⟩ =
    let c4 : AV := ptr 1 0 3 0 []; let c3 : AV := ptr 0 0 2 0 []; let c2 : Nat := j + 1; let c1 : List (Nat × AObj) := [((1 : Nat), AObj.mk false true 3 1 fun x ↦ rat t 64), ((0 : Nat), AObj.mk false true 2 1 fun x ↦ agg [tab 1 n fun i ↦ int i64 (z i), int i64 a])]; let c7 : Nat := c2 + 1; let c6 : Int := (↑c2 : Int); let c5 : Int := c6 + (1 : Int); some (fork (decide (c6 ≤ p)) (must [(0 : Nat) < 1, (1 : Nat) * 3 ≤ 2 ^ 24, c7 * ((56 : Nat) + 1) * 2 ≤ 2 ^ 47] (must [-(2 : Int) ^ 63 ≤ c5 ∧ c5 < (2 : Int) ^ 63] (leaf normal ([c3, int i64 p, int i64 m, c4, own 24579 3 0 c7, int i64 c5], ((24579 : Nat), AObj.mk true true 3 c7 fun i ↦ if i < c2 then rat (k i) 64 else nth [rat t 64] (rat 0 1) (i - c2 + 0)) :: c1)))) (leaf (exit 0) ([c3, int i64 p, int i64 m, c4, own 2 3 0 c2, int i64 c6], ((2 : Nat), AObj.mk true true 3 c2 fun i ↦ rat (k i) 64) :: c1))) := by kernel_rfl
theorem ms_m {n j : Nat} {z : Nat → Int} {a p m : Int} {t : Rat} {k : Nat → Rat} : seeL T GKn [] 60 knL2 (before knX2 [0,1]) ⟨zipL knL1 (knV1 p m (.own 2 3 0 (j + 1)) ((j + 1 : Nat) : Int)), knO n z a t (j + 1) k, 3⟩ =
    let c1 : Int := m + (1 : Int); some (must [-(2 : Int) ^ 63 ≤ c1 ∧ c1 < (2 : Int) ^ 63, DiceOK n (fun i ↦ int i64 (z i)) a, (0 : Int) < c1, c1 < (2 : Int) ^ 62] (leaf normal ([ptr 0 0 2 0 [], int i64 p, ptr 1 0 3 0 [], own 2 3 0 (j + 1), int i64 (nextV n (fun i ↦ int i64 (z i)) a c1)], [((2 : Nat), AObj.mk true true 3 (j + 1) fun i ↦ rat (k i) 64), ((1 : Nat), AObj.mk false true 3 1 fun x ↦ rat t 64), ((0 : Nat), AObj.mk false true 2 1 fun x ↦ agg [tab 1 n fun i ↦ int i64 (z i), int i64 (nextA n a)])]))) := by kernel_rfl
theorem ms_2 {n l : Nat} {z : Nat → Int} {a p i : Int} {t : Rat} {k : Nat → Rat} : seeL T GKn [30, 38, 43, 53] 60 knL2 [part knX2 [0,1,0,0]] ⟨zipL knL2 (knV2 p l i), knO n z a t l k, 3⟩ =
    let c40 : Int := i - (1 : Int); let c39 : Nat := 64 + 64 + 1; let c35 : AV := rat t 64; let c34 : AV := rat 0 1; let c33 : Int := nextA n a; let c31 : Nat := l + 1; let c30 : Prop := (0 : Int) < (3 : Int); let c28 : Prop := DiceOK n (fun i ↦ int i64 (z i)) a; let c27 : Int := (↑l : Int); let c25 : AV := ptr 1 0 3 0 []; let c24 : AV := ptr 0 0 2 0 []; let c23 : Prop := 0 < 1; let c21 : Int := (2 : Int) ^ 62; let c20 : AV := tab 1 n fun i ↦ int i64 (z i); let c18 : Int := p + (1 : Int); let c16 : Prop := 64 < 2 ^ 41; let c7 : Int := nextV n (fun i ↦ int i64 (z i)) a (3 : Int); let c5 : Int := (2 : Int) ^ 63; let c43 : Int := nextA n c33; let c41 : Bool := c27 == c18; let c38 : Prop := DiceOK n (fun i ↦ int i64 (z i)) c33; let c37 : Prop := (3 : Int) < c21; let c32 : Prop := -c5 ≤ c18 ∧ c18 < c5; let c29 : Int := (1 : Int) + c7; let c26 : Nat × AObj := ((1 : Nat), AObj.mk false true 3 1 fun x ↦ c35); let c22 : Bool := bif false then true else decide (c7 > (0 : Int)); let c19 : List Prop := [-c5 ≤ c40 ∧ c40 < c5]; let c17 : Nat := (c27 - p).toNat + 0; let c15 : Nat × AObj := ((106499 : Nat), AObj.mk true true 3 c31 fun i ↦ if i < l then rat (k i) 64 else nth [c35] c34 (i - l + 0)); let c13 : List AV := [c24, int i64 p, c25, own 147459 3 0 c31, int i64 c40]; let c12 : List AV := [c24, int i64 p, c25, own 106499 3 0 c31, int i64 c40]; let c10 : Int := (1 : Int) + nextV n (fun i ↦ int i64 (z i)) c33 (2 : Int); let c9 : Int := (1 : Int) + nextV n (fun i ↦ int i64 (z i)) c33 (3 : Int); let c6 : List Prop := [c23, (1 : Nat) * 3 ≤ 2 ^ 24, c31 * ((56 : Nat) + 1) * 2 ≤ 2 ^ 47]; let c42 : Rat := (↑c29 : Rat) / (↑c10 : Rat); let c36 : Bool := bif false then true else decide (t = k c17); let c14 : List (Nat × AObj) := [c26, ((0 : Nat), AObj.mk false true 2 1 fun x ↦ agg [c20, int i64 a])]; let c11 : List Prop := [c23, -c5 ≤ c27 - p ∧ c27 - p < c5, (0 : Int) ≤ c27 - p ∧ (c27 - p).toNat < l, c17 < l, c16, c16]; let c8 : Int := (1 : Int) + nextV n (fun i ↦ int i64 (z i)) c43 (2 : Int); let c3 : ATree (List AV × Store) := must c6 (must c19 (leaf normal (c12, [c15, c26, ((0 : Nat), AObj.mk false true 2 1 fun x ↦ agg [c20, int i64 c33])]))); let c44 : Rat := (↑c9 : Rat) / (↑c8 : Rat); let c4 : ATree (List AV × Store) := must c6 (must c19 (leaf normal (c12, c15 :: c14))); let c2 : ATree (List AV × Store) := must [c23, c28, c30, c37, -c5 ≤ c29 ∧ c29 < c5, c38, (0 : Int) < (2 : Int), (2 : Int) < c21, -c5 ≤ c10 ∧ c10 < c5, -c5 ≤ c29, c29 < c5, -c5 ≤ c10, c10 < c5, c16, c16, c23] (must c6 (must c19 (leaf normal (c13, [((147459 : Nat), AObj.mk true true 3 c31 fun i ↦ if i < l then rat (k i) 64 else nth [rat (t + c42) c39] c34 (i - l + 0)), ((1 : Nat), AObj.mk false true 3 1 fun j ↦ if (j == 0) = true then deN (oAdd (t, (64 : Nat)) (c42, (64 : Nat))) else c35), ((0 : Nat), AObj.mk false true 2 1 fun x ↦ agg [c20, int i64 c43])])))); let c1 : ATree (List AV × Store) := must [c23, c38, c30, c37, -c5 ≤ c9 ∧ c9 < c5, DiceOK n (fun i ↦ int i64 (z i)) c43, (0 : Int) < (2 : Int), (2 : Int) < c21, -c5 ≤ c8 ∧ c8 < c5, -c5 ≤ c9, c9 < c5, -c5 ≤ c8, c8 < c5, c16, c16, c23] (must c6 (must c19 (leaf normal (c13, [((147459 : Nat), AObj.mk true true 3 c31 fun i ↦ if i < l then rat (k i) 64 else nth [rat (t + c44) c39] c34 (i - l + 0)), ((1 : Nat), AObj.mk false true 3 1 fun j ↦ if (j == 0) = true then deN (oAdd (t, (64 : Nat)) (c44, (64 : Nat))) else c35), ((0 : Nat), AObj.mk false true 2 1 fun x ↦ agg [c20, int i64 (nextA n c43)])])))); some (fork (decide (i > (0 : Int))) (fork c41 (fork true (must [c32, c41 = true, true = true] (fork true c2 c4)) (must (c32 :: (c41 = true) :: (true = false) :: c11) (fork c36 c2 c4))) (fork c22 (must [c32, c41 = false, c28, c30, c37, c22 = true] (fork true c1 c3)) (must (c32 :: (c41 = false) :: c28 :: c30 :: c37 :: (c22 = false) :: c11) (fork c36 c1 c3)))) (leaf (exit 2) ([c24, int i64 p, c25, own 2 3 0 l, int i64 i], ((2 : Nat), AObj.mk true true 3 l fun i ↦ rat (k i) 64) :: c14))) := by kernel_rfl
theorem ms_n {n l : Nat} {z : Nat → Int} {a p i : Int} {t : Rat} {k : Nat → Rat} : seeL T GKn [] 60 knL3 (before knX3 [1,0,1]) ⟨zipL knL2 (knV2 p l i), knO n z a t l k, 3⟩ =
    let c1 : Nat := Max.max 1 (bitsN (Int.natAbs (1 : Int))); some (must [(0 : Nat) < 1, -(2 : Int) ^ 63 ≤ (1 : Int), (1 : Int) < (2 : Int) ^ 63, (64 : Nat) < 2 ^ 41, c1 < 2 ^ 41, (0 : Nat) < 1] (leaf normal ([ptr 0 0 2 0 [], int i64 p, ptr 1 0 3 0 [], own 2 3 0 l, int i64 (0 : Int)], [((2 : Nat), AObj.mk true true 3 l fun i ↦ rat (k i) 64), ((1 : Nat), AObj.mk false true 3 1 fun j ↦ if (j == 0) = true then deN (oAdd (t, (64 : Nat)) ((↑(1 : Int) : Rat), c1)) else rat t 64), ((0 : Nat), AObj.mk false true 2 1 fun x ↦ agg [tab 1 n fun i ↦ int i64 (z i), int i64 a])]))) := by kernel_rfl
theorem ms_3 {n l : Nat} {z : Nat → Int} {a p i : Int} {t : Rat} {k : Nat → Rat} : seeL T GKn [72] 60 knL3 [part knX3 [1,0,1,0,0]] ⟨zipL knL3 (knV2 p l i), knO n z a t l k, 3⟩ =
    let c3 : AV := ptr 1 0 3 0 []; let c2 : AV := ptr 0 0 2 0 []; let c1 : List (Nat × AObj) := [((1 : Nat), AObj.mk false true 3 1 fun x ↦ rat t 64), ((0 : Nat), AObj.mk false true 2 1 fun x ↦ agg [tab 1 n fun i ↦ int i64 (z i), int i64 a])]; some (fork (decide (i ≤ p)) (must [(0 : Nat) < 1, (1 : Nat) * 3 ≤ 2 ^ 24, (l + 1) * ((56 : Nat) + 1) * 2 ≤ 2 ^ 47] (must [-(2 : Int) ^ 63 ≤ i + (1 : Int) ∧ i + (1 : Int) < (2 : Int) ^ 63] (leaf normal ([c2, int i64 p, c3, own 24579 3 0 (l + 1), int i64 (i + (1 : Int))], ((24579 : Nat), AObj.mk true true 3 (l + 1) fun i ↦ if i < l then rat (k i) 64 else nth [rat t 64] (rat 0 1) (i - l + 0)) :: c1)))) (leaf (exit 4) ([c2, int i64 p, c3, own 2 3 0 l, int i64 i], ((2 : Nat), AObj.mk true true 3 l fun i ↦ rat (k i) 64) :: c1))) := by kernel_rfl
theorem ms_end {n l : Nat} {z : Nat → Int} {a p i : Int} {t : Rat} {k : Nat → Rat} : endOL T GKn [] 60 fn_made_Dice_Knots [part knX3 [1,1]] ⟨zipL knL3 (knV2 p l i), knO n z a t l k, 3⟩ =
    some (leaf ret ([tab 3 l fun i ↦ rat (k (i + 0)) 64], some (AObj.mk false true 2 1 fun x ↦ agg [tab 1 n fun i ↦ int i64 (z i), int i64 a]))) := by kernel_rfl
structure KSt where
  k : Nat → Rat
  t : Rat
  a : Int
def knAdd (n : Nat) (f : Nat → AV) (t : Rat) (a : Int) : Rat := t + ((1 + nextV n f a 3 : Int) : Rat) / ((1 + nextV n f (nextA n a) 2 : Int) : Rat)
def knNext (n : Nat) (f : Nat → AV) (p j : Nat) (s : KSt) : KSt :=
  if j = 0 ∨ 0 < nextV n f s.a 3 ∨ s.t = s.k (j + 1) then
    ⟨setK s.k (p + 1 + j) (knAdd n f s.t (if j = 0 then s.a else nextA n s.a)), knAdd n f s.t (if j = 0 then s.a else nextA n s.a), nextA n (nextA n (if j = 0 then s.a else nextA n s.a))⟩
  else ⟨setK s.k (p + 1 + j) s.t, s.t, if j = 0 then s.a else nextA n s.a⟩
def knS (n : Nat) (f : Nat → AV) (p : Nat) (s0 : KSt) : Nat → KSt
  | 0 => s0
  | j + 1 => knNext n f p j (knS n f p s0 j)
def kn0 (n : Nat) (f : Nat → AV) (a : Int) : KSt := ⟨fun _ => ((nextV n f a 4 - 2 : Int) : Rat), ((nextV n f a 4 - 2 : Int) : Rat), nextA n (nextA n a)⟩
def knJ (n : Nat) (f : Nat → AV) (a : Int) (m : Nat) : Nat := (nextV n f (nextA n a) (m + 1)).toNat
def knE (n : Nat) (f : Nat → AV) (a : Int) (p m : Nat) : KSt := knS n f p (kn0 n f a) (knJ n f a m)
def knN (n : Nat) (f : Nat → AV) (a : Int) (p m : Nat) : Nat := 2 * p + 2 + knJ n f a m
def knK (n : Nat) (f : Nat → AV) (a : Int) (p m : Nat) : Nat → Rat := endK p (knJ n f a m) (knE n f a p m).k (knE n f a p m).t
def knA (n : Nat) (f : Nat → AV) (a : Int) (p m : Nat) : Int := (knE n f a p m).a
theorem knS_ok {n : Nat} {f : Nat → AV} {a : Int} {p : Nat} (hd : DiceOK n f a) (hp : 1 ≤ p) : ∀ j, KG p j (knS n f p (kn0 n f a) j).k (knS n f p (kn0 n f a) j).t ∧ DiceOK n f (knS n f p (kn0 n f a) j).a
  | 0 => by
    have h1 := nextV_lo (n := n) (f := f) (a := a) (m := 4) (by omega)
    have h2 := nextV_hi (n := n) (f := f) (a := a) (m := 4) (by omega)
    exact ⟨KG.start hp (by omega) (by omega), hd.next.next⟩
  | j + 1 => by
    obtain ⟨h1, h2⟩ := knS_ok hd hp j
    unfold knS knNext knAdd
    generalize knS n f p (kn0 n f a) j = s at *
    obtain ⟨k, t, b⟩ := s
    simp only at h1 h2 ⊢
    have hb : DiceOK n f (if j = 0 then b else nextA n b) := by split; exact h2; exact h2.next
    generalize (if j = 0 then b else nextA n b) = a1 at *
    split
    · have x1 := nextV_lo (n := n) (f := f) (a := a1) (m := 3) (by omega)
      have x2 := nextV_hi (n := n) (f := f) (a := a1) (m := 3) (by omega)
      have y1 := nextV_lo (n := n) (f := f) (a := nextA n a1) (m := 2) (by omega)
      have y2 := nextV_hi (n := n) (f := f) (a := nextA n a1) (m := 2) (by omega)
      refine ⟨h1.next (.inl ?_), hb.next.next⟩
      generalize nextV n f a1 3 = x at *
      generalize nextV n f (nextA n a1) 2 = y at *
      have key : ∃ z : Int, ((1 + x : Int) : Rat) / ((1 + y : Int) : Rat) = (z : Rat) / 2 ∧ 1 ≤ z ∧ z ≤ 6 := by
        rcases (show y = 0 ∨ y = 1 by omega) with h | h
        · subst h
          refine ⟨2 * (1 + x), ?_, by omega, by omega⟩
          have : ((2 * (1 + x) : Int) : Rat) = 2 * ((1 + x : Int) : Rat) := by simp
          rw [this]
          generalize ((1 + x : Int) : Rat) = w
          simp; grind
        · subst h
          exact ⟨1 + x, by simp, by omega, by omega⟩
      obtain ⟨z, e, z1, z2⟩ := key
      rw [e]
      refine ⟨?_, z, rfl, z2⟩
      have : (1 : Rat) ≤ (z : Rat) := by exact_mod_cast z1
      grind
    · rename_i hc
      have hc1 : ¬ j = 0 := fun h => hc (.inl h)
      have hc2 : ¬ t = k (j + 1) := fun h => hc (.inr (.inr h))
      exact ⟨h1.next (.inr ⟨rfl, by omega, hc2⟩), hb⟩
theorem Sz_half {z : Int} (h1 : -2 ^ 63 ≤ z) (h2 : z < 2 ^ 63) : Sz ((z : Rat) / 2) 64 := by
  have := Sz_frac h1 h2 (y := 2) (by omega) (by omega) (by omega)
  simpa using this
theorem KG.sz {p j : Nat} {k : Nat → Rat} {t : Rat} (h : KG p j k t) (hj : j < 2 ^ 50) : Sz t 64 := by
  obtain ⟨z, e, h1, h2⟩ := h.half (p + j) (Nat.le_refl _)
  rw [h.top] at e
  rw [e]
  exact Sz_half (by omega) (by omega)
theorem wsub {J j : Nat} (h : j < J) : ((J - j : Nat) : Int) - 1 = ((J - (j + 1) : Nat) : Int) := by omega
theorem rowNext {rl : List (Nat × Nat)} {l i : Nat} {k k' : Nat → Rat} {t : Rat} {s : Nat} (hk : k' = setK k l t) (ht : Sz t 64) (hi : i < l + 1) : avQ rl (if i < l then .rat (k i) 64 else nth [.rat t s] (.rat 0 1) (i - l + 0)) (.rat (k' i) 64) := by
  subst hk
  by_cases h : i < l
  · rw [if_pos h, setK_ne (by omega)]; exact avQ_eq rfl rfl
  · have : i = l := by omega
    subst this
    rw [if_neg h, setK_same, Nat.sub_self]
    exact .inr ⟨rfl, avLe0_rat_eq rfl ht⟩
theorem GKn_ok : GOK P GKn := gok_plain (gok_cons s_mNext_ok (gok_cons s_eInt_ok (gok_cons s_eFrac_ok GE0_ok)))
theorem mKnots_ok {k n p m : Nat} {z : Nat → Int} {a : Int} {o : AObj} (ho : ∀ ρ, objLe ρ o (knD n z a)) (h : DiceOK n (fun i => .int .i64 (z i)) a) (hp : 1 ≤ p) (hp2 : p < 1000) (hm2 : m < 1000) (K : Nat) :
    FOK P made_Dice_Knots K [.ptr k 0 2 0 [], .int .i64 p, .int .i64 m] [(k, o)] ⟨lsA (knK n (fun i => .int .i64 (z i)) a p m) (knN n (fun i => .int .i64 (z i)) a p m) 64, [(k, knD n z (knA n (fun i => .int .i64 (z i)) a p m))], []⟩ := by
  refine fok_objW hT is_mKnots rfl rfl (of_decide_eq_true (by kernel_rfl)) ho (fun _ c hk => ?_) K
  have a1 := nextV_lo (n := n) (f := fun i => .int .i64 (z i)) (a := a) (m := 4) (by omega)
  have a2 := nextV_hi (n := n) (f := fun i => .int .i64 (z i)) (a := a) (m := 4) (by omega)
  have b1 := nextV_lo (n := n) (f := fun i => .int .i64 (z i)) (a := nextA n a) (m := m + 1) (by omega)
  have b2 := nextV_hi (n := n) (f := fun i => .int .i64 (z i)) (a := nextA n a) (m := m + 1) (by omega)
  have hS := knS_ok h hp
  unfold knA knK knN knE at *
  obtain ⟨J, hJ⟩ : ∃ J, J = knJ n (fun i => .int .i64 (z i)) a m := ⟨_, rfl⟩
  have hJ2 : nextV n (fun i => .int .i64 (z i)) (nextA n a) (m + 1) = (J : Int) := by rw [hJ]; unfold knJ; omega
  rw [← hJ] at *
  have hJ3 : J < 1000 := by omega
  obtain ⟨S, hSd⟩ : ∃ S, S = knS n (fun i => .int .i64 (z i)) p (kn0 n (fun i => .int .i64 (z i)) a) := ⟨_, rfl⟩
  have h00 : S 0 = kn0 n (fun i => .int .i64 (z i)) a := by rw [hSd]; rfl
  have hS1 : ∀ j, S (j + 1) = knNext n (fun i => .int .i64 (z i)) p j (S j) := fun j => by rw [hSd]; rfl
  rw [← hSd] at hS ⊢
  clear hSd hJ
  obtain ⟨t0, ht0⟩ : ∃ t0 : Rat, t0 = ((nextV n (fun i => .int .i64 (z i)) a 4 - 2 : Int) : Rat) := ⟨_, rfl⟩
  unfold kn0 at h00
  rw [← ht0] at h00
  have hs0 : Sz t0 64 := by have := (hS 0).1.sz (by omega); rw [h00] at this; exact this
  refine AWp.hloop hT GKn_ok hm [1,1,1,0,1] (i := 0) (y := part knC [1,1,1,0,1,0,0]) (z := knX2) (by kernel_rfl) (by kernel_rfl) (by kernel_rfl) is_mKnots.dst hk (f1 := []) (f2 := [18]) 60 knL1 3
    (fun j : Nat => knV1 p m (match j with
      | 0 => .nil
      | _ + 1 => .own 2 3 0 j) j) (fun j => match j with
      | 0 => [(1, tO t0), (0, knD n z (nextA n a))]
      | _ + 1 => knO n z (nextA n a) t0 j (fun _ => t0)) (fun j => j ≤ p + 1) (fun j => j = p + 1) (fun j => p + 1 - j) (fun _ => False) ⟨_, ms_pre, ?_⟩ (fun j hj => ?_) (fun j hj => ?_) (fun _ _ h => h.elim)
  · simp only [ATree.all, allP]
    refine ⟨⟨h, by omega, by omega, by omega, by omega, by omega, by omega⟩, 0, by omega, [(0, 0), (1, 20481)], rfl, rfl, rfl, objsQ_one rfl rfl (.inr ⟨rfl, ?_⟩) (objsQ_one rfl rfl (avQ_eq rfl rfl) trivial)⟩
    rw [← ht0]
    exact avLe0_rat_eq rfl hs0
  · cases j with
    | zero =>
      refine ⟨_, ms_10, ?_⟩
      simp only [ATree.all, allP, decide_eq_true_eq, decide_eq_false_iff_not]
      refine ⟨fun _ => ⟨by omega, by omega, 1, by omega, by dsimp only; omega, [(0, 0), (1, 1), (2, 24579)], rfl, rfl, rfl, objsQ_cons rfl rfl rfl (fun i hi => ?_) (objsQ_one rfl rfl (avQ_eq rfl rfl) (objsQ_one rfl rfl (avQ_eq rfl rfl) trivial))⟩, fun h => by omega⟩
      have : i = 0 := by omega
      subst this
      exact avQ_eq rfl rfl
    | succ j =>
      refine ⟨_, ms_1S, ?_⟩
      simp only [ATree.all, allP, decide_eq_true_eq, decide_eq_false_iff_not]
      refine ⟨fun _ => ⟨by omega, by omega, j + 2, by omega, by dsimp only; omega, [(0, 0), (1, 1), (2, 24579)], rfl, rfl, rfl, objsQ_cons rfl rfl rfl (fun i hi => rowNext (by funext i; unfold setK; split <;> rfl) hs0 hi) (objsQ_one rfl rfl (avQ_eq rfl rfl) (objsQ_one rfl rfl (avQ_eq rfl rfl) trivial))⟩,
        fun _ => ⟨rfl, j + 1, by omega, [(0, 0), (1, 1), (2, 2)], rfl, rfl, rfl, objsQ_cons rfl rfl rfl (fun i hi => avQ_eq rfl rfl) (objsQ_one rfl rfl (avQ_eq rfl rfl) (objsQ_one rfl rfl (avQ_eq rfl rfl) trivial))⟩⟩
  subst hj
  refine AWp.hloop hT GKn_ok hm [0,1] (i := 2) (y := part knX2 [0,1,0,0]) (z := knX3) (by kernel_rfl) (by kernel_rfl) (by kernel_rfl) (by kernel_rfl) hk (f1 := []) (f2 := [30, 38, 43, 53]) 60 knL2 3
    (fun j : Nat => knV2 p (p + 1 + j) ((J - j : Nat) : Int)) (fun j => knO n z (S j).a (S j).t (p + 1 + j) (S j).k) (fun j => j ≤ J) (fun j => j = J) (fun j => J - j) (fun _ => False) ⟨_, ms_m, ?_⟩ (fun j hj => ?_) (fun j hj => ?_) (fun _ _ h => h.elim)
  · simp only [ATree.all, allP]
    rw [hJ2]
    refine ⟨⟨by omega, h.next, by omega, by omega⟩, 0, by omega, [(0, 0), (1, 1), (2, 2)], rfl, rfl, rfl, ?_⟩
    dsimp only
    rw [h00]
    exact objsQ_cons rfl rfl rfl (fun i hi => avQ_eq rfl rfl) (objsQ_one rfl rfl (avQ_eq rfl rfl) (objsQ_one rfl rfl (avQ_eq rfl rfl) trivial))
  · refine ⟨_, ms_2, ?_⟩
    have hj1 := hS1 j
    obtain ⟨hg, hd⟩ := hS j
    have hs1 : ∀ {j}, j < 2000 → Sz (S j).t 64 := fun hj => (hS _).1.sz (by omega)
    have hsj := hs1 (j := j) (by omega)
    have hsj1 := hs1 (j := j + 1) (by omega)
    have e1 : (((p + 1 + j : Nat) : Int) - (p : Int)).toNat + 0 = j + 1 := by omega
    simp only [ATree.all, allP, decide_eq_true_eq, decide_eq_false_iff_not, beq_iff_eq, beq_eq_false_iff_ne, e1, cond_false]
    have v3 := fun a => And.intro (nextV_lo (n := n) (f := fun i => .int .i64 (z i)) (a := a) (m := 3) (by omega)) (nextV_hi (n := n) (f := fun i => .int .i64 (z i)) (a := a) (m := 3) (by omega))
    have v2 := fun a => And.intro (nextV_lo (n := n) (f := fun i => .int .i64 (z i)) (a := a) (m := 2) (by omega)) (nextV_hi (n := n) (f := fun i => .int .i64 (z i)) (a := a) (m := 2) (by omega))
    have q1 := v3 (S j).a
    have q2 := v3 (nextA n (S j).a)
    have q3 := v2 (nextA n (S j).a)
    have q4 := v2 (nextA n (nextA n (S j).a))
    refine ⟨fun hi => ?_, fun hi => ⟨rfl, j, by omega, [(0, 0), (1, 1), (2, 2)], rfl, rfl, rfl, objsQ_cons rfl rfl rfl (fun i hi => avQ_eq rfl rfl) (objsQ_one rfl rfl (avQ_eq rfl rfl) (objsQ_one rfl rfl (avQ_eq rfl rfl) trivial))⟩⟩
    have hlt : j < J := by omega
    have fin : ∀ (key : Nat) (t : Rat) (s s2 : Nat) (b : Int) (g : Nat → AV), S (j + 1) = ⟨setK (S j).k (p + 1 + j) t, t, b⟩ → g 0 = .rat t s2 → (renOK 3 [(0, 0), (1, 1), (2, key)]) = true → (key == 1) = false → (key == 0) = false →
        Round [0] (fun j => knV2 p (p + 1 + j) ((J - j : Nat) : Int)) (fun j => knO n z (S j).a (S j).t (p + 1 + j) (S j).k) 3 (fun j => j ≤ J) (fun j => j = J) (fun j => J - j) 2 (fun _ => False) j normal
          ([ptr 0 0 2 0 [], int i64 p, ptr 1 0 3 0 [], own key 3 0 (p + 1 + j + 1), int i64 (((J - j : Nat) : Int) - 1)], [(key, ⟨true, true, 3, p + 1 + j + 1, fun i => if i < p + 1 + j then .rat ((S j).k i) 64 else nth [.rat t s] (.rat 0 1) (i - (p + 1 + j) + 0)⟩), (1, ⟨false, true, 3, 1, g⟩), (0, knD n z b)]) := by
      intro key t s s2 b g e1 e2 e3 hk1 hk0
      rw [e1] at hsj1
      refine ⟨j + 1, by omega, by dsimp only; omega, [(0, 0), (1, 1), (2, key)], by rw [e3]; rfl, by rw [wsub hlt]; rfl, rfl, ?_⟩
      dsimp only
      rw [e1]
      exact objsQ_cons rfl look_head rfl (fun i hi => rowNext rfl hsj1 hi) (objsQ_one rfl ((look_tail hk1).trans rfl) (.inr ⟨by rw [e2]; rfl, by rw [e2]; exact avLe0_rat_eq rfl hsj1⟩) (objsQ_one rfl ((look_tail hk0).trans rfl) (avQ_eq rfl rfl) trivial))
    refine ⟨fun hl => ?_, fun hl => ⟨fun hc => ?_, fun hc => ?_⟩⟩
    all_goals (repeat' with_reducible first | refine And.intro ?_ ?_ | intro _)
    all_goals first | omega | exact hd | exact hd.next | exact hd.next.next | skip
    all_goals try exact absurd ‹true = false› (by decide)
    · refine fin 147459 _ _ _ _ _ ?_ rfl rfl rfl rfl
      rw [hj1]; unfold knNext knAdd
      have hj0 : j = 0 := by omega
      rw [if_pos (.inl hj0), if_pos hj0]
    · refine fin 147459 _ _ _ _ _ ?_ rfl rfl rfl rfl
      rw [hj1]; unfold knNext knAdd
      have hj0 : j ≠ 0 := by omega
      rw [if_pos (.inr (.inl hc)), if_neg hj0]
    · refine fin 147459 _ _ _ _ _ ?_ rfl rfl rfl rfl
      rw [hj1]; unfold knNext knAdd
      have hj0 : j ≠ 0 := by omega
      rename_i hk
      rw [if_pos (.inr (.inr hk)), if_neg hj0]
    · refine fin 106499 _ _ _ _ _ ?_ rfl rfl rfl rfl
      rw [hj1]; unfold knNext knAdd
      have hj0 : j ≠ 0 := by omega
      rename_i hk
      rw [if_neg (by simp only [hj0, hk, or_false, false_or]; omega), if_neg hj0]
  subst hj
  have hs1 : Sz ((S j).t + 1) 64 := by
    obtain ⟨z, e, h1, h2⟩ := (hS j).1.half_done (p + 1 + j)
    unfold endK at e
    rw [if_neg (by omega)] at e
    rw [e]; exact Sz_half (by omega) (by omega)
  refine AWp.hloop hT GKn_ok hm [1,0,1] (i := 4) (y := part knX3 [1,0,1,0,0]) (z := part knX3 [1,1]) (by kernel_rfl) (by kernel_rfl) (by kernel_rfl) (by kernel_rfl) hk (f1 := []) (f2 := [72]) 60 knL3 3
    (fun i : Nat => knV2 p (p + 1 + j + i) i) (fun i => knO n z (S j).a ((S j).t + 1) (p + 1 + j + i) (endK p j (S j).k (S j).t)) (fun i => i ≤ p + 1) (fun i => i = p + 1) (fun i => p + 1 - i) (fun _ => False) ⟨_, ms_n, ?_⟩ (fun i hi => ?_) (fun i hi => ?_) (fun _ _ h => h.elim)
  · simp only [ATree.all, allP]
    refine ⟨⟨by omega, by omega, by omega, by omega, by decide, by omega⟩, 0, by omega, [(0, 0), (1, 1), (2, 2)], rfl, rfl, rfl, objsQ_cons rfl rfl rfl (fun i hi => ?_) (objsQ_one rfl rfl (.inr ⟨rfl, avLe0_rat_eq rfl hs1⟩) (objsQ_one rfl rfl (avQ_eq rfl rfl) trivial))⟩
    refine avQ_eq rfl ?_
    unfold endK
    rw [if_pos (by omega)]
  · refine ⟨_, ms_3, ?_⟩
    simp only [ATree.all, allP, decide_eq_true_eq, decide_eq_false_iff_not]
    refine ⟨fun _ => ⟨by omega, by omega, i + 1, by omega, by dsimp only; omega, [(0, 0), (1, 1), (2, 24579)], rfl, rfl, rfl, objsQ_cons rfl rfl rfl (fun i hi => rowNext ?_ hs1 hi) (objsQ_one rfl rfl (avQ_eq rfl rfl) (objsQ_one rfl rfl (avQ_eq rfl rfl) trivial))⟩,
      fun _ => ⟨rfl, i, by omega, [(0, 0), (1, 1), (2, 2)], rfl, rfl, rfl, objsQ_cons rfl rfl rfl (fun i hi => avQ_eq rfl rfl) (objsQ_one rfl rfl (avQ_eq rfl rfl) (objsQ_one rfl rfl (avQ_eq rfl rfl) trivial))⟩⟩
    funext x
    unfold setK endK
    split
    · rename_i hx; rw [if_neg (by omega)]
    · split <;> rfl
  · subst hi
    refine AWp.ofL (AWpL.finO hT GKn_ok hm 60 ms_end (by kernel_rfl) ⟨?_, _, rfl, rfl, diceLe rfl rfl⟩)
    exact avLe0_tab_eq (by omega) fun _ _ => rfl
def g_knots (n : Nat) (f : Nat → AV) (a : Int) (l : List AV) : Option (AV × Int × List Prop) := match l with
  | [.int .i64 p, .int .i64 m] => some (lsA (knK n f a p.toNat m.toNat) (knN n f a p.toNat m.toNat) 64, knA n f a p.toNat m.toNat, [1 ≤ p, p < 1000, 0 ≤ m, m < 1000])
  | _ => none
theorem s_mKnots_ok : ∀ K args pre r, diceSpec g_knots K args pre = some r → FOK P made_Dice_Knots K args pre r := by
  refine diceSpec_ok fun {k n z a l v b q o} K hg ho hd hq => ?_
  unfold g_knots at hg
  split at hg
  · rename_i p m
    simp only [Option.some.injEq, Prod.mk.injEq] at hg
    obtain ⟨rfl, rfl, rfl⟩ := hg
    obtain ⟨h1, h2, h3, h4⟩ := hq
    have h4 : m < 1000 := h4
    have := mKnots_ok (k := k) (p := p.toNat) (m := m.toNat) ho hd (by omega) (by omega) (by omega) K
    rw [Int.toNat_of_nonneg (by omega), Int.toNat_of_nonneg h3] at this
    exact this
  · simp at hg
end Go.Am.B

/- brepkernelmade: Number. -/
namespace Go.Am.B
open Go Go.Am.N AV
theorem is_mNumber : FnIs P made_Dice_Number fn_made_Dice_Number (codeOf fn_made_Dice_Number) := fnIs get_made_Dice_Number (by kernel_rfl) (by kernel_rfl) (by kernel_rfl)
theorem mNumber_end {n : Nat} {z : Nat → Int} {a : Int} : funO T GP [] 60 fn_made_Dice_Number (codeOf fn_made_Dice_Number) ⟨zipSlots 0 [.ptr 0 0 2 0 []], [(0, diceO n (fun i => .int .i64 (z i)) a)], 1⟩ =
    some (ATree.must [DiceOK n (fun (i : Nat) ↦ int IntKind.i64 (z i)) a, (0 : Nat) < 1] (ATree.must [(0 : Nat) < 1] (ATree.leaf AEx.ret ([rat (numV n (fun (i : Nat) ↦ int IntKind.i64 (z i)) a) 64], some { row := false, wr := true, es := 2, len := 1, f := fun (x : Nat) ↦ agg [tab 1 n fun (i : Nat) ↦ int IntKind.i64 (z i), int IntKind.i64 (numA n (fun (i : Nat) ↦ int IntKind.i64 (z i)) a)] })))) := by kernel_rfl
theorem s_mNumber_ok : ∀ K args pre r, diceSpec g_number K args pre = some r → FOK P made_Dice_Number K args pre r := by
  refine diceSpec_ok fun {k n z a l v b q o} K hg ho hd hq => ?_
  unfold g_number at hg
  split at hg
  · simp only [Option.some.injEq, Prod.mk.injEq] at hg
    obtain ⟨rfl, rfl, rfl⟩ := hg
    refine fok_obj hT GP_ok hm is_mNumber rfl rfl (of_decide_eq_true (by kernel_rfl)) ho 60 mNumber_end (fun _ => ?_) K
    simp only [ATree.all, allP]
    exact ⟨⟨hd, by omega⟩, by omega, .refl _, _, rfl, rfl, diceLe rfl rfl⟩
  · simp at hg
end Go.Am.B

/- law09: made, at. -/
namespace Go.Am.B
open Go Go.Am.N AV ATree AEx IntKind
theorem is_9made : FnIs P law09_made fn_law09_made (codeOf fn_law09_made) := fnIs get_law09_made (by kernel_rfl) (by kernel_rfl) (by kernel_rfl)
def GMd : Contracts := nG :: (made_Roll, s_mRoll) :: (made_Dice_Next, diceSpec g_next) :: (made_Dice_Knots, diceSpec g_knots) :: (made_Dice_Number, diceSpec g_number) :: []
abbrev mdL : List Nat := [5, 6, 7, 8, 9]
abbrev mdV (N : Nat) (k : Nat → Rat) (p : Int) (v : AV) (i : Nat) : List AV := [.ptr 0 0 2 0 [], .int .i64 p, lsA k N 64, v, .int .i64 i]
noncomputable abbrev mdCd : Code := codeOf fn_law09_made
theorem md_pre {n : Nat} {z : Nat → Int} : seeL T GMd [] 60 mdL (before mdCd [1,1,1,1,1,0,1]) ⟨zipSlots 0 [.tab 1 n (fun i => .int .i64 (z i))], [], 0⟩ =
    let c3 : Nat := Int.toNat (5 : Int); let c2 : Int := nextA n (0 : Int); let c1 : Int := (1 : Int) + nextV n (fun i ↦ int i64 (z i)) (0 : Int) (4 : Int); some (must [DiceOK n (fun i ↦ int i64 (z i)) (0 : Int), (0 : Int) < (4 : Int), (4 : Int) < (2 : Int) ^ 62, -(2 : Int) ^ 63 ≤ c1 ∧ c1 < (2 : Int) ^ 63] (must [DiceOK n (fun i ↦ int i64 (z i)) c2, (1 : Int) ≤ c1, c1 < (1000 : Int), (0 : Int) ≤ (5 : Int), (5 : Int) < (1000 : Int)] (leaf normal ([ptr 16384 0 2 0 [], int i64 c1, tab 3 (knN n (fun i ↦ int i64 (z i)) c2 c1.toNat c3) fun i ↦ rat (knK n (fun i ↦ int i64 (z i)) c2 c1.toNat c3 i) 64, nil, int i64 (0 : Int)], [((16384 : Nat), AObj.mk false true 2 1 fun x ↦ agg [tab 1 n fun i ↦ int i64 (z i), int i64 (knA n (fun i ↦ int i64 (z i)) c2 c1.toNat c3)])])))) := by kernel_rfl
theorem md_0 {n N : Nat} {z : Nat → Int} {k : Nat → Rat} {a p : Int} : seeL T GMd [24] 60 mdL [part mdCd [1,1,1,1,1,0,1,0,0]] ⟨zipL mdL (mdV N k p .nil 0), [(0, knD n z a)], 2⟩ =
    let c7 : Int := (↑N : Int) - p; let c6 : AV := tab 1 n fun i ↦ int i64 (z i); let c5 : AV := tab 3 N fun i ↦ rat (k i) 64; let c4 : AV := ptr 0 0 2 0 []; let c3 : Int := (↑(0 : Nat) : Int); let c1 : Int := (2 : Int) ^ 63; let c2 : Int := c7 - (1 : Int); some (must [-c1 ≤ c7 ∧ c7 < c1, -c1 ≤ c2 ∧ c2 < c1] (fork (decide (c3 < c2)) (must [DiceOK n (fun i ↦ int i64 (z i)) a, (1 : Nat) * 3 ≤ 2 ^ 24, (0 : Nat) < 1 ∧ 1 * ((56 : Nat) + 1) * 2 ≤ 2 ^ 47] (must [-c1 ≤ c3 + (1 : Int) ∧ c3 + (1 : Int) < c1] (leaf normal ([c4, int i64 p, c5, own 45058 3 0 1, int i64 (1 : Int)], [((45058 : Nat), AObj.mk true true 3 1 fun i ↦ nth [rat (numV n (fun i ↦ int i64 (z i)) a) 64] (rat 0 1) (i + 0)), ((0 : Nat), AObj.mk false true 2 1 fun x ↦ agg [c6, int i64 (numA n (fun i ↦ int i64 (z i)) a)])])))) (leaf (exit 0) ([c4, int i64 p, c5, nil, int i64 (0 : Int)], [((0 : Nat), AObj.mk false true 2 1 fun x ↦ agg [c6, int i64 a])])))) := by kernel_rfl
theorem md_S {n N j : Nat} {z : Nat → Int} {k c : Nat → Rat} {a p : Int} : seeL T GMd [24] 60 mdL [part mdCd [1,1,1,1,1,0,1,0,0]] ⟨zipL mdL (mdV N k p (.own 1 3 0 (j + 1)) (j + 1)), [(1, rowR (j + 1) c), (0, knD n z a)], 2⟩ =
    let c10 : Int := (↑N : Int) - p; let c7 : AV := tab 1 n fun i ↦ int i64 (z i); let c5 : AV := tab 3 N fun i ↦ rat (k i) 64; let c4 : AV := ptr 0 0 2 0 []; let c2 : Int := (2 : Int) ^ 63; let c1 : Nat := j + 1; let c9 : Nat := c1 + 1; let c8 : Int := (↑c1 : Int); let c3 : Int := c10 - (1 : Int); let c6 : Int := c8 + (1 : Int); some (must [-c2 ≤ c10 ∧ c10 < c2, -c2 ≤ c3 ∧ c3 < c2] (fork (decide (c8 < c3)) (must [DiceOK n (fun i ↦ int i64 (z i)) a, (1 : Nat) * 3 ≤ 2 ^ 24, c9 * ((56 : Nat) + 1) * 2 ≤ 2 ^ 47] (must [-c2 ≤ c6 ∧ c6 < c2] (leaf normal ([c4, int i64 p, c5, own 45058 3 0 c9, int i64 c6], [((45058 : Nat), AObj.mk true true 3 c9 fun i ↦ if i < c1 then rat (c i) 64 else nth [rat (numV n (fun i ↦ int i64 (z i)) a) 64] (rat 0 1) (i - c1 + 0)), ((0 : Nat), AObj.mk false true 2 1 fun x ↦ agg [c7, int i64 (numA n (fun i ↦ int i64 (z i)) a)])])))) (leaf (exit 0) ([c4, int i64 p, c5, own 1 3 0 c1, int i64 c8], [((1 : Nat), AObj.mk true true 3 c1 fun i ↦ rat (c i) 64), ((0 : Nat), AObj.mk false true 2 1 fun x ↦ agg [c7, int i64 a])])))) := by kernel_rfl
theorem md_e {n N j : Nat} {z : Nat → Int} {k c : Nat → Rat} {a p : Int} : seeL T GMd [] 60 [2, 3, 4] [part mdCd [1,1,1,1,1,1]] ⟨zipL mdL (mdV N k p (.own 1 3 0 (j + 1)) (j + 1)), [(1, rowR (j + 1) c), (0, knD n z a)], 2⟩ =
    some (leaf ret ([tab 3 N fun i ↦ rat (k i) 64, int i64 p, own 1 3 0 (j + 1)], [((1 : Nat), AObj.mk true true 3 (j + 1) fun i ↦ rat (c i) 64)])) := by kernel_rfl
theorem GMd_ok : GOK P GMd := gok_plain (gok_cons s_mRoll_ok (gok_cons s_mNext_ok (gok_cons s_mKnots_ok (gok_cons s_mNumber_ok gok_nil))))
theorem kn_ok {n : Nat} {f : Nat → AV} {a : Int} {p m : Nat} (h : DiceOK n f a) (hp : 1 ≤ p) : Kn (knN n f a p m) p (knK n f a p m) ∧ DiceOK n f (knA n f a p m) ∧ knN n f a p m ≤ 2 * p + 2 + m := by
  have h1 := knS_ok h hp (knJ n f a m)
  have b1 := nextV_lo (n := n) (f := f) (a := nextA n a) (m := m + 1) (by omega)
  have b2 := nextV_hi (n := n) (f := f) (a := nextA n a) (m := m + 1) (by omega)
  refine ⟨h1.1.done, h1.2, ?_⟩
  unfold knN knJ; omega
def mdP (n : Nat) (f : Nat → AV) : Nat := (1 + nextV n f 0 4).toNat
def mdN (n : Nat) (f : Nat → AV) : Nat := knN n f (nextA n 0) (mdP n f) 5
def mdK (n : Nat) (f : Nat → AV) : Nat → Rat := knK n f (nextA n 0) (mdP n f) 5
def ndA (n : Nat) (f : Nat → AV) (a : Int) : Nat → Int
  | 0 => a
  | j + 1 => numA n f (ndA n f a j)
def mdC (n : Nat) (f : Nat → AV) (j : Nat) : Rat := numV n f (ndA n f (knA n f (nextA n 0) (mdP n f) 5) j)
theorem ndA_ok {n : Nat} {f : Nat → AV} {a : Int} (h : DiceOK n f a) : ∀ j, DiceOK n f (ndA n f a j)
  | 0 => h
  | j + 1 => (ndA_ok h j).number
theorem mdP_ok {n : Nat} {f : Nat → AV} : 1 ≤ mdP n f ∧ mdP n f ≤ 4 := by
  have h1 := nextV_lo (n := n) (f := f) (a := 0) (m := 4) (by omega)
  have h2 := nextV_hi (n := n) (f := f) (a := 0) (m := 4) (by omega)
  unfold mdP; omega
theorem md_ok {n : Nat} {f : Nat → AV} (h : DiceOK n f 0) : Kn (mdN n f) (mdP n f) (mdK n f) ∧ mdN n f ≤ 15 := by
  have h1 := kn_ok (p := mdP n f) (m := 5) h.next mdP_ok.1
  have h2 := mdP_ok (n := n) (f := f)
  exact ⟨h1.1, Nat.le_trans h1.2.2 (by omega)⟩
def s_md : Spec := frzSpec fun K l => match l with
  | [.tab 1 n f] => some ⟨oneOr [lsA (mdK n f) (mdN n f) 64, .int .i64 (mdP n f), .own K 3 0 (mdN n f - mdP n f - 1)], [(K, rowR (mdN n f - mdP n f - 1) (mdC n f))], [DiceOK n f 0]⟩
  | _ => none
theorem s_md_ok : ∀ K args pre r, s_md K args pre = some r → FOK P law09_made K args pre r := by
  refine frzSpec_ok fun K args r hk hs => ?_
  split at hs
  · rename_i n f
    simp only [Option.some.injEq] at hs
    subst hs
    intro need
    have hd : DiceOK n f 0 := need
    obtain ⟨z, rfl⟩ : ∃ z : Nat → Int, f = fun i => .int .i64 (z i) := ⟨fun i => intOf (f i), funext fun i => hd.ints i⟩
    refine (fok_newW hT is_9made hk rfl (of_decide_eq_true (by kernel_rfl)) fun hd' c h0 => ?_ : FOK P law09_made K _ [] _) need
    have hp := mdP_ok (n := n) (f := fun i => .int .i64 (z i))
    obtain ⟨hkn, hN⟩ := md_ok hd
    have hl := hkn.len
    have hd2 := (kn_ok (p := mdP n (fun i => .int .i64 (z i))) (m := 5) hd.next hp.1).2.1
    have e1 : 1 + nextV n (fun i => AV.int i64 (z i)) 0 4 = (mdP n (fun i => AV.int i64 (z i)) : Int) := by
      have := nextV_lo (n := n) (f := fun i => AV.int i64 (z i)) (a := 0) (m := 4) (by omega)
      unfold mdP; omega
    have hC : ∀ j, mdC n (fun i => .int .i64 (z i)) j = numV n (fun i => .int .i64 (z i)) (ndA n (fun i => .int .i64 (z i)) (knA n (fun i => .int .i64 (z i)) (nextA n 0) (mdP n (fun i => .int .i64 (z i))) 5) j) := fun _ => rfl
    have hN' : knN n (fun i => .int .i64 (z i)) (nextA n 0) (mdP n (fun i => .int .i64 (z i))) 5 = mdN n (fun i => .int .i64 (z i)) := rfl
    have hK' : knK n (fun i => .int .i64 (z i)) (nextA n 0) (mdP n (fun i => .int .i64 (z i))) 5 = mdK n (fun i => .int .i64 (z i)) := rfl
    refine AWp.hloop hT GMd_ok hm [1,1,1,1,1,0,1] (i := 0) (y := part mdCd [1,1,1,1,1,0,1,0,0]) (z := part mdCd [1,1,1,1,1,1]) (by kernel_rfl) (by kernel_rfl) (by kernel_rfl) is_9made.dst h0 (f1 := []) (f2 := [24]) 60 mdL 2
      (fun j : Nat => mdV (mdN n (fun i => .int .i64 (z i))) (mdK n (fun i => .int .i64 (z i))) (mdP n (fun i => .int .i64 (z i))) (match j with
        | 0 => .nil
        | _ + 1 => .own 1 3 0 j) j) (fun j => match j with
        | 0 => [(0, knD n z (ndA n (fun i => .int .i64 (z i)) (knA n (fun i => .int .i64 (z i)) (nextA n 0) (mdP n (fun i => .int .i64 (z i))) 5) 0))]
        | _ + 1 => [(1, rowR j (mdC n (fun i => .int .i64 (z i)))), (0, knD n z (ndA n (fun i => .int .i64 (z i)) (knA n (fun i => .int .i64 (z i)) (nextA n 0) (mdP n (fun i => .int .i64 (z i))) 5) j))])
      (fun j => j + mdP n (fun i => .int .i64 (z i)) + 1 ≤ mdN n (fun i => .int .i64 (z i))) (fun j => j + mdP n (fun i => .int .i64 (z i)) + 1 = mdN n (fun i => .int .i64 (z i))) (fun j => mdN n (fun i => .int .i64 (z i)) - j) (fun _ => False) ⟨_, md_pre, ?_⟩ (fun j hj => ?_) (fun j hj => ?_) (fun _ _ h => h.elim)
    · simp only [ATree.all, allP, e1, Int.toNat_natCast, show Int.toNat 5 = 5 from rfl, hN', hK']
      exact ⟨⟨hd, by omega, by omega, by omega⟩, ⟨hd.next, by omega, by omega, by omega, by omega⟩, 0, by omega, [(0, 16384)], rfl, rfl, rfl, objsQ_one rfl rfl (avQ_eq rfl rfl) trivial⟩
    · cases j with
      | zero =>
        refine ⟨_, md_0, ?_⟩
        simp only [ATree.all, allP, decide_eq_true_eq, decide_eq_false_iff_not]
        exact ⟨by omega, fun h1 => ⟨⟨ndA_ok hd2 0, by omega, by omega⟩, by omega, 1, by omega, by dsimp only; omega, [(0, 0), (1, 45058)], rfl, rfl, rfl, objsQ_cons rfl rfl rfl (fun i hi => rowOne (y := mdC n (fun i => .int .i64 (z i))) rfl (Nat.le_refl _) hi) (objsQ_one rfl rfl (avQ_eq rfl rfl) trivial)⟩, fun h1 => by omega⟩
      | succ j =>
        refine ⟨_, md_S, ?_⟩
        simp only [ATree.all, allP, decide_eq_true_eq, decide_eq_false_iff_not]
        exact ⟨by omega, fun h1 => ⟨⟨ndA_ok hd2 (j + 1), by omega, by omega⟩, by omega, j + 2, by omega, by dsimp only; omega, [(0, 0), (1, 45058)], rfl, rfl, rfl, objsQ_cons rfl rfl rfl (fun i hi => rowAdd (y := mdC n (fun i => .int .i64 (z i))) (fun _ _ => rfl) rfl (Nat.le_refl _) (Nat.le_refl _) hi) (objsQ_one rfl rfl (avQ_eq rfl rfl) trivial)⟩,
          fun h1 => ⟨rfl, j + 1, by omega, [(0, 0), (1, 1)], rfl, rfl, rfl, objsQ_cons rfl rfl rfl (fun i hi => avQ_eq rfl rfl) (objsQ_one rfl rfl (avQ_eq rfl rfl) trivial)⟩⟩
    · obtain ⟨j, rfl⟩ : ∃ i, j = i + 1 := ⟨j - 1, by omega⟩
      refine AWp.see hT GMd_ok hm 60 [2, 3, 4] md_e (by kernel_rfl) fun s' hs' => ⟨.inr rfl, [2, 3, 4], _, [lsA (mdK n (fun i => .int .i64 (z i))) (mdN n (fun i => .int .i64 (z i))) 64, .int .i64 (mdP n (fun i => .int .i64 (z i))), .own 1 3 0 (j + 1)], _, 1, _, hs', by kernel_rfl, ⟨⟨rfl, avLe_pure rfl⟩, ⟨rfl, avLe_pure rfl⟩, ⟨rfl, avLe_own (by simp [ren, look]) rfl (by omega)⟩, trivial⟩, rfl, objLe_of (by omega) fun i hi => avLe_pure rfl⟩
  · simp at hs
end Go.Am.B
