/- brepkernelmade: Rat, Within; lists of numbers as arguments. -/
import Derived.Test.YtbghpkgbokbmlaaGreatB43
import Derived.Test.YtbghpkgbokbmlaaGreatY39
import Derived.Test.YtbghpkgbokbmlaaGreatZ2
import Derived.Test.YtbghpkgbokbmlaaGreatC4
import Derived.Test.YtbghpkgbokbmlaaGreatD1
set_option linter.unusedVariables false
namespace Go.Am.B
open Go Go.Am.N AV
theorem is_mWithin : FnIs P made_Within fn_made_Within (codeOf fn_made_Within) := fnIs get_made_Within (by kernel_rfl) (by kernel_rfl) (by kernel_rfl)
noncomputable def gWithin : Contracts := [(made_Within, aSpec T (sG :: (made_Part, s_mPart) :: tRef) [] 60 fn_made_Within)]
theorem gWithin_ok : GOK P gWithin := gok_cons (aSpec_ok hT (gok_strict (gok_cons s_mPart_ok tRef_ok)) hm is_mWithin _ _) gok_nil
def kL (s : Nat) : Kind (Nat × (Nat → Rat)) := ⟨fun v => match lsOf v with
  | some (n, f) => some ((n, fun i => ratV (f i)), [allRat f n s])
  | none => none, fun a => lsA a.2 a.1 s, fun {v a q} h hq => by
    split at h
    · rename_i h1
      simp only [Option.some.injEq, Prod.mk.injEq] at h
      obtain ⟨rfl, rfl⟩ := h
      exact lsOf_ok h1 hq
    · simp at h⟩
def kRs (s : Nat) : Kind Rat := ⟨fun v => match ratOf v with
  | some (q, n) => some (q, [n ≤ s])
  | none => none, fun a => .rat a s, fun {v a q} h hq => by
    split at h
    · rename_i h1
      simp only [Option.some.injEq, Prod.mk.injEq] at h
      obtain ⟨rfl, rfl⟩ := h
      exact (ratOf_ok h1).trans (avLe0_rat_more hq)
    · simp at h⟩
structure KindL (α : Type) where
  read : List AV → Option (α × List Prop)
  make : α → List AV
  ok : ∀ {l : List AV} {a : α} {q : List Prop}, read l = some (a, q) → allP q → avLes0 l (make a)
def kN : KindL Unit := ⟨fun l => match l with
  | [] => some ((), [])
  | _ => none, fun _ => [], fun {l a q} h _ => by
    split at h
    · trivial
    · simp at h⟩
def kC {α β : Type} (k : Kind α) (kl : KindL β) : KindL (α × β) := ⟨fun l => match l with
  | v :: l => match k.read v, kl.read l with
    | some (a, p), some (b, q) => some ((a, b), p ++ q)
    | _, _ => none
  | [] => none, fun a => k.make a.1 :: kl.make a.2, fun {l a q} h hq => by
    split at h
    · split at h
      · rename_i h1 h2
        simp only [Option.some.injEq, Prod.mk.injEq] at h
        obtain ⟨rfl, rfl⟩ := h
        obtain ⟨q1, q2⟩ := allP_append.1 hq
        exact ⟨k.ok h1 q1, kl.ok h2 q2⟩
      · simp at h
    · simp at h⟩
def spL {α : Type} (k : KindL α) (g : α → AV) (need : α → List Prop) : Spec := pureSpec fun l => match k.read l with
  | some (a, p) => some (pres (g a) (p ++ need a))
  | none => none
theorem spL_ok {α : Type} {f : FuncId} {k : KindL α} {g : α → AV} {need : α → List Prop} (h : ∀ a K, allP (need a) → FOK P f K (k.make a) [] (pres (g a) [])) : ∀ K args pre r, spL k g need K args pre = some r → FOK P f K args pre r := by
  refine pureSpec_ok fun K args r hk hs _ => ?_
  split at hs
  · rename_i h1
    simp only [Option.some.injEq] at hs
    subst hs
    intro hn
    obtain ⟨n1, hn⟩ := allP_append.1 hn
    exact fok_weak (h _ K hn) hk (k.ok h1 n1) [] trivial
  · simp at hs
end Go.Am.B

/- knots.Interval, ref08.Interval; numbers of poles. -/
namespace Go.Am.B
open Go Go.Am.N AV ATree AEx IntKind
theorem is_hIv : FnIs P ref08_Interval fn_ref08_Interval (codeOf fn_ref08_Interval) := fnIs get_ref08_Interval (by kernel_rfl) (by kernel_rfl) (by kernel_rfl)
def nRef : Contracts := nG :: tRef
abbrev sK : Nat := 4096
abbrev ls (k : Nat → Rat) (n : Nat) : AV := lsA k n sK
abbrev tP (t : Rat) (s : Nat) : AObj := ⟨false, true, 3, 1, fun _ => .rat t s⟩
abbrev hvL : List Nat := [0, 5, 9, 6, 7]
abbrev hvV (n : Nat) (k : Nat → Rat) (i : Nat) : List AV := [ls k n, .ptr 0 0 3 0 [], .int .i64 i, .int .i64 0, .int .i64 0]
noncomputable abbrev hvC : Code := codeOf fn_ref08_Interval
theorem hiv_pre {n p : Nat} {k : Nat → Rat} {t : Rat} : seeL T nRef [19, 27] 60 hvL (before hvC [1,1,1,1,0]) ⟨zipSlots 0 [ls k n, .int .i64 p, .rat t sK], [], 0⟩ =
    let c13 : AV := int i64 (0 : Int); let c12 : Prop := 0 < 1; let c10 : Prop := (0 : Int) ≤ (0 : Int) ∧ Int.toNat (0 : Int) < n; let c9 : AV := tab 3 n fun i ↦ rat (k i) 4096; let c7 : AV := ptr 0 0 (deN (rat t sK)).size 0 []; let c6 : Nat × AObj := ((0 : Nat), AObj.mk false true (deN (rat t sK)).size 1 fun x ↦ rat t 4096); let c5 : Int := (2 : Int) ^ 63; let c4 : Int := cmpR t (k (Int.toNat (0 : Int))); let c3 : Int := (↑n : Int) - (1 : Int); let c14 : Int := c3 - (↑p : Int); let c11 : Bool := decide (c4 < (0 : Int)); let c2 : ATree (List AV × Store) := leaf ret ([c9, c7, tuple [], c13, int i64 (7 : Int)], [c6]); let c8 : Int := c14 - (1 : Int); let c1 : ATree (List AV × Store) := must [-c5 ≤ c14 ∧ c14 < c5, -c5 ≤ c8 ∧ c8 < c5] (leaf normal ([c9, c7, int i64 c8, c13, c13], [c6])); some (must [-c5 ≤ c3 ∧ c3 < c5] (fork c11 (must [c12, c10, c11 = true] (fork true c2 c1)) (must [c12, c10, c11 = false, c12, (0 : Int) ≤ c3 ∧ c3.toNat < n] (fork (bif false then true else decide (cmpR t (k c3.toNat) > (0 : Int))) c2 c1)))) := by kernel_rfl
theorem hiv_b {n i : Nat} {k : Nat → Rat} {t : Rat} : seeL T nRef [34, 42] 60 hvL [part hvC [1,1,1,1,0,0,0]] ⟨zipL hvL (hvV n k i), [(0, tP t sK)], 1⟩ =
    let c7 : AV := int i64 (0 : Int); let c6 : AV := ptr 0 0 3 0 []; let c5 : AV := tab 3 n fun i ↦ rat (k i) 4096; let c4 : Nat × AObj := ((0 : Nat), AObj.mk false true 3 1 fun x ↦ rat t 4096); let c3 : Int := (↑i : Int); let c9 : Int := c3 - (1 : Int); let c8 : Bool := decide (c3 > (0 : Int)); let c2 : ATree (List AV × Store) := leaf (exit 0) ([c5, c6, int i64 c3, c7, c7], [c4]); let c1 : ATree (List AV × Store) := must [-(2 : Int) ^ 63 ≤ c9 ∧ c9 < (2 : Int) ^ 63] (leaf normal ([c5, c6, int i64 c9, c7, c7], [c4])); some (fork c8 (must [c8 = true, (0 : Nat) < 1, (0 : Int) ≤ c3 ∧ c3.toNat < n] (fork (bif true then decide (cmpR t (k c3.toNat) < (0 : Int)) else false) c1 c2)) (must [c8 = false] (fork false c1 c2))) := by kernel_rfl
theorem hiv_e {n i : Nat} {k : Nat → Rat} {t : Rat} : endL T nRef [] 60 fn_ref08_Interval [part hvC [1,1,1,1,1]] ⟨zipL hvL (hvV n k i), [(0, tP t sK)], 1⟩ =
    some (leaf ret [int i64 (↑i : Int), int i64 (0 : Int)]) := by kernel_rfl
theorem nRef_ok : GOK P nRef := gok_plain tRef_ok
theorem ratV_rat {q : Rat} {n : Nat} : ratV (.rat q n) = q := rfl
theorem bits1 : max 1 (bitsN (Int.natAbs 1)) = 1 := by decide
theorem rowAdd {rl : List (Nat × Nat)} {l i s s' s2 : Nat} {x y : Nat → Rat} {t : Rat} (hx : ∀ i, i < l → x i = y i) (ht : t = y l) (h1 : s ≤ s2) (h2 : s' ≤ s2) (hi : i < l + 1) : avQ rl (if i < l then .rat (x i) s else nth [.rat t s'] (.rat 0 1) (i - l + 0)) (.rat (y i) s2) := by
  by_cases h : i < l
  · rw [if_pos h, hx i h]; exact .inr ⟨rfl, avLe0_rat_up rfl h1⟩
  · have : i = l := by omega
    subst this
    rw [if_neg h, Nat.sub_self, ht]
    exact .inr ⟨rfl, avLe0_rat_up rfl h2⟩
theorem rowOne {rl : List (Nat × Nat)} {i s' s2 : Nat} {y : Nat → Rat} {t : Rat} (ht : t = y 0) (h2 : s' ≤ s2) (hi : i < 1) : avQ rl (nth [.rat t s'] (.rat 0 1) (i + 0)) (.rat (y i) s2) := by
  have : i = 0 := by omega
  subst this
  rw [ht]
  exact .inr ⟨rfl, avLe0_rat_up rfl h2⟩
def ivOut (n : Nat) (k : Nat → Rat) (t : Rat) : Prop := t < k 0 ∨ k (n - 1) < t
instance {n : Nat} {k : Nat → Rat} {t : Rat} : Decidable (ivOut n k t) := inferInstanceAs (Decidable (t < k 0 ∨ k (n - 1) < t))
def ivI (n : Nat) (k : Nat → Rat) (t : Rat) : Nat := if ivOut n k t then 0 else ivl n k t
def ivE (n : Nat) (k : Nat → Rat) (t : Rat) : Int := if ivOut n k t then 7 else 0
abbrev ivRes (n : Nat) (k : Nat → Rat) (t : Rat) : AV := .tuple [.int .i64 (ivI n k t), .int .i64 (ivE n k t)]
theorem ivRes_out {n : Nat} {k : Nat → Rat} {t : Rat} (h : ivOut n k t) : resOK [.int .i64 0, .int .i64 7] (ivRes n k t) :=
  ⟨avLe0_int (by unfold ivI; rw [if_pos h]; rfl), avLe0_int (by unfold ivE; rw [if_pos h]), trivial⟩
theorem ivRes_in {n i : Nat} {k : Nat → Rat} {t : Rat} (h : ¬ ivOut n k t) (hi : i = ivl n k t) : resOK [.int .i64 i, .int .i64 0] (ivRes n k t) :=
  ⟨avLe0_int (by unfold ivI; rw [if_neg h, hi]), avLe0_int (by unfold ivE; rw [if_neg h]), trivial⟩
theorem hIv_ok {n p : Nat} {k : Nat → Rat} {t : Rat} (h : Kn n p k) (hn : n < 2 ^ 40) (K : Nat) : FOK P ref08_Interval K [ls k n, .int .i64 p, .rat t sK] [] (pres (ivRes n k t) []) := by
  have hp := h.p1
  have hl := h.len
  refine fok_loop (r := pres (ivRes n k t) []) hT nRef_ok hm is_hIv rfl (of_decide_eq_true (by kernel_rfl)) rfl [1,1,1,1,0] (i := 0) (y := part hvC [1,1,1,1,0,0,0]) (z := part hvC [1,1,1,1,1]) (by kernel_rfl) (by kernel_rfl) (by kernel_rfl) (f1 := [19, 27]) (f2 := [34, 42]) (f3 := []) 60 hvL 1
    (fun i : Nat => hvV n k i) (fun _ => [(0, tP t sK)]) (fun i => i + p + 2 ≤ n ∧ (∀ j, i < j → j + p + 2 ≤ n → t < k j) ∧ ¬ ivOut n k t) (fun i => i = ivl n k t ∧ ¬ ivOut n k t) (fun i => i) (fun _ => ⟨⟨_, hiv_pre, ?_⟩, fun i ⟨h1, h2, h4⟩ => ⟨_, hiv_b, ?_⟩, fun i ⟨h1, h2⟩ => ⟨_, hiv_e, ivRes_in h2 h1⟩⟩) K []
  · simp only [ATree.all, allP, decide_eq_true_eq, decide_eq_false_iff_not, cmpR_lt, cmpR_gt, cond_false, Int.toNat_zero, show ((n : Int) - 1).toNat = n - 1 by omega]
    (repeat' with_reducible first | refine And.intro ?_ ?_ | intro _)
    all_goals first | omega | assumption | skip
    · exact ⟨_, by kernel_rfl, ivRes_out (.inl ‹_›)⟩
    · exact absurd ‹true = false› (by decide)
    · exact ⟨_, by kernel_rfl, ivRes_out (.inr ‹_›)⟩
    · rename_i a b
      have hin : ¬ ivOut n k t := fun h => h.elim (fun h => a h) fun h => b h
      refine ⟨n - p - 2, ⟨by omega, fun j h1 h2 => by omega, hin⟩, [(0, 0)], rfl, ?_, rfl, objsQ_one rfl rfl (avQ_eq rfl rfl) trivial⟩
      rw [show (n : Int) - 1 - (p : Int) - 1 = ((n - p - 2 : Nat) : Int) by omega]
      rfl
  · simp only [ATree.all, allP, decide_eq_true_eq, decide_eq_false_iff_not, cmpR_lt, Int.toNat_natCast, cond_true]
    have hin : k 0 ≤ t ∧ t ≤ k (n - 1) := by
      constructor
      · have : ¬ t < k 0 := fun h => h4 (.inl h)
        grind
      · have : ¬ k (n - 1) < t := fun h => h4 (.inr h)
        grind
    have fin : k i ≤ t → i = ivl n k t := fun h3 => by
      by_cases hi : i + p + 2 < n
      · have h5 := h2 (i + 1) (by omega) (by omega)
        exact (ivl_is ⟨⟨by omega, h.sorted, by grind⟩, h3, by grind, .inl h5⟩).symm
      · have e1 := h.last (i + 1) (by omega) (by omega)
        have e2 := h.last (i + p) (by omega) (by omega)
        have e3 := h.mult i (by omega) (by omega)
        exact (ivl_is ⟨⟨by omega, h.sorted, by rw [e1, ← e2]; exact e3⟩, h3, by rw [e1]; exact hin.2, .inr e1⟩).symm
    (repeat' with_reducible first | refine And.intro ?_ ?_ | intro _)
    all_goals first | omega | assumption | skip
    · rename_i a b
      refine ⟨i - 1, ⟨by omega, fun j h5 h6 => ?_, h4⟩, by dsimp only; omega, [(0, 0)], rfl, ?_, rfl, objsQ_one rfl rfl (avQ_eq rfl rfl) trivial⟩
      · by_cases hj : j = i
        · subst hj; exact b
        · exact h2 j (by omega) h6
      · rw [show (i : Int) - 1 = ((i - 1 : Nat) : Int) by omega]; rfl
    · rename_i a b
      exact ⟨rfl, i, ⟨fin (by grind), h4⟩, [(0, 0)], rfl, rfl, rfl, objsQ_one rfl rfl (avQ_eq rfl rfl) trivial⟩
    · exact absurd ‹false = true› (by decide)
    · have hi : i = 0 := by omega
      subst hi
      exact ⟨rfl, 0, ⟨fin hin.1, h4⟩, [(0, 0)], rfl, rfl, rfl, objsQ_one rfl rfl (avQ_eq rfl rfl) trivial⟩
abbrev kdR : KindL ((Nat × (Nat → Rat)) × Int × Rat × Unit) := kC (kL sK) (kC kI (kC (kRs sK) kN))
def s_kIv : Spec := spL kdR (fun a => ivRes a.1.1 a.1.2 a.2.2.1) fun a => [Kn a.1.1 a.2.1.toNat a.1.2, 0 ≤ a.2.1, a.1.1 < 2 ^ 40]
theorem s_hIv_ok : ∀ K args pre r, s_kIv K args pre = some r → FOK P ref08_Interval K args pre r := spL_ok fun ⟨⟨n, k⟩, p, t, _⟩ K hn => by
  have := hIv_ok hn.1 hn.2.2 K (t := t)
  rw [Int.toNat_of_nonneg hn.2.1] at this
  exact this
end Go.Am.B

/- basis.fraction, basis.Values. -/
namespace Go.Am.B
open Go Go.Am.N AV ATree AEx IntKind
abbrev sF : Nat := 16386
def SB (d : Nat) : Nat := 65536 * 4 ^ d
abbrev rowS (m : Nat) (x : Nat → Rat) (s : Nat → Nat) : AObj := ⟨true, true, 3, m, fun i => .rat (x i) (s i)⟩
theorem SB_succ {d : Nat} : SB (d + 1) = 4 * SB d := by unfold SB; rw [Nat.pow_succ]; omega
theorem SB_lo : ∀ {d : Nat}, 65536 ≤ SB d
  | 0 => by unfold SB; omega
  | d + 1 => by rw [SB_succ]; have := SB_lo (d := d); omega
theorem sF_is : sF = 16386 := rfl
theorem SB_mono {d e : Nat} (h : d ≤ e) : SB d ≤ SB e := Nat.mul_le_mul_left _ (Nat.pow_le_pow_right (by omega) h)
abbrev sV : Nat := 268435456
theorem SB_hi {d : Nat} (h : d ≤ 6) : SB d ≤ sV := Nat.le_trans (SB_mono h) (by decide)
def vaOut (n : Nat) (k : Nat → Rat) (p : Nat) (t : Rat) (f : Nat → Rat) : AV := .tuple [.int .i64 (if ivOut n k t then 0 else (ivl n k t : Int) - p), .tab 3 (if ivOut n k t then 0 else p + 1) (fun j => .rat (f j) sV), .int .i64 (ivE n k t)]
abbrev vaRes (n : Nat) (k : Nat → Rat) (p : Nat) (t : Rat) : AV := vaOut n k p t (vB k (ivl n k t) t p)
theorem vaOut_out {n p : Nat} {k f : Nat → Rat} {t : Rat} (h : ivOut n k t) : resOK [.int .i64 0, .nil, .int .i64 7] (vaOut n k p t f) := by
  unfold vaOut ivE
  rw [if_pos h, if_pos h, if_pos h]
  exact ⟨.refl _, avLe0_nil_tab (by omega), .refl _, trivial⟩
theorem vaOut_in {n p : Nat} {k f : Nat → Rat} {t : Rat} {g : Nat → AV} (h : ¬ ivOut n k t) (hg : ∀ j, j < p + 1 → avLe0 (g j) (.rat (f j) sV)) : resOK [.int .i64 ((ivl n k t : Int) - p), .tab 3 (p + 1) g, .int .i64 0] (vaOut n k p t f) := by
  unfold vaOut ivE
  rw [if_neg h, if_neg h, if_neg h]
  exact ⟨.refl _, avLe0_tab hg, .refl _, trivial⟩
def hfB (k : Nat → Rat) (i : Nat) (t : Rat) (d j : Nat) : Rat := if j = 0 then 0 else fr (k (i - d + (j - 1))) (k (i - d + (j - 1) + (d + 1))) t * vB k i t d (j - 1)
end Go.Am.B

/- basis.Sum; numbers of poles. -/
namespace Go.Am.B
open Go Go.Am.N AV ATree AEx IntKind
theorem is_hPo : FnIs P ref08_Poles fn_ref08_Poles (codeOf fn_ref08_Poles) := fnIs get_ref08_Poles (by kernel_rfl) (by kernel_rfl) (by kernel_rfl)
def s_bVa : Spec := spL kdR (fun a => vaRes a.1.1 a.1.2 a.2.1.toNat a.2.2.1) fun a => [Kn a.1.1 a.2.1.toNat a.1.2, 0 ≤ a.2.1, a.2.1 ≤ 6, a.1.1 < 2 ^ 40]
def tPol : Spec := spL (kC (kL sK) (kC kI kN)) (fun a => .int .i64 ((a.1.1 : Int) - a.2.1 - 1)) fun a => [a.1.1 < 2 ^ 40, -2 ^ 40 < a.2.1, a.2.1 < 2 ^ 40]
theorem hpo_end {n : Nat} {k : Nat → Rat} {p : Int} : funT T [nG] [] 60 fn_ref08_Poles (codeOf fn_ref08_Poles) ⟨zipSlots 0 [ls k n, .int .i64 p], [], 0⟩ =
    let c3 : Int := (↑n : Int) - p; let c1 : Int := (2 : Int) ^ 63; let c2 : Int := c3 - (1 : Int); some (must [-c1 ≤ c3 ∧ c3 < c1, -c1 ≤ c2 ∧ c2 < c1] (leaf ret [int i64 c2])) := by kernel_rfl
theorem tPolh_ok : ∀ K args pre r, tPol K args pre = some r → FOK P ref08_Poles K args pre r := spL_ok fun ⟨⟨n, k⟩, p, _⟩ K hn => by
  obtain ⟨h1, h2, h3⟩ := hn
  have h3 : p < 2 ^ 40 := h3
  simp only at h1 h2
  refine fok_tree (r := pres (.int .i64 ((n : Int) - p - 1)) []) hT (gok_plain gok_nil) hm is_hPo rfl (of_decide_eq_true (by kernel_rfl)) rfl 60 hpo_end (fun _ => ?_) K []
  simp only [ATree.all, allP]
  exact ⟨by omega, .refl _⟩
abbrev sU : Nat := 4294967296
theorem ivE_ne {n : Nat} {k : Nat → Rat} {t : Rat} (h : ivE n k t ≠ 0) : ivOut n k t := by
  unfold ivE at h
  by_cases ho : ivOut n k t
  · exact ho
  · rw [if_neg ho] at h; exact absurd rfl h
theorem ivE_eq {n : Nat} {k : Nat → Rat} {t : Rat} (h : ivE n k t = 0) : ¬ ivOut n k t := fun ho => by unfold ivE at h; rw [if_pos ho] at h; omega
theorem Kn.iv_in {n p : Nat} {k : Nat → Rat} (h : Kn n p k) {t : Rat} (hin : ¬ ivOut n k t) : p ≤ ivl n k t ∧ ivl n k t + p + 1 < n := by
  have h1 : ¬ t < k 0 := fun h => hin (.inl h)
  have h2 : ¬ k (n - 1) < t := fun h => hin (.inr h)
  exact (h.ivl_ok (by grind) (by grind)).2
end Go.Am.B
