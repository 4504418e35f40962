/- Contracts that the evaluator itself writes: of functions that only read, without a loop of unknown length. -/
import Derived.Test.YtajjlacbodnggaaGreatAm28
set_option linter.unusedVariables false
namespace Go.Am
open AV

mutual
/-- One of two values, by a condition that is not known. -/
def mrg (b : Bool) : AV → AV → Option AV
  | .rat q n, .rat r m => some (.rat (cond b q r) (max n m))
  | .int k x, .int j y => match isKind k j with
    | true => some (.int k (cond b x y))
    | false => none
  | .bool x, .bool y => some (.bool (cond b x y))
  | .tab e n f, .tab e' m g => match e == e' with
    | true => some (.tab e (cond b n m) fun i => cond b (f i) (g i))
    | false => none
  | .nil, .nil => some .nil
  | .agg l, .agg m => match mrgL b l m with
    | some x => some (.agg x)
    | none => none
  | _, _ => none
def mrgL (b : Bool) : List AV → List AV → Option (List AV)
  | [], [] => some []
  | u :: l, v :: m => match mrg b u v, mrgL b l m with
    | some x, some y => some (x :: y)
    | _, _ => none
  | _, _ => none
end

mutual
theorem mrg_true : ∀ {u v x : AV}, mrg true u v = some x → avLe0 u x
  | .rat q n, v, x, h => by
    cases v <;> simp only [mrg, Option.some.injEq, reduceCtorEq] at h
    subst h; exact avLe0_rat_more (Nat.le_max_left ..)
  | .int k a, v, x, h => by
    cases v <;> simp only [mrg, reduceCtorEq] at h
    split at h
    · simp only [Option.some.injEq] at h; subst h; exact .refl _
    · simp at h
  | .bool a, v, x, h => by
    cases v <;> simp only [mrg, Option.some.injEq, reduceCtorEq] at h
    subst h; exact .refl _
  | .tab e n f, v, x, h => by
    cases v <;> simp only [mrg, reduceCtorEq] at h
    split at h
    · simp only [Option.some.injEq] at h; subst h; exact .refl _
    · simp at h
  | .nil, v, x, h => by
    cases v <;> simp only [mrg, Option.some.injEq, reduceCtorEq] at h
    subst h; exact .refl _
  | .agg l, v, x, h => by
    cases v <;> simp only [mrg, reduceCtorEq] at h
    split at h
    · rename_i hl
      simp only [Option.some.injEq] at h; subst h; exact avLe0_agg (mrgL_true hl)
    · simp at h
  | .mag _, v, x, h => by simp [mrg] at h
  | .ntab _ _ _ _, v, x, h => by simp [mrg] at h
  | .void, v, x, h => by simp [mrg] at h
  | .str _, v, x, h => by simp [mrg] at h
  | .cref _, v, x, h => by simp [mrg] at h
  | .ptr _ _ _ _ _, v, x, h => by simp [mrg] at h
  | .own _ _ _ _, v, x, h => by simp [mrg] at h
  | .func _ _, v, x, h => by simp [mrg] at h
  | .tuple _, v, x, h => by simp [mrg] at h
theorem mrgL_true : ∀ {u v x : List AV}, mrgL true u v = some x → avLes0 u x
  | [], v, x, h => by
    cases v <;> simp only [mrgL, Option.some.injEq, reduceCtorEq] at h
    subst h; trivial
  | a :: l, v, x, h => by
    cases v <;> simp only [mrgL, reduceCtorEq] at h
    split at h
    · rename_i h1 h2
      simp only [Option.some.injEq] at h; subst h; exact ⟨mrg_true h1, mrgL_true h2⟩
    · simp at h
end
mutual
theorem mrg_false : ∀ {u v x : AV}, mrg false u v = some x → avLe0 v x
  | .rat q n, v, x, h => by
    cases v <;> simp only [mrg, Option.some.injEq, reduceCtorEq] at h
    subst h; exact avLe0_rat_more (Nat.le_max_right ..)
  | .int k a, v, x, h => by
    cases v <;> simp only [mrg, reduceCtorEq] at h
    split at h
    · rename_i hk
      have := isKind_eq hk
      subst this
      simp only [Option.some.injEq] at h; subst h; exact .refl _
    · simp at h
  | .bool a, v, x, h => by
    cases v <;> simp only [mrg, Option.some.injEq, reduceCtorEq] at h
    subst h; exact .refl _
  | .tab e n f, v, x, h => by
    cases v <;> simp only [mrg, reduceCtorEq] at h
    split at h
    · rename_i hk
      have := eq_of_beq hk
      subst this
      simp only [Option.some.injEq] at h; subst h; exact .refl _
    · simp at h
  | .nil, v, x, h => by
    cases v <;> simp only [mrg, Option.some.injEq, reduceCtorEq] at h
    subst h; exact .refl _
  | .agg l, v, x, h => by
    cases v <;> simp only [mrg, reduceCtorEq] at h
    split at h
    · rename_i hl
      simp only [Option.some.injEq] at h; subst h; exact avLe0_agg (mrgL_false hl)
    · simp at h
  | .mag _, v, x, h => by simp [mrg] at h
  | .ntab _ _ _ _, v, x, h => by simp [mrg] at h
  | .void, v, x, h => by simp [mrg] at h
  | .str _, v, x, h => by simp [mrg] at h
  | .cref _, v, x, h => by simp [mrg] at h
  | .ptr _ _ _ _ _, v, x, h => by simp [mrg] at h
  | .own _ _ _ _, v, x, h => by simp [mrg] at h
  | .func _ _, v, x, h => by simp [mrg] at h
  | .tuple _, v, x, h => by simp [mrg] at h
theorem mrgL_false : ∀ {u v x : List AV}, mrgL false u v = some x → avLes0 v x
  | [], v, x, h => by
    cases v <;> simp only [mrgL, Option.some.injEq, reduceCtorEq] at h
    subst h; trivial
  | a :: l, v, x, h => by
    cases v <;> simp only [mrgL, reduceCtorEq] at h
    split at h
    · rename_i h1 h2
      simp only [Option.some.injEq] at h; subst h; exact ⟨mrg_false h1, mrgL_false h2⟩
    · simp at h
end

theorem avLes0.trans : ∀ {a b c : List AV}, avLes0 a b → avLes0 b c → avLes0 a c
  | [], [], [], _, _ => trivial
  | _ :: _, _ :: _, _ :: _, h, h' => ⟨h.1.trans h'.1, h.2.trans h'.2⟩
  | [], [], _ :: _, _, h => h.elim
  | [], _ :: _, _, h, _ => h.elim
  | _ :: _, [], _, h, _ => h.elim
  | _ :: _, _ :: _, [], _, h => h.elim

/-- A tree as one list of values, with what has to hold. -/
def treeC : ATree (List AV) → Option (List AV × List Prop)
  | .leaf _ us => some (us, [])
  | .must ps t => match treeC t with
    | some (us, qs) => some (us, ps ++ qs)
    | none => none
  | .fork b t u => match treeC t, treeC u with
    | some (x, p), some (y, q) => match mrgL b x y with
      | some z => match p, q with
        | [], [] => some (z, [])
        | p, q => some (z, [b = true → allP p, b = false → allP q])
      | none => none
    | _, _ => none

theorem treeC_ok : ∀ {t : ATree (List AV)} {us : List AV} {ps : List Prop}, treeC t = some (us, ps) → allP ps → t.all fun _ vs => avLes0 vs us
  | .leaf e vs, us, ps, h, _ => by
    simp only [treeC, Option.some.injEq, Prod.mk.injEq] at h
    obtain ⟨rfl, rfl⟩ := h
    exact .refl _
  | .must l t, us, ps, h, hp => by
    simp only [treeC] at h
    split at h
    · rename_i h1
      simp only [Option.some.injEq, Prod.mk.injEq] at h
      obtain ⟨rfl, rfl⟩ := h
      obtain ⟨p1, p2⟩ := allP_append.1 hp
      exact ⟨p1, treeC_ok h1 p2⟩
    · simp at h
  | .fork b t u, us, ps, h, hp => by
    simp only [treeC] at h
    split at h
    · rename_i x p y q h1 h2
      split at h
      · rename_i z hz
        have key : us = z ∧ (b = true → allP p) ∧ (b = false → allP q) := by
          split at h
          · simp only [Option.some.injEq, Prod.mk.injEq] at h
            exact ⟨h.1.symm, fun _ => trivial, fun _ => trivial⟩
          · simp only [Option.some.injEq, Prod.mk.injEq] at h
            obtain ⟨rfl, rfl⟩ := h
            exact ⟨rfl, hp⟩
        obtain ⟨rfl, p1, p2⟩ := key
        refine ⟨fun hb => ?_, fun hb => ?_⟩
        · subst hb
          exact ATree.all_mono (fun _ vs hv => hv.trans (mrgL_true hz)) (treeC_ok h1 (p1 rfl))
        · subst hb
          exact ATree.all_mono (fun _ vs hv => hv.trans (mrgL_false hz)) (treeC_ok h2 (p2 rfl))
      · simp at h
    · simp at h

/-- The contract of a function, written by the evaluator. -/
def aSpec (T : Types) (Γ : Contracts) (forks : List Nat) (fuel : Nat) (fn : Func) : Spec := pureSpec fun args =>
  match Nat.ble args.length fn.ntmps with
  | true => match funT T Γ forks fuel fn (codeOf fn) ⟨zipSlots 0 args, [], 0⟩ with
    | some t => match treeC t with
      | some (us, ps) => match us with
        | [u] => some ⟨u, [], ps⟩
        | us => some ⟨.tuple us, [], ps⟩
      | none => none
    | none => none
  | false => none

theorem resOK_one {us : List AV} {v : AV} (h : avLes0 us [v]) : resOK us v := by
  match us, h with
  | [u], h => exact h.1
theorem resOK_tuple {us vs : List AV} (hv : ∀ u, vs ≠ [u]) (h : avLes0 us vs) : resOK us (.tuple vs) := by
  match us, vs, h with
  | [], [], h => exact h
  | [u], [v], h => exact absurd rfl (hv v)
  | a :: b :: l, _ :: _ :: _, h => exact h
  | [u], _ :: _ :: _, h => exact absurd h.2 (by simp [avLes0])
  | a :: b :: l, [v], h => exact absurd h.2 (by simp [avLes0])
  | [], _ :: _, h => exact h.elim
  | _ :: _, [], h => exact h.elim

theorem aSpec_ok {P : Program} {T : Types} (hT : TOK P T) {Γ : Contracts} (hΓ : GOK P Γ) (hm : P.follows .mixedOrders = true) {f : FuncId} {fn : Func} (hf : FnIs P f fn (codeOf fn)) (forks : List Nat) (fuel : Nat) :
    ∀ K args pre r, aSpec T Γ forks fuel fn K args pre = some r → FOK P f K args pre r := by
  refine pureSpec_ok fun K args r hk hs hp => ?_
  split at hs
  · rename_i hlen
    have hlen := Nat.le_of_ble_eq_true hlen
    split at hs
    · rename_i t ht
      split at hs
      · rename_i us ps hc
        split at hs
        · simp only [Option.some.injEq] at hs
          subst hs
          exact fok_tree (r := ⟨_, [], ps⟩) hT hΓ hm hf hk hlen rfl fuel ht (fun hn => ATree.all_mono (fun _ vs hv => resOK_one hv) (treeC_ok hc hn)) K []
        · rename_i hne
          simp only [Option.some.injEq] at hs
          subst hs
          exact fok_tree (r := ⟨_, [], ps⟩) hT hΓ hm hf hk hlen rfl fuel ht (fun hn => ATree.all_mono (fun _ vs hv => resOK_tuple hne hv) (treeC_ok hc hn)) K []
      · simp at hs
    · simp at hs
  · simp at hs

theorem gok_strict {P : Program} {Γ : Contracts} (h : GOK P Γ) : GOK P (sG :: Γ) := gok_cons (fun K args pre r hs => by simp at hs) h
theorem gok_plain {P : Program} {Γ : Contracts} (h : GOK P Γ) : GOK P (nG :: Γ) := gok_cons (fun K args pre r hs => by simp at hs) h
end Go.Am
