/- Contracts of functions that are handed a pointer to an object and leave it changed. -/
import Derived.Test.YtajjlacbodnggaaGreatAm27
set_option linter.unusedVariables false
namespace Go.Am
open AV

/-- The end of a function: its results, and what object 0 is then. -/
def endO (T : Types) (fn : Func) (e : AEx) (s : AState) : Option (ATree (List AV × Option AObj)) :=
  match endT T fn e s with
  | some t => t.bind fun e us => some (.leaf e (us, look 0 s.store))
  | none => none
def funO (T : Types) (Γ : Contracts) (forks : List Nat) (n : Nat) (fn : Func) (x : Code) (s : AState) : Option (ATree (List AV × Option AObj)) :=
  match treeAV T Γ forks n x s with
  | some t => t.bind (endO T fn)
  | none => none

theorem fok_obj {P : Program} {T : Types} (hT : TOK P T) {Γ : Contracts} (hΓ : GOK P Γ) (hm : P.follows .mixedOrders = true) {f : FuncId} {fn : Func} {x : Code} (hf : FnIs P f fn x) {k idx es off : Nat} {p : List Nat} {rest : List AV} {o2 o o' : AObj} {res : AV} {l : List Prop}
    (hkr : keysL rest = []) (hrt : (rest.all fun v => !v.isTuple) = true) (hlen : rest.length + 1 ≤ fn.ntmps) (ho : ∀ ρ, objLe ρ o2 o) {forks : List Nat} (n : Nat) {t : ATree (List AV × Option AObj)}
    (hc : funO T Γ forks n fn x ⟨zipSlots 0 (.ptr 0 idx es off p :: rest), [(0, o)], 1⟩ = some t)
    (h : allP l → t.all fun _ v => resOK v.1 res ∧ ∃ o1, v.2 = some o1 ∧ o1.row = false ∧ objLe (ren [(k, 0)]) o1 o') (K : Nat) :
    FOK P f K (.ptr k idx es off p :: rest) [(k, o2)] ⟨res, [(k, o')], l⟩ := by
  have hrest : ∀ {rest : List AV}, keysL rest = [] → (rest.all fun v => !v.isTuple) = true → avLes (ren [(0, k)]) rest rest := by
    intro rest
    induction rest with
    | nil => intro _ _; trivial
    | cons v r ih =>
      intro h1 h2
      simp only [keysL, List.append_eq_nil_iff] at h1
      simp only [List.all_cons, Bool.and_eq_true, Bool.not_eq_true'] at h2
      exact ⟨⟨h2.1, avLe_pure h1.1⟩, ih h1.2 h2.2⟩
  refine fok_core hT hf (args0 := .ptr 0 idx es off p :: rest) (pre0 := [(0, o)]) (nx := 1) [(0, k)] (by simpa using hlen) (by simp [renOK]) ⟨⟨rfl, avLe_ptr rfl⟩, hrest hkr hrt⟩ ⟨⟨k, o2, rfl, by simp [look], ho _⟩, trivial⟩
    (fun a x h => ?_) (fun x o h => .inl ?_) (fun need c h0 => ?_)
  · simp only [ren, look] at h
    split at h
    · simp only [Option.some.injEq] at h; subst h; exact ⟨_, by simp [look]; rfl⟩
    · simp at h
  · simp only [look] at h
    split at h
    · rename_i he
      exact ⟨_, by simp only [look, he, if_true]; rfl⟩
    · simp at h
  have h := h need
  unfold funO at hc
  cases hx : treeAV T Γ forks n x ⟨zipSlots 0 (.ptr 0 idx es off p :: rest), [(0, o)], 1⟩ with
  | none => rw [hx] at hc; simp at hc
  | some u =>
    rw [hx] at hc
    refine treeAV_ok hT hΓ hm n hf.dst hx (ATree.all_mono ?_ (ATree.bind_all hc h))
    rintro e s' ⟨v, h1, h2⟩
    unfold endO at h1
    split at h1
    · rename_i v' hv'
      have h3 := ATree.bind_all h1 h2
      have h4 : v'.all fun _ us => resOK us res ∧ ∃ o1, look 0 s'.store = some o1 ∧ o1.row = false ∧ objLe (ren [(k, 0)]) o1 o' := by
        refine ATree.all_mono ?_ h3
        rintro e us ⟨w, g1, g2⟩
        simp only [Option.some.injEq] at g1
        subst g1
        exact g2
      have h5 : Fin T fn res e s' := endT_ok hv' (ATree.all_mono (fun _ _ h => h.1) h4)
      have h6 : ∃ o1, look 0 s'.store = some o1 ∧ o1.row = false ∧ objLe (ren [(k, 0)]) o1 o' := by
        have : ∀ {t : ATree (List AV)}, (t.all fun _ us => resOK us res ∧ ∃ o1, look 0 s'.store = some o1 ∧ o1.row = false ∧ objLe (ren [(k, 0)]) o1 o') → ∃ o1, look 0 s'.store = some o1 ∧ o1.row = false ∧ objLe (ren [(k, 0)]) o1 o' := by
          intro t
          induction t with
          | leaf e us => exact fun h => h.2
          | must ps t ih => exact fun h => ih h.2
          | fork b t1 t2 ih1 ih2 =>
            intro h
            cases b with
            | true => exact ih1 (h.1 rfl)
            | false => exact ih2 (h.2 rfl)
        exact this h4
      refine ⟨h5.1, ren [(k, 0)], tauOK_pre, .inl ⟨h5.2, fun x ox hx => ?_⟩⟩
      obtain ⟨o1, g1, g2, g3⟩ := h6
      have he : applyEff (toOpts [(k, o')]) [(k, o2)] = [(k, o')] := by simp [applyEff, toOpts, put]
      rw [he] at hx
      simp only [look] at hx
      split at hx
      · rename_i hk
        have : k = x := by simpa using hk
        subst this
        simp only [Option.some.injEq] at hx
        subst hx
        exact ⟨0, o1, by simp [ren, look], g1, g2, g3⟩
      · simp at hx
    · simp at h1

/-- A function that gives back a new object that may be written to. -/
theorem fok_new {P : Program} {T : Types} (hT : TOK P T) {Γ : Contracts} (hΓ : GOK P Γ) (hm : P.follows .mixedOrders = true) {f : FuncId} {fn : Func} {x : Code} (hf : FnIs P f fn x) {args : List AV} {o o' : AObj} {a idx es off ls : Nat} {p : List Nat} {l : List Prop}
    (hka : keysL args = []) (hrt : (args.all fun v => !v.isTuple) = true) (hlen : args.length ≤ fn.ntmps) (hres : fn.results.toList = [.tmp ls]) {forks : List Nat} (n : Nat) {e : AEx} {q : List Prop}
    (hc : seeL T Γ forks n [ls] [x] ⟨zipSlots 0 args, [], 0⟩ = some (.leaf e ([.ptr a idx es off p], [(a, o)])))
    (he : e = .normal ∨ e = .ret) (h : ∀ ρ, objLe ρ o o') (K : Nat) : FOK P f K args [] ⟨.ptr K idx es off p, [(K, o')], l⟩ := by
  have hrest : ∀ {rest : List AV}, keysL rest = [] → (rest.all fun v => !v.isTuple) = true → avLes (ren []) rest rest := by
    intro rest
    induction rest with
    | nil => intro _ _; trivial
    | cons v r ih =>
      intro h1 h2
      simp only [keysL, List.append_eq_nil_iff] at h1
      simp only [List.all_cons, Bool.and_eq_true, Bool.not_eq_true'] at h2
      exact ⟨⟨h2.1, avLe_pure h1.1⟩, ih h1.2 h2.2⟩
  refine fok_core hT hf (args0 := args) (pre0 := []) (nx := 0) [] hlen rfl (hrest hka hrt) trivial (fun a k h => by simp [ren, look] at h) (fun k o h => ?_) (fun _ c h0 => ?_)
  · simp only [look] at h
    split at h
    · rename_i he
      have : K = k := by simpa using he
      subst this
      exact .inr ⟨Nat.le_refl _, by unfold stride; omega⟩
    · simp at h
  refine AWp.see hT hΓ hm n [ls] hc hf.dst fun s' hv => ⟨he, ren [(K, a)], tauOK_one ⟨Nat.le_refl _, by unfold stride; omega⟩, .inr ?_⟩
  refine endsB_view (us := [.ptr a idx es off p]) (ws := [.ptr K idx es off p]) (ps := [(K, o')]) hv ?_ ⟨⟨rfl, avLe_ptr (by simp [ren, look])⟩, trivial⟩ rfl rfl ⟨⟨a, _, by simp [ren, look], by simp [look], h _⟩, trivial⟩
  rw [hres]
  simp only [resV, zipL, look, beq_self_eq_true, if_true]
  rfl
end Go.Am
