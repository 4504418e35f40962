/- Contracts of functions that are handed objects to write to, or give back such; loops by what is seen. -/
import Derived.Test.YtajjlacbodnggaaGreatZ1
set_option linter.unusedVariables false
namespace Go.Am
open AV

theorem VReps.length {M : Nat → Prop} {w : World} {β : KMap} : ∀ {us : List AV} {xs : List Value}, VReps M w β us xs → us.length = xs.length
  | [], [], _ => rfl
  | _ :: _, _ :: _, h => by simp [VReps.length h.2]
  | [], _ :: _, h => h.elim
  | _ :: _, [], h => h.elim

theorem VReps.weak {c c' : Ctx} {β β2 : KMap} {w : World} {ρ : Nat → Option Nat} {M M' : Nat → Prop} (hM : ∀ b, M' b → M b) (hβ : ∀ k2 k1, ρ k2 = some k1 → β2 k2 = β k1) : ∀ {us vs : List AV} {xs : List Value}, avLes ρ us vs → VReps M w β us xs → VReps M' w β2 vs xs
  | [], [], [], _, _ => trivial
  | u :: us, v :: vs, x :: xs, h, hv => ⟨hv.1.weak hM hβ h.1.2, VReps.weak (c := c) (c' := c') hM hβ h.2 hv.2⟩
  | [], _ :: _, _, h, _ => h.elim
  | _ :: _, [], _, h, _ => h.elim
  | _ :: _, _ :: _, [], _, h => h.elim
  | [], [], _ :: _, _, h => h.elim

theorem renOK_inj {nx : Nat} {rl : List (Nat × Nat)} (hr : renOK nx rl = true) : ∀ a b k, ren rl a = some k → ren rl b = some k → a = b := by
  intro a b k ha hb
  have := List.all_eq_true.1 hr _ (look_mem ha)
  simp only [Bool.and_eq_true, decide_eq_true_eq] at this
  simpa using List.all_eq_true.1 this.2 _ (look_mem hb)
theorem renOK_lt {nx : Nat} {rl : List (Nat × Nat)} (hr : renOK nx rl = true) {a k : Nat} (ha : ren rl a = some k) : a < nx := by
  have := List.all_eq_true.1 hr _ (look_mem ha)
  simp only [Bool.and_eq_true, decide_eq_true_eq] at this
  exact this.1

/-- The results of a function, one value or a tuple. -/
theorem oneVal {M : Nat → Prop} {w : World} {β : KMap} {us : List AV} {xs : List Value} (h : VReps M w β us xs) : VRep M w β (oneOr us) (if h : xs.length = 1 then xs.toArray[0]'(by simpa using (show 0 < xs.length by omega)) else .tuple xs.toArray) := by
  have hl := h.length
  match us, xs, h, hl with
  | [], [], _, _ => exact ⟨[], rfl, trivial⟩
  | [u], [x], h, _ => exact h.1.vrep
  | u :: u' :: us, x :: x' :: xs, h, _ => simp only [List.length_cons, Nat.add_eq_right, Nat.add_eq_zero_iff, Nat.succ_ne_zero, and_false, dite_false]; exact ⟨_, rfl, h⟩

section core
variable {P : Program} {T : Types}

/-- What holds at the end of a function that gives back final values, and that was handed objects. -/
structure EndsA (T : Types) (fn : Func) (τ : Nat → Option Nat) (pre : Store) (r : CRes) (s : AState) : Prop where
  ends : Ends T fn r.res s
  objs : ∀ k o, look k (applyEff (toOpts r.post) pre) = some o → ∃ k1 o1, τ k = some k1 ∧ look k1 s.store = some o1 ∧ o1.row = false ∧ objLe τ o1 o

/-- The same, if it gives back objects that may still be written to. -/
structure EndsB (T : Types) (fn : Func) (τ : Nat → Option Nat) (pre : Store) (r : CRes) (s : AState) : Prop where
  ends : ∃ vs q us, resultsAV T s fn.results.toList = some (vs, q) ∧ allP q ∧ avLes τ vs us ∧ r.res = oneOr us
  objs : ∀ k o, look k (applyEff (toOpts r.post) pre) = some o → ∃ k1 o1, τ k = some k1 ∧ look k1 s.store = some o1 ∧ objLe τ o1 o

/-- Which keys stand for which at the end: those of the new objects and those that were handed. -/
structure TauOK (rl : List (Nat × Nat)) (K : Nat) (pre : Store) (τ : Nat → Option Nat) : Prop where
  inj : ∀ a b k, τ a = some k → τ b = some k → a = b
  dom : ∀ k a, τ k = some a → ren rl a = some k ∨ (K ≤ k ∧ k < K + stride)

theorem fok_core (hT : TOK P T) {f : FuncId} {fn : Func} {x : Code} (hf : FnIs P f fn x) {args args0 : List AV} {pre pre0 : Store} {r : CRes} {K nx : Nat} (rl : List (Nat × Nat)) (hlen : args0.length ≤ fn.ntmps) (hr : renOK nx rl = true)
    (ha : avLes (ren rl) args args0) (hp : objLes (ren rl) pre pre0) (hrl : ∀ a k, ren rl a = some k → ∃ o, look k pre = some o)
    (hpost : ∀ k o, look k r.post = some o → (∃ o', look k pre = some o') ∨ (K ≤ k ∧ k < K + stride))
    (h : r.need → ∀ c : Ctx, (∀ k x, c.k0 k = some x → (ren rl k).isSome = true) → AWp P c fn.ntmps x ⟨zipSlots 0 args0, pre0, nx⟩ fun e s' => (e = .normal ∨ e = .ret) ∧ ∃ τ, TauOK rl K pre τ ∧ (EndsA T fn τ pre r s' ∨ EndsB T fn τ pre r s')) : FOK P f K args pre r := by
  intro need
  refine ⟨hpost, fun c D D' β w vs hw0 hMw hrel hD hK hv => .inl ⟨fn, hf.get, hf.name, by simp [hf.body], ?_⟩⟩
  have hobj0 := view_objs hp
  have hβ0 : ∀ k2 k1, ren rl k2 = some k1 → (fun a => (ren rl a).bind β) k2 = β k1 := fun k2 k1 h => by simp [h]
  have hW : WRel { c with k0 := fun a => (ren rl a).bind β } pre0 (fun k => k < nx) (fun a => (ren rl a).bind β) w := by
    refine hrel.weak (c' := { c with k0 := fun a => (ren rl a).bind β }) (ρ := ren rl) rfl rfl rfl (renOK_inj hr) hobj0 hβ0 (fun k2 x hk => ?_) (fun k2 b N hk => ?_) (fun k x hk => hk)
    · cases h1 : ren rl k2 with
      | none => simp [h1] at hk
      | some k1 => exact renOK_lt hr h1
    · cases h1 : ren rl k2 with
      | none => simp [h1] at hk
      | some k1 => simp [h1] at hk; exact hrel.lt k1 b N hk
  have hv0 : VReps (Mset { c with k0 := fun a => (ren rl a).bind β } pre0 (fun a => (ren rl a).bind β)) w (fun a => (ren rl a).bind β) args0 vs :=
    hv.weak (c := c) (c' := c) (ρ := ren rl) (mset_weak rfl hobj0 hβ0) hβ0 ha
  have hl0 := hv0.length
  have hstart : Rel { c with k0 := fun a => (ren rl a).bind β } fn.ntmps (fun k => k < nx) (zipSlots 0 args0) pre0 { tmps := vs.toArray ++ Array.replicate (fn.ntmps - vs.toArray.size) undef, defers := [] } w := by
    refine ⟨rfl, by simp; omega, _, hW, ?_⟩
    have := zipSlots_ok (pre := #[]) (post := Array.replicate (fn.ntmps - vs.toArray.size) undef) hv0 rfl
    simpa using this
  refine calls_of_wp hf.get hf.body (wp_mono (h need { c with k0 := fun a => (ren rl a).bind β } (fun k x hk => by
    cases h1 : ren rl k with
    | none => simp [h1] at hk
    | some k1 => rfl) _ w hstart) ?_)
  rintro e a' w' ⟨ae, s', rfl, hr', hex, τ, hτ, hends⟩
  -- what the end gives, in the function's own keys
  have hfin : a'.defers = [] ∧ ∃ x β1 st1, (results fn a'.tmps).run P w' = .ok x w' ∧ WRel { c with k0 := fun a => (ren rl a).bind β } st1 (fun k => k < s'.next) β1 w' ∧
      (∀ k o, look k (applyEff (toOpts r.post) pre) = some o → ∃ k1 o1, τ k = some k1 ∧ look k1 st1 = some o1 ∧ objLe τ o1 o) ∧
      VRep (Mset { c with k0 := fun a => (ren rl a).bind β } st1 β1) w' (fun k => (τ k).bind β1) r.res x := by
    rcases hends with hends | hends
    · obtain ⟨hdef, x, β1, st1, hrun, hw1, hvx, hrow⟩ := ends_ok hT hends.ends hr'
      refine ⟨hdef, x, β1, st1, hrun, hw1, fun k o hk => ?_, hvx.mono (fun b o h1 h2 => ⟨h2, h1⟩) fun k x hk => by simp [noKeys] at hk⟩
      obtain ⟨k1, o1, g1, g2, g3, g4⟩ := hends.objs k o hk
      exact ⟨k1, o1, g1, hrow k1 o1 g2 g3, g4⟩
    · obtain ⟨a1, a2, β1, a3, a4⟩ := hr'
      obtain ⟨vs1, q, us, h1, hq, h2, h3⟩ := hends.ends
      obtain ⟨xs, hxs, hv, hlen⟩ := results_ok hT a3 a4 (g := fun x => match x with
        | ResultVar.tmp t => pure (a'.tmps.getD t undef)
        | ResultVar.cell r t => do let y ← asAddr (a'.tmps.getD r undef); loadVar t y) (fun _ => rfl) (fun _ _ => rfl) h1 hq
      refine ⟨a1, if h : xs.length = 1 then xs.toArray[0]'(by simpa using (show 0 < xs.length by omega)) else .tuple xs.toArray, β1, s'.store, ?_, a3, hends.objs, ?_⟩
      · have key : results fn a'.tmps = (do
            let vs ← fn.results.mapM fun x => match x with
              | ResultVar.tmp t => pure (a'.tmps.getD t undef)
              | ResultVar.cell r t => do let y ← asAddr (a'.tmps.getD r undef); loadVar t y
            pure (if h : vs.size = 1 then vs[0] else Value.tuple vs)) := rfl
        rw [key, Sem.run_bind, Array.mapM_eq_mapM_toList, Sem.run_map, hxs]
        simp only [Result.andThen_ok, Sem.run_pure]
        congr 1
      · rw [h3]
        exact oneVal (hv.weak (c := c) (c' := c) (ρ := τ) (fun _ h => h) (fun k2 k1 h => by simp [h]) h2)
  obtain ⟨hdef, x, β1, st1, hrun, hw1, hobj1, hvx⟩ := hfin
  have hkeep1 : ∀ k a, τ k = some a → ∀ y, β k = some y → β1 a = some y := by
    intro k a hka y hy
    rcases hτ.dom k a hka with h1 | ⟨h1, h2⟩
    · exact hw1.keep a y (by simp only [h1, Option.bind_some]; exact hy)
    · exact absurd (hrel.dom k y hy) (hK k h1 h2).1
  have hβ2 : ∀ k2 k1, τ k2 = some k1 → (fun k => match τ k with
      | some a => β1 a
      | none => β k) k2 = β1 k1 := fun k2 k1 h => by simp [h]
  have hW2 : WRel c (applyEff (toOpts r.post) pre) D' (fun k => match τ k with
      | some a => β1 a
      | none => β k) w' := by
    refine hw1.weak (c' := c) (ρ := τ) rfl rfl rfl hτ.inj hobj1 hβ2 (fun k2 y hk => ?_) (fun k2 b N hk => ?_) (fun k y hk => ?_)
    · split at hk
      · rename_i a ha
        rcases hτ.dom k2 a ha with h1 | ⟨h1, h2⟩
        · obtain ⟨o, ho⟩ := hrl a k2 h1
          obtain ⟨b, N, _, _, h3, _⟩ := hrel.obj k2 o ho
          exact hD _ (hrel.dom k2 _ h3)
        · exact (hK k2 h1 h2).2
      · exact hD _ (hrel.dom k2 y hk)
    · split at hk
      · exact hw1.lt _ b N hk
      · exact Nat.lt_of_lt_of_le (hrel.lt k2 b N hk) (by have := hw1.size; rw [← hw0]; exact this)
    · have hy := hrel.keep k y hk
      split
      · rename_i a ha
        exact hkeep1 k a ha y hy
      · exact hy
  have hO : OpR c pre D' β w (toOpts r.post) r.res x w' := by
    refine ⟨_, hW2, ⟨fun b o hb ho => ?_, fun k y hk => ?_⟩, ?_⟩
    · have hlt : b < c.w0.heap.size := by rw [hw0]; exact heap_lt ho
      have hmw : ¬ c.Mw b := fun hm => hb (hMw b hm)
      refine ⟨?_, ?_⟩
      · rw [hw1.block b hlt hmw]
        show c.w0.heap[b]? = _
        rw [hw0]; exact ho
      · rintro (hm | ⟨k, o', N, h1, h2, h3⟩)
        · exact hb (.inl hm)
        · rcases hW2.new k o' b N h1 h2 h3 with h4 | h4
          · omega
          · exact hmw h4
    · split
      · rename_i a ha
        exact hkeep1 k a ha y hk
      · exact hk
    · refine hvx.mono (fun b o h1 h2 => ⟨h2, fun h3 => h1 (mset_weak (c := { c with k0 := fun a => (ren rl a).bind β }) rfl hobj1 hβ2 b h3)⟩) (fun k y hk => ?_)
      cases h1 : τ k with
      | none => simp [h1] at hk
      | some a => simpa [h1] using hk
  rcases hex with rfl | rfl
  · exact ⟨hdef, x, hrun, x, rfl, hO⟩
  · exact ⟨hdef, x, hrun, x, rfl, hO⟩

end core

/-- No value is a tuple, no key is too great, and what the objects hold names no object. -/
def okV (nx : Nat) (vs : List AV) : Bool := (vs.all fun v => !v.isTuple) && (keysL vs).all fun k => decide (k < nx)
def okO (nx : Nat) : Store → Prop
  | [] => True
  | (k, o) :: l => (k < nx ∧ ∀ i, i < o.len → keys (o.f i) = []) ∧ okO nx l

theorem okO_look {nx : Nat} : ∀ {os : Store}, okO nx os → ∀ {k : Nat} {o : AObj}, look k os = some o → k < nx ∧ ∀ i, i < o.len → keys (o.f i) = []
  | [], _, k, o, h => by simp [look] at h
  | (j, b) :: l, h, k, o, hk => by
    simp only [look] at hk
    split at hk
    · rename_i he
      have : j = k := by simpa using he
      subst this
      simp only [Option.some.injEq] at hk
      subst hk
      exact h.1
    · exact okO_look h.2 hk

theorem avLe_below {nx : Nat} {u : AV} (hk : ∀ k ∈ keys u, k < nx) : avLe (fun k => if k < nx then some k else none) u u := by
  refine ⟨rfl, fun M w β cs hc => ?_⟩
  have gen : ∀ {l : List AV} {cs : List Value}, CReps M w β l cs → (∀ k ∈ keysL l, k < nx) → CReps M w (fun k => (if k < nx then some k else none).bind β) l cs := by
    intro l cs h
    generalize hβ : β = β' at h
    induction h with
    | nil => exact fun _ => .nil
    | bool _ ih => exact fun h => .bool (ih hβ (by simpa [keysL, keys] using h))
    | int _ ih => exact fun h => .int (ih hβ (by simpa [keysL, keys] using h))
    | rat hs h1 h2 _ _ _ ih => exact fun h => .rat hs h1 h2 (ih hβ (by simpa [keysL, keys] using h))
    | mag h1 h2 _ ih => exact fun h => .mag h1 h2 (ih hβ (by simpa [keysL, keys] using h))
    | agg _ _ ih1 ih2 => exact fun h => .agg (ih1 hβ fun k hk => h k (by simp only [keysL, keys]; exact List.mem_append_left _ hk)) (ih2 hβ fun k hk => h k (by simp only [keysL]; exact List.mem_append_right _ hk))
    | tab h1 h2 h3 h4 h5 _ _ ih => exact fun h => .tab h1 h2 h3 h4 h5 (ih hβ (by simpa [keysL, keys] using h))
    | ntab hq h1 h2 h3 h4 h5 _ _ ih => exact fun h => .ntab hq h1 h2 h3 h4 h5 (ih hβ (by simpa [keysL, keys] using h))
    | vnil _ ih => exact fun h => .vnil (ih hβ (by simpa [keysL, keys] using h))
    | void hx _ ih => exact fun h => .void hx (ih hβ (by simpa [keysL, keys] using h))
    | str _ ih => exact fun h => .str (ih hβ (by simpa [keysL, keys] using h))
    | cref h1 h2 _ _ ih => exact fun h => .cref h1 h2 (ih hβ (by simpa [keysL, keys] using h))
    | @ptr _ k _ _ _ _ _ _ _ _ hk _ ih =>
      intro h
      have : k < nx := h k (by simp [keysL, keys])
      exact .ptr (by simp only [this, if_true, Option.bind_some]; rw [← hβ] at hk ⊢; exact hk) (ih hβ fun k hk => h k (by simp only [keysL]; exact List.mem_append_right _ hk))
    | @own _ k _ _ _ _ _ _ _ _ _ hk h1 h2 h4 h3 _ ih =>
      intro h
      have : k < nx := h k (by simp [keysL, keys])
      exact .own (by simp only [this, if_true, Option.bind_some]; rw [← hβ] at hk ⊢; exact hk) h1 h2 h4 h3 (ih hβ fun k hk => h k (by simp only [keysL]; exact List.mem_append_right _ hk))
    | func _ hc _ ih1 ih2 => exact fun h => .func (ih1 hβ fun k hk => h k (by simp only [keysL, keys]; exact List.mem_append_left _ hk)) hc (ih2 hβ fun k hk => h k (by simp only [keysL]; exact List.mem_append_right _ hk))
  exact gen hc fun k h => hk k (by rw [keysL_single] at h; exact h)

theorem avLes_below {nx : Nat} : ∀ {vs : List AV}, okV nx vs = true → avLes (fun k => if k < nx then some k else none) vs vs
  | [], _ => trivial
  | v :: vs, h => by
    simp only [okV, List.all_cons, keysL, List.all_append, Bool.and_eq_true, Bool.not_eq_true'] at h
    obtain ⟨⟨h1, h2⟩, h3, h4⟩ := h
    refine ⟨⟨h1, avLe_below fun k hk => by simpa using List.all_eq_true.1 h3 k hk⟩, avLes_below ?_⟩
    simp only [okV, Bool.and_eq_true]
    exact ⟨h2, h4⟩

/-- A state, by what is seen of it. -/
theorem le_same {c : Ctx} {s' : AState} {ls : List Nat} {vs : List AV} {os : Store} {nx : Nat} (hv : viewAV ls s' = some (vs, os)) (h0 : ∀ k x, c.k0 k = some x → k < nx) (hok : okV nx vs = true) (ho : okO nx os) : ∃ ρ, Le c ρ s' ⟨zipL ls vs, os, nx⟩ := by
  unfold viewAV at hv
  simp only [Option.some.injEq, Prod.mk.injEq] at hv
  obtain ⟨rfl, rfl⟩ := hv
  refine ⟨fun k => if k < nx then some k else none, ?_, view_slots (avLes_below hok), fun k2 o2 hk => ?_, fun k2 k1 hk => ?_, fun k x hk => by simp [h0 k x hk]⟩
  · intro a b k ha hb
    split at ha <;> split at hb <;> simp_all
  · obtain ⟨h1, h2⟩ := okO_look ho hk
    refine ⟨k2, o2, by simp [h1], ?_, ⟨rfl, rfl, rfl, rfl, fun i hi => avLe_below fun k hk => by rw [h2 i hi] at hk; simp at hk⟩⟩
    rw [look_pick] at hk
    split at hk
    · exact hk
    · simp at hk
  · split at hk
    · assumption
    · simp at hk

section rules
variable {P : Program} {c : Ctx} {nt : Nat} {s : AState} {Q : AEx → AState → Prop} {T : Types} {Γ : Contracts}

/-- A loop in its block; its states by what is seen of them. -/
theorem AWp.whileV {x y : Code} {i : Nat} (hx : x = .block i (.loop y)) (ls : List Nat) (nx : Nat) (h0 : ∀ k x, c.k0 k = some x → k < nx) {α : Type} (vs : α → List AV) (os : α → Store) (hok : ∀ a, okV nx (vs a) = true) (ho : ∀ a, okO nx (os a)) (I : α → Prop) (μ : α → Nat) (j : α)
    (hv : viewAV ls s = some (vs j, os j)) (hI : I j)
    (round : ∀ j, I j → AWp P c nt y ⟨zipL ls (vs j), os j, nx⟩ (thenDo (fun s' => ∃ k, viewAV ls s' = some (vs k, os k) ∧ I k ∧ μ k < μ j) (inBlock i Q))) : AWp P c nt x s Q :=
  AWp.whileLe hx (fun a => ⟨zipL ls (vs a), os a, nx⟩) I μ j (le_same hv h0 (hok j) (ho j)) hI fun j hj => (round j hj).mono fun e s' h => by
    cases e with
    | normal =>
      obtain ⟨k, h1, h2, h3⟩ := h
      exact ⟨k, le_same h1 h0 (hok k) (ho k), h2, h3⟩
    | exit i => exact h
    | ret => exact h

theorem AWp.fromV {x : Code} {ls : List Nat} {nx : Nat} {vs : List AV} {os : Store} (hv : viewAV ls s = some (vs, os)) (h0 : ∀ k x, c.k0 k = some x → k < nx) (hok : okV nx vs = true) (ho : okO nx os) (h : AWp P c nt x ⟨zipL ls vs, os, nx⟩ Q) : AWp P c nt x s Q :=
  .weakE (le_same hv h0 hok ho) h
theorem AWpL.fromV {l : List Code} {ls : List Nat} {nx : Nat} {vs : List AV} {os : Store} (hv : viewAV ls s = some (vs, os)) (h0 : ∀ k x, c.k0 k = some x → k < nx) (hl : l.isEmpty = false) (hok : okV nx vs = true) (ho : okO nx os) (h : AWpL P c nt l ⟨zipL ls vs, os, nx⟩ Q) : AWpL P c nt l s Q :=
  .weak hl (le_same hv h0 hok ho) h

/-- From what is seen on to the function's end. -/
theorem AWpL.finV (hT : TOK P T) (hΓ : GOK P Γ) (hm : P.follows .mixedOrders = true) {fn : Func} {forks : List Nat} (n : Nat) {l : List Code} {ls : List Nat} {nx : Nat} {vs : List AV} {os : Store} (hv : viewAV ls s = some (vs, os)) (h0 : ∀ k x, c.k0 k = some x → k < nx)
    (hok : okV nx vs = true) (ho : okO nx os) {t : ATree (List AV)} (hc : endL T Γ forks n fn l ⟨zipL ls vs, os, nx⟩ = some t) (hd : (l.all fun x => dstOK nt x) = true) (hl : l.isEmpty = false) {res : AV} (h : t.all fun _ us => resOK us res) : AWpL P c nt l s (Fin T fn res) :=
  .fromV hv h0 hl hok ho (.fin hT hΓ hm n hc hd h)

theorem AWpL.seeV (hT : TOK P T) (hΓ : GOK P Γ) (hm : P.follows .mixedOrders = true) {forks : List Nat} (n : Nat) {l : List Code} {ls : List Nat} {nx : Nat} {vs : List AV} {os : Store} (hv : viewAV ls s = some (vs, os)) (h0 : ∀ k x, c.k0 k = some x → k < nx)
    (hok : okV nx vs = true) (ho : okO nx os) (ls2 : List Nat) {t : ATree (List AV × Store)} (hc : seeL T Γ forks n ls2 l ⟨zipL ls vs, os, nx⟩ = some t) (hd : (l.all fun x => dstOK nt x) = true) (hl : l.isEmpty = false) (h : t.all fun e v => ∀ s', viewAV ls2 s' = some v → Q e s') : AWpL P c nt l s Q :=
  .fromV hv h0 hl hok ho (.see hT hΓ hm n ls2 hc hd h)

theorem AWp.seeV (hT : TOK P T) (hΓ : GOK P Γ) (hm : P.follows .mixedOrders = true) {x : Code} {forks : List Nat} (n : Nat) {ls : List Nat} {nx : Nat} {vs : List AV} {os : Store} (hv : viewAV ls s = some (vs, os)) (h0 : ∀ k x, c.k0 k = some x → k < nx)
    (hok : okV nx vs = true) (ho : okO nx os) (ls2 : List Nat) {t : ATree (List AV × Store)} (hc : seeL T Γ forks n ls2 [x] ⟨zipL ls vs, os, nx⟩ = some t) (hd : dstOK nt x = true) (h : t.all fun e v => ∀ s', viewAV ls2 s' = some v → Q e s') : AWp P c nt x s Q :=
  .fromV hv h0 hok ho (.see hT hΓ hm n ls2 hc hd h)
end rules

/-- A function's end, where it gives back objects that may still be written to. -/
theorem endsB_view {T : Types} {fn : Func} {ls : List Nat} {vs us ws : List AV} {os ps pre : Store} {s' : AState} {τ : Nat → Option Nat} {r : CRes} (hv : viewAV ls s' = some (vs, os)) (hr : resV (zipL ls vs) fn.results.toList = some us) (hle : avLes τ us ws) (hres : r.res = oneOr ws)
    (he : applyEff (toOpts r.post) pre = ps) (ho : objLes τ os ps) : EndsB T fn τ pre r s' := by
  unfold viewAV at hv
  simp only [Option.some.injEq, Prod.mk.injEq] at hv
  obtain ⟨rfl, rfl⟩ := hv
  refine ⟨⟨us, [], ws, resV_ok hr, trivial, hle, hres⟩, fun k o hk => ?_⟩
  rw [he] at hk
  obtain ⟨k1, o1, g1, g2, g3⟩ := view_objs ho k o hk
  refine ⟨k1, o1, g1, ?_, g3⟩
  rw [look_pick] at g2
  split at g2
  · exact g2
  · simp at g2

/-- A contract that takes its arguments as final values. -/
def frzSpec (g : Nat → List AV → Option CRes) : Spec := fun K args pre => match frzL pre args with
  | some as => g K as
  | none => none
theorem frzSpec_ok {P : Program} {f : FuncId} {g : Nat → List AV → Option CRes} (h : ∀ K args r, keysL args = [] → g K args = some r → FOK P f K args [] r) :
    ∀ K args pre r, frzSpec g K args pre = some r → FOK P f K args pre r := by
  intro K args pre r hg
  unfold frzSpec at hg
  split at hg
  · rename_i as has
    have hf := h K as r (frzL_keys has) hg
    intro need
    obtain ⟨h1, h2⟩ := hf need
    refine ⟨fun k o ho => .inr ((h1 k o ho).resolve_left fun ⟨o', h⟩ => by simp [look] at h), fun c D D' β w vs hw0 hMw hrel hD hK hv => ?_⟩
    have hv' : VReps (Mset c pre β) w noKeys as vs := frzL_vreps hrel (fun _ _ h => h) has hv
    exact (hf.frame (pre' := pre) (fun k o hk => by simp [look] at hk)).use need hrel (fun _ _ h => h) hD hK (hv'.mono (fun b o h1 h2 => ⟨h2, h1⟩) fun k x hx => by simp [noKeys] at hx)
  · simp at hg

theorem tauOK_one {K k a : Nat} {pre : Store} (h : K ≤ k ∧ k < K + stride) : TauOK [] K pre (ren [(k, a)]) :=
  ⟨fun x y z hx hy => by
    simp only [ren, look] at hx hy
    split at hx <;> split at hy <;> simp_all, fun x y hx => by
    simp only [ren, look] at hx
    split at hx
    · rename_i he
      have : k = x := by simpa using he
      subst this
      exact .inr h
    · simp at hx⟩
theorem tauOK_pre {K k a : Nat} {pre : Store} : TauOK [(a, k)] K pre (ren [(k, a)]) :=
  ⟨fun x y z hx hy => by
    simp only [ren, look] at hx hy
    split at hx <;> split at hy <;> simp_all, fun x y hx => by
    simp only [ren, look] at hx ⊢
    split at hx
    · rename_i he
      have : k = x := by simpa using he
      subst this
      simp only [Option.some.injEq] at hx
      subst hx
      exact .inl (by simp)
    · simp at hx⟩

theorem k0_none {c : Ctx} (h : c.k0 = noKeys) {nx : Nat} : ∀ k x, c.k0 k = some x → k < nx := fun k x hk => by rw [h] at hk; simp [noKeys] at hk

theorem view_eq {ls : List Nat} {s' : AState} {vs us : List AV} {os ps : Store} (hv : viewAV ls s' = some (vs, os)) (h1 : vs = us) (h2 : os = ps) : viewAV ls s' = some (us, ps) := by rw [hv, h1, h2]

end Go.Am
