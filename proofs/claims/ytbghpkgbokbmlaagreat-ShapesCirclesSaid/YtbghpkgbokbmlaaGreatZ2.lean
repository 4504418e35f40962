/- Contracts of functions that are handed objects to write to, or give back such; loops by what is seen. -/
import Derived.Test.YtbghpkgbokbmlaaGreatZ1
import Derived.ProofKit
import Derived.ChangeSlices
set_option linter.unusedVariables false
namespace Go.Am
open AV
theorem VReps.length {M : Nat → Prop} {w : World} {β : KMap} : ∀ {us : List AV} {xs : List Value}, VReps M w β us xs → us.length = xs.length
  | [], [], _ => rfl
  | _ :: _, _ :: _, h => by simp [VReps.length h.2]
  | [], _ :: _, h => h.elim
  | _ :: _, [], h => h.elim
theorem VReps.weak {c c' : Ctx} {β β2 : KMap} {w : World} {ρ : Nat → Option Nat} {M M' : Nat → Prop} (hM : ∀ b, M' b → M b) (hβ : ∀ k2 k1, ρ k2 = some k1 → β2 k2 = β k1) : ∀ {us vs : List AV} {xs : List Value}, avLes ρ us vs → VReps M w β us xs → VReps M' w β2 vs xs
  | [], [], [], _, _ => trivial
  | u :: us, v :: vs, x :: xs, h, hv => ⟨hv.1.weak hM hβ h.1.2, VReps.weak (c := c) (c' := c') hM hβ h.2 hv.2⟩
  | [], _ :: _, _, h, _ => h.elim
  | _ :: _, [], _, h, _ => h.elim
  | _ :: _, _ :: _, [], _, h => h.elim
  | [], [], _ :: _, _, h => h.elim
theorem renOK_inj {nx : Nat} {rl : List (Nat × Nat)} (hr : renOK nx rl = true) : ∀ a b k, ren rl a = some k → ren rl b = some k → a = b := by
  intro a b k ha hb
  have := List.all_eq_true.1 hr _ (look_mem ha)
  simp only [Bool.and_eq_true, decide_eq_true_eq] at this
  simpa using List.all_eq_true.1 this.2 _ (look_mem hb)
theorem renOK_lt {nx : Nat} {rl : List (Nat × Nat)} (hr : renOK nx rl = true) {a k : Nat} (ha : ren rl a = some k) : a < nx := by
  have := List.all_eq_true.1 hr _ (look_mem ha)
  simp only [Bool.and_eq_true, decide_eq_true_eq] at this
  exact this.1
theorem oneVal {M : Nat → Prop} {w : World} {β : KMap} {us : List AV} {xs : List Value} (h : VReps M w β us xs) : VRep M w β (oneOr us) (if h : xs.length = 1 then xs.toArray[0]'(by simpa using (show 0 < xs.length by omega)) else .tuple xs.toArray) := by
  have hl := h.length
  match us, xs, h, hl with
  | [], [], _, _ => exact ⟨[], rfl, trivial⟩
  | [u], [x], h, _ => exact h.1.vrep
  | u :: u' :: us, x :: x' :: xs, h, _ => simp only [List.length_cons, Nat.add_eq_right, Nat.add_eq_zero_iff, Nat.succ_ne_zero, and_false, dite_false]; exact ⟨_, rfl, h⟩
section core
variable {P : Program} {T : Types}
structure EndsA (T : Types) (fn : Func) (τ : Nat → Option Nat) (pre : Store) (r : CRes) (s : AState) : Prop where
  ends : Ends T fn r.res s
  objs : ∀ k o, look k (applyEff (toOpts r.post) pre) = some o → ∃ k1 o1, τ k = some k1 ∧ look k1 s.store = some o1 ∧ o1.row = false ∧ objLe τ o1 o
structure EndsB (T : Types) (fn : Func) (τ : Nat → Option Nat) (pre : Store) (r : CRes) (s : AState) : Prop where
  ends : ∃ vs q us, resultsAV T s fn.results.toList = some (vs, q) ∧ allP q ∧ avLes τ vs us ∧ r.res = oneOr us
  objs : ∀ k o, look k (applyEff (toOpts r.post) pre) = some o → ∃ k1 o1, τ k = some k1 ∧ look k1 s.store = some o1 ∧ objLe τ o1 o
structure TauOK (rl : List (Nat × Nat)) (K : Nat) (pre : Store) (τ : Nat → Option Nat) : Prop where
  inj : ∀ a b k, τ a = some k → τ b = some k → a = b
  dom : ∀ k a, τ k = some a → ren rl a = some k ∨ (K ≤ k ∧ k < K + stride)
theorem fok_core (hT : TOK P T) {f : FuncId} {fn : Func} {x : Code} (hf : FnIs P f fn x) {args args0 : List AV} {pre pre0 : Store} {r : CRes} {K nx : Nat} (rl : List (Nat × Nat)) (hlen : args0.length ≤ fn.ntmps) (hr : renOK nx rl = true)
    (ha : avLes (ren rl) args args0) (hp : objLes (ren rl) pre pre0) (hrl : ∀ a k, ren rl a = some k → ∃ o, look k pre = some o)
    (hpost : ∀ k o, look k r.post = some o → (∃ o', look k pre = some o') ∨ (K ≤ k ∧ k < K + stride))
    (h : r.need → ∀ c : Ctx, (∀ k x, c.k0 k = some x → (ren rl k).isSome = true) → AWp P c fn.ntmps x ⟨zipSlots 0 args0, pre0, nx⟩ fun e s' => (e = .normal ∨ e = .ret) ∧ ∃ τ, TauOK rl K pre τ ∧ (EndsA T fn τ pre r s' ∨ EndsB T fn τ pre r s')) : FOK P f K args pre r := by
  intro need
  refine ⟨hpost, fun c D D' β w vs hw0 hMw hrel hD hK hv => .inl ⟨fn, hf.get, hf.name, by simp [hf.body], ?_⟩⟩
  have hobj0 := view_objs hp
  have hβ0 : ∀ k2 k1, ren rl k2 = some k1 → (fun a => (ren rl a).bind β) k2 = β k1 := fun k2 k1 h => by simp [h]
  have hW : WRel { c with k0 := fun a => (ren rl a).bind β } pre0 (fun k => k < nx) (fun a => (ren rl a).bind β) w := by
    refine hrel.weak (c' := { c with k0 := fun a => (ren rl a).bind β }) (ρ := ren rl) rfl rfl rfl (renOK_inj hr) hobj0 hβ0 (fun k2 x hk => ?_) (fun k2 b N hk => ?_) (fun k x hk => hk)
    · cases h1 : ren rl k2 with
      | none => simp [h1] at hk
      | some k1 => exact renOK_lt hr h1
    · cases h1 : ren rl k2 with
      | none => simp [h1] at hk
      | some k1 => simp [h1] at hk; exact hrel.lt k1 b N hk
  have hv0 : VReps (Mset { c with k0 := fun a => (ren rl a).bind β } pre0 (fun a => (ren rl a).bind β)) w (fun a => (ren rl a).bind β) args0 vs :=
    hv.weak (c := c) (c' := c) (ρ := ren rl) (mset_weak rfl hobj0 hβ0) hβ0 ha
  have hl0 := hv0.length
  have hstart : Rel { c with k0 := fun a => (ren rl a).bind β } fn.ntmps (fun k => k < nx) (zipSlots 0 args0) pre0 { tmps := vs.toArray ++ Array.replicate (fn.ntmps - vs.toArray.size) undef, defers := [] } w := by
    refine ⟨rfl, by simp; omega, _, hW, ?_⟩
    have := zipSlots_ok (pre := #[]) (post := Array.replicate (fn.ntmps - vs.toArray.size) undef) hv0 rfl
    simpa using this
  refine calls_of_wp hf.get hf.body (wp_mono (h need { c with k0 := fun a => (ren rl a).bind β } (fun k x hk => by
    cases h1 : ren rl k with
    | none => simp [h1] at hk
    | some k1 => rfl) _ w hstart) ?_)
  rintro e a' w' ⟨ae, s', rfl, hr', hex, τ, hτ, hends⟩
  -- what the end gives, in the function's own keys
  have hfin : a'.defers = [] ∧ ∃ x β1 st1, (results fn a'.tmps).run P w' = .ok x w' ∧ WRel { c with k0 := fun a => (ren rl a).bind β } st1 (fun k => k < s'.next) β1 w' ∧
      (∀ k o, look k (applyEff (toOpts r.post) pre) = some o → ∃ k1 o1, τ k = some k1 ∧ look k1 st1 = some o1 ∧ objLe τ o1 o) ∧
      VRep (Mset { c with k0 := fun a => (ren rl a).bind β } st1 β1) w' (fun k => (τ k).bind β1) r.res x := by
    rcases hends with hends | hends
    · obtain ⟨hdef, x, β1, st1, hrun, hw1, hvx, hrow⟩ := ends_ok hT hends.ends hr'
      refine ⟨hdef, x, β1, st1, hrun, hw1, fun k o hk => ?_, hvx.mono (fun b o h1 h2 => ⟨h2, h1⟩) fun k x hk => by simp [noKeys] at hk⟩
      obtain ⟨k1, o1, g1, g2, g3, g4⟩ := hends.objs k o hk
      exact ⟨k1, o1, g1, hrow k1 o1 g2 g3, g4⟩
    · obtain ⟨a1, a2, β1, a3, a4⟩ := hr'
      obtain ⟨vs1, q, us, h1, hq, h2, h3⟩ := hends.ends
      obtain ⟨xs, hxs, hv, hlen⟩ := results_ok hT a3 a4 (g := fun x => match x with
        | ResultVar.tmp t => pure (a'.tmps.getD t undef)
        | ResultVar.cell r t => do let y ← asAddr (a'.tmps.getD r undef); loadVar t y) (fun _ => rfl) (fun _ _ => rfl) h1 hq
      refine ⟨a1, if h : xs.length = 1 then xs.toArray[0]'(by simpa using (show 0 < xs.length by omega)) else .tuple xs.toArray, β1, s'.store, ?_, a3, hends.objs, ?_⟩
      · have key : results fn a'.tmps = (do
            let vs ← fn.results.mapM fun x => match x with
              | ResultVar.tmp t => pure (a'.tmps.getD t undef)
              | ResultVar.cell r t => do let y ← asAddr (a'.tmps.getD r undef); loadVar t y
            pure (if h : vs.size = 1 then vs[0] else Value.tuple vs)) := rfl
        rw [key, Sem.run_bind, Array.mapM_eq_mapM_toList, Sem.run_map, hxs]
        simp only [Result.andThen_ok, Sem.run_pure]
        congr 1
      · rw [h3]
        exact oneVal (hv.weak (c := c) (c' := c) (ρ := τ) (fun _ h => h) (fun k2 k1 h => by simp [h]) h2)
  obtain ⟨hdef, x, β1, st1, hrun, hw1, hobj1, hvx⟩ := hfin
  have hkeep1 : ∀ k a, τ k = some a → ∀ y, β k = some y → β1 a = some y := by
    intro k a hka y hy
    rcases hτ.dom k a hka with h1 | ⟨h1, h2⟩
    · exact hw1.keep a y (by simp only [h1, Option.bind_some]; exact hy)
    · exact absurd (hrel.dom k y hy) (hK k h1 h2).1
  have hβ2 : ∀ k2 k1, τ k2 = some k1 → (fun k => match τ k with
      | some a => β1 a
      | none => β k) k2 = β1 k1 := fun k2 k1 h => by simp [h]
  have hW2 : WRel c (applyEff (toOpts r.post) pre) D' (fun k => match τ k with
      | some a => β1 a
      | none => β k) w' := by
    refine hw1.weak (c' := c) (ρ := τ) rfl rfl rfl hτ.inj hobj1 hβ2 (fun k2 y hk => ?_) (fun k2 b N hk => ?_) (fun k y hk => ?_)
    · split at hk
      · rename_i a ha
        rcases hτ.dom k2 a ha with h1 | ⟨h1, h2⟩
        · obtain ⟨o, ho⟩ := hrl a k2 h1
          obtain ⟨b, N, _, _, h3, _⟩ := hrel.obj k2 o ho
          exact hD _ (hrel.dom k2 _ h3)
        · exact (hK k2 h1 h2).2
      · exact hD _ (hrel.dom k2 y hk)
    · split at hk
      · exact hw1.lt _ b N hk
      · exact Nat.lt_of_lt_of_le (hrel.lt k2 b N hk) (by have := hw1.size; rw [← hw0]; exact this)
    · have hy := hrel.keep k y hk
      split
      · rename_i a ha
        exact hkeep1 k a ha y hy
      · exact hy
  have hO : OpR c pre D' β w (toOpts r.post) r.res x w' := by
    refine ⟨_, hW2, ⟨fun b o hb ho => ?_, fun k y hk => ?_⟩, ?_⟩
    · have hlt : b < c.w0.heap.size := by rw [hw0]; exact heap_lt ho
      have hmw : ¬ c.Mw b := fun hm => hb (hMw b hm)
      refine ⟨?_, ?_⟩
      · rw [hw1.block b hlt hmw]
        show c.w0.heap[b]? = _
        rw [hw0]; exact ho
      · rintro (hm | ⟨k, o', N, h1, h2, h3⟩)
        · exact hb (.inl hm)
        · rcases hW2.new k o' b N h1 h2 h3 with h4 | h4
          · omega
          · exact hmw h4
    · split
      · rename_i a ha
        exact hkeep1 k a ha y hk
      · exact hk
    · refine hvx.mono (fun b o h1 h2 => ⟨h2, fun h3 => h1 (mset_weak (c := { c with k0 := fun a => (ren rl a).bind β }) rfl hobj1 hβ2 b h3)⟩) (fun k y hk => ?_)
      cases h1 : τ k with
      | none => simp [h1] at hk
      | some a => simpa [h1] using hk
  rcases hex with rfl | rfl
  · exact ⟨hdef, x, hrun, x, rfl, hO⟩
  · exact ⟨hdef, x, hrun, x, rfl, hO⟩
end core
def okV (nx : Nat) (vs : List AV) : Bool := (vs.all fun v => !v.isTuple) && (keysL vs).all fun k => decide (k < nx)
def okO (nx : Nat) : Store → Prop
  | [] => True
  | (k, o) :: l => (k < nx ∧ ∀ i, i < o.len → keys (o.f i) = []) ∧ okO nx l
theorem okO_look {nx : Nat} : ∀ {os : Store}, okO nx os → ∀ {k : Nat} {o : AObj}, look k os = some o → k < nx ∧ ∀ i, i < o.len → keys (o.f i) = []
  | [], _, k, o, h => by simp [look] at h
  | (j, b) :: l, h, k, o, hk => by
    simp only [look] at hk
    split at hk
    · rename_i he
      have : j = k := by simpa using he
      subst this
      simp only [Option.some.injEq] at hk
      subst hk
      exact h.1
    · exact okO_look h.2 hk
theorem avLe_below {nx : Nat} {u : AV} (hk : ∀ k ∈ keys u, k < nx) : avLe (fun k => if k < nx then some k else none) u u := by
  refine ⟨rfl, fun M w β cs hc => ?_⟩
  have gen : ∀ {l : List AV} {cs : List Value}, CReps M w β l cs → (∀ k ∈ keysL l, k < nx) → CReps M w (fun k => (if k < nx then some k else none).bind β) l cs := by
    intro l cs h
    generalize hβ : β = β' at h
    induction h with
    | nil => exact fun _ => .nil
    | bool _ ih => exact fun h => .bool (ih hβ (by simpa [keysL, keys] using h))
    | int _ ih => exact fun h => .int (ih hβ (by simpa [keysL, keys] using h))
    | rat hs h1 h2 _ _ _ ih => exact fun h => .rat hs h1 h2 (ih hβ (by simpa [keysL, keys] using h))
    | mag h1 h2 _ ih => exact fun h => .mag h1 h2 (ih hβ (by simpa [keysL, keys] using h))
    | agg _ _ ih1 ih2 => exact fun h => .agg (ih1 hβ fun k hk => h k (by simp only [keysL, keys]; exact List.mem_append_left _ hk)) (ih2 hβ fun k hk => h k (by simp only [keysL]; exact List.mem_append_right _ hk))
    | tab h1 h2 h3 h4 h5 _ _ ih => exact fun h => .tab h1 h2 h3 h4 h5 (ih hβ (by simpa [keysL, keys] using h))
    | ntab hq h1 h2 h3 h4 h5 _ _ ih => exact fun h => .ntab hq h1 h2 h3 h4 h5 (ih hβ (by simpa [keysL, keys] using h))
    | vnil _ ih => exact fun h => .vnil (ih hβ (by simpa [keysL, keys] using h))
    | void hx _ ih => exact fun h => .void hx (ih hβ (by simpa [keysL, keys] using h))
    | str _ ih => exact fun h => .str (ih hβ (by simpa [keysL, keys] using h))
    | cref h1 h2 _ _ ih => exact fun h => .cref h1 h2 (ih hβ (by simpa [keysL, keys] using h))
    | @ptr _ k _ _ _ _ _ _ _ _ hk _ ih =>
      intro h
      have : k < nx := h k (by simp [keysL, keys])
      exact .ptr (by simp only [this, if_true, Option.bind_some]; rw [← hβ] at hk ⊢; exact hk) (ih hβ fun k hk => h k (by simp only [keysL]; exact List.mem_append_right _ hk))
    | @own _ k _ _ _ _ _ _ _ _ _ hk h1 h2 h4 h3 _ ih =>
      intro h
      have : k < nx := h k (by simp [keysL, keys])
      exact .own (by simp only [this, if_true, Option.bind_some]; rw [← hβ] at hk ⊢; exact hk) h1 h2 h4 h3 (ih hβ fun k hk => h k (by simp only [keysL]; exact List.mem_append_right _ hk))
    | func _ hc _ ih1 ih2 => exact fun h => .func (ih1 hβ fun k hk => h k (by simp only [keysL, keys]; exact List.mem_append_left _ hk)) hc (ih2 hβ fun k hk => h k (by simp only [keysL]; exact List.mem_append_right _ hk))
  exact gen hc fun k h => hk k (by rw [keysL_single] at h; exact h)
theorem avLes_below {nx : Nat} : ∀ {vs : List AV}, okV nx vs = true → avLes (fun k => if k < nx then some k else none) vs vs
  | [], _ => trivial
  | v :: vs, h => by
    simp only [okV, List.all_cons, keysL, List.all_append, Bool.and_eq_true, Bool.not_eq_true'] at h
    obtain ⟨⟨h1, h2⟩, h3, h4⟩ := h
    refine ⟨⟨h1, avLe_below fun k hk => by simpa using List.all_eq_true.1 h3 k hk⟩, avLes_below ?_⟩
    simp only [okV, Bool.and_eq_true]
    exact ⟨h2, h4⟩
theorem le_same {c : Ctx} {s' : AState} {ls : List Nat} {vs : List AV} {os : Store} {nx : Nat} (hv : viewAV ls s' = some (vs, os)) (h0 : ∀ k x, c.k0 k = some x → k < nx) (hok : okV nx vs = true) (ho : okO nx os) : ∃ ρ, Le c ρ s' ⟨zipL ls vs, os, nx⟩ := by
  unfold viewAV at hv
  simp only [Option.some.injEq, Prod.mk.injEq] at hv
  obtain ⟨rfl, rfl⟩ := hv
  refine ⟨fun k => if k < nx then some k else none, ?_, view_slots (avLes_below hok), fun k2 o2 hk => ?_, fun k2 k1 hk => ?_, fun k x hk => by simp [h0 k x hk]⟩
  · intro a b k ha hb
    split at ha <;> split at hb <;> simp_all
  · obtain ⟨h1, h2⟩ := okO_look ho hk
    refine ⟨k2, o2, by simp [h1], ?_, ⟨rfl, rfl, rfl, rfl, fun i hi => avLe_below fun k hk => by rw [h2 i hi] at hk; simp at hk⟩⟩
    rw [look_pick] at hk
    split at hk
    · exact hk
    · simp at hk
  · split at hk
    · assumption
    · simp at hk
section rules
variable {P : Program} {c : Ctx} {nt : Nat} {s : AState} {Q : AEx → AState → Prop} {T : Types} {Γ : Contracts}
theorem AWp.whileV {x y : Code} {i : Nat} (hx : x = .block i (.loop y)) (ls : List Nat) (nx : Nat) (h0 : ∀ k x, c.k0 k = some x → k < nx) {α : Type} (vs : α → List AV) (os : α → Store) (hok : ∀ a, okV nx (vs a) = true) (ho : ∀ a, okO nx (os a)) (I : α → Prop) (μ : α → Nat) (j : α)
    (hv : viewAV ls s = some (vs j, os j)) (hI : I j)
    (round : ∀ j, I j → AWp P c nt y ⟨zipL ls (vs j), os j, nx⟩ (thenDo (fun s' => ∃ k, viewAV ls s' = some (vs k, os k) ∧ I k ∧ μ k < μ j) (inBlock i Q))) : AWp P c nt x s Q :=
  AWp.whileLe hx (fun a => ⟨zipL ls (vs a), os a, nx⟩) I μ j (le_same hv h0 (hok j) (ho j)) hI fun j hj => (round j hj).mono fun e s' h => by
    cases e with
    | normal =>
      obtain ⟨k, h1, h2, h3⟩ := h
      exact ⟨k, le_same h1 h0 (hok k) (ho k), h2, h3⟩
    | exit i => exact h
    | ret => exact h
theorem AWp.fromV {x : Code} {ls : List Nat} {nx : Nat} {vs : List AV} {os : Store} (hv : viewAV ls s = some (vs, os)) (h0 : ∀ k x, c.k0 k = some x → k < nx) (hok : okV nx vs = true) (ho : okO nx os) (h : AWp P c nt x ⟨zipL ls vs, os, nx⟩ Q) : AWp P c nt x s Q :=
  .weakE (le_same hv h0 hok ho) h
theorem AWpL.fromV {l : List Code} {ls : List Nat} {nx : Nat} {vs : List AV} {os : Store} (hv : viewAV ls s = some (vs, os)) (h0 : ∀ k x, c.k0 k = some x → k < nx) (hl : l.isEmpty = false) (hok : okV nx vs = true) (ho : okO nx os) (h : AWpL P c nt l ⟨zipL ls vs, os, nx⟩ Q) : AWpL P c nt l s Q :=
  .weak hl (le_same hv h0 hok ho) h
theorem AWpL.finV (hT : TOK P T) (hΓ : GOK P Γ) (hm : P.follows .mixedOrders = true) {fn : Func} {forks : List Nat} (n : Nat) {l : List Code} {ls : List Nat} {nx : Nat} {vs : List AV} {os : Store} (hv : viewAV ls s = some (vs, os)) (h0 : ∀ k x, c.k0 k = some x → k < nx)
    (hok : okV nx vs = true) (ho : okO nx os) {t : ATree (List AV)} (hc : endL T Γ forks n fn l ⟨zipL ls vs, os, nx⟩ = some t) (hd : (l.all fun x => dstOK nt x) = true) (hl : l.isEmpty = false) {res : AV} (h : t.all fun _ us => resOK us res) : AWpL P c nt l s (Fin T fn res) :=
  .fromV hv h0 hl hok ho (.fin hT hΓ hm n hc hd h)
theorem AWpL.seeV (hT : TOK P T) (hΓ : GOK P Γ) (hm : P.follows .mixedOrders = true) {forks : List Nat} (n : Nat) {l : List Code} {ls : List Nat} {nx : Nat} {vs : List AV} {os : Store} (hv : viewAV ls s = some (vs, os)) (h0 : ∀ k x, c.k0 k = some x → k < nx)
    (hok : okV nx vs = true) (ho : okO nx os) (ls2 : List Nat) {t : ATree (List AV × Store)} (hc : seeL T Γ forks n ls2 l ⟨zipL ls vs, os, nx⟩ = some t) (hd : (l.all fun x => dstOK nt x) = true) (hl : l.isEmpty = false) (h : t.all fun e v => ∀ s', viewAV ls2 s' = some v → Q e s') : AWpL P c nt l s Q :=
  .fromV hv h0 hl hok ho (.see hT hΓ hm n ls2 hc hd h)
theorem AWp.seeV (hT : TOK P T) (hΓ : GOK P Γ) (hm : P.follows .mixedOrders = true) {x : Code} {forks : List Nat} (n : Nat) {ls : List Nat} {nx : Nat} {vs : List AV} {os : Store} (hv : viewAV ls s = some (vs, os)) (h0 : ∀ k x, c.k0 k = some x → k < nx)
    (hok : okV nx vs = true) (ho : okO nx os) (ls2 : List Nat) {t : ATree (List AV × Store)} (hc : seeL T Γ forks n ls2 [x] ⟨zipL ls vs, os, nx⟩ = some t) (hd : dstOK nt x = true) (h : t.all fun e v => ∀ s', viewAV ls2 s' = some v → Q e s') : AWp P c nt x s Q :=
  .fromV hv h0 hok ho (.see hT hΓ hm n ls2 hc hd h)
end rules
theorem endsB_view {T : Types} {fn : Func} {ls : List Nat} {vs us ws : List AV} {os ps pre : Store} {s' : AState} {τ : Nat → Option Nat} {r : CRes} (hv : viewAV ls s' = some (vs, os)) (hr : resV (zipL ls vs) fn.results.toList = some us) (hle : avLes τ us ws) (hres : r.res = oneOr ws)
    (he : applyEff (toOpts r.post) pre = ps) (ho : objLes τ os ps) : EndsB T fn τ pre r s' := by
  unfold viewAV at hv
  simp only [Option.some.injEq, Prod.mk.injEq] at hv
  obtain ⟨rfl, rfl⟩ := hv
  refine ⟨⟨us, [], ws, resV_ok hr, trivial, hle, hres⟩, fun k o hk => ?_⟩
  rw [he] at hk
  obtain ⟨k1, o1, g1, g2, g3⟩ := view_objs ho k o hk
  refine ⟨k1, o1, g1, ?_, g3⟩
  rw [look_pick] at g2
  split at g2
  · exact g2
  · simp at g2
def frzSpec (g : Nat → List AV → Option CRes) : Spec := fun K args pre => match frzL pre args with
  | some as => g K as
  | none => none
theorem frzSpec_ok {P : Program} {f : FuncId} {g : Nat → List AV → Option CRes} (h : ∀ K args r, keysL args = [] → g K args = some r → FOK P f K args [] r) :
    ∀ K args pre r, frzSpec g K args pre = some r → FOK P f K args pre r := by
  intro K args pre r hg
  unfold frzSpec at hg
  split at hg
  · rename_i as has
    have hf := h K as r (frzL_keys has) hg
    intro need
    obtain ⟨h1, h2⟩ := hf need
    refine ⟨fun k o ho => .inr ((h1 k o ho).resolve_left fun ⟨o', h⟩ => by simp [look] at h), fun c D D' β w vs hw0 hMw hrel hD hK hv => ?_⟩
    have hv' : VReps (Mset c pre β) w noKeys as vs := frzL_vreps hrel (fun _ _ h => h) has hv
    exact (hf.frame (pre' := pre) (fun k o hk => by simp [look] at hk)).use need hrel (fun _ _ h => h) hD hK (hv'.mono (fun b o h1 h2 => ⟨h2, h1⟩) fun k x hx => by simp [noKeys] at hx)
  · simp at hg
theorem tauOK_one {K k a : Nat} {pre : Store} (h : K ≤ k ∧ k < K + stride) : TauOK [] K pre (ren [(k, a)]) :=
  ⟨fun x y z hx hy => by
    simp only [ren, look] at hx hy
    split at hx <;> split at hy <;> simp_all, fun x y hx => by
    simp only [ren, look] at hx
    split at hx
    · rename_i he
      have : k = x := by simpa using he
      subst this
      exact .inr h
    · simp at hx⟩
theorem tauOK_pre {K k a : Nat} {pre : Store} : TauOK [(a, k)] K pre (ren [(k, a)]) :=
  ⟨fun x y z hx hy => by
    simp only [ren, look] at hx hy
    split at hx <;> split at hy <;> simp_all, fun x y hx => by
    simp only [ren, look] at hx ⊢
    split at hx
    · rename_i he
      have : k = x := by simpa using he
      subst this
      simp only [Option.some.injEq] at hx
      subst hx
      exact .inl (by simp)
    · simp at hx⟩
theorem k0_none {c : Ctx} (h : c.k0 = noKeys) {nx : Nat} : ∀ k x, c.k0 k = some x → k < nx := fun k x hk => by rw [h] at hk; simp [noKeys] at hk
theorem view_eq {ls : List Nat} {s' : AState} {vs us : List AV} {os ps : Store} (hv : viewAV ls s' = some (vs, os)) (h1 : vs = us) (h2 : os = ps) : viewAV ls s' = some (us, ps) := by rw [hv, h1, h2]
end Go.Am

/- Rational numbers: signs, sizes, quotients of natural numbers. -/
namespace Go.Am
open AV
def sgn (b : Bool) (n : Nat) : Int := if b then -(n : Int) else n
def sQ (b : Bool) (n d : Nat) : Rat := mkRat (sgn b n) d
def rsz (q : Rat) : Nat := max (bitsN q.num.natAbs) (bitsN q.den)
theorem sgn_natAbs {b : Bool} {n : Nat} : (sgn b n).natAbs = n := by unfold sgn; split <;> simp
theorem sgn_zero {b : Bool} : sgn b 0 = 0 := by unfold sgn; split <;> simp
theorem sgn_div {b : Bool} {n g : Nat} (h : g ∣ n) : sgn b n / (g : Int) = sgn b (n / g) := by
  unfold sgn
  split
  · rw [Int.neg_ediv_of_dvd (Int.natCast_dvd_natCast.2 h)]; simp
  · simp
theorem rat_lt_zero {q : Rat} : q < 0 ↔ q.num < 0 := by rw [Rat.lt_iff]; simp
theorem sQ_num {b : Bool} {n d : Nat} (hd : d ≠ 0) : (sQ b n d).num = sgn b (n / Nat.gcd n d) := by
  unfold sQ
  rw [Rat.num_mkRat, if_neg hd, sgn_natAbs, Nat.gcd_comm, sgn_div (Nat.gcd_dvd_left n d)]
theorem sQ_den {b : Bool} {n d : Nat} (hd : d ≠ 0) : (sQ b n d).den = d / Nat.gcd n d := by
  unfold sQ
  rw [Rat.den_mkRat, if_neg hd, sgn_natAbs, Nat.gcd_comm]
theorem sQ_zero {b : Bool} {d : Nat} : sQ b 0 d = 0 := by unfold sQ; rw [sgn_zero]; simp
theorem sQ_neg {b : Bool} {n d : Nat} (hn : n ≠ 0) (hd : d ≠ 0) : decide (sQ b n d < 0) = b := by
  have h1 : 0 < n / Nat.gcd n d := Nat.div_pos (Nat.le_of_dvd (by omega) (Nat.gcd_dvd_left n d)) (Nat.gcd_pos_of_pos_left _ (by omega))
  cases b
  · simp only [decide_eq_false_iff_not, rat_lt_zero, sQ_num hd, sgn]; simp; omega
  · simp only [decide_eq_true_eq, rat_lt_zero, sQ_num hd, sgn]; simp; omega
theorem Sz_rsz {q : Rat} : Sz q (rsz q) :=
  ⟨Nat.lt_of_lt_of_le (bitsN_le.1 (Nat.le_refl _)) (Nat.pow_le_pow_right (by omega) (Nat.le_max_left _ _)), Nat.lt_of_lt_of_le (bitsN_le.1 (Nat.le_refl _)) (Nat.pow_le_pow_right (by omega) (Nat.le_max_right _ _))⟩
theorem avLe0_rat_eq {q r : Rat} {n k : Nat} (h : q = r) (hs : Sz r k) : avLe0 (.rat q n) (.rat r k) := by
  subst h
  refine ⟨rfl, fun M w cs hc => ?_⟩
  cases hc with
  | rat _ h1 h2 h3 => cases h3; exact .rat hs h1 h2 .nil
theorem Sz_sQ {b : Bool} {n d k : Nat} (hd : d ≠ 0) (hn : n < 2 ^ k) (hdk : d < 2 ^ k) : Sz (sQ b n d) k := by
  refine ⟨?_, ?_⟩
  · rw [sQ_num hd, sgn_natAbs]; exact Nat.lt_of_le_of_lt (Nat.div_le_self _ _) hn
  · rw [sQ_den hd]; exact Nat.lt_of_le_of_lt (Nat.div_le_self _ _) hdk
theorem rat_sQ (q : Rat) : sQ (decide (q < 0)) q.num.natAbs q.den = q := by
  unfold sQ
  have : sgn (decide (q < 0)) q.num.natAbs = q.num := by
    unfold sgn
    by_cases h : q < 0
    · have := rat_lt_zero.1 h; simp [h]; omega
    · have : ¬ q.num < 0 := fun h' => h (rat_lt_zero.2 h')
      simp [h]; omega
  rw [this, Rat.mkRat_self]
theorem avLe0_sQ {b : Bool} {x y n d k : Nat} (hn : n ≠ 0) (hd : d ≠ 0) (hx : x = n / Nat.gcd n d) (hy : y = if d / Nat.gcd n d = 1 then 0 else d / Nat.gcd n d) (hs : Sz (sQ b n d) k) : avLe0 (.agg [.bool b, .mag x, .mag y]) (.rat (sQ b n d) k) :=
  avLe0_rat hs (sQ_neg hn hd).symm (by rw [sQ_num hd, sgn_natAbs, hx]) (by rw [sQ_den hd, hy])
theorem avLe0_zero {k : Nat} : avLe0 (.agg [.bool false, .mag 0, .mag 0]) (.rat 0 (k + 1)) :=
  avLe0_rat ⟨by simp [Nat.two_pow_pos], by simp⟩ (by decide) rfl rfl
section down
variable {P : Program} {c : Ctx} {nt : Nat} {s : AState} {Q : AEx → AState → Prop} {T : Types}
def Lower (c : Ctx) (Q : AEx → AState → Prop) (e : AEx) (s' : AState) : Prop := Q e s' ∨ ∃ s2 ρ, Le c ρ s' s2 ∧ Q e s2
theorem AWp.down {x : Code} (h : AWp P c nt x s (Lower c Q)) : AWp P c nt x s Q := by
  intro a w hr
  refine wp_mono (h a w hr) ?_
  rintro e a' w' ⟨ae, s', h1, h2, hq | ⟨s2, ρ, hle, hq⟩⟩
  · exact ⟨ae, s', h1, h2, hq⟩
  · exact ⟨ae, s2, h1, hle.rel h2, hq⟩
theorem finD {fn : Func} {ls : List Nat} {vs : List AV} {os : Store} {nx : Nat} {s' : AState} {e : AEx} {t : ATree (List AV)} {res : AV} (he : endT T fn e ⟨zipL ls vs, os, nx⟩ = some t) (hv : viewAV ls s' = some (vs, os)) (h0 : ∀ k x, c.k0 k = some x → k < nx) (hok : okV nx vs = true) (ho : okO nx os)
    (h : t.all fun _ us => resOK us res) : Lower c (Fin T fn res) e s' := by
  obtain ⟨ρ, hle⟩ := le_same hv h0 hok ho
  exact .inr ⟨_, ρ, hle, endT_ok he h⟩
theorem AWpL.finDV (hT : TOK P T) {Γ : Contracts} (hΓ : GOK P Γ) (hm : P.follows .mixedOrders = true) {fn : Func} {forks : List Nat} (n : Nat) {l : List Code} {ls : List Nat} {nx : Nat} {vs : List AV} {os : Store} (hv : viewAV ls s = some (vs, os)) (h0 : ∀ k x, c.k0 k = some x → k < nx)
    (hok : okV nx vs = true) (ho : okO nx os) {t : ATree (List AV)} (hc : endL T Γ forks n fn l ⟨zipL ls vs, os, nx⟩ = some t) (hd : (l.all fun x => dstOK nt x) = true) (hl : l.isEmpty = false) {res : AV} (h : t.all fun _ us => resOK us res) : AWpL P c nt l s (Lower c (Fin T fn res)) :=
  (AWpL.finV hT hΓ hm n hv h0 hok ho hc hd hl h).mono fun _ _ h => .inl h
end down
theorem fok_down {P : Program} {T : Types} (hT : TOK P T) {f : FuncId} {fn : Func} {x : Code} (hf : FnIs P f fn x) {args : List AV} {r : CRes} (hk : keysL args = []) (hlen : args.length ≤ fn.ntmps) (hpost : r.post = [])
    (h : r.need → ∀ c : Ctx, (∀ nx k x, c.k0 k = some x → k < nx) → AWp P c fn.ntmps x ⟨zipSlots 0 args, [], 0⟩ (Lower c (Fin T fn r.res))) (K : Nat) (pre : Store) : FOK P f K args pre r :=
  fok_pure hT hf hk hlen hpost (fun need c h0 => .down (h need c fun _ => k0_none h0)) K pre
mutual
/-- What is known of the sizes of numbers in values. -/
def szA : AV → Prop
  | .rat q n => Sz q n
  | .agg l => szL l
  | _ => True
def szL : List AV → Prop
  | [] => True
  | a :: l => szA a ∧ szL l
end
theorem CReps.sz {M : Nat → Prop} {w : World} {β : KMap} {l : List AV} {cs : List Value} (h : CReps M w β l cs) : szL l := by
  induction h with
  | nil => trivial
  | rat hs _ _ _ _ _ ih => exact ⟨hs, ih⟩
  | agg _ _ ih1 ih2 => exact ⟨ih1, ih2⟩
  | tab _ _ _ _ _ _ _ ih => exact ⟨trivial, ih⟩
  | ntab _ _ _ _ _ _ _ _ ih => exact ⟨trivial, ih⟩
  | cref _ _ _ _ ih => exact ⟨trivial, ih⟩
  | func _ _ _ _ ih => exact ⟨trivial, ih⟩
  | _ => rename_i ih; exact ⟨trivial, ih⟩
theorem VReps.sz {M : Nat → Prop} {w : World} {β : KMap} : ∀ {l : List AV} {xs : List Value}, VReps M w β l xs → szL l
  | [], [], _ => trivial
  | a :: l, x :: xs, h => by
    obtain ⟨⟨cs, h1, _⟩, h2⟩ := h
    exact ⟨h1.sz.1, h2.sz⟩
  | [], _ :: _, h => h.elim
  | _ :: _, [], h => h.elim
theorem fok_sz {P : Program} {f : FuncId} {K : Nat} {args : List AV} {pre : Store} {r : CRes} (hp : ∀ k o, look k r.post = some o → (∃ o', look k pre = some o') ∨ (K ≤ k ∧ k < K + stride)) (h : szL args → FOK P f K args pre r) : FOK P f K args pre r :=
  fun need => ⟨hp, fun c D D' β w vs h1 h2 h3 h4 h5 hv => (h hv.sz need).2 c D D' β w vs h1 h2 h3 h4 h5 hv⟩
theorem fok_szp {P : Program} {f : FuncId} {K : Nat} {args : List AV} {pre : Store} {v : AV} {l : List Prop} (h : szL args → FOK P f K args pre ⟨v, [], l⟩) : FOK P f K args pre ⟨v, [], l⟩ :=
  fok_sz (fun k o hk => by simp [look] at hk) h
theorem nl_lt_of {N n : Nat} (h : N < 2 ^ n) (hn : n < 2 ^ 44) : nl N < 2 ^ 40 := by
  have h1 : N < 2 ^ (32 * (n / 32 + 1)) := Nat.lt_of_lt_of_le h (Nat.pow_le_pow_right (by omega) (by omega))
  have := nl_spec.2 h1
  omega
theorem denN_le {q : Rat} : (if q.den = 1 then 0 else q.den) ≤ q.den := by split <;> omega
theorem Sz.nls {q : Rat} {n : Nat} (h : Sz q n) (hn : n < 2 ^ 44) : nl q.num.natAbs < 2 ^ 40 ∧ nl q.den < 2 ^ 40 ∧ nl (if q.den = 1 then 0 else q.den) < 2 ^ 40 :=
  ⟨nl_lt_of h.1 hn, nl_lt_of h.2 hn, Nat.lt_of_le_of_lt (nl_mono denN_le) (nl_lt_of h.2 hn)⟩
theorem Sz.pos {q : Rat} {n : Nat} (h : Sz q n) : 0 < n := by
  rcases Nat.eq_zero_or_pos n with h1 | h1
  · subst h1; have := h.2; have := q.den_nz; omega
  · exact h1
theorem Sz.more {q : Rat} {n m : Nat} (h : Sz q n) (hm : n ≤ m) : Sz q m :=
  ⟨Nat.lt_of_lt_of_le h.1 (Nat.pow_le_pow_right (by omega) hm), Nat.lt_of_lt_of_le h.2 (Nat.pow_le_pow_right (by omega) hm)⟩
theorem mkRat_natAbs {a : Int} {d : Nat} : (mkRat a d).num.natAbs ≤ a.natAbs := by
  rw [Rat.num_mkRat]
  split
  · simp
  · rw [Int.natAbs_ediv_of_dvd]
    · exact Nat.div_le_self _ _
    · exact Int.ofNat_dvd_left.2 (Nat.gcd_dvd_right _ _)
theorem mkRat_den_le {a : Int} {d : Nat} (h : d ≠ 0) : (mkRat a d).den ≤ d := by
  rw [Rat.den_mkRat, if_neg h]
  exact Nat.div_le_self _ _
theorem Sz.add {q r : Rat} {n m : Nat} (h : Sz q n) (h' : Sz r m) : Sz (q + r) (n + m + 1) := by
  rw [Rat.add_def']
  have d0 : q.den * r.den ≠ 0 := Nat.mul_ne_zero q.den_nz r.den_nz
  have e : 2 ^ (n + m + 1) = 2 ^ n * 2 ^ m + 2 ^ n * 2 ^ m := by rw [Nat.pow_succ, Nat.pow_add]; omega
  have b1 : q.num.natAbs * r.den ≤ 2 ^ n * 2 ^ m := Nat.mul_le_mul (Nat.le_of_lt h.1) (Nat.le_of_lt h'.2)
  have b2 : r.num.natAbs * q.den < 2 ^ m * 2 ^ n := Nat.mul_lt_mul'' h'.1 h.2
  have b3 : q.den * r.den ≤ 2 ^ n * 2 ^ m := Nat.mul_le_mul (Nat.le_of_lt h.2) (Nat.le_of_lt h'.2)
  have b4 : 0 < 2 ^ n * 2 ^ m := Nat.mul_pos (Nat.two_pow_pos _) (Nat.two_pow_pos _)
  rw [Nat.mul_comm (2 ^ m)] at b2
  refine ⟨Nat.lt_of_le_of_lt mkRat_natAbs ?_, Nat.lt_of_le_of_lt (mkRat_den_le d0) (by omega)⟩
  have b5 := Int.natAbs_add_le (q.num * r.den) (r.num * q.den)
  rw [Int.natAbs_mul, Int.natAbs_mul, Int.natAbs_natCast, Int.natAbs_natCast] at b5
  omega
theorem Sz.neg {q : Rat} {n : Nat} (h : Sz q n) : Sz (-q) n := by
  refine ⟨?_, ?_⟩
  · rw [Rat.neg_num, Int.natAbs_neg]; exact h.1
  · rw [Rat.neg_den]; exact h.2
theorem Sz.sub {q r : Rat} {n m : Nat} (h : Sz q n) (h' : Sz r m) : Sz (q - r) (n + m + 1) := by
  rw [Rat.sub_eq_add_neg]; exact h.add h'.neg
theorem Sz.mul {q r : Rat} {n m : Nat} (h : Sz q n) (h' : Sz r m) : Sz (q * r) (n + m) := by
  rw [Rat.mul_def']
  have d0 : q.den * r.den ≠ 0 := Nat.mul_ne_zero q.den_nz r.den_nz
  refine ⟨Nat.lt_of_le_of_lt mkRat_natAbs ?_, Nat.lt_of_le_of_lt (mkRat_den_le d0) ?_⟩
  · rw [Int.natAbs_mul, Nat.pow_add]; exact Nat.mul_lt_mul'' h.1 h'.1
  · rw [Nat.pow_add]; exact Nat.mul_lt_mul'' h.2 h'.2
theorem Sz.inv {q : Rat} {n : Nat} (h : Sz q n) : Sz q⁻¹ n := by
  by_cases h0 : q = 0
  · subst h0
    rw [Rat.inv_zero]
    exact h
  · have hn : q.num ≠ 0 := fun h => h0 (Rat.num_eq_zero.1 h)
    refine ⟨?_, ?_⟩
    · rw [Rat.num_inv, Int.natAbs_mul, Int.natAbs_natCast, Int.natAbs_sign_of_ne_zero hn, Nat.one_mul]; exact h.2
    · rw [Rat.den_inv, if_neg hn]; exact h.1
theorem Sz.div {q r : Rat} {n m : Nat} (h : Sz q n) (h' : Sz r m) : Sz (q / r) (n + m) := by
  rw [Rat.div_def]; exact h.mul h'.inv
def sgnR (q : Rat) : Int := if q < 0 then -1 else if 0 < q then 1 else 0
def cmpR (q r : Rat) : Int := if q < r then -1 else if r < q then 1 else 0
end Go.Am

/- Contracts of functions that are handed a pointer to an object and leave it changed. -/
namespace Go.Am
open AV
def endO (T : Types) (fn : Func) (e : AEx) (s : AState) : Option (ATree (List AV × Option AObj)) :=
  match endT T fn e s with
  | some t => t.bind fun e us => some (.leaf e (us, look 0 s.store))
  | none => none
def funO (T : Types) (Γ : Contracts) (forks : List Nat) (n : Nat) (fn : Func) (x : Code) (s : AState) : Option (ATree (List AV × Option AObj)) :=
  match treeAV T Γ forks n x s with
  | some t => t.bind (endO T fn)
  | none => none
theorem fok_obj {P : Program} {T : Types} (hT : TOK P T) {Γ : Contracts} (hΓ : GOK P Γ) (hm : P.follows .mixedOrders = true) {f : FuncId} {fn : Func} {x : Code} (hf : FnIs P f fn x) {k idx es off : Nat} {p : List Nat} {rest : List AV} {o2 o o' : AObj} {res : AV} {l : List Prop}
    (hkr : keysL rest = []) (hrt : (rest.all fun v => !v.isTuple) = true) (hlen : rest.length + 1 ≤ fn.ntmps) (ho : ∀ ρ, objLe ρ o2 o) {forks : List Nat} (n : Nat) {t : ATree (List AV × Option AObj)}
    (hc : funO T Γ forks n fn x ⟨zipSlots 0 (.ptr 0 idx es off p :: rest), [(0, o)], 1⟩ = some t)
    (h : allP l → t.all fun _ v => resOK v.1 res ∧ ∃ o1, v.2 = some o1 ∧ o1.row = false ∧ objLe (ren [(k, 0)]) o1 o') (K : Nat) :
    FOK P f K (.ptr k idx es off p :: rest) [(k, o2)] ⟨res, [(k, o')], l⟩ := by
  have hrest : ∀ {rest : List AV}, keysL rest = [] → (rest.all fun v => !v.isTuple) = true → avLes (ren [(0, k)]) rest rest := by
    intro rest
    induction rest with
    | nil => intro _ _; trivial
    | cons v r ih =>
      intro h1 h2
      simp only [keysL, List.append_eq_nil_iff] at h1
      simp only [List.all_cons, Bool.and_eq_true, Bool.not_eq_true'] at h2
      exact ⟨⟨h2.1, avLe_pure h1.1⟩, ih h1.2 h2.2⟩
  refine fok_core hT hf (args0 := .ptr 0 idx es off p :: rest) (pre0 := [(0, o)]) (nx := 1) [(0, k)] (by simpa using hlen) (by simp [renOK]) ⟨⟨rfl, avLe_ptr rfl⟩, hrest hkr hrt⟩ ⟨⟨k, o2, rfl, by simp [look], ho _⟩, trivial⟩
    (fun a x h => ?_) (fun x o h => .inl ?_) (fun need c h0 => ?_)
  · simp only [ren, look] at h
    split at h
    · simp only [Option.some.injEq] at h; subst h; exact ⟨_, by simp [look]; rfl⟩
    · simp at h
  · simp only [look] at h
    split at h
    · rename_i he
      exact ⟨_, by simp only [look, he, if_true]; rfl⟩
    · simp at h
  have h := h need
  unfold funO at hc
  cases hx : treeAV T Γ forks n x ⟨zipSlots 0 (.ptr 0 idx es off p :: rest), [(0, o)], 1⟩ with
  | none => rw [hx] at hc; simp at hc
  | some u =>
    rw [hx] at hc
    refine treeAV_ok hT hΓ hm n hf.dst hx (ATree.all_mono ?_ (ATree.bind_all hc h))
    rintro e s' ⟨v, h1, h2⟩
    unfold endO at h1
    split at h1
    · rename_i v' hv'
      have h3 := ATree.bind_all h1 h2
      have h4 : v'.all fun _ us => resOK us res ∧ ∃ o1, look 0 s'.store = some o1 ∧ o1.row = false ∧ objLe (ren [(k, 0)]) o1 o' := by
        refine ATree.all_mono ?_ h3
        rintro e us ⟨w, g1, g2⟩
        simp only [Option.some.injEq] at g1
        subst g1
        exact g2
      have h5 : Fin T fn res e s' := endT_ok hv' (ATree.all_mono (fun _ _ h => h.1) h4)
      have h6 : ∃ o1, look 0 s'.store = some o1 ∧ o1.row = false ∧ objLe (ren [(k, 0)]) o1 o' := by
        have : ∀ {t : ATree (List AV)}, (t.all fun _ us => resOK us res ∧ ∃ o1, look 0 s'.store = some o1 ∧ o1.row = false ∧ objLe (ren [(k, 0)]) o1 o') → ∃ o1, look 0 s'.store = some o1 ∧ o1.row = false ∧ objLe (ren [(k, 0)]) o1 o' := by
          intro t
          induction t with
          | leaf e us => exact fun h => h.2
          | must ps t ih => exact fun h => ih h.2
          | fork b t1 t2 ih1 ih2 =>
            intro h
            cases b with
            | true => exact ih1 (h.1 rfl)
            | false => exact ih2 (h.2 rfl)
        exact this h4
      refine ⟨h5.1, ren [(k, 0)], tauOK_pre, .inl ⟨h5.2, fun x ox hx => ?_⟩⟩
      obtain ⟨o1, g1, g2, g3⟩ := h6
      have he : applyEff (toOpts [(k, o')]) [(k, o2)] = [(k, o')] := by simp [applyEff, toOpts, put]
      rw [he] at hx
      simp only [look] at hx
      split at hx
      · rename_i hk
        have : k = x := by simpa using hk
        subst this
        simp only [Option.some.injEq] at hx
        subst hx
        exact ⟨0, o1, by simp [ren, look], g1, g2, g3⟩
      · simp at hx
    · simp at h1
theorem fok_new {P : Program} {T : Types} (hT : TOK P T) {Γ : Contracts} (hΓ : GOK P Γ) (hm : P.follows .mixedOrders = true) {f : FuncId} {fn : Func} {x : Code} (hf : FnIs P f fn x) {args : List AV} {o o' : AObj} {a idx es off ls : Nat} {p : List Nat} {l : List Prop}
    (hka : keysL args = []) (hrt : (args.all fun v => !v.isTuple) = true) (hlen : args.length ≤ fn.ntmps) (hres : fn.results.toList = [.tmp ls]) {forks : List Nat} (n : Nat) {e : AEx} {q : List Prop}
    (hc : seeL T Γ forks n [ls] [x] ⟨zipSlots 0 args, [], 0⟩ = some (.leaf e ([.ptr a idx es off p], [(a, o)])))
    (he : e = .normal ∨ e = .ret) (h : ∀ ρ, objLe ρ o o') (K : Nat) : FOK P f K args [] ⟨.ptr K idx es off p, [(K, o')], l⟩ := by
  have hrest : ∀ {rest : List AV}, keysL rest = [] → (rest.all fun v => !v.isTuple) = true → avLes (ren []) rest rest := by
    intro rest
    induction rest with
    | nil => intro _ _; trivial
    | cons v r ih =>
      intro h1 h2
      simp only [keysL, List.append_eq_nil_iff] at h1
      simp only [List.all_cons, Bool.and_eq_true, Bool.not_eq_true'] at h2
      exact ⟨⟨h2.1, avLe_pure h1.1⟩, ih h1.2 h2.2⟩
  refine fok_core hT hf (args0 := args) (pre0 := []) (nx := 0) [] hlen rfl (hrest hka hrt) trivial (fun a k h => by simp [ren, look] at h) (fun k o h => ?_) (fun _ c h0 => ?_)
  · simp only [look] at h
    split at h
    · rename_i he
      have : K = k := by simpa using he
      subst this
      exact .inr ⟨Nat.le_refl _, by unfold stride; omega⟩
    · simp at h
  refine AWp.see hT hΓ hm n [ls] hc hf.dst fun s' hv => ⟨he, ren [(K, a)], tauOK_one ⟨Nat.le_refl _, by unfold stride; omega⟩, .inr ?_⟩
  refine endsB_view (us := [.ptr a idx es off p]) (ws := [.ptr K idx es off p]) (ps := [(K, o')]) hv ?_ ⟨⟨rfl, avLe_ptr (by simp [ren, look])⟩, trivial⟩ rfl rfl ⟨⟨a, _, by simp [ren, look], by simp [look], h _⟩, trivial⟩
  rw [hres]
  simp only [resV, zipL, look, beq_self_eq_true, if_true]
  rfl
end Go.Am

/- Contracts that the evaluator itself writes: of functions that only read, without a loop of unknown length. -/
namespace Go.Am
open AV
mutual
/-- One of two values, by a condition that is not known. -/
def mrg (b : Bool) : AV → AV → Option AV
  | .rat q n, .rat r m => some (.rat (cond b q r) (max n m))
  | .int k x, .int j y => match isKind k j with
    | true => some (.int k (cond b x y))
    | false => none
  | .bool x, .bool y => some (.bool (cond b x y))
  | .tab e n f, .tab e' m g => match e == e' with
    | true => some (.tab e (cond b n m) fun i => cond b (f i) (g i))
    | false => none
  | .nil, .nil => some .nil
  | .nil, .tab e n f => match Nat.blt 0 e with
    | true => some (.tab e (cond b 0 n) f)
    | false => none
  | .tab e n f, .nil => match Nat.blt 0 e with
    | true => some (.tab e (cond b n 0) f)
    | false => none
  | .agg l, .agg m => match mrgL b l m with
    | some x => some (.agg x)
    | none => none
  | _, _ => none
def mrgL (b : Bool) : List AV → List AV → Option (List AV)
  | [], [] => some []
  | u :: l, v :: m => match mrg b u v, mrgL b l m with
    | some x, some y => some (x :: y)
    | _, _ => none
  | _, _ => none
end
mutual
theorem mrg_true : ∀ {u v x : AV}, mrg true u v = some x → avLe0 u x
  | .rat q n, v, x, h => by
    cases v <;> simp only [mrg, Option.some.injEq, reduceCtorEq] at h
    subst h; exact avLe0_rat_more (Nat.le_max_left ..)
  | .int k a, v, x, h => by
    cases v <;> simp only [mrg, reduceCtorEq] at h
    split at h
    · simp only [Option.some.injEq] at h; subst h; exact .refl _
    · simp at h
  | .bool a, v, x, h => by
    cases v <;> simp only [mrg, Option.some.injEq, reduceCtorEq] at h
    subst h; exact .refl _
  | .tab e n f, v, x, h => by
    cases v <;> simp only [mrg, reduceCtorEq] at h
    · split at h
      · simp only [Option.some.injEq] at h; subst h; exact .refl _
      · simp at h
    · split at h
      · simp only [Option.some.injEq] at h; subst h; exact .refl _
      · simp at h
  | .nil, v, x, h => by
    cases v <;> simp only [mrg, Option.some.injEq, reduceCtorEq] at h
    · split at h
      · rename_i he
        simp only [Option.some.injEq] at h; subst h
        exact avLe0_nil_tab (by rw [Nat.blt_eq] at he; exact he)
      · simp at h
    · subst h; exact .refl _
  | .agg l, v, x, h => by
    cases v <;> simp only [mrg, reduceCtorEq] at h
    split at h
    · rename_i hl
      simp only [Option.some.injEq] at h; subst h; exact avLe0_agg (mrgL_true hl)
    · simp at h
  | .mag _, v, x, h => by simp [mrg] at h
  | .ntab _ _ _ _, v, x, h => by simp [mrg] at h
  | .void, v, x, h => by simp [mrg] at h
  | .str _, v, x, h => by simp [mrg] at h
  | .cref _, v, x, h => by simp [mrg] at h
  | .ptr _ _ _ _ _, v, x, h => by simp [mrg] at h
  | .own _ _ _ _, v, x, h => by simp [mrg] at h
  | .func _ _, v, x, h => by simp [mrg] at h
  | .tuple _, v, x, h => by simp [mrg] at h
theorem mrgL_true : ∀ {u v x : List AV}, mrgL true u v = some x → avLes0 u x
  | [], v, x, h => by
    cases v <;> simp only [mrgL, Option.some.injEq, reduceCtorEq] at h
    subst h; trivial
  | a :: l, v, x, h => by
    cases v <;> simp only [mrgL, reduceCtorEq] at h
    split at h
    · rename_i h1 h2
      simp only [Option.some.injEq] at h; subst h; exact ⟨mrg_true h1, mrgL_true h2⟩
    · simp at h
end
mutual
theorem mrg_false : ∀ {u v x : AV}, mrg false u v = some x → avLe0 v x
  | .rat q n, v, x, h => by
    cases v <;> simp only [mrg, Option.some.injEq, reduceCtorEq] at h
    subst h; exact avLe0_rat_more (Nat.le_max_right ..)
  | .int k a, v, x, h => by
    cases v <;> simp only [mrg, reduceCtorEq] at h
    split at h
    · rename_i hk
      have := isKind_eq hk
      subst this
      simp only [Option.some.injEq] at h; subst h; exact .refl _
    · simp at h
  | .bool a, v, x, h => by
    cases v <;> simp only [mrg, Option.some.injEq, reduceCtorEq] at h
    subst h; exact .refl _
  | .tab e n f, v, x, h => by
    cases v <;> simp only [mrg, reduceCtorEq] at h
    · split at h
      · rename_i hk
        have := eq_of_beq hk
        subst this
        simp only [Option.some.injEq] at h; subst h; exact .refl _
      · simp at h
    · split at h
      · rename_i he
        simp only [Option.some.injEq] at h; subst h
        exact avLe0_nil_tab (by rw [Nat.blt_eq] at he; exact he)
      · simp at h
  | .nil, v, x, h => by
    cases v <;> simp only [mrg, Option.some.injEq, reduceCtorEq] at h
    · split at h
      · simp only [Option.some.injEq] at h; subst h; exact .refl _
      · simp at h
    · subst h; exact .refl _
  | .agg l, v, x, h => by
    cases v <;> simp only [mrg, reduceCtorEq] at h
    split at h
    · rename_i hl
      simp only [Option.some.injEq] at h; subst h; exact avLe0_agg (mrgL_false hl)
    · simp at h
  | .mag _, v, x, h => by simp [mrg] at h
  | .ntab _ _ _ _, v, x, h => by simp [mrg] at h
  | .void, v, x, h => by simp [mrg] at h
  | .str _, v, x, h => by simp [mrg] at h
  | .cref _, v, x, h => by simp [mrg] at h
  | .ptr _ _ _ _ _, v, x, h => by simp [mrg] at h
  | .own _ _ _ _, v, x, h => by simp [mrg] at h
  | .func _ _, v, x, h => by simp [mrg] at h
  | .tuple _, v, x, h => by simp [mrg] at h
theorem mrgL_false : ∀ {u v x : List AV}, mrgL false u v = some x → avLes0 v x
  | [], v, x, h => by
    cases v <;> simp only [mrgL, Option.some.injEq, reduceCtorEq] at h
    subst h; trivial
  | a :: l, v, x, h => by
    cases v <;> simp only [mrgL, reduceCtorEq] at h
    split at h
    · rename_i h1 h2
      simp only [Option.some.injEq] at h; subst h; exact ⟨mrg_false h1, mrgL_false h2⟩
    · simp at h
end
theorem avLes0.trans : ∀ {a b c : List AV}, avLes0 a b → avLes0 b c → avLes0 a c
  | [], [], [], _, _ => trivial
  | _ :: _, _ :: _, _ :: _, h, h' => ⟨h.1.trans h'.1, h.2.trans h'.2⟩
  | [], [], _ :: _, _, h => h.elim
  | [], _ :: _, _, h, _ => h.elim
  | _ :: _, [], _, h, _ => h.elim
  | _ :: _, _ :: _, [], _, h => h.elim
def treeC : ATree (List AV) → Option (List AV × List Prop)
  | .leaf _ us => some (us, [])
  | .must ps t => match treeC t with
    | some (us, qs) => some (us, ps ++ qs)
    | none => none
  | .fork b t u => match treeC t, treeC u with
    | some (x, p), some (y, q) => match mrgL b x y with
      | some z => match p, q with
        | [], [] => some (z, [])
        | p, q => some (z, [b = true → allP p, b = false → allP q])
      | none => none
    | _, _ => none
theorem treeC_ok : ∀ {t : ATree (List AV)} {us : List AV} {ps : List Prop}, treeC t = some (us, ps) → allP ps → t.all fun _ vs => avLes0 vs us
  | .leaf e vs, us, ps, h, _ => by
    simp only [treeC, Option.some.injEq, Prod.mk.injEq] at h
    obtain ⟨rfl, rfl⟩ := h
    exact .refl _
  | .must l t, us, ps, h, hp => by
    simp only [treeC] at h
    split at h
    · rename_i h1
      simp only [Option.some.injEq, Prod.mk.injEq] at h
      obtain ⟨rfl, rfl⟩ := h
      obtain ⟨p1, p2⟩ := allP_append.1 hp
      exact ⟨p1, treeC_ok h1 p2⟩
    · simp at h
  | .fork b t u, us, ps, h, hp => by
    simp only [treeC] at h
    split at h
    · rename_i x p y q h1 h2
      split at h
      · rename_i z hz
        have key : us = z ∧ (b = true → allP p) ∧ (b = false → allP q) := by
          split at h
          · simp only [Option.some.injEq, Prod.mk.injEq] at h
            exact ⟨h.1.symm, fun _ => trivial, fun _ => trivial⟩
          · simp only [Option.some.injEq, Prod.mk.injEq] at h
            obtain ⟨rfl, rfl⟩ := h
            exact ⟨rfl, hp⟩
        obtain ⟨rfl, p1, p2⟩ := key
        refine ⟨fun hb => ?_, fun hb => ?_⟩
        · subst hb
          exact ATree.all_mono (fun _ vs hv => hv.trans (mrgL_true hz)) (treeC_ok h1 (p1 rfl))
        · subst hb
          exact ATree.all_mono (fun _ vs hv => hv.trans (mrgL_false hz)) (treeC_ok h2 (p2 rfl))
      · simp at h
    · simp at h
def aSpec (T : Types) (Γ : Contracts) (forks : List Nat) (fuel : Nat) (fn : Func) : Spec := pureSpec fun args =>
  match Nat.ble args.length fn.ntmps with
  | true => match funT T Γ forks fuel fn (codeOf fn) ⟨zipSlots 0 args, [], 0⟩ with
    | some t => match treeC t with
      | some (us, ps) => match us with
        | [u] => some ⟨u, [], ps⟩
        | us => some ⟨.tuple us, [], ps⟩
      | none => none
    | none => none
  | false => none
theorem resOK_one {us : List AV} {v : AV} (h : avLes0 us [v]) : resOK us v := by
  match us, h with
  | [u], h => exact h.1
theorem resOK_tuple {us vs : List AV} (hv : ∀ u, vs ≠ [u]) (h : avLes0 us vs) : resOK us (.tuple vs) := by
  match us, vs, h with
  | [], [], h => exact h
  | [u], [v], h => exact absurd rfl (hv v)
  | a :: b :: l, _ :: _ :: _, h => exact h
  | [u], _ :: _ :: _, h => exact absurd h.2 (by simp [avLes0])
  | a :: b :: l, [v], h => exact absurd h.2 (by simp [avLes0])
  | [], _ :: _, h => exact h.elim
  | _ :: _, [], h => exact h.elim
theorem aSpec_ok {P : Program} {T : Types} (hT : TOK P T) {Γ : Contracts} (hΓ : GOK P Γ) (hm : P.follows .mixedOrders = true) {f : FuncId} {fn : Func} (hf : FnIs P f fn (codeOf fn)) (forks : List Nat) (fuel : Nat) :
    ∀ K args pre r, aSpec T Γ forks fuel fn K args pre = some r → FOK P f K args pre r := by
  refine pureSpec_ok fun K args r hk hs hp => ?_
  split at hs
  · rename_i hlen
    have hlen := Nat.le_of_ble_eq_true hlen
    split at hs
    · rename_i t ht
      split at hs
      · rename_i us ps hc
        split at hs
        · simp only [Option.some.injEq] at hs
          subst hs
          exact fok_tree (r := ⟨_, [], ps⟩) hT hΓ hm hf hk hlen rfl fuel ht (fun hn => ATree.all_mono (fun _ vs hv => resOK_one hv) (treeC_ok hc hn)) K []
        · rename_i hne
          simp only [Option.some.injEq] at hs
          subst hs
          exact fok_tree (r := ⟨_, [], ps⟩) hT hΓ hm hf hk hlen rfl fuel ht (fun hn => ATree.all_mono (fun _ vs hv => resOK_tuple hne hv) (treeC_ok hc hn)) K []
      · simp at hs
    · simp at hs
  · simp at hs
theorem gok_strict {P : Program} {Γ : Contracts} (h : GOK P Γ) : GOK P (sG :: Γ) := gok_cons (fun K args pre r hs => by simp at hs) h
theorem gok_plain {P : Program} {Γ : Contracts} (h : GOK P Γ) : GOK P (nG :: Γ) := gok_cons (fun K args pre r hs => by simp at hs) h
end Go.Am

/- Loops whose objects get other keys in each round: states up to the names of objects. -/
namespace Go.Am
open AV
def renV (rl : List (Nat × Nat)) : AV → AV
  | .ptr k i e o p => match look k rl with
    | some j => .ptr j i e o p
    | none => .void
  | .own k e s n => match look k rl with
    | some j => .own j e s n
    | none => .void
  | v => v
def okR (rl : List (Nat × Nat)) : AV → Bool
  | .ptr k _ _ _ _ => (look k rl).isSome
  | .own k _ _ _ => (look k rl).isSome
  | .tuple _ => false
  | v => (keys v).isEmpty
theorem avLe_ren {rl : List (Nat × Nat)} {u v : AV} (hu : u = renV rl v) (hv : okR rl v = true) : u.isTuple = false ∧ avLe (ren rl) u v := by
  subst hu
  cases v with
  | ptr k i e o p =>
    simp only [okR, Option.isSome_iff_exists] at hv
    obtain ⟨j, hj⟩ := hv
    simp only [renV, hj]
    exact ⟨rfl, avLe_ptr hj⟩
  | own k e s n =>
    simp only [okR, Option.isSome_iff_exists] at hv
    obtain ⟨j, hj⟩ := hv
    simp only [renV, hj]
    exact ⟨rfl, avLe_own hj rfl rfl⟩
  | tuple l => simp [okR] at hv
  | _ =>
    simp only [okR, List.isEmpty_iff] at hv
    exact ⟨rfl, avLe_pure hv⟩
theorem avLes_ren {rl : List (Nat × Nat)} : ∀ {vs us : List AV}, us = vs.map (renV rl) → vs.all (okR rl) = true → avLes (ren rl) us vs
  | [], _, h, _ => by subst h; trivial
  | v :: vs, _, h, hv => by
    subst h
    simp only [List.all_cons, Bool.and_eq_true] at hv
    exact ⟨avLe_ren rfl hv.1, avLes_ren rfl hv.2⟩
theorem renV_pure {rl : List (Nat × Nat)} {v : AV} (h : okR [] v = true) : renV rl v = v := by
  cases v <;> first | rfl | simp [okR, look] at h
end Go.Am

/- Functions with one loop, by what the evaluator says of its parts. -/
namespace Go.Am
open AV
def avQ (rl : List (Nat × Nat)) (u v : AV) : Prop := ((okR rl v = true ∧ u = renV rl v) ∨ ∃ us vs, u = .agg us ∧ v = .agg vs ∧ avLes (ren rl) us vs) ∨ (keys u = [] ∧ avLe0 u v)
theorem avLes_cells {ρ : Nat → Option Nat} {M : Nat → Prop} {w : World} {β : KMap} : ∀ {us vs : List AV} {cs : List Value}, avLes ρ us vs → CReps M w β us cs → CReps M w (fun k => (ρ k).bind β) vs cs
  | [], [], _, _, h => by cases h; exact .nil
  | u :: us, v :: vs, cs, hl, h => by
    obtain ⟨c1, c2, rfl, h1, h2⟩ := h.split
    exact (hl.1.2.2 M w β c1 h1).cons (avLes_cells hl.2 h2)
  | [], _ :: _, _, h, _ => h.elim
  | _ :: _, [], _, h, _ => h.elim
theorem avLe_agg {ρ : Nat → Option Nat} {us vs : List AV} (h : avLes ρ us vs) : avLe ρ (.agg us) (.agg vs) := by
  refine ⟨rfl, fun M w β cs hc => ?_⟩
  cases hc with
  | agg h1 h2 => cases h2; exact .agg (avLes_cells h h1) .nil
theorem avQ.le {rl : List (Nat × Nat)} {u v : AV} (h : avQ rl u v) : avLe (ren rl) u v := by
  rcases h with (h | ⟨us, vs, rfl, rfl, h⟩) | h
  · exact (avLe_ren h.2 h.1).2
  · exact avLe_agg h
  · exact avLe_of0 h.1 h.2
def objsQ (rl : List (Nat × Nat)) (os : Store) : Store → Prop
  | [] => True
  | (k2, o2) :: ps => (∃ k1 o1, look k2 rl = some k1 ∧ look k1 os = some o1 ∧ o1.row = o2.row ∧ o1.wr = o2.wr ∧ o1.es = o2.es ∧ o1.len = o2.len ∧ ∀ i, i < o2.len → avQ rl (o1.f i) (o2.f i)) ∧ objsQ rl os ps
theorem objLes_Q {rl : List (Nat × Nat)} {os : Store} : ∀ {ps : Store}, objsQ rl os ps → objLes (ren rl) os ps
  | [], _ => trivial
  | (k2, o2) :: ps, h => by
    obtain ⟨⟨k1, o1, h1, h2, h3, h4, h5, h6, h7⟩, h8⟩ := h
    exact ⟨⟨k1, o1, h1, h2, ⟨h3.symm ▸ rfl, h4.symm ▸ rfl, h5.symm ▸ rfl, h6.symm ▸ rfl, fun i hi => (h7 i (h6 ▸ hi)).le⟩⟩, objLes_Q h8⟩
theorem avQ_eq {rl : List (Nat × Nat)} {u v : AV} (hk : keys u = []) (h : u = v) : avQ rl u v := .inr ⟨hk, h ▸ .refl _⟩
theorem objsQ_cons {rl : List (Nat × Nat)} {os ps : Store} {k2 k1 : Nat} {r w : Bool} {es n m : Nat} {f g : Nat → AV} (hk : look k2 rl = some k1) (ho : look k1 os = some ⟨r, w, es, n, f⟩) (hn : n = m) (h : ∀ i, i < m → avQ rl (f i) (g i))
    (hs : objsQ rl os ps) : objsQ rl os ((k2, ⟨r, w, es, m, g⟩) :: ps) := ⟨⟨k1, _, hk, ho, rfl, rfl, rfl, hn, h⟩, hs⟩
theorem objsQ_one {rl : List (Nat × Nat)} {os ps : Store} {k2 k1 : Nat} {r w : Bool} {es : Nat} {f g : Nat → AV} (hk : look k2 rl = some k1) (ho : look k1 os = some ⟨r, w, es, 1, f⟩) (h : avQ rl (f 0) (g 0))
    (hs : objsQ rl os ps) : objsQ rl os ((k2, ⟨r, w, es, 1, g⟩) :: ps) := objsQ_cons hk ho rfl (fun i hi => by rw [Nat.lt_one_iff.1 hi]; exact h) hs
theorem look_app {α : Type} {k : Nat} {b : List (Nat × α)} : ∀ {a : List (Nat × α)}, look k (a ++ b) = match look k a with
    | some x => some x
    | none => look k b
  | [] => rfl
  | (j, x) :: a => by
    simp only [List.cons_append, look]
    split
    · rfl
    · exact look_app
theorem gok_app {P : Program} {a b : Contracts} (ha : GOK P a) (hb : GOK P b) : GOK P (a ++ b) := by
  intro f s hl
  have hl : look f (a ++ b) = some s := hl
  rw [look_app] at hl
  split at hl
  · rename_i h
    simp only [Option.some.injEq] at hl
    subst hl
    exact ha f _ h
  · exact hb f s hl
def Kept (kp : List Nat) (c : Ctx) : Prop := ∀ k x, c.k0 k = some x → k ∈ kp
theorem kept_nil {c : Ctx} (h0 : ∀ nx k x, c.k0 k = some x → k < nx) : Kept [] c := fun k x hk => absurd (h0 0 k x hk) (by omega)
def ReOK (kp : List Nat) (v : List AV × Store) (vs : List AV) (os : Store) (nx : Nat) : Prop :=
  ∃ rl, (renOK nx rl && kp.all fun k => look k rl == some k) = true ∧ v.1 = vs.map (renV rl) ∧ vs.all (okR rl) = true ∧ objsQ rl v.2 os
theorem ReOK.le {kp : List Nat} {c : Ctx} {s' : AState} {ls : List Nat} {v : List AV × Store} {vs : List AV} {os : Store} {nx : Nat} (h : ReOK kp v vs os nx) (hv : viewAV ls s' = some v) (h0 : Kept kp c) : ∃ ρ, Le c ρ s' ⟨zipL ls vs, os, nx⟩ := by
  obtain ⟨rl, h1, h2, h3, h4⟩ := h
  simp only [Bool.and_eq_true] at h1
  exact le_viewK rl hv (fun k x hk => by simpa using List.all_eq_true.1 h1.2 k (h0 k x hk)) h1.1 (avLes_ren h2 h3) (objLes_Q h4)
theorem ReOK.vals {vs : List AV} {nx : Nat} (h : vs.all (okR []) = true) : ReOK [] (vs, []) vs [] nx := by
  refine ⟨[], rfl, ?_, h, trivial⟩
  simp only [List.all_eq_true] at h
  have : vs.map (renV []) = vs.map id := List.map_congr_left fun v hv => renV_pure (h v hv)
  rw [this, List.map_id]
theorem dst_before {nt : Nat} : ∀ {x : Code} {p : List Nat}, dstOK nt x = true → (before x p).all (fun x => dstOK nt x) = true
  | .seq x y, 0 :: p, h => by
    simp only [dstOK, Bool.and_eq_true] at h
    exact dst_before (x := x) h.1
  | .seq x y, (n + 1) :: p, h => by
    simp only [dstOK, Bool.and_eq_true] at h
    simp only [before, List.all_cons, Bool.and_eq_true]
    exact ⟨h.1, dst_before (x := y) h.2⟩
  | .seq _ _, [], _ | .cond _ _ _, _, _ | .block _ _, _, _ | .loop _, _, _ | .region _ _ _, _, _ | .skip, _, _ | .label _, _, _ | .exit _, _, _ | .ret, _, _ | .scope _, _, _ | .goto _, _, _ | .refuse _, _, _ | .rangeFunc _ _ _ _, _, _ => by simp [before]
theorem dst_behind {nt : Nat} : ∀ {x : Code} {p : List Nat}, dstOK nt x = true → (behind x p).all (fun x => dstOK nt x) = true
  | .seq x y, 0 :: p, h => by
    simp only [dstOK, Bool.and_eq_true] at h
    simp only [behind, List.all_append, List.all_cons, List.all_nil, Bool.and_true, Bool.and_eq_true]
    exact ⟨dst_behind (x := x) h.1, h.2⟩
  | .seq x y, (n + 1) :: p, h => by
    simp only [dstOK, Bool.and_eq_true] at h
    exact dst_behind (x := y) (p := p) h.2
  | .seq _ _, [], _ | .cond _ _ _, _, _ | .block _ _, _, _ | .loop _, _, _ | .region _ _ _, _, _ | .skip, _, _ | .label _, _, _ | .exit _, _, _ | .ret, _, _ | .scope _, _, _ | .goto _, _, _ | .refuse _, _, _ | .rangeFunc _ _ _ _, _, _ => by simp [behind]
theorem dst_part {nt : Nat} : ∀ {x : Code} {p : List Nat}, chain x p = true → dstOK nt x = true → dstOK nt (part x p) = true
  | x, [], _, h => by cases x <;> exact h
  | .seq x y, 0 :: p, hc, h => by
    simp only [dstOK, Bool.and_eq_true] at h
    exact dst_part (x := x) hc h.1
  | .seq x y, (n + 1) :: p, hc, h => by
    simp only [dstOK, Bool.and_eq_true] at h
    exact dst_part (x := y) hc h.2
  | .cond _ _ _, _ :: _, hc, _ | .block _ _, _ :: _, hc, _ | .loop _, _ :: _, hc, _ | .region _ _ _, _ :: _, hc, _ | .skip, _ :: _, hc, _ | .label _, _ :: _, hc, _ | .exit _, _ :: _, hc, _ | .ret, _ :: _, hc, _ | .scope _, _ :: _, hc, _ | .goto _, _ :: _, hc, _ | .refuse _, _ :: _, hc, _ | .rangeFunc _ _ _ _, _ :: _, hc, _ => by simp [chain] at hc
section rules
variable {P : Program} {c : Ctx} {nt : Nat} {s : AState} {Q : AEx → AState → Prop} {T : Types} (hT : TOK P T) {Γ : Contracts} (hΓ : GOK P Γ) (hm : P.follows .mixedOrders = true)
def Round (kp : List Nat) {α : Type} (V : α → List AV) (O : α → Store) (nx : Nat) (I D : α → Prop) (μ : α → Nat) (i : Nat) (R : List AV × Store → Prop) (a : α) : AEx → List AV × Store → Prop
  | .normal, v => ∃ b, I b ∧ μ b < μ a ∧ ReOK kp v (V b) (O b) nx
  | .exit k, v => k = i ∧ ∃ b, D b ∧ ReOK kp v (V b) (O b) nx
  | .ret, v => R v
include hT hΓ hm in
theorem AWp.loopT {x y : Code} {i : Nat} (hx : x = .block i (.loop y)) {kp : List Nat} (h0 : Kept kp c) {forks : List Nat} (n : Nat) (L : List Nat) (nx : Nat) {α : Type} (V : α → List AV) (O : α → Store) (I D : α → Prop) (μ : α → Nat) (R : List AV × Store → Prop)
    (a0 : α) (hI : I a0) (hs : ∃ ρ, Le c ρ s ⟨zipL L (V a0), O a0, nx⟩) (hd : dstOK nt y = true)
    (hb : ∀ a, I a → ∃ t, seeL T Γ forks n L [y] ⟨zipL L (V a), O a, nx⟩ = some t ∧ t.all (Round kp V O nx I D μ i R a))
    (hD : ∀ b s', D b → (∃ ρ, Le c ρ s' ⟨zipL L (V b), O b, nx⟩) → Q .normal s') (hR : ∀ v s', R v → viewAV L s' = some v → Q .ret s') : AWp P c nt x s Q := by
  refine AWp.whileLe hx (fun a => ⟨zipL L (V a), O a, nx⟩) I μ a0 hs hI fun a ha => ?_
  obtain ⟨t, h1, h2⟩ := hb a ha
  refine AWp.see hT hΓ hm n L h1 hd (ATree.all_mono ?_ h2)
  rintro e v hv s' hs'
  cases e with
  | normal =>
    obtain ⟨b, g1, g2, g3⟩ := hv
    exact ⟨b, g3.le hs' h0, g1, g2⟩
  | exit k =>
    obtain ⟨rfl, b, g1, g2⟩ := hv
    exact inBlock_exit (hD b s' g1 (g2.le hs' h0))
  | ret => exact hR v s' hv hs'
theorem AWpL.one {x : Code} (h : AWp P c nt x s Q) : AWpL P c nt [x] s Q := h.mono fun e s' h => by cases e <;> exact h
theorem AWp.ofL {x : Code} (h : AWpL P c nt [x] s Q) : AWp P c nt x s Q := AWp.mono h fun e s' h => by cases e <;> exact h
def Start (kp : List Nat) {α : Type} (V : α → List AV) (O : α → Store) (nx : Nat) (I : α → Prop) (R : List AV × Store → Prop) : AEx → List AV × Store → Prop
  | .normal, v => ∃ a, I a ∧ ReOK kp v (V a) (O a) nx
  | .ret, v => R v
  | .exit _, _ => False
include hT hΓ hm in
theorem AWp.hloop0 {x y : Code} (p : List Nat) {i : Nat} (hc : chain x p = true) (hx : part x p = .block i (.loop y)) (hd : dstOK nt x = true) {kp : List Nat} (h0 : Kept kp c) {f1 f2 : List Nat} (n : Nat) (L : List Nat) (nx : Nat) {α : Type} (V : α → List AV) (O : α → Store) (I D : α → Prop) (μ : α → Nat) (R : List AV × Store → Prop)
    (hp : ∃ t, seeL T Γ f1 n L (before x p) s = some t ∧ t.all (Start kp V O nx I R))
    (hb : ∀ a, I a → ∃ t, seeL T Γ f2 n L [y] ⟨zipL L (V a), O a, nx⟩ = some t ∧ t.all (Round kp V O nx I D μ i R a))
    (hD : ∀ b s', D b → (∃ ρ, Le c ρ s' ⟨zipL L (V b), O b, nx⟩) → AWpL P c nt (behind x p) s' Q) (hR : ∀ v s', R v → viewAV L s' = some v → Q .ret s') : AWp P c nt x s Q := by
  obtain ⟨t, h1, h2⟩ := hp
  refine AWp.hole p hc (AWpL.see hT hΓ hm n L h1 (dst_before hd) (ATree.all_mono ?_ h2))
  rintro e v hv s' hs'
  cases e with
  | normal =>
    obtain ⟨a, hI, hre⟩ := hv
    refine (show AWp P c nt (part x p) s' _ from AWp.loopT hT hΓ hm hx h0 n L nx V O I D μ R a hI (hre.le hs' h0) ?_ hb (fun b s' hD' hle => hD b s' hD' hle) fun v s' hv hs' => hR v s' hv hs')
    have := dst_part (nt := nt) hc hd
    rw [hx] at this
    exact this
  | ret => exact hR v s' hv hs'
  | exit k => exact hv.elim
include hT hΓ hm in
theorem AWp.hloop {x y z : Code} (p : List Nat) {i : Nat} (hc : chain x p = true) (hx : part x p = .block i (.loop y)) (hz : behind x p = [z]) (hd : dstOK nt x = true) {kp : List Nat} (h0 : Kept kp c) {f1 f2 : List Nat} (n : Nat) (L : List Nat) (nx : Nat) {α : Type} (V : α → List AV) (O : α → Store) (I D : α → Prop) (μ : α → Nat) (R : List AV × Store → Prop)
    (hp : ∃ t, seeL T Γ f1 n L (before x p) s = some t ∧ t.all (Start kp V O nx I R))
    (hb : ∀ a, I a → ∃ t, seeL T Γ f2 n L [y] ⟨zipL L (V a), O a, nx⟩ = some t ∧ t.all (Round kp V O nx I D μ i R a))
    (hD : ∀ b, D b → AWp P c nt z ⟨zipL L (V b), O b, nx⟩ Q) (hR : ∀ v s', R v → viewAV L s' = some v → Q .ret s') : AWp P c nt x s Q :=
  AWp.hloop0 hT hΓ hm p hc hx hd h0 n L nx V O I D μ R hp hb (fun b s' hD' hle => by rw [hz]; exact AWpL.weak rfl hle (AWpL.one (hD b hD'))) hR
def RetV (fn : Func) (L : List Nat) (res : AV) (v : List AV × Store) : Prop := ∃ us, endV fn (zipL L v.1) = some us ∧ resOK us res
theorem RetV.fin {fn : Func} {L : List Nat} {res : AV} {v : List AV × Store} {s' : AState} (h : RetV fn L res v) (hs' : viewAV L s' = some v) : Lower c (Fin T fn res) .ret s' := by
  obtain ⟨us, g1, g2⟩ := h
  exact .inl (fin_view (.inr rfl) hs' g1 g2)
def RetT (T : Types) (fn : Func) (L : List Nat) (res : AV) (v : List AV × Store) : Prop :=
  ∃ vs us nx t, v.1 = vs ++ us ∧ vs.length = L.length ∧ keysL us = [] ∧ endT T fn .ret ⟨zipL L vs, v.2, nx⟩ = some t ∧ okV nx vs = true ∧ okO nx v.2 ∧ t.all fun _ us => resOK us res
theorem RetT.fin {fn : Func} {L L1 : List Nat} {res : AV} {v : List AV × Store} {s' : AState} (h0 : Kept [] c) (h : RetT T fn L res v) (hs' : viewAV (L ++ L1) s' = some v) : Lower c (Fin T fn res) .ret s' := by
  obtain ⟨vs, us, nx, t, h1, h2, h3, h4, h5, h6, h7⟩ := h
  obtain ⟨v1, v2⟩ := v
  simp only at h1
  subst h1
  exact finD h4 (view_take hs' h2 h3) (fun k x hk => by simpa using h0 k x hk) h5 h6 h7
include hT hΓ hm in
theorem fok_loop {f : FuncId} {fn : Func} (hf : FnIs P f fn (codeOf fn)) {args : List AV} {r : CRes} (hk : keysL args = []) (hlen : args.length ≤ fn.ntmps) (hpost : r.post = []) (p : List Nat) {i : Nat} {y z : Code} (hc : chain (codeOf fn) p = true) (hx : part (codeOf fn) p = .block i (.loop y)) (hz : behind (codeOf fn) p = [z])
    {f1 f2 f3 : List Nat} (n : Nat) (L : List Nat) (nx : Nat) {α : Type} (V : α → List AV) (O : α → Store) (I D : α → Prop) (μ : α → Nat)
    (h : r.need → (∃ t, seeL T Γ f1 n L (before (codeOf fn) p) ⟨zipSlots 0 args, [], 0⟩ = some t ∧ t.all (Start [] V O nx I (RetV fn L r.res))) ∧
      (∀ a, I a → ∃ t, seeL T Γ f2 n L [y] ⟨zipL L (V a), O a, nx⟩ = some t ∧ t.all (Round [] V O nx I D μ i (RetV fn L r.res) a)) ∧
      ∀ a, D a → ∃ t, endL T Γ f3 n fn [z] ⟨zipL L (V a), O a, nx⟩ = some t ∧ t.all fun _ us => resOK us r.res) (K : Nat) (pre : Store) : FOK P f K args pre r := by
  refine fok_down hT hf hk hlen hpost (fun need c h0 => ?_) K pre
  obtain ⟨hp, hb, he⟩ := h need
  refine AWp.hloop hT hΓ hm p hc hx hz hf.dst (kept_nil h0) n L nx V O I D μ (RetV fn L r.res) hp hb (fun a ha => ?_) fun v s' hv hs' => hv.fin hs'
  obtain ⟨t, g1, g2⟩ := he a ha
  have := dst_behind (x := codeOf fn) (p := p) hf.dst
  rw [hz] at this
  exact AWp.ofL ((AWpL.fin hT hΓ hm n g1 this g2).mono fun _ _ h => .inl h)
end rules
end Go.Am

/- Functions that are handed two lists that may still be written to, and leave them as they are. -/
namespace Go.Am
open AV
theorem avLes_of0 {ρ : Nat → Option Nat} : ∀ {us vs : List AV}, keysL us = [] → (us.all fun v => !v.isTuple) = true → avLes0 us vs → avLes ρ us vs
  | [], [], _, _, _ => trivial
  | u :: us, v :: vs, h1, h2, h => by
    simp only [keysL, List.append_eq_nil_iff] at h1
    simp only [List.all_cons, Bool.and_eq_true, Bool.not_eq_true'] at h2
    exact ⟨⟨h2.1, avLe_of0 h1.1 h.1⟩, avLes_of0 h1.2 h2.2 h.2⟩
  | [], _ :: _, _, _, h => h.elim
  | _ :: _, [], _, _, h => h.elim
def endQ (T : Types) (fn : Func) (e : AEx) (s : AState) : Option (ATree (List AV × Option AObj × Option AObj)) := match e with
  | .exit _ => none
  | e => match resultsAV T s fn.results.toList with
    | some (vs, q) => some (.need q (.leaf e (vs, look 0 s.store, look 1 s.store)))
    | none => none
def OutQ (us : List AV) (o p : AObj) (v : List AV × Option AObj × Option AObj) : Prop :=
  keysL v.1 = [] ∧ (v.1.all fun v => !v.isTuple) = true ∧ avLes0 v.1 us ∧ (∃ o1, v.2.1 = some o1 ∧ ∀ ρ, objLe ρ o1 o) ∧ ∃ p1, v.2.2 = some p1 ∧ ∀ ρ, objLe ρ p1 p
def EndQ (T : Types) (fn : Func) (us : List AV) (o p : AObj) (e : AEx) (s : AState) : Prop :=
  (e = .normal ∨ e = .ret) ∧ (∃ vs q, resultsAV T s fn.results.toList = some (vs, q) ∧ allP q ∧ keysL vs = [] ∧ (vs.all fun v => !v.isTuple) = true ∧ avLes0 vs us) ∧ (∃ o1, look 0 s.store = some o1 ∧ ∀ ρ, objLe ρ o1 o) ∧ ∃ p1, look 1 s.store = some p1 ∧ ∀ ρ, objLe ρ p1 p
theorem endQ_ok {T : Types} {fn : Func} {e : AEx} {s : AState} {t : ATree (List AV × Option AObj × Option AObj)} {us : List AV} {o p : AObj} (h1 : endQ T fn e s = some t) (h2 : t.all fun _ v => OutQ us o p v) : EndQ T fn us o p e s := by
  unfold endQ at h1
  have key : ∀ {e' : AEx}, (match resultsAV T s fn.results.toList with
      | some (vs, q) => some (ATree.need q (.leaf e' (vs, look 0 s.store, look 1 s.store)))
      | none => none) = some t → (∃ vs q, resultsAV T s fn.results.toList = some (vs, q) ∧ allP q ∧ keysL vs = [] ∧ (vs.all fun v => !v.isTuple) = true ∧ avLes0 vs us) ∧ (∃ o1, look 0 s.store = some o1 ∧ ∀ ρ, objLe ρ o1 o) ∧ ∃ p1, look 1 s.store = some p1 ∧ ∀ ρ, objLe ρ p1 p := by
    intro e' h1
    cases hr : resultsAV T s fn.results.toList with
    | none => rw [hr] at h1; simp at h1
    | some r =>
      obtain ⟨vs, q⟩ := r
      rw [hr] at h1
      simp only [Option.some.injEq] at h1
      subst h1
      obtain ⟨g1, g2, g3, g4, g5, g6⟩ := ATree.all_need.1 h2
      exact ⟨⟨vs, q, rfl, g1, g2, g3, g4⟩, g5, g6⟩
  cases e with
  | normal => exact ⟨.inl rfl, key h1⟩
  | ret => exact ⟨.inr rfl, key h1⟩
  | exit i => simp at h1
section rules
variable {P : Program} {c : Ctx} {nt : Nat} {s : AState} {Q : AEx → AState → Prop} {T : Types} (hT : TOK P T) {Γ : Contracts} (hΓ : GOK P Γ) (hm : P.follows .mixedOrders = true)
def RetQ (T : Types) (fn : Func) (L : List Nat) (us : List AV) (o p : AObj) (v : List AV × Store) : Prop :=
  ∃ vs ws nx t, v.1 = vs ++ ws ∧ vs.length = L.length ∧ keysL ws = [] ∧ endQ T fn .ret ⟨zipL L vs, v.2, nx⟩ = some t ∧ okV nx vs = true ∧ okO nx v.2 ∧ 2 ≤ nx ∧ t.all fun _ v => OutQ us o p v
theorem RetQ.fin {fn : Func} {L L1 : List Nat} {us : List AV} {o p : AObj} {v : List AV × Store} {s' : AState} (h0 : Kept [0, 1] c) (h : RetQ T fn L us o p v) (hs' : viewAV (L ++ L1) s' = some v) : Lower c (EndQ T fn us o p) .ret s' := by
  obtain ⟨vs, ws, nx, t, h1, h2, h3, h4, h5, h6, hn, h7⟩ := h
  obtain ⟨v1, v2⟩ := v
  simp only at h1
  subst h1
  obtain ⟨ρ, hle⟩ := le_same (view_take hs' h2 h3) (fun k x hk => by
    have := h0 k x hk
    simp only [List.mem_cons, List.not_mem_nil, or_false] at this
    omega) h5 h6
  exact .inr ⟨_, ρ, hle, endQ_ok h4 h7⟩
end rules
end Go.Am

/- Functions that are handed a list to write to, and give back a part of it. -/
namespace Go.Am
open AV
def EndW (fn : Func) (k : Nat) (ws : List AV) (o' : AObj) (e : AEx) (s' : AState) : Prop :=
  (e = .normal ∨ e = .ret) ∧ ∃ ls vs us os o1, viewAV ls s' = some (vs, os) ∧ resV (zipL ls vs) fn.results.toList = some us ∧ avLes (ren [(k, 0)]) us ws ∧ look 0 os = some o1 ∧ objLe (ren [(k, 0)]) o1 o'
def RetW (fn : Func) (k : Nat) (ws : List AV) (o' : AObj) (L : List Nat) (v : List AV × Store) : Prop := ∃ us o1, resV (zipL L v.1) fn.results.toList = some us ∧ avLes (ren [(k, 0)]) us ws ∧ look 0 v.2 = some o1 ∧ objLe (ren [(k, 0)]) o1 o'
theorem RetW.fin {fn : Func} {k : Nat} {ws : List AV} {o' : AObj} {L : List Nat} {v : List AV × Store} {s' : AState} (h : RetW fn k ws o' L v) (hs' : viewAV L s' = some v) : EndW fn k ws o' .ret s' := by
  obtain ⟨us, o1, h1, h2, h3, h4⟩ := h
  exact ⟨.inr rfl, L, v.1, us, v.2, o1, hs', h1, h2, h3, h4⟩
section rules
variable {P : Program} {c : Ctx} {nt : Nat} {s : AState} {Q : AEx → AState → Prop} {T : Types} (hT : TOK P T) {Γ : Contracts} (hΓ : GOK P Γ) (hm : P.follows .mixedOrders = true)
include hT in
theorem fok_newA {f : FuncId} {fn : Func} {x : Code} (hf : FnIs P f fn x) {args args0 ws : List AV} {o' : AObj} {K : Nat} {l : List Prop} (ha : allP l → avLes (ren []) args args0) (hlen : args0.length ≤ fn.ntmps)
    (h : allP l → ∀ c : Ctx, Kept [] c → AWp P c fn.ntmps x ⟨zipSlots 0 args0, [], 0⟩ fun e s' => (e = .normal ∨ e = .ret) ∧ ∃ ls vs us os a o, viewAV ls s' = some (vs, os) ∧ resV (zipL ls vs) fn.results.toList = some us ∧ avLes (ren [(K, a)]) us ws ∧ look a os = some o ∧ objLe (ren [(K, a)]) o o') :
    FOK P f K args [] ⟨oneOr ws, [(K, o')], l⟩ := by
  intro need
  refine (fok_core hT hf (args0 := args0) (pre0 := []) (nx := 0) [] hlen rfl (ha need) trivial (fun a k h => by simp [ren, look] at h) (fun k o h => ?_) (fun need c h0 => ?_) : FOK P f K args [] ⟨oneOr ws, [(K, o')], l⟩) need
  · simp only [look] at h
    split at h
    · rename_i he
      have : K = k := by simpa using he
      subst this
      exact .inr ⟨Nat.le_refl _, by unfold stride; omega⟩
    · simp at h
  · refine (h need c fun k x hk => by simpa [ren, look] using h0 k x hk).mono ?_
    rintro e s' ⟨h1, ls, vs, us, os, a, o, h2, h3, h4, h5, h6⟩
    exact ⟨h1, ren [(K, a)], tauOK_one ⟨Nat.le_refl _, by unfold stride; omega⟩, .inr (endsB_view (ws := ws) (ps := [(K, o')]) h2 h3 h4 rfl rfl ⟨⟨a, o, by simp [ren, look], h5, h6⟩, trivial⟩)⟩
end rules
end Go.Am

/- The call of a law, from its contract: whatever the arguments. -/
namespace Go.Am
open Go Go.ChangeShapes Go.WideShapes Go.ChangeAt Go.RowKit AV
inductive PK where
  | list
  | int (k : IntKind)
  | bool
def pkOK (P : Program) : PK → TypeId → Prop
  | .list, t => ∃ e, P.underlying t = some (.slice e) ∧ P.underlying e = some (.int .i64) ∧ P.cellsOf e = 1
  | .int k, t => P.underlying t = some (.int k)
  | .bool, t => P.underlying t = some .bool
def pkOKs (P : Program) : List PK → List TypeId → Prop
  | [], [] => True
  | k :: ks, t :: ts => (pkOK P k t ∧ P.readableRec t = true ∧ t < P.types.size) ∧ pkOKs P ks ts
  | _, _ => False
def pkA : PK → AV → Prop
  | .list, a => ∃ (n : Nat) (z : Nat → Int), a = .tab 1 n (fun i => .int .i64 (z i))
  | .int k, a => ∃ n, a = .int k n
  | .bool, a => ∃ b, a = .bool b
def pkAs : List PK → List AV → Prop
  | [], as => as = []
  | k :: ks, as => ∃ a l, as = a :: l ∧ pkA k a ∧ pkAs ks l
section
variable {P : Program} {H : Type} {enc : TypeId × Value → H} {W : World} {base : Nat}
theorem pk_rep {k : PK} {t : TypeId} {v : Value} {d : DataW H} {p : List MemPlace} (hk : pkOK P k t) (h : DataW.Trod enc P W 0 (fun _ => true) true t v d p) (hv : Value.okWide P W .any base t v) : ∃ a, pkA k a ∧ VRep1 (fun _ => False) W noKeys a v := by
  cases k with
  | int k =>
    obtain ⟨n, rfl⟩ := okWide_int hk hv
    exact ⟨_, ⟨n, rfl⟩, .of_cell (.int .nil) rfl⟩
  | bool =>
    obtain ⟨b, rfl⟩ := okWide_bool hk hv
    exact ⟨_, ⟨b, rfl⟩, .of_cell (.bool .nil) rfl⟩
  | list =>
    obtain ⟨e, h1, h2, h3⟩ := hk
    obtain ⟨a0, len, cap, rfl⟩ := okWide_slice h1 hv
    obtain ⟨fuel, hf⟩ := h
    have key : ∀ {z : Nat → Int}, len ≤ cap → (len = 0 ∨ ∃ b o, a0 = some ⟨b, o, none⟩ ∧ ∀ i, i < len → W.cell? ⟨b, o + i, none⟩ = some (.int .i64 (z i))) → VRep1 (fun _ => False) W noKeys (.tab 1 len (fun i => .int .i64 (z i))) (.slice a0 len cap) := fun {z} hcap hr => by
      refine .of_cell (.tab (cf := fun i => [.int .i64 (z i)]) ?_ (by omega) hcap (fun _ _ => rfl) (fun _ _ => .int .nil) .nil) rfl
      rcases hr with hr | ⟨b, o, rfl, hr⟩
      · exact .inl hr
      · refine .inr ⟨b, o, rfl, fun i hi => ?_⟩
        have hc := hr i hi
        simp only [World.cell?] at hc
        split at hc
        · rename_i cs ty fr hh
          simp only [Option.isSome_none, Bool.false_eq_true, if_false] at hc
          refine ⟨cs, ty, fr, hh, id, fun j v hj => ?_⟩
          have hj0 : j = 0 := by have := (List.getElem?_eq_some_iff.1 hj).1; simp at this; exact this
          subst hj0
          simp only [List.getElem?_cons_zero, Option.some.injEq] at hj
          subst hj
          simpa using hc
        · simp at hc
    rcases open_ints h1 h2 h3 hf with ⟨hcs, hx⟩ | ⟨a, len', cap', zs, hcs, _, hl, hm, hz, hx, hcell, hwz⟩
    · simp only [Value.cells, List.cons.injEq, Value.slice.injEq, and_true] at hcs
      obtain ⟨rfl, rfl, rfl⟩ := hcs
      exact ⟨_, ⟨0, fun _ => 0, rfl⟩, key (z := fun _ => 0) (Nat.le_refl _) (.inl rfl)⟩
    · simp only [Value.cells, List.cons.injEq, Value.slice.injEq, and_true] at hcs
      obtain ⟨rfl, rfl, rfl⟩ := hcs
      simp only [if_true] at hz
      refine ⟨_, ⟨len, fun i => zs.getD i 0, rfl⟩, key hl ?_⟩
      rcases Nat.eq_zero_or_pos len with h0 | h0
      · exact .inl h0
      · obtain ⟨b, o, m⟩ := a
        have h1 := hcell 0 (by omega)
        have : m = none := by
          cases m with
          | none => rfl
          | some y => exfalso; simp only [Addr.add, World.cell?] at h1; split at h1 <;> simp at h1
        subst this
        exact .inr ⟨b, o, rfl, fun i hi => by
          have h2 := hcell i (by omega)
          rcases Nat.eq_zero_or_pos i with hi | hi
          · subst hi; simpa [Addr.add] using h2
          · simpa [Addr.add, Nat.pos_iff_ne_zero.1 hi] using h2⟩
theorem pks_rep : ∀ {ks : List PK} {ts : List TypeId} {vs : List Value} {ds : List (DataW H)} {p : List MemPlace}, pkOKs P ks ts → DataW.TrodAll enc P W 0 (fun _ => true) true ts vs ds p → (∀ (j : Nat) t v, ts[j]? = some t → vs[j]? = some v → Value.okWide P W .any base t v) →
    ∃ as, pkAs ks as ∧ VReps (fun _ => False) W noKeys as vs
  | [], [], vs, ds, p, _, h, _ => by
    obtain ⟨rfl, _, _⟩ := trodAll_nil h
    exact ⟨[], rfl, trivial⟩
  | k :: ks, t :: ts, vs, ds, p, hk, h, hv => by
    obtain ⟨v, vs', d, ds', p1, q, rfl, rfl, rfl, hd, hrest⟩ := trodAll_cons h
    obtain ⟨a, h1, h2⟩ := pk_rep hk.1.1 hd (hv 0 t v rfl rfl)
    obtain ⟨as, h3, h4⟩ := pks_rep hk.2 hrest fun j t v h1 h2 => hv (j + 1) t v h1 h2
    exact ⟨a :: as, ⟨a, as, rfl, h1, h3⟩, h2, h4⟩
  | [], _ :: _, _, _, _, h, _, _ => h.elim
  | _ :: _, [], _, _, _, h, _, _ => h.elim
theorem trod_len {b : Nat} {sp : Nat → Bool} {held : Bool} : ∀ {ts : List TypeId} {vs : List Value} {ds : List (DataW H)} {p : List MemPlace}, DataW.TrodAll enc P W b sp held ts vs ds p → ds.length = ts.length
  | [], vs, ds, p, h => by
    obtain ⟨_, rfl, _⟩ := trodAll_nil h
    rfl
  | t :: ts, vs, ds, p, h => by
    obtain ⟨v, vs', d, ds', p1, q, rfl, rfl, rfl, hd, hrest⟩ := trodAll_cons h
    simp [trod_len hrest]
theorem pks_below (hl : laidOutB P = true) {W' : World} (hb : Below W.heap.size W W') : ∀ {ks : List PK} {ts : List TypeId} {vs : List Value} {ds : List (DataW H)} {p : List MemPlace}, pkOKs P ks ts → DataW.TrodAll enc P W 0 (fun _ => true) true ts vs ds p → (∀ x ∈ p, x.block < W.heap.size) →
    DataW.TrodAll enc P W' 0 (fun b => decide (b < W.heap.size)) true ts vs ds p
  | [], [], vs, ds, p, _, h, _ => by
    obtain ⟨rfl, rfl, rfl⟩ := trodAll_nil h
    exact trodAll_mk0
  | k :: ks, t :: ts, vs, ds, p, hk, h, hlt => by
    obtain ⟨v, vs', d, ds', p1, q, rfl, rfl, rfl, hd, hrest⟩ := trodAll_cons h
    exact ⟨_, _, Below.trod hl hk.1.2.1 hk.1.2.2 hd hb fun x hx => hlt x (List.mem_append_left _ hx), pks_below hl hb hk.2 hrest fun x hx => hlt x (List.mem_append_right _ hx), rfl⟩
  | [], _ :: _, _, _, _, h, _, _ => h.elim
  | _ :: _, [], _, _, _, h, _, _ => h.elim
theorem law_all (hl : laidOutB P = true) {f : FuncId} {fn : Func} (hf : P.funcs[f]? = some fn) (hb : fn.body.isNone = false) {ks : List PK} {ts : List TypeId} (hk : pkOKs P ks ts) {args : Array Value} {ds : List (DataW H)} {p : List MemPlace}
    (hA : DataW.TrodAll enc P W 0 (fun _ => true) true ts args.toList ds p) (hv : ∀ (j : Nat) t v, ts[j]? = some t → args[j]? = some v → Value.okWide P W .any base t v) (hlt : ∀ x ∈ p, x.block < W.heap.size) (hF : ∀ as, pkAs ks as → FOK P f 0 as [] ⟨.bool true, [], []⟩) :
    Calls P f args W fun e W' => e = .returned (.bool true) ∧ Below W.heap.size W W' ∧ DataW.TrodAll enc P W' 0 (fun b => decide (b < W.heap.size)) true ts args.toList ds p := by
  obtain ⟨as, h1, h2⟩ := pks_rep hk hA fun j t v h1 h2 => hv j t v h1 (by simpa using h2)
  obtain ⟨_, hF⟩ := hF as h1 trivial
  have hrel : WRel ⟨fun _ => False, W, fun _ => False, noKeys⟩ [] (fun _ => False) noKeys W :=
    { obj := fun k o h => by simp [look] at h, inj := fun k k' o o' b N N' h => by simp [look] at h, dom := fun k x h => by simp [noKeys] at h, keep := fun k x h => h, lt := fun k b N h => by simp [noKeys] at h, os := rfl, tape := rfl, output := rfl, size := Nat.le_refl _, block := fun _ _ _ => rfl, mflt := fun b h => h.elim, new := fun k o b N h => by simp [look] at h }
  have hM : Mset ⟨fun _ => False, W, fun _ => False, noKeys⟩ [] noKeys = fun _ => False := by
    funext b
    simp [Mset, look]
  have hinv := hF ⟨fun _ => False, W, fun _ => False, noKeys⟩ (fun _ => False) (fun _ => True) noKeys W _ rfl (fun b h => h.elim) hrel (fun k h => h.elim) (fun k _ _ => ⟨id, trivial⟩) (by rw [hM]; exact h2)
  rcases hinv with ⟨fn', g1, g2, g3, g4⟩ | ⟨x, g1, _⟩
  · have g5 := g4
    rw [show args.toList.toArray = args from by simp] at g5
    refine g5.mono fun e W' ⟨x, he, hx⟩ => ?_
    obtain ⟨β', q1, q2, q3⟩ := hx
    have := q3.bool
    subst this
    have hbl : Below W.heap.size W W' := ⟨q1.os, q1.tape, q1.output, q1.size, fun k hk => q1.block k hk id⟩
    exact ⟨he, hbl, pks_below hl hbl hk hA hlt⟩
  · exfalso
    simp only [callFunc, Sem.run_bind, run_program, Result.andThen_ok, hf, hb, Bool.false_eq_true, if_false] at g1
    split at g1 <;> simp at g1
end
end Go.Am
