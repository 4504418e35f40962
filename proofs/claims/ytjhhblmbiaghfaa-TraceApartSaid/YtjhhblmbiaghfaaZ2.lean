/- bf of functions that are handed objects to write to, or give back such; loops by what is seen. -/
import Derived.Test.YtjhhblmbiaghfaaZ1
import Derived.ProofKit
import Derived.ChangeSlices
set_option linter.unusedVariables false
namespace Go.Am
open AV
theorem bJ.length {M : Nat → Prop} {w : World} {β : aL} : ∀ {us : List AV} {xs : List Value}, bJ M w β us xs → us.length = xs.length
 | [], [], _ => rfl
 | _ :: _, _ :: _, h => by simp [bJ.length h.2]
 | [], _ :: _, h => h.elim
 | _ :: _, [], h => h.elim
theorem bJ.weak {c c' : Ctx} {β β2 : aL} {w : World} {ρ : Nat → Option Nat} {M M' : Nat → Prop} (hM : ∀ b, M' b → M b) (hβ : ∀ k2 k1, ρ k2 = some k1 → β2 k2 = β k1) : ∀ {us vs : List AV} {xs : List Value}, eE ρ us vs → bJ M w β us xs → bJ M' w β2 vs xs
 | [], [], [], _, _ => trivial
 | u :: us, v :: vs, x :: xs, h, hv => ⟨hv.1.weak hM hβ h.1.2, bJ.weak (c := c) (c' := c') hM hβ h.2 hv.2⟩
 | [], _ :: _, _, h, _ => h.elim
 | _ :: _, [], _, h, _ => h.elim
 | _ :: _, _ :: _, [], _, h => h.elim
 | [], [], _ :: _, _, h => h.elim
theorem Gc {nx : Nat} {rl : List (Nat × Nat)} (hr : gy nx rl = true) : ∀ a b k, aU rl a = some k → aU rl b = some k → a = b := by
 intro a b k ha hb
 have := List.all_eq_true.1 hr _ (m7 ha)
 simp only [Bool.and_eq_true, decide_eq_true_eq] at this
 simpa using List.all_eq_true.1 this.2 _ (m7 hb)
theorem E8 {nx : Nat} {rl : List (Nat × Nat)} (hr : gy nx rl = true) {a k : Nat} (ha : aU rl a = some k) : a < nx := by
 have := List.all_eq_true.1 hr _ (m7 ha)
 simp only [Bool.and_eq_true, decide_eq_true_eq] at this
 exact this.1
theorem Ql {M : Nat → Prop} {w : World} {β : aL} {us : List AV} {xs : List Value} (h : bJ M w β us xs) : bg M w β (mJ us) (if h : xs.length = 1 then xs.toArray[0]'(by simpa using (show 0 < xs.length by omega)) else .tuple xs.toArray) := by
 have hl := h.length
 match us, xs, h, hl with
 | [], [], _, _ => exact ⟨[], rfl, trivial⟩
 | [u], [x], h, _ => exact h.1.bq
 | u :: u' :: us, x :: x' :: xs, h, _ => simp only [List.length_cons, Nat.add_eq_right, Nat.add_eq_zero_iff, Nat.succ_ne_zero, and_false, dite_false]; exact ⟨_, rfl, h⟩
section core
variable {P : Program} {T : Types}
structure yM (T : Types) (fn : Func) (τ : Nat → Option Nat) (pre : aA) (r : cq) (s : aD) : Prop where
 ends : Ends T fn r.res s
 yo : ∀ k o, look k (bN (dP r.post) pre) = some o → ∃ k1 o1, τ k = some k1 ∧ look k1 s.store = some o1 ∧ o1.row = false ∧ ck τ o1 o
structure uJ (T : Types) (fn : Func) (τ : Nat → Option Nat) (pre : aA) (r : cq) (s : aD) : Prop where
 ends : ∃ vs q us, fo T s fn.results.toList = some (vs, q) ∧ az q ∧ eE τ vs us ∧ r.res = mJ us
 yo : ∀ k o, look k (bN (dP r.post) pre) = some o → ∃ k1 o1, τ k = some k1 ∧ look k1 s.store = some o1 ∧ ck τ o1 o
structure rN (rl : List (Nat × Nat)) (K : Nat) (pre : aA) (τ : Nat → Option Nat) : Prop where
 inj : ∀ a b k, τ a = some k → τ b = some k → a = b
 dom : ∀ k a, τ k = some a → aU rl a = some k ∨ (K ≤ k ∧ k < K + bQ)
theorem lQ (hT : cZ P T) {f : FuncId} {fn : Func} {x : Code} (hf : aO P f fn x) {args args0 : List AV} {pre pre0 : aA} {r : cq} {K nx : Nat} (rl : List (Nat × Nat)) (hlen : args0.length ≤ fn.ntmps) (hr : gy nx rl = true)
  (ha : eE (aU rl) args args0) (hp : lO (aU rl) pre pre0) (hrl : ∀ a k, aU rl a = some k → ∃ o, look k pre = some o)
  (hpost : ∀ k o, look k r.post = some o → (∃ o', look k pre = some o') ∨ (K ≤ k ∧ k < K + bQ))
  (h : r.need → ∀ c : Ctx, (∀ k x, c.k0 k = some x → (aU rl k).isSome = true) → aq P c fn.ntmps x ⟨aM 0 args0, pre0, nx⟩ fun e s' => (e = .normal ∨ e = .ret) ∧ ∃ τ, rN rl K pre τ ∧ (yM T fn τ pre r s' ∨ uJ T fn τ pre r s')) : aC P f K args pre r := by
 intro need
 refine ⟨hpost, fun c D D' β w vs hw0 hMw hrel hD hK hv => .inl ⟨fn, hf.get, hf.name, by simp [hf.body], ?_⟩⟩
 have hobj0 := zm hp
 have hβ0 : ∀ k2 k1, aU rl k2 = some k1 → (fun a => (aU rl a).bind β) k2 = β k1 := fun k2 k1 h => by simp [h]
 have hW : aW { c with k0 := fun a => (aU rl a).bind β } pre0 (fun k => k < nx) (fun a => (aU rl a).bind β) w := by
  refine hrel.weak (c' := { c with k0 := fun a => (aU rl a).bind β }) (ρ := aU rl) rfl rfl rfl (Gc hr) (fun k o h => .inl (hobj0 k o h)) hβ0 (fun k2 k1 h => E8 hr h) (fun k2 x hk => ?_) (fun k2 b N hk => ?_) (fun k x hk => hk)
  ·cases h1 : aU rl k2 with
   | none => simp [h1] at hk
   | some k1 => exact E8 hr h1
  ·cases h1 : aU rl k2 with
   | none => simp [h1] at hk
   | some k1 => simp [h1] at hk; exact hrel.lt k1 b N hk
 have hv0 : bJ (aI { c with k0 := fun a => (aU rl a).bind β } pre0 (fun a => (aU rl a).bind β)) w (fun a => (aU rl a).bind β) args0 vs :=
  hv.weak (c := c) (c' := c) (ρ := aU rl) (tU rfl (fun k o h => .inl (hobj0 k o h)) hβ0) hβ0 ha
 have hl0 := hv0.length
 have hstart : Rel { c with k0 := fun a => (aU rl a).bind β } fn.ntmps (fun k => k < nx) (aM 0 args0) pre0 { tmps := vs.toArray ++ Array.replicate (fn.ntmps - vs.toArray.size) undef, defers := [] } w := by
  refine ⟨rfl, by simp; omega, _, hW, ?_⟩
  have := yH (pre := #[]) (post := Array.replicate (fn.ntmps - vs.toArray.size) undef) hv0 rfl
  simpa using this
 refine calls_of_wp hf.get hf.body (wp_mono (h need { c with k0 := fun a => (aU rl a).bind β } (fun k x hk => by
  cases h1 : aU rl k with
  | none => simp [h1] at hk
  | some k1 => rfl) _ w hstart) ?_)
 rintro e a' w' ⟨ae, s', rfl, hr', hex, τ, hτ, hends⟩
 -- what the end gives, in the function's own keys
 have hfin : a'.defers = [] ∧ ∃ x β1 st1, (results fn a'.tmps).run P w' = .ok x w' ∧ aW { c with k0 := fun a => (aU rl a).bind β } st1 (fun k => k < s'.next) β1 w' ∧
   (∀ k o, look k (bN (dP r.post) pre) = some o → ∃ k1 o1, τ k = some k1 ∧ look k1 st1 = some o1 ∧ ck τ o1 o) ∧
   bg (aI { c with k0 := fun a => (aU rl a).bind β } st1 β1) w' (fun k => (τ k).bind β1) r.res x := by
  rcases hends with hends | hends
  ·obtain ⟨hdef, x, β1, st1, hrun, hw1, hvx, hrow⟩ := A2 hT hends.ends hr'
   refine ⟨hdef, x, β1, st1, hrun, hw1, fun k o hk => ?_, hvx.mono (fun b o h1 h2 => ⟨h2, h1⟩) fun k x hk => by simp [aQ] at hk⟩
   obtain ⟨k1, o1, g1, g2, g3, g4⟩ := hends.yo k o hk
   exact ⟨k1, o1, g1, hrow k1 o1 g2 g3, g4⟩
  ·obtain ⟨a1, a2, β1, a3, a4⟩ := hr'
   obtain ⟨vs1, q, us, h1, hq, h2, h3⟩ := hends.ends
   obtain ⟨xs, hxs, hv, hlen⟩ := zZ hT a3 a4 (g := fun x => match x with
    | ResultVar.tmp t => pure (a'.tmps.getD t undef)
    | ResultVar.cell r t => do let y ← asAddr (a'.tmps.getD r undef); loadVar t y) (fun _ => rfl) (fun _ _ => rfl) h1 hq
   refine ⟨a1, if h : xs.length = 1 then xs.toArray[0]'(by simpa using (show 0 < xs.length by omega)) else .tuple xs.toArray, β1, s'.store, ?_, a3, hends.yo, ?_⟩
   ·have key : results fn a'.tmps = (do
      let vs ← fn.results.mapM fun x => match x with
       | ResultVar.tmp t => pure (a'.tmps.getD t undef)
       | ResultVar.cell r t => do let y ← asAddr (a'.tmps.getD r undef); loadVar t y
      pure (if h : vs.size = 1 then vs[0] else Value.tuple vs)) := rfl
    rw [key, Sem.run_bind, Array.mapM_eq_mapM_toList, Sem.run_map, hxs]
    simp only [Result.andThen_ok, Sem.run_pure]
    congr 1
   ·rw [h3]
    exact Ql (hv.weak (c := c) (c' := c) (ρ := τ) (fun _ h => h) (fun k2 k1 h => by simp [h]) h2)
 obtain ⟨hdef, x, β1, st1, hrun, hw1, hobj1, hvx⟩ := hfin
 have hkeep1 : ∀ k a, τ k = some a → ∀ y, β k = some y → β1 a = some y := by
  intro k a hka y hy
  rcases hτ.dom k a hka with h1 | ⟨h1, h2⟩
  ·exact hw1.keep a y (by simp only [h1, Option.bind_some]; exact hy)
  ·exact absurd (hrel.dom k y hy) (hK k h1 h2).1
 have hβ2 : ∀ k2 k1, τ k2 = some k1 → (fun k => match τ k with
   | some a => β1 a
   | none => β k) k2 = β1 k1 := fun k2 k1 h => by simp [h]
 have hW2 : aW c (bN (dP r.post) pre) D' (fun k => match τ k with
   | some a => β1 a
   | none => β k) w' := by
  have hd2 : ∀ k2 a, τ k2 = some a → D' k2 := fun k2 a ha => by
   rcases hτ.dom k2 a ha with h1 | ⟨h1, h2⟩
   ·obtain ⟨o, ho⟩ := hrl a k2 h1
    cases hb : β k2 with
    | some x => exact hD _ (hrel.dom k2 _ hb)
    | none => exact hD _ (hrel.cE k2 o ho hb).2
   ·exact (hK k2 h1 h2).2
  refine hw1.weak (c' := c) (ρ := τ) rfl rfl rfl hτ.inj (fun k o h => .inl (hobj1 k o h)) hβ2 hd2 (fun k2 y hk => ?_) (fun k2 b N hk => ?_) (fun k y hk => ?_)
  ·split at hk
   ·rename_i a ha
    exact hd2 k2 a ha
   ·exact hD _ (hrel.dom k2 y hk)
  ·split at hk
   ·exact hw1.lt _ b N hk
   ·exact Nat.lt_of_lt_of_le (hrel.lt k2 b N hk) (by have := hw1.size; rw [← hw0]; exact this)
  ·have hy := hrel.keep k y hk
   split
   ·rename_i a ha
    exact hkeep1 k a ha y hy
   ·exact hy
 have hO : dM c pre D' β w (dP r.post) r.res x w' := by
  refine ⟨_, hW2, ⟨fun b o hb ho => ?_, fun k y hk => ?_⟩, ?_⟩
  ·have hlt : b < c.w0.heap.size := by rw [hw0]; exact vc ho
   have hmw : ¬ c.Mw b := fun hm => hb (hMw b hm)
   refine ⟨?_, ?_⟩
   ·rw [hw1.block b hlt hmw]
    show c.w0.heap[b]? = _
    rw [hw0]; exact ho
   ·rintro (hm | ⟨k, o', N, h1, h2, h3⟩)
    ·exact hb (.inl hm)
    ·rcases hW2.new k o' b N h1 h2 h3 with h4 | h4
     ·omega
     ·exact hmw h4
  ·split
   ·rename_i a ha
    exact hkeep1 k a ha y hk
   ·exact hk
  ·refine hvx.mono (fun b o h1 h2 => ⟨h2, fun h3 => h1 (tU (c := { c with k0 := fun a => (aU rl a).bind β }) rfl (fun k o h => .inl (hobj1 k o h)) hβ2 b h3)⟩) (fun k y hk => ?_)
   cases h1 : τ k with
   | none => simp [h1] at hk
   | some a => simpa [h1] using hk
 rcases hex with rfl | rfl
 ·exact ⟨hdef, x, hrun, x, rfl, hO⟩
 ·exact ⟨hdef, x, hrun, x, rfl, hO⟩
end core
def gh (nx : Nat) (vs : List AV) : Bool := (vs.all fun v => !v.isTuple) && (aV vs).all fun k => decide (k < nx)
def eP (nx : Nat) : aA → Prop
 | [] => True
 | (k, o) :: l => (k < nx ∧ ∀ i, i < o.len → keys (o.f i) = []) ∧ eP nx l
theorem Ca {nx : Nat} : ∀ {os : aA}, eP nx os → ∀ {k : Nat} {o : aH}, look k os = some o → k < nx ∧ ∀ i, i < o.len → keys (o.f i) = []
 | [], _, k, o, h => by simp [look] at h
 | (j, b) :: l, h, k, o, hk => by
  simp only [look] at hk
  split at hk
  ·rename_i he
   have : j = k := by simpa using he
   subst this
   simp only [Option.some.injEq] at hk
   subst hk
   exact h.1
  ·exact Ca h.2 hk
theorem DL {nx : Nat} {u : AV} (hk : ∀ k ∈ keys u, k < nx) : e9 (fun k => if k < nx then some k else none) u u := by
 refine ⟨rfl, fun M w β cs hc => ?_⟩
 have gen : ∀ {l : List AV} {cs : List Value}, aF M w β l cs → (∀ k ∈ aV l, k < nx) → aF M w (fun k => (if k < nx then some k else none).bind β) l cs := by
  intro l cs h
  generalize hβ : β = β' at h
  induction h with
  | nil => exact fun _ => .nil
  | bool _ ih => exact fun h => .bool (ih hβ (by simpa [aV, keys] using h))
  | int _ ih => exact fun h => .int (ih hβ (by simpa [aV, keys] using h))
  | rat hs h1 h2 _ _ _ ih => exact fun h => .rat hs h1 h2 (ih hβ (by simpa [aV, keys] using h))
  | mag h1 h2 _ ih => exact fun h => .mag h1 h2 (ih hβ (by simpa [aV, keys] using h))
  | agg _ _ ih1 ih2 => exact fun h => .agg (ih1 hβ fun k hk => h k (by simp only [aV, keys]; exact List.mem_append_left _ hk)) (ih2 hβ fun k hk => h k (by simp only [aV]; exact List.mem_append_right _ hk))
  | ah h1 h2 h3 h4 h5 _ _ ih => exact fun h => .ah h1 h2 h3 h4 h5 (ih hβ (by simpa [aV, keys] using h))
  | cI hq h1 h2 h3 h4 h5 _ _ ih => exact fun h => .cI hq h1 h2 h3 h4 h5 (ih hβ (by simpa [aV, keys] using h))
  | vnil _ ih => exact fun h => .vnil (ih hβ (by simpa [aV, keys] using h))
  | void hx _ ih => exact fun h => .void hx (ih hβ (by simpa [aV, keys] using h))
  | str _ ih => exact fun h => .str (ih hβ (by simpa [aV, keys] using h))
  | bk h1 h2 _ _ ih => exact fun h => .bk h1 h2 (ih hβ (by simpa [aV, keys] using h))
  | @ptr _ k _ _ _ _ _ _ _ _ hk _ ih =>
   intro h
   have : k < nx := h k (by simp [aV, keys])
   exact .ptr (by simp only [this, if_true, Option.bind_some]; rw [← hβ] at hk ⊢; exact hk) (ih hβ fun k hk => h k (by simp only [aV]; exact List.mem_append_right _ hk))
  | @own _ k _ _ _ _ _ _ _ _ _ hk h1 h2 h4 h3 _ ih =>
   intro h
   have : k < nx := h k (by simp [aV, keys])
   exact .own (by simp only [this, if_true, Option.bind_some]; rw [← hβ] at hk ⊢; exact hk) h1 h2 h4 h3 (ih hβ fun k hk => h k (by simp only [aV]; exact List.mem_append_right _ hk))
  | own0 h3 _ ih => exact fun h => .own0 h3 (ih hβ fun k hk => h k (by simp only [aV]; exact List.mem_append_right _ hk))
  | func _ hc _ ih1 ih2 => exact fun h => .func (ih1 hβ fun k hk => h k (by simp only [aV, keys]; exact List.mem_append_left _ hk)) hc (ih2 hβ fun k hk => h k (by simp only [aV]; exact List.mem_append_right _ hk))
 exact gen hc fun k h => hk k (by rw [yL] at h; exact h)
theorem AE {nx : Nat} : ∀ {vs : List AV}, gh nx vs = true → eE (fun k => if k < nx then some k else none) vs vs
 | [], _ => trivial
 | v :: vs, h => by
  simp only [gh, List.all_cons, aV, List.all_append, Bool.and_eq_true, Bool.not_eq_true'] at h
  obtain ⟨⟨h1, h2⟩, h3, h4⟩ := h
  refine ⟨⟨h1, DL fun k hk => by simpa using List.all_eq_true.1 h3 k hk⟩, AE ?_⟩
  simp only [gh, Bool.and_eq_true]
  exact ⟨h2, h4⟩
theorem jA {c : Ctx} {s' : aD} {ls : List Nat} {vs : List AV} {os : aA} {nx : Nat} (hv : aN ls s' = some (vs, os)) (h0 : ∀ k x, c.k0 k = some x → k < nx) (hok : gh nx vs = true) (ho : eP nx os) : ∃ ρ, Le c ρ s' ⟨aB ls vs, os, nx⟩ := by
 unfold aN at hv
 simp only [Option.some.injEq, Prod.mk.injEq] at hv
 obtain ⟨rfl, rfl⟩ := hv
 refine ⟨fun k => if k < nx then some k else none, ?_, w9 (AE hok), fun k2 o2 hk => ?_, fun k2 k1 hk => ?_, fun k x hk => by simp [h0 k x hk]⟩
 ·intro a b k ha hb
  split at ha <;> split at hb <;> simp_all
 ·obtain ⟨h1, h2⟩ := Ca ho hk
  refine .inl ⟨k2, o2, by simp [h1], ?_, ⟨rfl, rfl, rfl, rfl, fun i hi => DL fun k hk => by rw [h2 i hi] at hk; simp at hk⟩⟩
  rw [jV] at hk
  split at hk
  ·exact hk
  ·simp at hk
 ·split at hk
  ·assumption
  ·simp at hk
section rules
variable {P : Program} {c : Ctx} {nt : Nat} {s : aD} {Q : aj → aD → Prop} {T : Types} {Γ : bf}
theorem aq.eV {x y : Code} {i : Nat} (hx : x = .block i (.loop y)) (ls : List Nat) (nx : Nat) (h0 : ∀ k x, c.k0 k = some x → k < nx) {α : Type} (vs : α → List AV) (os : α → aA) (hok : ∀ a, gh nx (vs a) = true) (ho : ∀ a, eP nx (os a)) (I : α → Prop) (μ : α → Nat) (j : α)
  (hv : aN ls s = some (vs j, os j)) (hI : I j)
  (round : ∀ j, I j → aq P c nt y ⟨aB ls (vs j), os j, nx⟩ (cM (fun s' => ∃ k, aN ls s' = some (vs k, os k) ∧ I k ∧ μ k < μ j) (inBlock i Q))) : aq P c nt x s Q :=
 aq.fh hx (fun a => ⟨aB ls (vs a), os a, nx⟩) I μ j (jA hv h0 (hok j) (ho j)) hI fun j hj => (round j hj).mono fun e s' h => by
  cases e with
  | normal =>
   obtain ⟨k, h1, h2, h3⟩ := h
   exact ⟨k, jA h1 h0 (hok k) (ho k), h2, h3⟩
  | exit i => exact h
  | ret => exact h
theorem aq.gB {x : Code} {ls : List Nat} {nx : Nat} {vs : List AV} {os : aA} (hv : aN ls s = some (vs, os)) (h0 : ∀ k x, c.k0 k = some x → k < nx) (hok : gh nx vs = true) (ho : eP nx os) (h : aq P c nt x ⟨aB ls vs, os, nx⟩ Q) : aq P c nt x s Q :=
 .iL (jA hv h0 hok ho) h
theorem ay.gB {l : List Code} {ls : List Nat} {nx : Nat} {vs : List AV} {os : aA} (hv : aN ls s = some (vs, os)) (h0 : ∀ k x, c.k0 k = some x → k < nx) (hl : l.isEmpty = false) (hok : gh nx vs = true) (ho : eP nx os) (h : ay P c nt l ⟨aB ls vs, os, nx⟩ Q) : ay P c nt l s Q :=
 .weak hl (jA hv h0 hok ho) h
theorem ay.wv (hT : cZ P T) (hΓ : bC P Γ) (hm : P.follows .mixedOrders = true) {fn : Func} {forks : List Nat} (n : Nat) {l : List Code} {ls : List Nat} {nx : Nat} {vs : List AV} {os : aA} (hv : aN ls s = some (vs, os)) (h0 : ∀ k x, c.k0 k = some x → k < nx)
  (hok : gh nx vs = true) (ho : eP nx os) {t : aa (List AV)} (hc : cJ T Γ forks n fn l ⟨aB ls vs, os, nx⟩ = some t) (hd : (l.all fun x => bz nt x) = true) (hl : l.isEmpty = false) {res : AV} (h : t.all fun _ us => dQ us res) : ay P c nt l s (Fin T fn res) :=
 .gB hv h0 hl hok ho (.fin hT hΓ hm n hc hd h)
theorem ay.de (hT : cZ P T) (hΓ : bC P Γ) (hm : P.follows .mixedOrders = true) {forks : List Nat} (n : Nat) {l : List Code} {ls : List Nat} {nx : Nat} {vs : List AV} {os : aA} (hv : aN ls s = some (vs, os)) (h0 : ∀ k x, c.k0 k = some x → k < nx)
  (hok : gh nx vs = true) (ho : eP nx os) (ls2 : List Nat) {t : aa (List AV × aA)} (hc : aG T Γ forks n ls2 l ⟨aB ls vs, os, nx⟩ = some t) (hd : (l.all fun x => bz nt x) = true) (hl : l.isEmpty = false) (h : t.all fun e v => ∀ s', aN ls2 s' = some v → Q e s') : ay P c nt l s Q :=
 .gB hv h0 hl hok ho (.aR hT hΓ hm n ls2 hc hd h)
theorem aq.de (hT : cZ P T) (hΓ : bC P Γ) (hm : P.follows .mixedOrders = true) {x : Code} {forks : List Nat} (n : Nat) {ls : List Nat} {nx : Nat} {vs : List AV} {os : aA} (hv : aN ls s = some (vs, os)) (h0 : ∀ k x, c.k0 k = some x → k < nx)
  (hok : gh nx vs = true) (ho : eP nx os) (ls2 : List Nat) {t : aa (List AV × aA)} (hc : aG T Γ forks n ls2 [x] ⟨aB ls vs, os, nx⟩ = some t) (hd : bz nt x = true) (h : t.all fun e v => ∀ s', aN ls2 s' = some v → Q e s') : aq P c nt x s Q :=
 .gB hv h0 hok ho (.aR hT hΓ hm n ls2 hc hd h)
end rules
theorem nX {T : Types} {fn : Func} {ls : List Nat} {vs us ws : List AV} {os ps pre : aA} {s' : aD} {τ : Nat → Option Nat} {r : cq} (hv : aN ls s' = some (vs, os)) (hr : iT (aB ls vs) fn.results.toList = some us) (hle : eE τ us ws) (hres : r.res = mJ ws)
  (he : bN (dP r.post) pre = ps) (ho : lO τ os ps) : uJ T fn τ pre r s' := by
 unfold aN at hv
 simp only [Option.some.injEq, Prod.mk.injEq] at hv
 obtain ⟨rfl, rfl⟩ := hv
 refine ⟨⟨us, [], ws, yK hr, trivial, hle, hres⟩, fun k o hk => ?_⟩
 rw [he] at hk
 obtain ⟨k1, o1, g1, g2, g3⟩ := zm ho k o hk
 refine ⟨k1, o1, g1, ?_, g3⟩
 rw [jV] at g2
 split at g2
 ·exact g2
 ·simp at g2
def sG (g : Nat → List AV → Option cq) : Spec := fun K args pre => match cP pre args with
 | some as => g K as
 | none => none
theorem y7 {P : Program} {f : FuncId} {g : Nat → List AV → Option cq} (h : ∀ K args r, aV args = [] → g K args = some r → aC P f K args [] r) :
  ∀ K args pre r, sG g K args pre = some r → aC P f K args pre r := by
 intro K args pre r hg
 unfold sG at hg
 split at hg
 ·rename_i as has
  have hf := h K as r (rH has) hg
  intro need
  obtain ⟨h1, h2⟩ := hf need
  refine ⟨fun k o ho => .inr ((h1 k o ho).resolve_left fun ⟨o', h⟩ => by simp [look] at h), fun c D D' β w vs hw0 hMw hrel hD hK hv => ?_⟩
  have hv' : bJ (aI c pre β) w aQ as vs := ux hrel (fun _ _ h => h) has hv
  exact (hf.frame (pre' := pre) (fun k o hk => by simp [look] at hk)).use need hrel (fun _ _ h => h) hD hK (hv'.mono (fun b o h1 h2 => ⟨h2, h1⟩) fun k x hx => by simp [aQ] at hx)
 ·simp at hg
theorem xH {K k a : Nat} {pre : aA} (h : K ≤ k ∧ k < K + bQ) : rN [] K pre (aU [(k, a)]) :=
 ⟨fun x y z hx hy => by
  simp only [aU, look] at hx hy
  split at hx <;> split at hy <;> simp_all, fun x y hx => by
  simp only [aU, look] at hx
  split at hx
  ·rename_i he
   have : k = x := by simpa using he
   subst this
   exact .inr h
  ·simp at hx⟩
theorem qb {K k a : Nat} {pre : aA} : rN [(a, k)] K pre (aU [(k, a)]) :=
 ⟨fun x y z hx hy => by
  simp only [aU, look] at hx hy
  split at hx <;> split at hy <;> simp_all, fun x y hx => by
  simp only [aU, look] at hx ⊢
  split at hx
  ·rename_i he
   have : k = x := by simpa using he
   subst this
   simp only [Option.some.injEq] at hx
   subst hx
   exact .inl (by simp)
  ·simp at hx⟩
theorem gE {c : Ctx} (h : c.k0 = aQ) {nx : Nat} : ∀ k x, c.k0 k = some x → k < nx := fun k x hk => by rw [h] at hk; simp [aQ] at hk
theorem cy {ls : List Nat} {s' : aD} {vs us : List AV} {os ps : aA} (hv : aN ls s' = some (vs, os)) (h1 : vs = us) (h2 : os = ps) : aN ls s' = some (us, ps) := by rw [hv, h1, h2]
end Go.Am

/- Rational numbers: signs, sizes, quotients of natural numbers. -/
namespace Go.Am
open AV
def en (b : Bool) (n : Nat) : Int := if b then -(n : Int) else n
def sQ (b : Bool) (n d : Nat) : Rat := mkRat (en b n) d
def bT (q : Rat) : Nat := max (aY q.num.natAbs) (aY q.den)
theorem u6 {b : Bool} {n : Nat} : (en b n).natAbs = n := by unfold en; split <;> simp
theorem KH {b : Bool} : en b 0 = 0 := by unfold en; split <;> simp
theorem PV {b : Bool} {n g : Nat} (h : g ∣ n) : en b n / (g : Int) = en b (n / g) := by
 unfold en
 split
 ·rw [Int.neg_ediv_of_dvd (Int.natCast_dvd_natCast.2 h)]; simp
 ·simp
theorem fG {q : Rat} : q < 0 ↔ q.num < 0 := by rw [Rat.lt_iff]; simp
theorem wI {b : Bool} {n d : Nat} (hd : d ≠ 0) : (sQ b n d).num = en b (n / Nat.gcd n d) := by
 unfold sQ
 rw [Rat.num_mkRat, if_neg hd, u6, Nat.gcd_comm, PV (Nat.gcd_dvd_left n d)]
theorem Fe {b : Bool} {n d : Nat} (hd : d ≠ 0) : (sQ b n d).den = d / Nat.gcd n d := by
 unfold sQ
 rw [Rat.den_mkRat, if_neg hd, u6, Nat.gcd_comm]
theorem zA {b : Bool} {d : Nat} : sQ b 0 d = 0 := by unfold sQ; rw [KH]; simp
theorem Hr {b : Bool} {n d : Nat} (hn : n ≠ 0) (hd : d ≠ 0) : decide (sQ b n d < 0) = b := by
 have h1 : 0 < n / Nat.gcd n d := Nat.div_pos (Nat.le_of_dvd (by omega) (Nat.gcd_dvd_left n d)) (Nat.gcd_pos_of_pos_left _ (by omega))
 cases b
 ·simp only [decide_eq_false_iff_not, fG, wI hd, en]; simp; omega
 ·simp only [decide_eq_true_eq, fG, wI hd, en]; simp; omega
theorem qh {q : Rat} : Sz q (bT q) :=
 ⟨Nat.lt_of_lt_of_le (fJ.1 (Nat.le_refl _)) (Nat.pow_le_pow_right (by omega) (Nat.le_max_left _ _)), Nat.lt_of_lt_of_le (fJ.1 (Nat.le_refl _)) (Nat.pow_le_pow_right (by omega) (Nat.le_max_right _ _))⟩
theorem fZ {q r : Rat} {n k : Nat} (h : q = r) (hs : Sz r k) : bn (.rat q n) (.rat r k) := by
 subst h
 refine ⟨rfl, fun M w cs hc => ?_⟩
 cases hc with
 | rat _ h1 h2 h3 => cases h3; exact .rat hs h1 h2 .nil
theorem xI {b : Bool} {n d k : Nat} (hd : d ≠ 0) (hn : n < 2 ^ k) (hdk : d < 2 ^ k) : Sz (sQ b n d) k := by
 refine ⟨?_, ?_⟩
 ·rw [wI hd, u6]; exact Nat.lt_of_le_of_lt (Nat.div_le_self _ _) hn
 ·rw [Fe hd]; exact Nat.lt_of_le_of_lt (Nat.div_le_self _ _) hdk
theorem gR (q : Rat) : sQ (decide (q < 0)) q.num.natAbs q.den = q := by
 unfold sQ
 have : en (decide (q < 0)) q.num.natAbs = q.num := by
  unfold en
  by_cases h : q < 0
  ·have := fG.1 h; simp [h]; omega
  ·have : ¬ q.num < 0 := fun h' => h (fG.2 h')
   simp [h]; omega
 rw [this, Rat.mkRat_self]
theorem n8 {b : Bool} {x y n d k : Nat} (hn : n ≠ 0) (hd : d ≠ 0) (hx : x = n / Nat.gcd n d) (hy : y = if d / Nat.gcd n d = 1 then 0 else d / Nat.gcd n d) (hs : Sz (sQ b n d) k) : bn (.agg [.bool b, .mag x, .mag y]) (.rat (sQ b n d) k) :=
 oT hs (Hr hn hd).symm (by rw [wI hd, u6, hx]) (by rw [Fe hd, hy])
theorem lZ {k : Nat} : bn (.agg [.bool false, .mag 0, .mag 0]) (.rat 0 (k + 1)) :=
 oT ⟨by simp [Nat.two_pow_pos], by simp⟩ (by decide) rfl rfl
section down
variable {P : Program} {c : Ctx} {nt : Nat} {s : aD} {Q : aj → aD → Prop} {T : Types}
def dh (c : Ctx) (Q : aj → aD → Prop) (e : aj) (s' : aD) : Prop := Q e s' ∨ ∃ s2 ρ, Le c ρ s' s2 ∧ Q e s2
theorem aq.down {x : Code} (h : aq P c nt x s (dh c Q)) : aq P c nt x s Q := by
 intro a w hr
 refine wp_mono (h a w hr) ?_
 rintro e a' w' ⟨ae, s', h1, h2, hq | ⟨s2, ρ, hle, hq⟩⟩
 ·exact ⟨ae, s', h1, h2, hq⟩
 ·exact ⟨ae, s2, h1, hle.rel h2, hq⟩
theorem pD {fn : Func} {ls : List Nat} {vs : List AV} {os : aA} {nx : Nat} {s' : aD} {e : aj} {t : aa (List AV)} {res : AV} (he : iC T fn e ⟨aB ls vs, os, nx⟩ = some t) (hv : aN ls s' = some (vs, os)) (h0 : ∀ k x, c.k0 k = some x → k < nx) (hok : gh nx vs = true) (ho : eP nx os)
  (h : t.all fun _ us => dQ us res) : dh c (Fin T fn res) e s' := by
 obtain ⟨ρ, hle⟩ := jA hv h0 hok ho
 exact .inr ⟨_, ρ, hle, tW he h⟩
theorem ay.gu (hT : cZ P T) {Γ : bf} (hΓ : bC P Γ) (hm : P.follows .mixedOrders = true) {fn : Func} {forks : List Nat} (n : Nat) {l : List Code} {ls : List Nat} {nx : Nat} {vs : List AV} {os : aA} (hv : aN ls s = some (vs, os)) (h0 : ∀ k x, c.k0 k = some x → k < nx)
  (hok : gh nx vs = true) (ho : eP nx os) {t : aa (List AV)} (hc : cJ T Γ forks n fn l ⟨aB ls vs, os, nx⟩ = some t) (hd : (l.all fun x => bz nt x) = true) (hl : l.isEmpty = false) {res : AV} (h : t.all fun _ us => dQ us res) : ay P c nt l s (dh c (Fin T fn res)) :=
 (ay.wv hT hΓ hm n hv h0 hok ho hc hd hl h).mono fun _ _ h => .inl h
end down
theorem fX {P : Program} {T : Types} (hT : cZ P T) {f : FuncId} {fn : Func} {x : Code} (hf : aO P f fn x) {args : List AV} {r : cq} (hk : aV args = []) (hlen : args.length ≤ fn.ntmps) (hpost : r.post = [])
  (h : r.need → ∀ c : Ctx, (∀ nx k x, c.k0 k = some x → k < nx) → aq P c fn.ntmps x ⟨aM 0 args, [], 0⟩ (dh c (Fin T fn r.res))) (K : Nat) (pre : aA) : aC P f K args pre r :=
 gn hT hf hk hlen hpost (fun need c h0 => .down (h need c fun _ => gE h0)) K pre
mutual
/-- What is known of the sizes of numbers in values. -/
def Jm : AV → Prop
 | .rat q n => Sz q n
 | .agg l => nC l
 | _ => True
def nC : List AV → Prop
 | [] => True
 | a :: l => Jm a ∧ nC l
end
theorem aF.sz {M : Nat → Prop} {w : World} {β : aL} {l : List AV} {cs : List Value} (h : aF M w β l cs) : nC l := by
 induction h with
 | nil => trivial
 | rat hs _ _ _ _ _ ih => exact ⟨hs, ih⟩
 | agg _ _ ih1 ih2 => exact ⟨ih1, ih2⟩
 | ah _ _ _ _ _ _ _ ih => exact ⟨trivial, ih⟩
 | cI _ _ _ _ _ _ _ _ ih => exact ⟨trivial, ih⟩
 | bk _ _ _ _ ih => exact ⟨trivial, ih⟩
 | func _ _ _ _ ih => exact ⟨trivial, ih⟩
 | _ => rename_i ih; exact ⟨trivial, ih⟩
theorem bJ.sz {M : Nat → Prop} {w : World} {β : aL} : ∀ {l : List AV} {xs : List Value}, bJ M w β l xs → nC l
 | [], [], _ => trivial
 | a :: l, x :: xs, h => by
  obtain ⟨⟨cs, h1, _⟩, h2⟩ := h
  exact ⟨h1.sz.1, h2.sz⟩
 | [], _ :: _, h => h.elim
 | _ :: _, [], h => h.elim
theorem IC {P : Program} {f : FuncId} {K : Nat} {args : List AV} {pre : aA} {r : cq} (hp : ∀ k o, look k r.post = some o → (∃ o', look k pre = some o') ∨ (K ≤ k ∧ k < K + bQ)) (h : nC args → aC P f K args pre r) : aC P f K args pre r :=
 fun need => ⟨hp, fun c D D' β w vs h1 h2 h3 h4 h5 hv => (h hv.sz need).2 c D D' β w vs h1 h2 h3 h4 h5 hv⟩
theorem iA {P : Program} {f : FuncId} {K : Nat} {args : List AV} {pre : aA} {v : AV} {l : List Prop} (h : nC args → aC P f K args pre ⟨v, [], l⟩) : aC P f K args pre ⟨v, [], l⟩ :=
 IC (fun k o hk => by simp [look] at hk) h
theorem gJ {N n : Nat} (h : N < 2 ^ n) (hn : n < 2 ^ 44) : nl N < 2 ^ 40 := by
 have h1 : N < 2 ^ (32 * (n / 32 + 1)) := Nat.lt_of_lt_of_le h (Nat.pow_le_pow_right (by omega) (by omega))
 have := cm.2 h1
 omega
theorem Qw {q : Rat} : (if q.den = 1 then 0 else q.den) ≤ q.den := by split <;> omega
theorem Sz.gv {q : Rat} {n : Nat} (h : Sz q n) (hn : n < 2 ^ 44) : nl q.num.natAbs < 2 ^ 40 ∧ nl q.den < 2 ^ 40 ∧ nl (if q.den = 1 then 0 else q.den) < 2 ^ 40 :=
 ⟨gJ h.1 hn, gJ h.2 hn, Nat.lt_of_le_of_lt (eR Qw) (gJ h.2 hn)⟩
theorem Sz.pos {q : Rat} {n : Nat} (h : Sz q n) : 0 < n := by
 rcases Nat.eq_zero_or_pos n with h1 | h1
 ·subst h1; have := h.2; have := q.den_nz; omega
 ·exact h1
theorem Sz.Bd {q : Rat} {n m : Nat} (h : Sz q n) (hm : n ≤ m) : Sz q m :=
 ⟨Nat.lt_of_lt_of_le h.1 (Nat.pow_le_pow_right (by omega) hm), Nat.lt_of_lt_of_le h.2 (Nat.pow_le_pow_right (by omega) hm)⟩
theorem FI {a : Int} {d : Nat} : (mkRat a d).num.natAbs ≤ a.natAbs := by
 rw [Rat.num_mkRat]
 split
 ·simp
 ·rw [Int.natAbs_ediv_of_dvd]
  ·exact Nat.div_le_self _ _
  ·exact Int.ofNat_dvd_left.2 (Nat.gcd_dvd_right _ _)
theorem Ai {a : Int} {d : Nat} (h : d ≠ 0) : (mkRat a d).den ≤ d := by
 rw [Rat.den_mkRat, if_neg h]
 exact Nat.div_le_self _ _
theorem Sz.add {q r : Rat} {n m : Nat} (h : Sz q n) (h' : Sz r m) : Sz (q + r) (n + m + 1) := by
 rw [Rat.add_def']
 have d0 : q.den * r.den ≠ 0 := Nat.mul_ne_zero q.den_nz r.den_nz
 have e : 2 ^ (n + m + 1) = 2 ^ n * 2 ^ m + 2 ^ n * 2 ^ m := by rw [Nat.pow_succ, Nat.pow_add]; omega
 have b1 : q.num.natAbs * r.den ≤ 2 ^ n * 2 ^ m := Nat.mul_le_mul (Nat.le_of_lt h.1) (Nat.le_of_lt h'.2)
 have b2 : r.num.natAbs * q.den < 2 ^ m * 2 ^ n := Nat.mul_lt_mul'' h'.1 h.2
 have b3 : q.den * r.den ≤ 2 ^ n * 2 ^ m := Nat.mul_le_mul (Nat.le_of_lt h.2) (Nat.le_of_lt h'.2)
 have b4 : 0 < 2 ^ n * 2 ^ m := Nat.mul_pos (Nat.two_pow_pos _) (Nat.two_pow_pos _)
 rw [Nat.mul_comm (2 ^ m)] at b2
 refine ⟨Nat.lt_of_le_of_lt FI ?_, Nat.lt_of_le_of_lt (Ai d0) (by omega)⟩
 have b5 := Int.natAbs_add_le (q.num * r.den) (r.num * q.den)
 rw [Int.natAbs_mul, Int.natAbs_mul, Int.natAbs_natCast, Int.natAbs_natCast] at b5
 omega
theorem Sz.neg {q : Rat} {n : Nat} (h : Sz q n) : Sz (-q) n := by
 refine ⟨?_, ?_⟩
 ·rw [Rat.neg_num, Int.natAbs_neg]; exact h.1
 ·rw [Rat.neg_den]; exact h.2
theorem Sz.sub {q r : Rat} {n m : Nat} (h : Sz q n) (h' : Sz r m) : Sz (q - r) (n + m + 1) := by
 rw [Rat.sub_eq_add_neg]; exact h.add h'.neg
theorem Sz.mul {q r : Rat} {n m : Nat} (h : Sz q n) (h' : Sz r m) : Sz (q * r) (n + m) := by
 rw [Rat.mul_def']
 have d0 : q.den * r.den ≠ 0 := Nat.mul_ne_zero q.den_nz r.den_nz
 refine ⟨Nat.lt_of_le_of_lt FI ?_, Nat.lt_of_le_of_lt (Ai d0) ?_⟩
 ·rw [Int.natAbs_mul, Nat.pow_add]; exact Nat.mul_lt_mul'' h.1 h'.1
 ·rw [Nat.pow_add]; exact Nat.mul_lt_mul'' h.2 h'.2
theorem Sz.inv {q : Rat} {n : Nat} (h : Sz q n) : Sz q⁻¹ n := by
 by_cases h0 : q = 0
 ·subst h0
  rw [Rat.inv_zero]
  exact h
 ·have hn : q.num ≠ 0 := fun h => h0 (Rat.num_eq_zero.1 h)
  refine ⟨?_, ?_⟩
  ·rw [Rat.num_inv, Int.natAbs_mul, Int.natAbs_natCast, Int.natAbs_sign_of_ne_zero hn, Nat.one_mul]; exact h.2
  ·rw [Rat.den_inv, if_neg hn]; exact h.1
theorem Sz.div {q r : Rat} {n m : Nat} (h : Sz q n) (h' : Sz r m) : Sz (q / r) (n + m) := by
 rw [Rat.div_def]; exact h.mul h'.inv
def dG (q : Rat) : Int := if q < 0 then -1 else if 0 < q then 1 else 0
def dJ (q r : Rat) : Int := if q < r then -1 else if r < q then 1 else 0
end Go.Am

/- bf of functions that are handed a pointer to an object and leave it changed. -/
namespace Go.Am
open AV
def uG (T : Types) (fn : Func) (e : aj) (s : aD) : Option (aa (List AV × Option aH)) :=
 match iC T fn e s with
 | some t => t.bind fun e us => some (.leaf e (us, look 0 s.store))
 | none => none
def r7 (T : Types) (Γ : bf) (forks : List Nat) (n : Nat) (fn : Func) (x : Code) (s : aD) : Option (aa (List AV × Option aH)) :=
 match cH T Γ forks n x s with
 | some t => t.bind (uG T fn)
 | none => none
theorem z4 {P : Program} {T : Types} (hT : cZ P T) {Γ : bf} (hΓ : bC P Γ) (hm : P.follows .mixedOrders = true) {f : FuncId} {fn : Func} {x : Code} (hf : aO P f fn x) {k idx es off : Nat} {p : List Nat} {rest : List AV} {o2 o o' : aH} {res : AV} {l : List Prop}
  (hkr : aV rest = []) (hrt : (rest.all fun v => !v.isTuple) = true) (hlen : rest.length + 1 ≤ fn.ntmps) (ho : ∀ ρ, ck ρ o2 o) {forks : List Nat} (n : Nat) {t : aa (List AV × Option aH)}
  (hc : r7 T Γ forks n fn x ⟨aM 0 (.ptr 0 idx es off p :: rest), [(0, o)], 1⟩ = some t)
  (h : az l → t.all fun _ v => dQ v.1 res ∧ ∃ o1, v.2 = some o1 ∧ o1.row = false ∧ ck (aU [(k, 0)]) o1 o') (K : Nat) :
  aC P f K (.ptr k idx es off p :: rest) [(k, o2)] ⟨res, [(k, o')], l⟩ := by
 have hrest : ∀ {rest : List AV}, aV rest = [] → (rest.all fun v => !v.isTuple) = true → eE (aU [(0, k)]) rest rest := by
  intro rest
  induction rest with
  | nil => intro _ _; trivial
  | cons v r ih =>
   intro h1 h2
   simp only [aV, List.append_eq_nil_iff] at h1
   simp only [List.all_cons, Bool.and_eq_true, Bool.not_eq_true'] at h2
   exact ⟨⟨h2.1, aE h1.1⟩, ih h1.2 h2.2⟩
 refine lQ hT hf (args0 := .ptr 0 idx es off p :: rest) (pre0 := [(0, o)]) (nx := 1) [(0, k)] (by simpa using hlen) (by simp [gy]) ⟨⟨rfl, jm rfl⟩, hrest hkr hrt⟩ ⟨⟨k, o2, rfl, by simp [look], ho _⟩, trivial⟩
  (fun a x h => ?_) (fun x o h => .inl ?_) (fun need c h0 => ?_)
 ·simp only [aU, look] at h
  split at h
  ·simp only [Option.some.injEq] at h; subst h; exact ⟨_, by simp [look]; rfl⟩
  ·simp at h
 ·simp only [look] at h
  split at h
  ·rename_i he
   exact ⟨_, by simp only [look, he, if_true]; rfl⟩
  ·simp at h
 have h := h need
 unfold r7 at hc
 cases hx : cH T Γ forks n x ⟨aM 0 (.ptr 0 idx es off p :: rest), [(0, o)], 1⟩ with
 | none => rw [hx] at hc; simp at hc
 | some u =>
  rw [hx] at hc
  refine gU hT hΓ hm n hf.dst hx (aa.dD ?_ (aa.gx hc h))
  rintro e s' ⟨v, h1, h2⟩
  unfold uG at h1
  split at h1
  ·rename_i v' hv'
   have h3 := aa.gx h1 h2
   have h4 : v'.all fun _ us => dQ us res ∧ ∃ o1, look 0 s'.store = some o1 ∧ o1.row = false ∧ ck (aU [(k, 0)]) o1 o' := by
    refine aa.dD ?_ h3
    rintro e us ⟨w, g1, g2⟩
    simp only [Option.some.injEq] at g1
    subst g1
    exact g2
   have h5 : Fin T fn res e s' := tW hv' (aa.dD (fun _ _ h => h.1) h4)
   have h6 : ∃ o1, look 0 s'.store = some o1 ∧ o1.row = false ∧ ck (aU [(k, 0)]) o1 o' := by
    have : ∀ {t : aa (List AV)}, (t.all fun _ us => dQ us res ∧ ∃ o1, look 0 s'.store = some o1 ∧ o1.row = false ∧ ck (aU [(k, 0)]) o1 o') → ∃ o1, look 0 s'.store = some o1 ∧ o1.row = false ∧ ck (aU [(k, 0)]) o1 o' := by
     intro t
     induction t with
     | leaf e us => exact fun h => h.2
     | af ps t ih => exact fun h => ih h.2
     | fork b t1 t2 ih1 ih2 =>
      intro h
      cases b with
      | true => exact ih1 (h.1 rfl)
      | false => exact ih2 (h.2 rfl)
    exact this h4
   refine ⟨h5.1, aU [(k, 0)], qb, .inl ⟨h5.2, fun x ox hx => ?_⟩⟩
   obtain ⟨o1, g1, g2, g3⟩ := h6
   have he : bN (dP [(k, o')]) [(k, o2)] = [(k, o')] := by simp [bN, dP, put]
   rw [he] at hx
   simp only [look] at hx
   split at hx
   ·rename_i hk
    have : k = x := by simpa using hk
    subst this
    simp only [Option.some.injEq] at hx
    subst hx
    exact ⟨0, o1, by simp [aU, look], g1, g2, g3⟩
   ·simp at hx
  ·simp at h1
theorem Ot {P : Program} {T : Types} (hT : cZ P T) {Γ : bf} (hΓ : bC P Γ) (hm : P.follows .mixedOrders = true) {f : FuncId} {fn : Func} {x : Code} (hf : aO P f fn x) {args : List AV} {o o' : aH} {a idx es off ls : Nat} {p : List Nat} {l : List Prop}
  (hka : aV args = []) (hrt : (args.all fun v => !v.isTuple) = true) (hlen : args.length ≤ fn.ntmps) (hres : fn.results.toList = [.tmp ls]) {forks : List Nat} (n : Nat) {e : aj} {q : List Prop}
  (hc : aG T Γ forks n [ls] [x] ⟨aM 0 args, [], 0⟩ = some (.leaf e ([.ptr a idx es off p], [(a, o)])))
  (he : e = .normal ∨ e = .ret) (h : ∀ ρ, ck ρ o o') (K : Nat) : aC P f K args [] ⟨.ptr K idx es off p, [(K, o')], l⟩ := by
 have hrest : ∀ {rest : List AV}, aV rest = [] → (rest.all fun v => !v.isTuple) = true → eE (aU []) rest rest := by
  intro rest
  induction rest with
  | nil => intro _ _; trivial
  | cons v r ih =>
   intro h1 h2
   simp only [aV, List.append_eq_nil_iff] at h1
   simp only [List.all_cons, Bool.and_eq_true, Bool.not_eq_true'] at h2
   exact ⟨⟨h2.1, aE h1.1⟩, ih h1.2 h2.2⟩
 refine lQ hT hf (args0 := args) (pre0 := []) (nx := 0) [] hlen rfl (hrest hka hrt) trivial (fun a k h => by simp [aU, look] at h) (fun k o h => ?_) (fun _ c h0 => ?_)
 ·simp only [look] at h
  split at h
  ·rename_i he
   have : K = k := by simpa using he
   subst this
   exact .inr ⟨Nat.le_refl _, by unfold bQ; omega⟩
  ·simp at h
 refine aq.aR hT hΓ hm n [ls] hc hf.dst fun s' hv => ⟨he, aU [(K, a)], xH ⟨Nat.le_refl _, by unfold bQ; omega⟩, .inr ?_⟩
 refine nX (us := [.ptr a idx es off p]) (ws := [.ptr K idx es off p]) (ps := [(K, o')]) hv ?_ ⟨⟨rfl, jm (by simp [aU, look])⟩, trivial⟩ rfl rfl ⟨⟨a, _, by simp [aU, look], by simp [look], h _⟩, trivial⟩
 rw [hres]
 simp only [iT, aB, look, beq_self_eq_true, if_true]
 rfl
end Go.Am

/- bf that the evaluator itself writes: of functions that only read, without a loop of unknown length. -/
namespace Go.Am
open AV
mutual
/-- One of two values, by a condition that is not known. -/
def cU (b : Bool) : AV → AV → Option AV
 | .rat q n, .rat r m => some (.rat (cond b q r) (max n m))
 | .int k x, .int j y => match isKind k j with
  | true => some (.int k (cond b x y))
  | false => none
 | .bool x, .bool y => some (.bool (cond b x y))
 | .ah e n f, .ah e' m g => match e == e' with
  | true => some (.ah e (cond b n m) fun i => cond b (f i) (g i))
  | false => none
 | .nil, .nil => some .nil
 | .nil, .ah e n f => match Nat.blt 0 e with
  | true => some (.ah e (cond b 0 n) f)
  | false => none
 | .ah e n f, .nil => match Nat.blt 0 e with
  | true => some (.ah e (cond b n 0) f)
  | false => none
 | .agg l, .agg m => match j6 b l m with
  | some x => some (.agg x)
  | none => none
 | _, _ => none
def j6 (b : Bool) : List AV → List AV → Option (List AV)
 | [], [] => some []
 | u :: l, v :: m => match cU b u v, j6 b l m with
  | some x, some y => some (x :: y)
  | _, _ => none
 | _, _ => none
end
mutual
theorem N6 : ∀ {u v x : AV}, cU true u v = some x → bn u x
 | .rat q n, v, x, h => by
  cases v <;> simp only [cU, Option.some.injEq, reduceCtorEq] at h
  subst h; exact iB (Nat.le_max_left ..)
 | .int k a, v, x, h => by
  cases v <;> simp only [cU, reduceCtorEq] at h
  split at h
  ·simp only [Option.some.injEq] at h; subst h; exact .refl _
  ·simp at h
 | .bool a, v, x, h => by
  cases v <;> simp only [cU, Option.some.injEq, reduceCtorEq] at h
  subst h; exact .refl _
 | .ah e n f, v, x, h => by
  cases v <;> simp only [cU, reduceCtorEq] at h
  ·split at h
   ·simp only [Option.some.injEq] at h; subst h; exact .refl _
   ·simp at h
  ·split at h
   ·simp only [Option.some.injEq] at h; subst h; exact .refl _
   ·simp at h
 | .nil, v, x, h => by
  cases v <;> simp only [cU, Option.some.injEq, reduceCtorEq] at h
  ·split at h
   ·rename_i he
    simp only [Option.some.injEq] at h; subst h
    exact gQ (by rw [Nat.blt_eq] at he; exact he)
   ·simp at h
  ·subst h; exact .refl _
 | .agg l, v, x, h => by
  cases v <;> simp only [cU, reduceCtorEq] at h
  split at h
  ·rename_i hl
   simp only [Option.some.injEq] at h; subst h; exact fC (zT hl)
  ·simp at h
 | .mag _, v, x, h => by simp [cU] at h
 | .cI _ _ _ _, v, x, h => by simp [cU] at h
 | .void, v, x, h => by simp [cU] at h
 | .str _, v, x, h => by simp [cU] at h
 | .bk _, v, x, h => by simp [cU] at h
 | .ptr _ _ _ _ _, v, x, h => by simp [cU] at h
 | .own _ _ _ _, v, x, h => by simp [cU] at h
 | .func _ _, v, x, h => by simp [cU] at h
 | .tuple _, v, x, h => by simp [cU] at h
theorem zT : ∀ {u v x : List AV}, j6 true u v = some x → dO u x
 | [], v, x, h => by
  cases v <;> simp only [j6, Option.some.injEq, reduceCtorEq] at h
  subst h; trivial
 | a :: l, v, x, h => by
  cases v <;> simp only [j6, reduceCtorEq] at h
  split at h
  ·rename_i h1 h2
   simp only [Option.some.injEq] at h; subst h; exact ⟨N6 h1, zT h2⟩
  ·simp at h
end
mutual
theorem It : ∀ {u v x : AV}, cU false u v = some x → bn v x
 | .rat q n, v, x, h => by
  cases v <;> simp only [cU, Option.some.injEq, reduceCtorEq] at h
  subst h; exact iB (Nat.le_max_right ..)
 | .int k a, v, x, h => by
  cases v <;> simp only [cU, reduceCtorEq] at h
  split at h
  ·rename_i hk
   have := uv hk
   subst this
   simp only [Option.some.injEq] at h; subst h; exact .refl _
  ·simp at h
 | .bool a, v, x, h => by
  cases v <;> simp only [cU, Option.some.injEq, reduceCtorEq] at h
  subst h; exact .refl _
 | .ah e n f, v, x, h => by
  cases v <;> simp only [cU, reduceCtorEq] at h
  ·split at h
   ·rename_i hk
    have := eq_of_beq hk
    subst this
    simp only [Option.some.injEq] at h; subst h; exact .refl _
   ·simp at h
  ·split at h
   ·rename_i he
    simp only [Option.some.injEq] at h; subst h
    exact gQ (by rw [Nat.blt_eq] at he; exact he)
   ·simp at h
 | .nil, v, x, h => by
  cases v <;> simp only [cU, Option.some.injEq, reduceCtorEq] at h
  ·split at h
   ·simp only [Option.some.injEq] at h; subst h; exact .refl _
   ·simp at h
  ·subst h; exact .refl _
 | .agg l, v, x, h => by
  cases v <;> simp only [cU, reduceCtorEq] at h
  split at h
  ·rename_i hl
   simp only [Option.some.injEq] at h; subst h; exact fC (zg hl)
  ·simp at h
 | .mag _, v, x, h => by simp [cU] at h
 | .cI _ _ _ _, v, x, h => by simp [cU] at h
 | .void, v, x, h => by simp [cU] at h
 | .str _, v, x, h => by simp [cU] at h
 | .bk _, v, x, h => by simp [cU] at h
 | .ptr _ _ _ _ _, v, x, h => by simp [cU] at h
 | .own _ _ _ _, v, x, h => by simp [cU] at h
 | .func _ _, v, x, h => by simp [cU] at h
 | .tuple _, v, x, h => by simp [cU] at h
theorem zg : ∀ {u v x : List AV}, j6 false u v = some x → dO v x
 | [], v, x, h => by
  cases v <;> simp only [j6, Option.some.injEq, reduceCtorEq] at h
  subst h; trivial
 | a :: l, v, x, h => by
  cases v <;> simp only [j6, reduceCtorEq] at h
  split at h
  ·rename_i h1 h2
   simp only [Option.some.injEq] at h; subst h; exact ⟨It h1, zg h2⟩
  ·simp at h
end
theorem dO.trans : ∀ {a b c : List AV}, dO a b → dO b c → dO a c
 | [], [], [], _, _ => trivial
 | _ :: _, _ :: _, _ :: _, h, h' => ⟨h.1.trans h'.1, h.2.trans h'.2⟩
 | [], [], _ :: _, _, h => h.elim
 | [], _ :: _, _, h, _ => h.elim
 | _ :: _, [], _, h, _ => h.elim
 | _ :: _, _ :: _, [], _, h => h.elim
def k9 : aa (List AV) → Option (List AV × List Prop)
 | .leaf _ us => some (us, [])
 | .af ps t => match k9 t with
  | some (us, qs) => some (us, ps ++ qs)
  | none => none
 | .fork b t u => match k9 t, k9 u with
  | some (x, p), some (y, q) => match j6 b x y with
   | some z => match p, q with
    | [], [] => some (z, [])
    | p, q => some (z, [b = true → az p, b = false → az q])
   | none => none
  | _, _ => none
theorem tg : ∀ {t : aa (List AV)} {us : List AV} {ps : List Prop}, k9 t = some (us, ps) → az ps → t.all fun _ vs => dO vs us
 | .leaf e vs, us, ps, h, _ => by
  simp only [k9, Option.some.injEq, Prod.mk.injEq] at h
  obtain ⟨rfl, rfl⟩ := h
  exact .refl _
 | .af l t, us, ps, h, hp => by
  simp only [k9] at h
  split at h
  ·rename_i h1
   simp only [Option.some.injEq, Prod.mk.injEq] at h
   obtain ⟨rfl, rfl⟩ := h
   obtain ⟨p1, p2⟩ := dU.1 hp
   exact ⟨p1, tg h1 p2⟩
  ·simp at h
 | .fork b t u, us, ps, h, hp => by
  simp only [k9] at h
  split at h
  ·rename_i x p y q h1 h2
   split at h
   ·rename_i z hz
    have key : us = z ∧ (b = true → az p) ∧ (b = false → az q) := by
     split at h
     ·simp only [Option.some.injEq, Prod.mk.injEq] at h
      exact ⟨h.1.symm, fun _ => trivial, fun _ => trivial⟩
     ·simp only [Option.some.injEq, Prod.mk.injEq] at h
      obtain ⟨rfl, rfl⟩ := h
      exact ⟨rfl, hp⟩
    obtain ⟨rfl, p1, p2⟩ := key
    refine ⟨fun hb => ?_, fun hb => ?_⟩
    ·subst hb
     exact aa.dD (fun _ vs hv => hv.trans (zT hz)) (tg h1 (p1 rfl))
    ·subst hb
     exact aa.dD (fun _ vs hv => hv.trans (zg hz)) (tg h2 (p2 rfl))
   ·simp at h
  ·simp at h
def s5 (T : Types) (Γ : bf) (forks : List Nat) (fuel : Nat) (fn : Func) : Spec := bp fun args =>
 match Nat.ble args.length fn.ntmps with
 | true => match bA T Γ forks fuel fn (ax fn) ⟨aM 0 args, [], 0⟩ with
  | some t => match k9 t with
   | some (us, ps) => match us with
    | [u] => some ⟨u, [], ps⟩
    | us => some ⟨.tuple us, [], ps⟩
   | none => none
  | none => none
 | false => none
theorem OT {us : List AV} {v : AV} (h : dO us [v]) : dQ us v := by
 match us, h with
 | [u], h => exact h.1
theorem Tw {us vs : List AV} (hv : ∀ u, vs ≠ [u]) (h : dO us vs) : dQ us (.tuple vs) := by
 match us, vs, h with
 | [], [], h => exact h
 | [u], [v], h => exact absurd rfl (hv v)
 | a :: b :: l, _ :: _ :: _, h => exact h
 | [u], _ :: _ :: _, h => exact absurd h.2 (by simp [dO])
 | a :: b :: l, [v], h => exact absurd h.2 (by simp [dO])
 | [], _ :: _, h => exact h.elim
 | _ :: _, [], h => exact h.elim
theorem uS {P : Program} {T : Types} (hT : cZ P T) {Γ : bf} (hΓ : bC P Γ) (hm : P.follows .mixedOrders = true) {f : FuncId} {fn : Func} (hf : aO P f fn (ax fn)) (forks : List Nat) (fuel : Nat) :
  ∀ K args pre r, s5 T Γ forks fuel fn K args pre = some r → aC P f K args pre r := by
 refine bK fun K args r hk hs hp => ?_
 split at hs
 ·rename_i hlen
  have hlen := Nat.le_of_ble_eq_true hlen
  split at hs
  ·rename_i t ht
   split at hs
   ·rename_i us ps hc
    split at hs
    ·simp only [Option.some.injEq] at hs
     subst hs
     exact bE (r := ⟨_, [], ps⟩) hT hΓ hm hf hk hlen rfl fuel ht (fun hn => aa.dD (fun _ vs hv => OT hv) (tg hc hn)) K []
    ·rename_i hne
     simp only [Option.some.injEq] at hs
     subst hs
     exact bE (r := ⟨_, [], ps⟩) hT hΓ hm hf hk hlen rfl fuel ht (fun hn => aa.dD (fun _ vs hv => Tw hne hv) (tg hc hn)) K []
   ·simp at hs
  ·simp at hs
 ·simp at hs
theorem xB {P : Program} {Γ : bf} (h : bC P Γ) : bC P (zG :: Γ) := aK (fun K args pre r hs => by simp at hs) h
theorem iH {P : Program} {Γ : bf} (h : bC P Γ) : bC P (nG :: Γ) := aK (fun K args pre r hs => by simp at hs) h
end Go.Am

/- Loops whose objects get other keys in each round: states up to the names of objects. -/
namespace Go.Am
open AV
def kj (rl : List (Nat × Nat)) : AV → AV
 | .ptr k i e o p => match look k rl with
  | some j => .ptr j i e o p
  | none => .void
 | .own k e s n => match look k rl with
  | some j => .own j e s n
  | none => match s, n, e with
   | 0, 0, _ + 1 => .nil
   | _, _, _ => .void
 | v => v
def jX (rl : List (Nat × Nat)) : AV → Bool
 | .ptr k _ _ _ _ => (look k rl).isSome
 | .own k e s n => (look k rl).isSome || match s, n, e with
  | 0, 0, _ + 1 => true
  | _, _, _ => false
 | .tuple _ => false
 | v => (keys v).isEmpty
theorem B0 {rl : List (Nat × Nat)} {u v : AV} (hu : u = kj rl v) (hv : jX rl v = true) : u.isTuple = false ∧ e9 (aU rl) u v := by
 subst hu
 cases v with
 | ptr k i e o p =>
  simp only [jX, Option.isSome_iff_exists] at hv
  obtain ⟨j, hj⟩ := hv
  simp only [kj, hj]
  exact ⟨rfl, jm hj⟩
 | own k e s n =>
  simp only [jX] at hv
  cases hj : look k rl with
  | some j =>
   simp only [kj, hj]
   exact ⟨rfl, cz hj rfl rfl⟩
  | none =>
   rw [hj] at hv
   simp only [Option.isSome_none, Bool.false_or] at hv
   split at hv
   ·simp only [kj, hj]
    exact ⟨rfl, ya (by omega)⟩
   ·simp at hv
 | tuple l => simp [jX] at hv
 | _ =>
  simp only [jX, List.isEmpty_iff] at hv
  exact ⟨rfl, aE hv⟩
theorem CT {rl : List (Nat × Nat)} : ∀ {vs us : List AV}, us = vs.map (kj rl) → vs.all (jX rl) = true → eE (aU rl) us vs
 | [], _, h, _ => by subst h; trivial
 | v :: vs, _, h, hv => by
  subst h
  simp only [List.all_cons, Bool.and_eq_true] at hv
  exact ⟨B0 rfl hv.1, CT rfl hv.2⟩
def pM : AV → Bool
 | .tuple _ => false
 | v => (keys v).isEmpty
theorem MO {rl : List (Nat × Nat)} {v : AV} (h : pM v = true) : kj rl v = v := by
 cases v <;> first | rfl | simp [pM, keys] at h
theorem IP {rl : List (Nat × Nat)} {v : AV} (h : pM v = true) : jX rl v = true := by
 cases v <;> first | exact h | simp [pM, keys] at h
end Go.Am

/- Functions with one loop, by what the evaluator says of its parts. -/
namespace Go.Am
open AV
def iE (rl : List (Nat × Nat)) (u v : AV) : Prop := ((jX rl v = true ∧ u = kj rl v) ∨ ∃ us vs, u = .agg us ∧ v = .agg vs ∧ eE (aU rl) us vs) ∨ (keys u = [] ∧ bn u v)
theorem Cp {ρ : Nat → Option Nat} {M : Nat → Prop} {w : World} {β : aL} : ∀ {us vs : List AV} {cs : List Value}, eE ρ us vs → aF M w β us cs → aF M w (fun k => (ρ k).bind β) vs cs
 | [], [], _, _, h => by cases h; exact .nil
 | u :: us, v :: vs, cs, hl, h => by
  obtain ⟨c1, c2, rfl, h1, h2⟩ := h.split
  exact (hl.1.2.2 M w β c1 h1).cons (Cp hl.2 h2)
 | [], _ :: _, _, h, _ => h.elim
 | _ :: _, [], _, h, _ => h.elim
theorem FK {ρ : Nat → Option Nat} {us vs : List AV} (h : eE ρ us vs) : e9 ρ (.agg us) (.agg vs) := by
 refine ⟨rfl, fun M w β cs hc => ?_⟩
 cases hc with
 | agg h1 h2 => cases h2; exact .agg (Cp h h1) .nil
theorem u7 {rl : List (Nat × Nat)} {us vs : List AV} (h : eE (aU rl) us vs) : iE rl (.agg us) (.agg vs) := .inl (.inr ⟨_, _, rfl, rfl, h⟩)
theorem iE.le {rl : List (Nat × Nat)} {u v : AV} (h : iE rl u v) : e9 (aU rl) u v := by
 rcases h with (h | ⟨us, vs, rfl, rfl, h⟩) | h
 ·exact (B0 h.2 h.1).2
 ·exact FK h
 ·exact s4 h.1 h.2
def gm (nx : Nat) (rl : List (Nat × Nat)) (os : aA) : aA → Prop
 | [] => True
 | (k2, o2) :: ps => ((look k2 rl = none ∧ ov o2 ∧ k2 < nx) ∨ ∃ k1 o1, look k2 rl = some k1 ∧ look k1 os = some o1 ∧ o1.row = o2.row ∧ o1.wr = o2.wr ∧ o1.es = o2.es ∧ o1.len = o2.len ∧ ∀ i, i < o2.len → iE rl (o1.f i) (o2.f i)) ∧ gm nx rl os ps
theorem xF {nx : Nat} {rl : List (Nat × Nat)} {os : aA} : ∀ {ps : aA}, gm nx rl os ps → tH nx (aU rl) os ps
 | [], _ => trivial
 | (k2, o2) :: ps, h => by
  obtain ⟨h | ⟨k1, o1, h1, h2, h3, h4, h5, h6, h7⟩, h8⟩ := h
  ·exact ⟨.inr h, xF h8⟩
  ·exact ⟨.inl ⟨k1, o1, h1, h2, ⟨h3.symm ▸ rfl, h4.symm ▸ rfl, h5.symm ▸ rfl, h6.symm ▸ rfl, fun i hi => (h7 i (h6 ▸ hi)).le⟩⟩, xF h8⟩
theorem aP {rl : List (Nat × Nat)} {u v : AV} (hk : keys u = []) (h : u = v) : iE rl u v := .inr ⟨hk, h ▸ .refl _⟩
theorem bh {nx : Nat} {rl : List (Nat × Nat)} {os ps : aA} {k2 k1 : Nat} {r w : Bool} {es n m : Nat} {f g : Nat → AV} (hk : look k2 rl = some k1) (ho : look k1 os = some ⟨r, w, es, n, f⟩) (hn : n = m) (h : ∀ i, i < m → iE rl (f i) (g i))
  (hs : gm nx rl os ps) : gm nx rl os ((k2, ⟨r, w, es, m, g⟩) :: ps) := ⟨.inr ⟨k1, _, hk, ho, rfl, rfl, rfl, hn, h⟩, hs⟩
theorem cV {nx : Nat} {rl : List (Nat × Nat)} {os ps : aA} {k2 k1 : Nat} {r w : Bool} {es : Nat} {f g : Nat → AV} (hk : look k2 rl = some k1) (ho : look k1 os = some ⟨r, w, es, 1, f⟩) (h : iE rl (f 0) (g 0))
  (hs : gm nx rl os ps) : gm nx rl os ((k2, ⟨r, w, es, 1, g⟩) :: ps) := bh hk ho rfl (fun i hi => by rw [Nat.lt_one_iff.1 hi]; exact h) hs
theorem sY {nx : Nat} {rl : List (Nat × Nat)} {os ps : aA} {k2 es : Nat} {w : Bool} {f : Nat → AV} (hk : look k2 rl = none) (hes : 0 < es) (hn : k2 < nx) (hs : gm nx rl os ps) : gm nx rl os ((k2, ⟨true, w, es, 0, f⟩) :: ps) := ⟨.inl ⟨hk, ⟨rfl, rfl, hes⟩, hn⟩, hs⟩
def Kept (kp : List Nat) (c : Ctx) : Prop := ∀ k x, c.k0 k = some x → k ∈ kp
theorem vX {c : Ctx} (h0 : ∀ nx k x, c.k0 k = some x → k < nx) : Kept [] c := fun k x hk => absurd (h0 0 k x hk) (by omega)
def dK (kp : List Nat) (v : List AV × aA) (vs : List AV) (os : aA) (nx : Nat) : Prop :=
 ∃ rl, (gy nx rl && kp.all fun k => look k rl == some k) = true ∧ v.1 = vs.map (kj rl) ∧ vs.all (jX rl) = true ∧ gm nx rl v.2 os
theorem dK.le {kp : List Nat} {c : Ctx} {s' : aD} {ls : List Nat} {v : List AV × aA} {vs : List AV} {os : aA} {nx : Nat} (h : dK kp v vs os nx) (hv : aN ls s' = some v) (h0 : Kept kp c) : ∃ ρ, Le c ρ s' ⟨aB ls vs, os, nx⟩ := by
 obtain ⟨rl, h1, h2, h3, h4⟩ := h
 simp only [Bool.and_eq_true] at h1
 exact DS rl hv (fun k x hk => by simpa using List.all_eq_true.1 h1.2 k (h0 k x hk)) h1.1 (CT h2 h3) (xF h4)
theorem dK.vals {vs : List AV} {nx : Nat} (h : vs.all pM = true) : dK [] (vs, []) vs [] nx := by
 simp only [List.all_eq_true] at h
 refine ⟨[], rfl, ?_, List.all_eq_true.2 fun v hv => IP (h v hv), trivial⟩
 have : vs.map (kj []) = vs.map id := List.map_congr_left fun v hv => MO (h v hv)
 rw [this, List.map_id]
theorem ku {nt : Nat} : ∀ {x : Code} {p : List Nat}, bz nt x = true → (before x p).all (fun x => bz nt x) = true
 | .seq x y, 0 :: p, h => by
  simp only [bz, Bool.and_eq_true] at h
  exact ku (x := x) h.1
 | .seq x y, (n + 1) :: p, h => by
  simp only [bz, Bool.and_eq_true] at h
  simp only [before, List.all_cons, Bool.and_eq_true]
  exact ⟨h.1, ku (x := y) h.2⟩
 | .seq _ _, [], _ | .cond _ _ _, _, _ | .block _ _, _, _ | .loop _, _, _ | .region _ _ _, _, _ | .skip, _, _ | .label _, _, _ | .exit _, _, _ | .ret, _, _ | .scope _, _, _ | .goto _, _, _ | .refuse _, _, _ | .rangeFunc _ _ _ _, _, _ => by simp [before]
theorem pG {nt : Nat} : ∀ {x : Code} {p : List Nat}, bz nt x = true → (behind x p).all (fun x => bz nt x) = true
 | .seq x y, 0 :: p, h => by
  simp only [bz, Bool.and_eq_true] at h
  simp only [behind, List.all_append, List.all_cons, List.all_nil, Bool.and_true, Bool.and_eq_true]
  exact ⟨pG (x := x) h.1, h.2⟩
 | .seq x y, (n + 1) :: p, h => by
  simp only [bz, Bool.and_eq_true] at h
  exact pG (x := y) (p := p) h.2
 | .seq _ _, [], _ | .cond _ _ _, _, _ | .block _ _, _, _ | .loop _, _, _ | .region _ _ _, _, _ | .skip, _, _ | .label _, _, _ | .exit _, _, _ | .ret, _, _ | .scope _, _, _ | .goto _, _, _ | .refuse _, _, _ | .rangeFunc _ _ _ _, _, _ => by simp [behind]
theorem pE {nt : Nat} : ∀ {x : Code} {p : List Nat}, chain x p = true → bz nt x = true → bz nt (part x p) = true
 | x, [], _, h => by cases x <;> exact h
 | .seq x y, 0 :: p, hc, h => by
  simp only [bz, Bool.and_eq_true] at h
  exact pE (x := x) hc h.1
 | .seq x y, (n + 1) :: p, hc, h => by
  simp only [bz, Bool.and_eq_true] at h
  exact pE (x := y) hc h.2
 | .cond _ _ _, _ :: _, hc, _ | .block _ _, _ :: _, hc, _ | .loop _, _ :: _, hc, _ | .region _ _ _, _ :: _, hc, _ | .skip, _ :: _, hc, _ | .label _, _ :: _, hc, _ | .exit _, _ :: _, hc, _ | .ret, _ :: _, hc, _ | .scope _, _ :: _, hc, _ | .goto _, _ :: _, hc, _ | .refuse _, _ :: _, hc, _ | .rangeFunc _ _ _ _, _ :: _, hc, _ => by simp [chain] at hc
section rules
variable {P : Program} {c : Ctx} {nt : Nat} {s : aD} {Q : aj → aD → Prop} {T : Types} (hT : cZ P T) {Γ : bf} (hΓ : bC P Γ) (hm : P.follows .mixedOrders = true)
def Round (kp : List Nat) {α : Type} (V : α → List AV) (O : α → aA) (nx : Nat) (I D : α → Prop) (μ : α → Nat) (i : Nat) (R : List AV × aA → Prop) (a : α) : aj → List AV × aA → Prop
 | .normal, v => ∃ b, I b ∧ μ b < μ a ∧ dK kp v (V b) (O b) nx
 | .exit k, v => k = i ∧ ∃ b, D b ∧ dK kp v (V b) (O b) nx
 | .ret, v => R v
include hT hΓ hm in
theorem aq.Pu {x y : Code} {i : Nat} (hx : x = .block i (.loop y)) {kp : List Nat} (h0 : Kept kp c) {forks : List Nat} (n : Nat) (L : List Nat) (nx : Nat) {α : Type} (V : α → List AV) (O : α → aA) (I D : α → Prop) (μ : α → Nat) (R : List AV × aA → Prop)
  (a0 : α) (hI : I a0) (hs : ∃ ρ, Le c ρ s ⟨aB L (V a0), O a0, nx⟩) (hd : bz nt y = true)
  (hb : ∀ a, I a → ∃ t, aG T Γ forks n L [y] ⟨aB L (V a), O a, nx⟩ = some t ∧ t.all (Round kp V O nx I D μ i R a))
  (hD : ∀ b s', D b → (∃ ρ, Le c ρ s' ⟨aB L (V b), O b, nx⟩) → Q .normal s') (hR : ∀ v s', R v → aN L s' = some v → Q .ret s') : aq P c nt x s Q := by
 refine aq.fh hx (fun a => ⟨aB L (V a), O a, nx⟩) I μ a0 hs hI fun a ha => ?_
 obtain ⟨t, h1, h2⟩ := hb a ha
 refine aq.aR hT hΓ hm n L h1 hd (aa.dD ?_ h2)
 rintro e v hv s' hs'
 cases e with
 | normal =>
  obtain ⟨b, g1, g2, g3⟩ := hv
  exact ⟨b, g3.le hs' h0, g1, g2⟩
 | exit k =>
  obtain ⟨rfl, b, g1, g2⟩ := hv
  exact nR (hD b s' g1 (g2.le hs' h0))
 | ret => exact hR v s' hv hs'
theorem ay.one {x : Code} (h : aq P c nt x s Q) : ay P c nt [x] s Q := h.mono fun e s' h => by cases e <;> exact h
theorem aq.nE {x : Code} (h : ay P c nt [x] s Q) : aq P c nt x s Q := aq.mono h fun e s' h => by cases e <;> exact h
def Start (kp : List Nat) {α : Type} (V : α → List AV) (O : α → aA) (nx : Nat) (I : α → Prop) (R : List AV × aA → Prop) : aj → List AV × aA → Prop
 | .normal, v => ∃ a, I a ∧ dK kp v (V a) (O a) nx
 | .ret, v => R v
 | .exit _, _ => False
include hT hΓ hm in
theorem aq.uF {x y : Code} (p : List Nat) {i : Nat} (hc : chain x p = true) (hx : part x p = .block i (.loop y)) (hd : bz nt x = true) {kp : List Nat} (h0 : Kept kp c) {f1 f2 : List Nat} (n : Nat) (L : List Nat) (nx : Nat) {α : Type} (V : α → List AV) (O : α → aA) (I D : α → Prop) (μ : α → Nat) (R : List AV × aA → Prop)
  (hp : ∃ t, aG T Γ f1 n L (before x p) s = some t ∧ t.all (Start kp V O nx I R))
  (hb : ∀ a, I a → ∃ t, aG T Γ f2 n L [y] ⟨aB L (V a), O a, nx⟩ = some t ∧ t.all (Round kp V O nx I D μ i R a))
  (hD : ∀ b s', D b → (∃ ρ, Le c ρ s' ⟨aB L (V b), O b, nx⟩) → ay P c nt (behind x p) s' Q) (hR : ∀ v s', R v → aN L s' = some v → Q .ret s') : aq P c nt x s Q := by
 obtain ⟨t, h1, h2⟩ := hp
 refine aq.hole p hc (ay.aR hT hΓ hm n L h1 (ku hd) (aa.dD ?_ h2))
 rintro e v hv s' hs'
 cases e with
 | normal =>
  obtain ⟨a, hI, hre⟩ := hv
  refine (show aq P c nt (part x p) s' _ from aq.Pu hT hΓ hm hx h0 n L nx V O I D μ R a hI (hre.le hs' h0) ?_ hb (fun b s' hD' hle => hD b s' hD' hle) fun v s' hv hs' => hR v s' hv hs')
  have := pE (nt := nt) hc hd
  rw [hx] at this
  exact this
 | ret => exact hR v s' hv hs'
 | exit k => exact hv.elim
include hT hΓ hm in
theorem aq.QE {x y z : Code} (p : List Nat) {i : Nat} (hc : chain x p = true) (hx : part x p = .block i (.loop y)) (hz : behind x p = [z]) (hd : bz nt x = true) {kp : List Nat} (h0 : Kept kp c) {f1 f2 : List Nat} (n : Nat) (L : List Nat) (nx : Nat) {α : Type} (V : α → List AV) (O : α → aA) (I D : α → Prop) (μ : α → Nat) (R : List AV × aA → Prop)
  (hp : ∃ t, aG T Γ f1 n L (before x p) s = some t ∧ t.all (Start kp V O nx I R))
  (hb : ∀ a, I a → ∃ t, aG T Γ f2 n L [y] ⟨aB L (V a), O a, nx⟩ = some t ∧ t.all (Round kp V O nx I D μ i R a))
  (hD : ∀ b, D b → aq P c nt z ⟨aB L (V b), O b, nx⟩ Q) (hR : ∀ v s', R v → aN L s' = some v → Q .ret s') : aq P c nt x s Q :=
 aq.uF hT hΓ hm p hc hx hd h0 n L nx V O I D μ R hp hb (fun b s' hD' hle => by rw [hz]; exact ay.weak rfl hle (ay.one (hD b hD'))) hR
def wo (c : Ctx) (L : List Nat) {α : Type} (V : α → List AV) (O : α → aA) (nx : Nat) (I D : α → Prop) (μ : α → Nat) (i : Nat) (R : aD → Prop) (a : α) : aj → aD → Prop
 | .normal, s' => ∃ b, I b ∧ μ b < μ a ∧ ∃ ρ, Le c ρ s' ⟨aB L (V b), O b, nx⟩
 | .exit k, s' => k = i ∧ ∃ b, D b ∧ ∃ ρ, Le c ρ s' ⟨aB L (V b), O b, nx⟩
 | .ret, s' => R s'
include hT hΓ hm in
theorem aq.vE {x y z : Code} (p : List Nat) {i : Nat} (hc : chain x p = true) (hx : part x p = .block i (.loop y)) (hz : behind x p = [z]) (hd : bz nt x = true) {kp : List Nat} (h0 : Kept kp c) {f1 : List Nat} (n : Nat) (L : List Nat) (nx : Nat) {α : Type} (V : α → List AV) (O : α → aA) (I D : α → Prop) (μ : α → Nat) (R : List AV × aA → Prop)
  (hp : ∃ t, aG T Γ f1 n L (before x p) s = some t ∧ t.all (Start kp V O nx I R))
  (hb : ∀ a, I a → aq P c nt y ⟨aB L (V a), O a, nx⟩ (wo c L V O nx I D μ i (fun s' => ∃ v, R v ∧ aN L s' = some v) a))
  (hD : ∀ b, D b → aq P c nt z ⟨aB L (V b), O b, nx⟩ Q) (hR : ∀ v s', R v → aN L s' = some v → Q .ret s') : aq P c nt x s Q := by
 obtain ⟨t, h1, h2⟩ := hp
 refine aq.hole p hc (ay.aR hT hΓ hm n L h1 (ku hd) (aa.dD ?_ h2))
 rintro e v hv s' hs'
 cases e with
 | normal =>
  obtain ⟨a, hI, hre⟩ := hv
  refine aq.fh hx (fun a => ⟨aB L (V a), O a, nx⟩) I μ a (hre.le hs' h0) hI fun a ha => (hb a ha).mono fun e s' h => ?_
  cases e with
  | normal =>
   obtain ⟨b, g1, g2, g3⟩ := h
   exact ⟨b, g3, g1, g2⟩
  | exit k =>
   obtain ⟨rfl, b, g1, g2⟩ := h
   refine nR ?_
   show ay P c nt (behind x p) s' _
   rw [hz]
   exact ay.weak rfl g2 (ay.one (hD b g1))
  | ret =>
   obtain ⟨v, g1, g2⟩ := h
   exact hR v s' g1 g2
 | ret => exact hR v s' hv hs'
 | exit k => exact hv.elim
include hT hΓ hm in
theorem aq.nS {y x1 zb : Code} (p : List Nat) {j : Nat} (hc : chain y p = true) (hx : part y p = .block j x1) (hz : behind y p = [zb]) (hd : bz nt y = true) {kp : List Nat} (h0 : Kept kp c) {f1 : List Nat} (n : Nat) (L : List Nat) (nx : Nat) {α : Type} (V : α → List AV) (O : α → aA) (I : α → Prop)
  (hp : ∃ t, aG T Γ f1 n L (before y p) s = some t ∧ t.all fun e v => match e with
   | .normal => ∃ a, I a ∧ dK kp v (V a) (O a) nx
   | e => ∀ s', aN L s' = some v → Q e s')
  (hb : ∀ a, I a → aq P c nt x1 ⟨aB L (V a), O a, nx⟩ (inBlock j (cM (fun s' => aq P c nt zb s' Q) Q))) : aq P c nt y s Q := by
 obtain ⟨t, h1, h2⟩ := hp
 refine aq.hole p hc (ay.aR hT hΓ hm n L h1 (ku hd) (aa.dD ?_ h2))
 rintro e v hv s' hs'
 cases e with
 | normal =>
  obtain ⟨a, hI, hre⟩ := hv
  refine aq.iL (hre.le hs' h0) (aq.kn hx ((hb a hI).mono fun e s' h => ?_))
  have key : ∀ {e s'}, cM (fun s' => aq P c nt zb s' Q) Q e s' → cM (fun s'' => ay P c nt (behind y p) s'' Q) Q e s' := fun {e s'} h => by
   cases e with
   | normal => show ay P c nt (behind y p) s' Q; rw [hz]; exact ay.one h
   | exit k => exact h
   | ret => exact h
  cases e with
  | normal => exact key (e := .normal) h
  | exit k =>
   simp only [inBlock] at h ⊢
   split
   ·rename_i hk; rw [if_pos hk] at h; exact key (e := .normal) h
   ·rename_i hk; rw [if_neg hk] at h; exact key (e := .exit k) h
  | ret => exact key (e := .ret) h
 | ret => exact hv s' hs'
 | exit k => exact hv s' hs'
theorem aq.tail {z zb : Code} {j : Nat} (hne : ∀ s', Q (.exit j) s' → False) (h : ay P c nt [z, zb] s Q) : aq P c nt z s (inBlock j (cM (fun s' => aq P c nt zb s' Q) Q)) :=
 aq.mono h fun e s' h => by
  cases e with
  | normal => exact aq.mono h fun e s' h => by cases e <;> exact h
  | exit k =>
   simp only [inBlock]
   split
   ·rename_i hk; subst hk; exact (hne _ h).elim
   ·exact h
  | ret => exact h
def oH (fn : Func) (L : List Nat) (res : AV) (v : List AV × aA) : Prop := ∃ us, yl fn (aB L v.1) = some us ∧ dQ us res
theorem oH.fin {fn : Func} {L : List Nat} {res : AV} {v : List AV × aA} {s' : aD} (h : oH fn L res v) (hs' : aN L s' = some v) : dh c (Fin T fn res) .ret s' := by
 obtain ⟨us, g1, g2⟩ := h
 exact .inl (ey (.inr rfl) hs' g1 g2)
theorem xQ {c : Prop} [Decidable c] {u v : AV} (hu : keys u = []) (hv : keys v = []) : keys (if c then u else v) = [] := by split <;> assumption
def zu (T : Types) (fn : Func) (L : List Nat) (res : AV) (v : List AV × aA) : Prop :=
 ∃ vs us nx t, v.1 = vs ++ us ∧ vs.length = L.length ∧ aV us = [] ∧ iC T fn .ret ⟨aB L vs, v.2, nx⟩ = some t ∧ gh nx vs = true ∧ eP nx v.2 ∧ t.all fun _ us => dQ us res
theorem zu.fin {fn : Func} {L L1 : List Nat} {res : AV} {v : List AV × aA} {s' : aD} (h0 : Kept [] c) (h : zu T fn L res v) (hs' : aN (L ++ L1) s' = some v) : dh c (Fin T fn res) .ret s' := by
 obtain ⟨vs, us, nx, t, h1, h2, h3, h4, h5, h6, h7⟩ := h
 obtain ⟨v1, v2⟩ := v
 simp only at h1
 subst h1
 exact pD h4 (fD hs' h2 h3) (fun k x hk => by simpa using h0 k x hk) h5 h6 h7
include hT hΓ hm in
theorem zB {f : FuncId} {fn : Func} (hf : aO P f fn (ax fn)) {args : List AV} {r : cq} (hk : aV args = []) (hlen : args.length ≤ fn.ntmps) (hpost : r.post = []) (p : List Nat) {i : Nat} {y z : Code} (hc : chain (ax fn) p = true) (hx : part (ax fn) p = .block i (.loop y)) (hz : behind (ax fn) p = [z])
  {f1 f2 f3 : List Nat} (n : Nat) (L : List Nat) (nx : Nat) {α : Type} (V : α → List AV) (O : α → aA) (I D : α → Prop) (μ : α → Nat)
  (h : r.need → (∃ t, aG T Γ f1 n L (before (ax fn) p) ⟨aM 0 args, [], 0⟩ = some t ∧ t.all (Start [] V O nx I (oH fn L r.res))) ∧
   (∀ a, I a → ∃ t, aG T Γ f2 n L [y] ⟨aB L (V a), O a, nx⟩ = some t ∧ t.all (Round [] V O nx I D μ i (oH fn L r.res) a)) ∧
   ∀ a, D a → ∃ t, cJ T Γ f3 n fn [z] ⟨aB L (V a), O a, nx⟩ = some t ∧ t.all fun _ us => dQ us r.res) (K : Nat) (pre : aA) : aC P f K args pre r := by
 refine fX hT hf hk hlen hpost (fun need c h0 => ?_) K pre
 obtain ⟨hp, hb, he⟩ := h need
 refine aq.QE hT hΓ hm p hc hx hz hf.dst (vX h0) n L nx V O I D μ (oH fn L r.res) hp hb (fun a ha => ?_) fun v s' hv hs' => hv.fin hs'
 obtain ⟨t, g1, g2⟩ := he a ha
 have := pG (x := ax fn) (p := p) hf.dst
 rw [hz] at this
 exact aq.nE ((ay.fin hT hΓ hm n g1 this g2).mono fun _ _ h => .inl h)
def Cc (T : Types) (fn : Func) (k : Nat) (res : AV) (o' : aH) (e : aj) (s' : aD) : Prop :=
 (e = .normal ∨ e = .ret) ∧ Ends T fn res s' ∧ ∃ o1, look 0 s'.store = some o1 ∧ o1.row = false ∧ ck (aU [(k, 0)]) o1 o'
def xE (T : Types) (Γ : bf) (forks : List Nat) (n : Nat) (fn : Func) (l : List Code) (s : aD) : Option (aa (List AV × Option aH)) :=
 match l6 T Γ forks n l s with
 | some t => t.bind (uG T fn)
 | none => none
include hT hΓ hm in
theorem ay.IX {fn : Func} {forks : List Nat} (n : Nat) {l : List Code} {s : aD} {t : aa (List AV × Option aH)} (hc : xE T Γ forks n fn l s = some t) (hd : (l.all fun x => bz nt x) = true) {k : Nat} {res : AV} {o' : aH}
  (h : t.all fun _ v => dQ v.1 res ∧ ∃ o1, v.2 = some o1 ∧ o1.row = false ∧ ck (aU [(k, 0)]) o1 o') : ay P c nt l s (Cc T fn k res o') := by
 unfold xE at hc
 split at hc
 ·rename_i u hx
  refine wS hT hΓ hm hd hx (aa.dD ?_ (aa.gx hc h))
  rintro e s' ⟨v, h1, h2⟩
  unfold uG at h1
  split at h1
  ·rename_i v' hv'
   have h4 : v'.all fun _ us => dQ us res ∧ ∃ o1, look 0 s'.store = some o1 ∧ o1.row = false ∧ ck (aU [(k, 0)]) o1 o' := by
    refine aa.dD ?_ (aa.gx h1 h2)
    rintro e us ⟨w, g1, g2⟩
    simp only [Option.some.injEq] at g1
    subst g1
    exact g2
   have h5 : Fin T fn res e s' := tW hv' (aa.dD (fun _ _ h => h.1) h4)
   refine ⟨h5.1, h5.2, ?_⟩
   have : ∀ {t : aa (List AV)}, (t.all fun _ us => dQ us res ∧ ∃ o1, look 0 s'.store = some o1 ∧ o1.row = false ∧ ck (aU [(k, 0)]) o1 o') → ∃ o1, look 0 s'.store = some o1 ∧ o1.row = false ∧ ck (aU [(k, 0)]) o1 o' := by
    intro t
    induction t with
    | leaf e us => exact fun h => h.2
    | af ps t ih => exact fun h => ih h.2
    | fork b t1 t2 ih1 ih2 =>
     intro h
     cases b with
     | true => exact ih1 (h.1 rfl)
     | false => exact ih2 (h.2 rfl)
   exact this h4
  ·simp at h1
 ·simp at hc
theorem za {rl : List (Nat × Nat)} : ∀ {rest : List AV}, aV rest = [] → (rest.all fun v => !v.isTuple) = true → eE (aU rl) rest rest
 | [], _, _ => trivial
 | v :: r, h1, h2 => by
  simp only [aV, List.append_eq_nil_iff] at h1
  simp only [List.all_cons, Bool.and_eq_true, Bool.not_eq_true'] at h2
  exact ⟨⟨h2.1, aE h1.1⟩, za h1.2 h2.2⟩
include hT in
theorem K4 {f : FuncId} {fn : Func} {x : Code} (hf : aO P f fn x) {k idx es off : Nat} {p : List Nat} {rest : List AV} {o2 o o' : aH} {res : AV} {l : List Prop}
  (hkr : aV rest = []) (hrt : (rest.all fun v => !v.isTuple) = true) (hlen : rest.length + 1 ≤ fn.ntmps) (ho : ∀ ρ, ck ρ o2 o)
  (h : az l → ∀ c : Ctx, Kept [0] c → aq P c fn.ntmps x ⟨aM 0 (.ptr 0 idx es off p :: rest), [(0, o)], 1⟩ (Cc T fn k res o')) (K : Nat) :
  aC P f K (.ptr k idx es off p :: rest) [(k, o2)] ⟨res, [(k, o')], l⟩ := by
 refine lQ hT hf (args0 := .ptr 0 idx es off p :: rest) (pre0 := [(0, o)]) (nx := 1) [(0, k)] (by simpa using hlen) (by simp [gy]) ⟨⟨rfl, jm rfl⟩, za hkr hrt⟩ ⟨⟨k, o2, rfl, by simp [look], ho _⟩, trivial⟩
  (fun a x h => ?_) (fun x o h => .inl ?_) (fun need c h0 => ?_)
 ·simp only [aU, look] at h
  split at h
  ·simp only [Option.some.injEq] at h; subst h; exact ⟨_, by simp [look]; rfl⟩
  ·simp at h
 ·simp only [look] at h
  split at h
  ·rename_i he
   exact ⟨_, by simp only [look, he, if_true]; rfl⟩
  ·simp at h
 have hk : Kept [0] c := fun a y hy => by
  have := h0 a y hy
  simp only [aU, look] at this
  split at this
  ·rename_i he; have := eq_of_beq he; subst this; exact List.mem_singleton_self _
  ·simp at this
 refine (h need c hk).mono fun e s' ⟨h1, h2, o1, g1, g2, g3⟩ => ⟨h1, aU [(k, 0)], qb, .inl ⟨h2, fun x ox hx => ?_⟩⟩
 have he : bN (dP [(k, o')]) [(k, o2)] = [(k, o')] := by simp [bN, dP, put]
 rw [he] at hx
 simp only [look] at hx
 split at hx
 ·rename_i hk
  have : k = x := by simpa using hk
  subst this
  simp only [Option.some.injEq] at hx
  subst hx
  exact ⟨0, o1, by simp [aU, look], g1, g2, g3⟩
 ·simp at hx
end rules
end Go.Am

/- Functions that are handed two lists that may still be written to, and leave them as they are. -/
namespace Go.Am
open AV
theorem Cg {ρ : Nat → Option Nat} : ∀ {us vs : List AV}, aV us = [] → (us.all fun v => !v.isTuple) = true → dO us vs → eE ρ us vs
 | [], [], _, _, _ => trivial
 | u :: us, v :: vs, h1, h2, h => by
  simp only [aV, List.append_eq_nil_iff] at h1
  simp only [List.all_cons, Bool.and_eq_true, Bool.not_eq_true'] at h2
  exact ⟨⟨h2.1, s4 h1.1 h.1⟩, Cg h1.2 h2.2 h.2⟩
 | [], _ :: _, _, _, h => h.elim
 | _ :: _, [], _, _, h => h.elim
def yX (T : Types) (fn : Func) (e : aj) (s : aD) : Option (aa (List AV × Option aH × Option aH)) := match e with
 | .exit _ => none
 | e => match fo T s fn.results.toList with
  | some (vs, q) => some (.need q (.leaf e (vs, look 0 s.store, look 1 s.store)))
  | none => none
def Bo (us : List AV) (o p : aH) (v : List AV × Option aH × Option aH) : Prop :=
 aV v.1 = [] ∧ (v.1.all fun v => !v.isTuple) = true ∧ dO v.1 us ∧ (∃ o1, v.2.1 = some o1 ∧ ∀ ρ, ck ρ o1 o) ∧ ∃ p1, v.2.2 = some p1 ∧ ∀ ρ, ck ρ p1 p
def Ee (T : Types) (fn : Func) (us : List AV) (o p : aH) (e : aj) (s : aD) : Prop :=
 (e = .normal ∨ e = .ret) ∧ (∃ vs q, fo T s fn.results.toList = some (vs, q) ∧ az q ∧ aV vs = [] ∧ (vs.all fun v => !v.isTuple) = true ∧ dO vs us) ∧ (∃ o1, look 0 s.store = some o1 ∧ ∀ ρ, ck ρ o1 o) ∧ ∃ p1, look 1 s.store = some p1 ∧ ∀ ρ, ck ρ p1 p
theorem OV {T : Types} {fn : Func} {e : aj} {s : aD} {t : aa (List AV × Option aH × Option aH)} {us : List AV} {o p : aH} (h1 : yX T fn e s = some t) (h2 : t.all fun _ v => Bo us o p v) : Ee T fn us o p e s := by
 unfold yX at h1
 have key : ∀ {e' : aj}, (match fo T s fn.results.toList with
   | some (vs, q) => some (aa.need q (.leaf e' (vs, look 0 s.store, look 1 s.store)))
   | none => none) = some t → (∃ vs q, fo T s fn.results.toList = some (vs, q) ∧ az q ∧ aV vs = [] ∧ (vs.all fun v => !v.isTuple) = true ∧ dO vs us) ∧ (∃ o1, look 0 s.store = some o1 ∧ ∀ ρ, ck ρ o1 o) ∧ ∃ p1, look 1 s.store = some p1 ∧ ∀ ρ, ck ρ p1 p := by
  intro e' h1
  cases hr : fo T s fn.results.toList with
  | none => rw [hr] at h1; simp at h1
  | some r =>
   obtain ⟨vs, q⟩ := r
   rw [hr] at h1
   simp only [Option.some.injEq] at h1
   subst h1
   obtain ⟨g1, g2, g3, g4, g5, g6⟩ := aa.wM.1 h2
   exact ⟨⟨vs, q, rfl, g1, g2, g3, g4⟩, g5, g6⟩
 cases e with
 | normal => exact ⟨.inl rfl, key h1⟩
 | ret => exact ⟨.inr rfl, key h1⟩
 | exit i => simp at h1
section rules
variable {P : Program} {c : Ctx} {nt : Nat} {s : aD} {Q : aj → aD → Prop} {T : Types} (hT : cZ P T) {Γ : bf} (hΓ : bC P Γ) (hm : P.follows .mixedOrders = true)
def ED (T : Types) (fn : Func) (L : List Nat) (us : List AV) (o p : aH) (v : List AV × aA) : Prop :=
 ∃ vs ws nx t, v.1 = vs ++ ws ∧ vs.length = L.length ∧ aV ws = [] ∧ yX T fn .ret ⟨aB L vs, v.2, nx⟩ = some t ∧ gh nx vs = true ∧ eP nx v.2 ∧ 2 ≤ nx ∧ t.all fun _ v => Bo us o p v
theorem ED.fin {fn : Func} {L L1 : List Nat} {us : List AV} {o p : aH} {v : List AV × aA} {s' : aD} (h0 : Kept [0, 1] c) (h : ED T fn L us o p v) (hs' : aN (L ++ L1) s' = some v) : dh c (Ee T fn us o p) .ret s' := by
 obtain ⟨vs, ws, nx, t, h1, h2, h3, h4, h5, h6, hn, h7⟩ := h
 obtain ⟨v1, v2⟩ := v
 simp only at h1
 subst h1
 obtain ⟨ρ, hle⟩ := jA (fD hs' h2 h3) (fun k x hk => by
  have := h0 k x hk
  simp only [List.mem_cons, List.not_mem_nil, or_false] at this
  omega) h5 h6
 exact .inr ⟨_, ρ, hle, OV h4 h7⟩
end rules
end Go.Am

/- Functions that are handed a list to write to, and give back a part of it. -/
namespace Go.Am
open AV
def zM (fn : Func) (k : Nat) (ws : List AV) (o' : aH) (e : aj) (s' : aD) : Prop :=
 (e = .normal ∨ e = .ret) ∧ ∃ ls vs us os o1, aN ls s' = some (vs, os) ∧ iT (aB ls vs) fn.results.toList = some us ∧ eE (aU [(k, 0)]) us ws ∧ look 0 os = some o1 ∧ ck (aU [(k, 0)]) o1 o'
def Cw (fn : Func) (k : Nat) (ws : List AV) (o' : aH) (L : List Nat) (v : List AV × aA) : Prop := ∃ us o1, iT (aB L v.1) fn.results.toList = some us ∧ eE (aU [(k, 0)]) us ws ∧ look 0 v.2 = some o1 ∧ ck (aU [(k, 0)]) o1 o'
theorem Cw.fin {fn : Func} {k : Nat} {ws : List AV} {o' : aH} {L : List Nat} {v : List AV × aA} {s' : aD} (h : Cw fn k ws o' L v) (hs' : aN L s' = some v) : zM fn k ws o' .ret s' := by
 obtain ⟨us, o1, h1, h2, h3, h4⟩ := h
 exact ⟨.inr rfl, L, v.1, us, v.2, o1, hs', h1, h2, h3, h4⟩
section rules
variable {P : Program} {c : Ctx} {nt : Nat} {s : aD} {Q : aj → aD → Prop} {T : Types} (hT : cZ P T) {Γ : bf} (hΓ : bC P Γ) (hm : P.follows .mixedOrders = true)
include hT in
theorem yA {f : FuncId} {fn : Func} {x : Code} (hf : aO P f fn x) {k es st n : Nat} {rest ws : List AV} {o2 o o' : aH} {l : List Prop}
  (hkr : aV rest = []) (hrt : (rest.all fun v => !v.isTuple) = true) (hlen : rest.length + 1 ≤ fn.ntmps) (ho : ∀ ρ, ck ρ o2 o)
  (h : az l → ∀ c : Ctx, Kept [0] c → aq P c fn.ntmps x ⟨aM 0 (.own 0 es st n :: rest), [(0, o)], 1⟩ (zM fn k ws o')) (K : Nat) :
  aC P f K (.own k es st n :: rest) [(k, o2)] ⟨mJ ws, [(k, o')], l⟩ := by
 refine lQ hT hf (args0 := .own 0 es st n :: rest) (pre0 := [(0, o)]) (nx := 1) [(0, k)] (by simpa using hlen) (by simp [gy]) ⟨⟨rfl, cz rfl rfl rfl⟩, za hkr hrt⟩ ⟨⟨k, o2, rfl, by simp [look], ho _⟩, trivial⟩
  (fun a x h => ?_) (fun x o h => .inl ?_) (fun need c h0 => ?_)
 ·simp only [aU, look] at h
  split at h
  ·simp only [Option.some.injEq] at h; subst h; exact ⟨_, by simp [look]; rfl⟩
  ·simp at h
 ·simp only [look] at h
  split at h
  ·rename_i he
   exact ⟨_, by simp only [look, he, if_true]; rfl⟩
  ·simp at h
 have hk : Kept [0] c := fun a y hy => by
  have := h0 a y hy
  simp only [aU, look] at this
  split at this
  ·rename_i he; have := eq_of_beq he; subst this; exact List.mem_singleton_self _
  ·simp at this
 refine (h need c hk).mono fun e s' ⟨h1, ls, vs, us, os, o1, g1, g2, g3, g4, g5⟩ => ⟨h1, aU [(k, 0)], qb, .inr (nX (ws := ws) (ps := [(k, o')]) g1 g2 g3 rfl (by simp [bN, dP, put]) ⟨⟨0, o1, by simp [aU, look], g4, g5⟩, trivial⟩)⟩
include hT in
theorem Th {f : FuncId} {fn : Func} {x : Code} (hf : aO P f fn x) {args args0 ws : List AV} {o' : aH} {K : Nat} {l : List Prop} (ha : az l → eE (aU []) args args0) (hlen : args0.length ≤ fn.ntmps)
  (h : az l → ∀ c : Ctx, Kept [] c → aq P c fn.ntmps x ⟨aM 0 args0, [], 0⟩ fun e s' => (e = .normal ∨ e = .ret) ∧ ∃ ls vs us os a o, aN ls s' = some (vs, os) ∧ iT (aB ls vs) fn.results.toList = some us ∧ eE (aU [(K, a)]) us ws ∧ look a os = some o ∧ ck (aU [(K, a)]) o o') :
  aC P f K args [] ⟨mJ ws, [(K, o')], l⟩ := by
 intro need
 refine (lQ hT hf (args0 := args0) (pre0 := []) (nx := 0) [] hlen rfl (ha need) trivial (fun a k h => by simp [aU, look] at h) (fun k o h => ?_) (fun need c h0 => ?_) : aC P f K args [] ⟨mJ ws, [(K, o')], l⟩) need
 ·simp only [look] at h
  split at h
  ·rename_i he
   have : K = k := by simpa using he
   subst this
   exact .inr ⟨Nat.le_refl _, by unfold bQ; omega⟩
  ·simp at h
 ·refine (h need c fun k x hk => by simpa [aU, look] using h0 k x hk).mono ?_
  rintro e s' ⟨h1, ls, vs, us, os, a, o, h2, h3, h4, h5, h6⟩
  exact ⟨h1, aU [(K, a)], xH ⟨Nat.le_refl _, by unfold bQ; omega⟩, .inr (nX (ws := ws) (ps := [(K, o')]) h2 h3 h4 rfl rfl ⟨⟨a, o, by simp [aU, look], h5, h6⟩, trivial⟩)⟩
end rules
end Go.Am

/- A loop in a loop. -/
namespace Go.Am
open AV
section rules
variable {P : Program} {c : Ctx} {nt : Nat} {s : aD} {Q : aj → aD → Prop} {T : Types} (hT : cZ P T) {Γ : bf} (hΓ : bC P Γ) (hm : P.follows .mixedOrders = true)
def Head (kp : List Nat) {α : Type} (V : α → List AV) (O : α → aA) (nx : Nat) (D : α → Prop) (i : Nat) (R : List AV × aA → Prop) (G : α → Prop) (a : α) : aj → List AV × aA → Prop
 | .normal, v => G a ∧ dK kp v (V a) (O a) nx
 | .exit k, v => k = i ∧ ∃ b, D b ∧ dK kp v (V b) (O b) nx
 | .ret, v => R v
def DQ (kp : List Nat) {α : Type} (V : α → List AV) (O : α → aA) (nx : Nat) (I : α → Prop) (μ : α → Nat) (a : α) : aj → List AV × aA → Prop
 | .normal, v => ∃ b, I b ∧ μ b < μ a ∧ dK kp v (V b) (O b) nx
 | _, _ => False
theorem UR {i : Nat} {y : Code} (h : bz nt (.block i (.loop y)) = true) : bz nt y = true := by simpa [bz] using h
theorem NZ {i : Nat} {y : Code} (h : bz nt (.block i y) = true) : bz nt y = true := by simpa [bz] using h
include hT hΓ hm in
theorem aq.U2 {x y : Code} (p : List Nat) {i : Nat} (hc : chain x p = true) (hx : part x p = .block i (.loop y)) (hd : bz nt x = true) {kp : List Nat} (h0 : Kept kp c) {f1 : List Nat} (n : Nat) (L : List Nat) (nx : Nat) {α : Type} (V : α → List AV) (O : α → aA) (I D : α → Prop) (μ : α → Nat) (R : List AV × aA → Prop)
  (hp : ∃ t, aG T Γ f1 n L (before x p) s = some t ∧ t.all (Start kp V O nx I R))
  (hb : ∀ a, I a → aq P c nt y ⟨aB L (V a), O a, nx⟩ (wo c L V O nx I D μ i (fun s' => ∃ v, R v ∧ aN L s' = some v) a))
  (hD : ∀ b s', D b → (∃ ρ, Le c ρ s' ⟨aB L (V b), O b, nx⟩) → ay P c nt (behind x p) s' Q) (hR : ∀ v s', R v → aN L s' = some v → Q .ret s') : aq P c nt x s Q := by
 obtain ⟨t, h1, h2⟩ := hp
 refine aq.hole p hc (ay.aR hT hΓ hm n L h1 (ku hd) (aa.dD ?_ h2))
 rintro e v hv s' hs'
 cases e with
 | normal =>
  obtain ⟨a, hI, hre⟩ := hv
  refine aq.fh hx (fun a => ⟨aB L (V a), O a, nx⟩) I μ a (hre.le hs' h0) hI fun a ha => (hb a ha).mono fun e s' h => ?_
  cases e with
  | normal =>
   obtain ⟨b, g1, g2, g3⟩ := h
   exact ⟨b, g3, g1, g2⟩
  | exit k =>
   obtain ⟨rfl, b, g1, g2⟩ := h
   refine nR ?_
   show ay P c nt (behind x p) s' _
   exact hD b s' g1 g2
  | ret =>
   obtain ⟨v, g1, g2⟩ := h
   exact hR v s' g1 g2
 | ret => exact hR v s' hv hs'
 | exit k => exact hv.elim
include hT hΓ hm in
theorem aq.tL {x : Code} (p : List Nat) (hc : chain x p = true) (hz : behind x p = []) (hd : bz nt x = true) {kp : List Nat} (h0 : Kept kp c) {f1 : List Nat} (n : Nat) (L : List Nat) (nx : Nat) {α : Type} (V : α → List AV) (O : α → aA) (I : α → Prop)
  (hp : ∃ t, aG T Γ f1 n L (before x p) s = some t ∧ t.all fun e v => match e with
   | .normal => ∃ a, I a ∧ dK kp v (V a) (O a) nx
   | e => ∀ s', aN L s' = some v → Q e s')
  (hb : ∀ a, I a → aq P c nt (part x p) ⟨aB L (V a), O a, nx⟩ Q) : aq P c nt x s Q := by
 obtain ⟨t, h1, h2⟩ := hp
 refine aq.hole p hc (ay.aR hT hΓ hm n L h1 (ku hd) (aa.dD ?_ h2))
 rintro e v hv s' hs'
 cases e with
 | normal =>
  obtain ⟨a, hI, hre⟩ := hv
  show aq P c nt (part x p) s' _
  rw [hz]
  exact aq.iL (hre.le hs' h0) ((hb a hI).mono fun e s' h => by cases e <;> exact h)
 | ret => exact hv s' hs'
 | exit k => exact hv s' hs'
include hT hΓ hm in
theorem aq.u5 {x y x1 zb y2 : Code} (p : List Nat) {i : Nat} (hc : chain x p = true) (hx : part x p = .block i (.loop y)) (hd : bz nt x = true)
  (q : List Nat) {j : Nat} (hcq : chain y q = true) (hxq : part y q = .block j x1) (hzq : behind y q = [zb]) (r : List Nat) {i2 : Nat} (hcr : chain x1 r = true) (hxr : part x1 r = .block i2 (.loop y2)) (hij : (i == j) = false)
  {kp : List Nat} (h0 : Kept kp c) {f1 f2 f3 f4 f5 : List Nat} (n : Nat) (L1 L2 : List Nat) (nx1 nx2 : Nat) {α β : Type} (V1 : α → List AV) (O1 : α → aA) (I1 D1 : α → Prop) (μ1 : α → Nat) (G : α → Prop) (R1 R2 : List AV × aA → Prop)
  (V2 : α → β → List AV) (O2 : α → β → aA) (I2 D2 : α → β → Prop) (μ2 : α → β → Nat)
  (hp : ∃ t, aG T Γ f1 n L1 (before x p) s = some t ∧ t.all (Start kp V1 O1 nx1 I1 R1))
  (ho : ∀ a, I1 a → ∃ t, aG T Γ f2 n L1 (before y q) ⟨aB L1 (V1 a), O1 a, nx1⟩ = some t ∧ t.all (Head kp V1 O1 nx1 D1 i R1 G a))
  (hi : ∀ a, I1 a → G a → ∃ t, aG T Γ f3 n L2 (before x1 r) ⟨aB L1 (V1 a), O1 a, nx1⟩ = some t ∧ t.all (Start kp (V2 a) (O2 a) nx2 (I2 a) R2))
  (hb : ∀ a, I1 a → G a → ∀ b, I2 a b → ∃ t, aG T Γ f4 n L2 [y2] ⟨aB L2 (V2 a b), O2 a b, nx2⟩ = some t ∧ t.all (Round kp (V2 a) (O2 a) nx2 (I2 a) (D2 a) (μ2 a) i2 R2 b))
  (ht : ∀ a, I1 a → G a → ∀ b, D2 a b → ∃ t, aG T Γ f5 n L1 (behind x1 r ++ [zb]) ⟨aB L2 (V2 a b), O2 a b, nx2⟩ = some t ∧ t.all (DQ kp V1 O1 nx1 I1 μ1 a))
  (hD : ∀ b s', D1 b → (∃ ρ, Le c ρ s' ⟨aB L1 (V1 b), O1 b, nx1⟩) → ay P c nt (behind x p) s' Q) (hR1 : ∀ v s', R1 v → aN L1 s' = some v → Q .ret s') (hR2 : ∀ v s', R2 v → aN L2 s' = some v → Q .ret s') : aq P c nt x s Q := by
 have hdy : bz nt y = true := by
  have := pE (nt := nt) hc hd
  rw [hx] at this
  exact UR this
 have hdx1 : bz nt x1 = true := by
  have := pE (nt := nt) hcq hdy
  rw [hxq] at this
  exact NZ this
 have hdz : ((behind x1 r ++ [zb]).all fun x => bz nt x) = true := by
  have h1 := pG (nt := nt) (p := r) hdx1
  have h2 := pG (nt := nt) (p := q) hdy
  rw [hzq] at h2
  rw [List.all_append, h1, h2]; rfl
 obtain ⟨t, h1, h2⟩ := hp
 refine aq.hole p hc (ay.aR hT hΓ hm n L1 h1 (ku hd) (aa.dD ?_ h2))
 rintro e v hv s' hs'
 cases e with
 | ret => exact hR1 v s' hv hs'
 | exit k => exact hv.elim
 | normal =>
  obtain ⟨a, hI, hre⟩ := hv
  refine (show aq P c nt (part x p) s' _ from aq.fh hx (fun a => ⟨aB L1 (V1 a), O1 a, nx1⟩) I1 μ1 a (hre.le hs' h0) hI fun a ha => ?_)
  refine aq.mono (Q := wo c L1 V1 O1 nx1 I1 D1 μ1 i (fun s' => Q .ret s') a) ?_ fun e s' h => ?_
  ·refine aq.nS hT hΓ hm q hcq hxq hzq hdy h0 (f1 := f2) n L1 nx1 (fun _ : Unit => V1 a) (fun _ => O1 a) (fun _ => G a) ?_ (fun _ hG => ?_)
   ·obtain ⟨t, g1, g2⟩ := ho a ha
    refine ⟨t, g1, aa.dD ?_ g2⟩
    rintro e v hv
    cases e with
    | normal => exact ⟨(), hv.1, hv.2⟩
    | exit k => exact fun s' hs' => ⟨hv.1, hv.2.imp fun b hb => ⟨hb.1, hb.2.le hs' h0⟩⟩
    | ret => exact fun s' hs' => hR1 v s' hv hs'
   ·refine aq.uF hT hΓ hm r hcr hxr hdx1 h0 (f1 := f3) (f2 := f4) n L2 nx2 (V2 a) (O2 a) (I2 a) (D2 a) (μ2 a) R2 (hi a ha hG) (hb a ha hG) (fun b s' hb hle => ?_) (fun v s' hv hs' => hR2 v s' hv hs')
    obtain ⟨t, g1, g2⟩ := ht a ha hG b hb
    have key : ay P c nt (behind x1 r ++ [zb]) s' (wo c L1 V1 O1 nx1 I1 D1 μ1 i (fun s' => Q .ret s') a) := by
     refine ay.weak (by cases behind x1 r <;> rfl) hle (ay.aR hT hΓ hm n L1 g1 hdz (aa.dD ?_ g2))
     rintro e v hv s' hs'
     cases e with
     | normal =>
      obtain ⟨b, k1, k2, k3⟩ := hv
      exact ⟨b, k1, k2, k3.le hs' h0⟩
     | exit k => exact hv.elim
     | ret => exact hv.elim
    refine ay.mono ?_ (ay.append key)
    rintro e s' h
    cases e with
    | normal => exact aq.nE h
    | exit k =>
     simp only [inBlock]
     have hk : k = i := h.1
     rw [if_neg (by rw [hk]; simpa using hij)]
     exact h
    | ret => exact h
  ·cases e with
   | normal =>
    obtain ⟨b, g1, g2, g3⟩ := h
    exact ⟨b, g3, g1, g2⟩
   | exit k =>
    obtain ⟨rfl, b, g1, g2⟩ := h
    refine nR ?_
    show ay P c nt (behind x p) s' _
    exact hD b s' g1 g2
   | ret => exact h
include hT hΓ hm in
theorem aq.QJ {x y z x1 zb y2 : Code} (p : List Nat) {i : Nat} (hc : chain x p = true) (hx : part x p = .block i (.loop y)) (hz : behind x p = [z]) (hd : bz nt x = true)
  (q : List Nat) {j : Nat} (hcq : chain y q = true) (hxq : part y q = .block j x1) (hzq : behind y q = [zb]) (r : List Nat) {i2 : Nat} (hcr : chain x1 r = true) (hxr : part x1 r = .block i2 (.loop y2)) (hij : (i == j) = false)
  {kp : List Nat} (h0 : Kept kp c) {f1 f2 f3 f4 f5 : List Nat} (n : Nat) (L1 L2 : List Nat) (nx1 nx2 : Nat) {α β : Type} (V1 : α → List AV) (O1 : α → aA) (I1 D1 : α → Prop) (μ1 : α → Nat) (G : α → Prop) (R1 R2 : List AV × aA → Prop)
  (V2 : α → β → List AV) (O2 : α → β → aA) (I2 D2 : α → β → Prop) (μ2 : α → β → Nat)
  (hp : ∃ t, aG T Γ f1 n L1 (before x p) s = some t ∧ t.all (Start kp V1 O1 nx1 I1 R1))
  (ho : ∀ a, I1 a → ∃ t, aG T Γ f2 n L1 (before y q) ⟨aB L1 (V1 a), O1 a, nx1⟩ = some t ∧ t.all (Head kp V1 O1 nx1 D1 i R1 G a))
  (hi : ∀ a, I1 a → G a → ∃ t, aG T Γ f3 n L2 (before x1 r) ⟨aB L1 (V1 a), O1 a, nx1⟩ = some t ∧ t.all (Start kp (V2 a) (O2 a) nx2 (I2 a) R2))
  (hb : ∀ a, I1 a → G a → ∀ b, I2 a b → ∃ t, aG T Γ f4 n L2 [y2] ⟨aB L2 (V2 a b), O2 a b, nx2⟩ = some t ∧ t.all (Round kp (V2 a) (O2 a) nx2 (I2 a) (D2 a) (μ2 a) i2 R2 b))
  (ht : ∀ a, I1 a → G a → ∀ b, D2 a b → ∃ t, aG T Γ f5 n L1 (behind x1 r ++ [zb]) ⟨aB L2 (V2 a b), O2 a b, nx2⟩ = some t ∧ t.all (DQ kp V1 O1 nx1 I1 μ1 a))
  (hD : ∀ b, D1 b → aq P c nt z ⟨aB L1 (V1 b), O1 b, nx1⟩ Q) (hR1 : ∀ v s', R1 v → aN L1 s' = some v → Q .ret s') (hR2 : ∀ v s', R2 v → aN L2 s' = some v → Q .ret s') : aq P c nt x s Q :=
 aq.u5 hT hΓ hm p hc hx hd q hcq hxq hzq r hcr hxr hij h0 n L1 L2 nx1 nx2 V1 O1 I1 D1 μ1 G R1 R2 V2 O2 I2 D2 μ2 hp ho hi hb ht (fun b s' hb hle => by rw [hz]; exact ay.weak rfl hle (ay.one (hD b hb))) hR1 hR2
end rules
end Go.Am

/- The call of a law, from its contract: whatever the arguments. -/
namespace Go.Am
open Go Go.ChangeShapes Go.WideShapes Go.ChangeAt Go.RowKit AV
inductive PK where
 | list
 | int (k : IntKind)
 | bool
def A1 (P : Program) : PK → TypeId → Prop
 | .list, t => ∃ e, P.underlying t = some (.slice e) ∧ P.underlying e = some (.int .i64) ∧ P.cellsOf e = 1
 | .int k, t => P.underlying t = some (.int k)
 | .bool, t => P.underlying t = some .bool
def qE (P : Program) : List PK → List TypeId → Prop
 | [], [] => True
 | k :: ks, t :: ts => (A1 P k t ∧ P.readableRec t = true ∧ t < P.types.size) ∧ qE P ks ts
 | _, _ => False
def Fm : PK → AV → Prop
 | .list, a => ∃ (n : Nat) (z : Nat → Int), a = .ah 1 n (fun i => .int .i64 (z i))
 | .int k, a => ∃ n, a = .int k n
 | .bool, a => ∃ b, a = .bool b
def zy : List PK → List AV → Prop
 | [], as => as = []
 | k :: ks, as => ∃ a l, as = a :: l ∧ Fm k a ∧ zy ks l
section
variable {P : Program} {H : Type} {enc : TypeId × Value → H} {W : World} {base : Nat}
theorem OZ {k : PK} {t : TypeId} {v : Value} {d : DataW H} {p : List MemPlace} (hk : A1 P k t) (h : DataW.Trod enc P W 0 (fun _ => true) true t v d p) (hv : Value.okWide P W .any base t v) : ∃ a, Fm k a ∧ aT (fun _ => False) W aQ a v := by
 cases k with
 | int k =>
  obtain ⟨n, rfl⟩ := okWide_int hk hv
  exact ⟨_, ⟨n, rfl⟩, .bP (.int .nil) rfl⟩
 | bool =>
  obtain ⟨b, rfl⟩ := okWide_bool hk hv
  exact ⟨_, ⟨b, rfl⟩, .bP (.bool .nil) rfl⟩
 | list =>
  obtain ⟨e, h1, h2, h3⟩ := hk
  obtain ⟨a0, len, cap, rfl⟩ := okWide_slice h1 hv
  obtain ⟨fuel, hf⟩ := h
  have key : ∀ {z : Nat → Int}, len ≤ cap → (len = 0 ∨ ∃ b o, a0 = some ⟨b, o, none⟩ ∧ ∀ i, i < len → W.cell? ⟨b, o + i, none⟩ = some (.int .i64 (z i))) → aT (fun _ => False) W aQ (.ah 1 len (fun i => .int .i64 (z i))) (.slice a0 len cap) := fun {z} hcap hr => by
   refine .bP (.ah (cf := fun i => [.int .i64 (z i)]) ?_ (by omega) hcap (fun _ _ => rfl) (fun _ _ => .int .nil) .nil) rfl
   rcases hr with hr | ⟨b, o, rfl, hr⟩
   ·exact .inl hr
   ·refine .inr ⟨b, o, rfl, fun i hi => ?_⟩
    have hc := hr i hi
    simp only [World.cell?] at hc
    split at hc
    ·rename_i cs ty fr hh
     simp only [Option.isSome_none, Bool.false_eq_true, if_false] at hc
     refine ⟨cs, ty, fr, hh, id, fun j v hj => ?_⟩
     have hj0 : j = 0 := by have := (List.getElem?_eq_some_iff.1 hj).1; simp at this; exact this
     subst hj0
     simp only [List.getElem?_cons_zero, Option.some.injEq] at hj
     subst hj
     simpa using hc
    ·simp at hc
  rcases open_ints h1 h2 h3 hf with ⟨hcs, hx⟩ | ⟨a, len', cap', zs, hcs, _, hl, hm, hz, hx, hcell, hwz⟩
  ·simp only [Value.cells, List.cons.injEq, Value.slice.injEq, and_true] at hcs
   obtain ⟨rfl, rfl, rfl⟩ := hcs
   exact ⟨_, ⟨0, fun _ => 0, rfl⟩, key (z := fun _ => 0) (Nat.le_refl _) (.inl rfl)⟩
  ·simp only [Value.cells, List.cons.injEq, Value.slice.injEq, and_true] at hcs
   obtain ⟨rfl, rfl, rfl⟩ := hcs
   simp only [if_true] at hz
   refine ⟨_, ⟨len, fun i => zs.getD i 0, rfl⟩, key hl ?_⟩
   rcases Nat.eq_zero_or_pos len with h0 | h0
   ·exact .inl h0
   ·obtain ⟨b, o, m⟩ := a
    have h1 := hcell 0 (by omega)
    have : m = none := by
     cases m with
     | none => rfl
     | some y => exfalso; simp only [Addr.add, World.cell?] at h1; split at h1 <;> simp at h1
    subst this
    exact .inr ⟨b, o, rfl, fun i hi => by
     have h2 := hcell i (by omega)
     rcases Nat.eq_zero_or_pos i with hi | hi
     ·subst hi; simpa [Addr.add] using h2
     ·simpa [Addr.add, Nat.pos_iff_ne_zero.1 hi] using h2⟩
theorem EO : ∀ {ks : List PK} {ts : List TypeId} {vs : List Value} {ds : List (DataW H)} {p : List MemPlace}, qE P ks ts → DataW.TrodAll enc P W 0 (fun _ => true) true ts vs ds p → (∀ (j : Nat) t v, ts[j]? = some t → vs[j]? = some v → Value.okWide P W .any base t v) →
  ∃ as, zy ks as ∧ bJ (fun _ => False) W aQ as vs
 | [], [], vs, ds, p, _, h, _ => by
  obtain ⟨rfl, _, _⟩ := trodAll_nil h
  exact ⟨[], rfl, trivial⟩
 | k :: ks, t :: ts, vs, ds, p, hk, h, hv => by
  obtain ⟨v, vs', d, ds', p1, q, rfl, rfl, rfl, hd, hrest⟩ := trodAll_cons h
  obtain ⟨a, h1, h2⟩ := OZ hk.1.1 hd (hv 0 t v rfl rfl)
  obtain ⟨as, h3, h4⟩ := EO hk.2 hrest fun j t v h1 h2 => hv (j + 1) t v h1 h2
  exact ⟨a :: as, ⟨a, as, rfl, h1, h3⟩, h2, h4⟩
 | [], _ :: _, _, _, _, h, _, _ => h.elim
 | _ :: _, [], _, _, _, h, _, _ => h.elim
theorem E5 {b : Nat} {sp : Nat → Bool} {held : Bool} : ∀ {ts : List TypeId} {vs : List Value} {ds : List (DataW H)} {p : List MemPlace}, DataW.TrodAll enc P W b sp held ts vs ds p → ds.length = ts.length
 | [], vs, ds, p, h => by
  obtain ⟨_, rfl, _⟩ := trodAll_nil h
  rfl
 | t :: ts, vs, ds, p, h => by
  obtain ⟨v, vs', d, ds', p1, q, rfl, rfl, rfl, hd, hrest⟩ := trodAll_cons h
  simp [E5 hrest]
theorem Fh (hl : laidOutB P = true) {W' : World} (hb : Below W.heap.size W W') : ∀ {ks : List PK} {ts : List TypeId} {vs : List Value} {ds : List (DataW H)} {p : List MemPlace}, qE P ks ts → DataW.TrodAll enc P W 0 (fun _ => true) true ts vs ds p → (∀ x ∈ p, x.block < W.heap.size) →
  DataW.TrodAll enc P W' 0 (fun b => decide (b < W.heap.size)) true ts vs ds p
 | [], [], vs, ds, p, _, h, _ => by
  obtain ⟨rfl, rfl, rfl⟩ := trodAll_nil h
  exact trodAll_mk0
 | k :: ks, t :: ts, vs, ds, p, hk, h, hlt => by
  obtain ⟨v, vs', d, ds', p1, q, rfl, rfl, rfl, hd, hrest⟩ := trodAll_cons h
  exact ⟨_, _, Below.trod hl hk.1.2.1 hk.1.2.2 hd hb fun x hx => hlt x (List.mem_append_left _ hx), Fh hl hb hk.2 hrest fun x hx => hlt x (List.mem_append_right _ hx), rfl⟩
 | [], _ :: _, _, _, _, h, _, _ => h.elim
 | _ :: _, [], _, _, _, h, _, _ => h.elim
theorem UG (hl : laidOutB P = true) {f : FuncId} {fn : Func} (hf : P.funcs[f]? = some fn) (hb : fn.body.isNone = false) {ks : List PK} {ts : List TypeId} (hk : qE P ks ts) {args : Array Value} {ds : List (DataW H)} {p : List MemPlace}
  (hA : DataW.TrodAll enc P W 0 (fun _ => true) true ts args.toList ds p) (hv : ∀ (j : Nat) t v, ts[j]? = some t → args[j]? = some v → Value.okWide P W .any base t v) (hlt : ∀ x ∈ p, x.block < W.heap.size) (hF : ∀ as, zy ks as → aC P f 0 as [] ⟨.bool true, [], []⟩) :
  Calls P f args W fun e W' => e = .returned (.bool true) ∧ Below W.heap.size W W' ∧ DataW.TrodAll enc P W' 0 (fun b => decide (b < W.heap.size)) true ts args.toList ds p := by
 obtain ⟨as, h1, h2⟩ := EO hk hA fun j t v h1 h2 => hv j t v h1 (by simpa using h2)
 obtain ⟨_, hF⟩ := hF as h1 trivial
 have hrel : aW ⟨fun _ => False, W, fun _ => False, aQ⟩ [] (fun _ => False) aQ W :=
  { obj := fun k o h => by simp [look] at h, cE := fun k o h => by simp [look] at h, inj := fun k k' o o' b N N' h => by simp [look] at h, dom := fun k x h => by simp [aQ] at h, keep := fun k x h => h, lt := fun k b N h => by simp [aQ] at h, os := rfl, tape := rfl, output := rfl, size := Nat.le_refl _, block := fun _ _ _ => rfl, fA := fun b h => h.elim, new := fun k o b N h => by simp [look] at h }
 have hM : aI ⟨fun _ => False, W, fun _ => False, aQ⟩ [] aQ = fun _ => False := by
  funext b
  simp [aI, look]
 have hinv := hF ⟨fun _ => False, W, fun _ => False, aQ⟩ (fun _ => False) (fun _ => True) aQ W _ rfl (fun b h => h.elim) hrel (fun k h => h.elim) (fun k _ _ => ⟨id, trivial⟩) (by rw [hM]; exact h2)
 rcases hinv with ⟨fn', g1, g2, g3, g4⟩ | ⟨x, g1, _⟩
 ·have g5 := g4
  rw [show args.toList.toArray = args from by simp] at g5
  refine g5.mono fun e W' ⟨x, he, hx⟩ => ?_
  obtain ⟨β', q1, q2, q3⟩ := hx
  have := q3.bool
  subst this
  have hbl : Below W.heap.size W W' := ⟨q1.os, q1.tape, q1.output, q1.size, fun k hk => q1.block k hk id⟩
  exact ⟨he, hbl, Fh hl hbl hk hA hlt⟩
 ·exfalso
  simp only [callFunc, Sem.run_bind, run_program, Result.andThen_ok, hf, hb, Bool.false_eq_true, if_false] at g1
  split at g1 <;> simp at g1
end
end Go.Am
