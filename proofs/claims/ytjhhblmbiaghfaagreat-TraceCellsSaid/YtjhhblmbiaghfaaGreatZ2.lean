/- aW of functions that are handed objects to write to, or give back such; loops by what is seen. -/
import Derived.Test.YtjhhblmbiaghfaaGreatZ1
import Derived.ProofKit
import Derived.ChangeSlices
set_option linter.unusedVariables false
namespace Go.Am
open AV
theorem bP.length {M : Nat → Prop} {w : World} {β : aL} : ∀ {us : List AV} {xs : List Value}, bP M w β us xs → us.length = xs.length
 | [], [], _ => rfl
 | _ :: _, _ :: _, h => by simp [bP.length h.2]
 | [], _ :: _, h => h.elim
 | _ :: _, [], h => h.elim
theorem bP.weak {c c' : Ctx} {β β2 : aL} {w : World} {ρ : Nat → Option Nat} {M M' : Nat → Prop} (hM : ∀ b, M' b → M b) (hβ : ∀ k2 k1, ρ k2 = some k1 → β2 k2 = β k1) : ∀ {us vs : List AV} {xs : List Value}, eO ρ us vs → bP M w β us xs → bP M' w β2 vs xs
 | [], [], [], _, _ => trivial
 | u :: us, v :: vs, x :: xs, h, hv => ⟨hv.1.weak hM hβ h.1.2, bP.weak (c := c) (c' := c') hM hβ h.2 hv.2⟩
 | [], _ :: _, _, h, _ => h.elim
 | _ :: _, [], _, h, _ => h.elim
 | _ :: _, _ :: _, [], _, h => h.elim
 | [], [], _ :: _, _, h => h.elim
theorem SV {nx : Nat} {rl : List (Nat × Nat)} (hr : gU nx rl = true) : ∀ a b k, aU rl a = some k → aU rl b = some k → a = b := by
 intro a b k ha hb
 have := List.all_eq_true.1 hr _ (nA ha)
 simp only [Bool.and_eq_true, decide_eq_true_eq] at this
 simpa using List.all_eq_true.1 this.2 _ (nA hb)
theorem Ft {nx : Nat} {rl : List (Nat × Nat)} (hr : gU nx rl = true) {a k : Nat} (ha : aU rl a = some k) : a < nx := by
 have := List.all_eq_true.1 hr _ (nA ha)
 simp only [Bool.and_eq_true, decide_eq_true_eq] at this
 exact this.1
theorem Ot {M : Nat → Prop} {w : World} {β : aL} {us : List AV} {xs : List Value} (h : bP M w β us xs) : bn M w β (ou us) (if h : xs.length = 1 then xs.toArray[0]'(by simpa using (show 0 < xs.length by omega)) else .tuple xs.toArray) := by
 have hl := h.length
 match us, xs, h, hl with
 | [], [], _, _ => exact ⟨[], rfl, trivial⟩
 | [u], [x], h, _ => exact h.1.bz
 | u :: u' :: us, x :: x' :: xs, h, _ => simp only [List.length_cons, Nat.add_eq_right, Nat.add_eq_zero_iff, Nat.succ_ne_zero, and_false, dite_false]; exact ⟨_, rfl, h⟩
section core
variable {P : Program} {T : Types}
structure AI (T : Types) (fn : Func) (τ : Nat → Option Nat) (pre : aB) (r : cC) (s : aE) : Prop where
 ends : Ends T fn r.res s
 AR : ∀ k o, look k (bT (eg r.post) pre) = some o → ∃ k1 o1, τ k = some k1 ∧ look k1 s.store = some o1 ∧ o1.row = false ∧ ct τ o1 o
structure zl (T : Types) (fn : Func) (τ : Nat → Option Nat) (pre : aB) (r : cC) (s : aE) : Prop where
 ends : ∃ vs q us, fC T s fn.results.toList = some (vs, q) ∧ ay q ∧ eO τ vs us ∧ r.res = ou us
 AR : ∀ k o, look k (bT (eg r.post) pre) = some o → ∃ k1 o1, τ k = some k1 ∧ look k1 s.store = some o1 ∧ ct τ o1 o
structure tr (rl : List (Nat × Nat)) (K : Nat) (pre : aB) (τ : Nat → Option Nat) : Prop where
 inj : ∀ a b k, τ a = some k → τ b = some k → a = b
 dom : ∀ k a, τ k = some a → aU rl a = some k ∨ (K ≤ k ∧ k < K + bY)
theorem lZ (hT : dn P T) {f : FuncId} {fn : Func} {x : Code} (hf : aO P f fn x) {args args0 : List AV} {pre pre0 : aB} {r : cC} {K nx : Nat} (rl : List (Nat × Nat)) (hlen : args0.length ≤ fn.ntmps) (hr : gU nx rl = true)
  (ha : eO (aU rl) args args0) (hp : mu (aU rl) pre pre0) (hrl : ∀ a k, aU rl a = some k → ∃ o, look k pre = some o)
  (hpost : ∀ k o, look k r.post = some o → (∃ o', look k pre = some o') ∨ (K ≤ k ∧ k < K + bY))
  (h : r.need → ∀ c : Ctx, (∀ k x, c.k0 k = some x → (aU rl k).isSome = true) → aq P c fn.ntmps x ⟨aN 0 args0, pre0, nx⟩ fun e s' => (e = .normal ∨ e = .ret) ∧ ∃ τ, tr rl K pre τ ∧ (AI T fn τ pre r s' ∨ zl T fn τ pre r s')) : aC P f K args pre r := by
 intro need
 refine ⟨hpost, fun c D D' β w vs hw0 hMw hrel hD hK hv => .inl ⟨fn, hf.get, hf.name, by simp [hf.body], ?_⟩⟩
 have hobj0 := zP hp
 have hβ0 : ∀ k2 k1, aU rl k2 = some k1 → (fun a => (aU rl a).bind β) k2 = β k1 := fun k2 k1 h => by simp [h]
 have hW : bg { c with k0 := fun a => (aU rl a).bind β } pre0 (fun k => k < nx) (fun a => (aU rl a).bind β) w := by
  refine hrel.weak (c' := { c with k0 := fun a => (aU rl a).bind β }) (ρ := aU rl) rfl rfl rfl (SV hr) (fun k o h => .inl (hobj0 k o h)) hβ0 (fun k2 k1 h => Ft hr h) (fun k2 x hk => ?_) (fun k2 b N hk => ?_) (fun k x hk => hk)
  ·cases h1 : aU rl k2 with
   | none => simp [h1] at hk
   | some k1 => exact Ft hr h1
  ·cases h1 : aU rl k2 with
   | none => simp [h1] at hk
   | some k1 => simp [h1] at hk; exact hrel.lt k1 b N hk
 have hv0 : bP (aI { c with k0 := fun a => (aU rl a).bind β } pre0 (fun a => (aU rl a).bind β)) w (fun a => (aU rl a).bind β) args0 vs :=
  hv.weak (c := c) (c' := c) (ρ := aU rl) (yO rfl (fun k o h => .inl (hobj0 k o h)) hβ0) hβ0 ha
 have hl0 := hv0.length
 have hstart : Rel { c with k0 := fun a => (aU rl a).bind β } fn.ntmps (fun k => k < nx) (aN 0 args0) pre0 { tmps := vs.toArray ++ Array.replicate (fn.ntmps - vs.toArray.size) undef, defers := [] } w := by
  refine ⟨rfl, by simp; omega, _, hW, ?_⟩
  have := BS (pre := #[]) (post := Array.replicate (fn.ntmps - vs.toArray.size) undef) hv0 rfl
  simpa using this
 refine calls_of_wp hf.get hf.body (wp_mono (h need { c with k0 := fun a => (aU rl a).bind β } (fun k x hk => by
  cases h1 : aU rl k with
  | none => simp [h1] at hk
  | some k1 => rfl) _ w hstart) ?_)
 rintro e a' w' ⟨ae, s', rfl, hr', hex, τ, hτ, hends⟩
 -- what the end gives, in the function's own keys
 have hfin : a'.defers = [] ∧ ∃ x β1 st1, (results fn a'.tmps).run P w' = .ok x w' ∧ bg { c with k0 := fun a => (aU rl a).bind β } st1 (fun k => k < s'.next) β1 w' ∧
   (∀ k o, look k (bT (eg r.post) pre) = some o → ∃ k1 o1, τ k = some k1 ∧ look k1 st1 = some o1 ∧ ct τ o1 o) ∧
   bn (aI { c with k0 := fun a => (aU rl a).bind β } st1 β1) w' (fun k => (τ k).bind β1) r.res x := by
  rcases hends with hends | hends
  ·obtain ⟨hdef, x, β1, st1, hrun, hw1, hvx, hrow⟩ := Gd hT hends.ends hr'
   refine ⟨hdef, x, β1, st1, hrun, hw1, fun k o hk => ?_, hvx.mono (fun b o h1 h2 => ⟨h2, h1⟩) fun k x hk => by simp [aR] at hk⟩
   obtain ⟨k1, o1, g1, g2, g3, g4⟩ := hends.AR k o hk
   exact ⟨k1, o1, g1, hrow k1 o1 g2 g3, g4⟩
  ·obtain ⟨a1, a2, β1, a3, a4⟩ := hr'
   obtain ⟨vs1, q, us, h1, hq, h2, h3⟩ := hends.ends
   obtain ⟨xs, hxs, hv, hlen⟩ := BC hT a3 a4 (g := fun x => match x with
    | ResultVar.tmp t => pure (a'.tmps.getD t undef)
    | ResultVar.cell r t => do let y ← asAddr (a'.tmps.getD r undef); loadVar t y) (fun _ => rfl) (fun _ _ => rfl) h1 hq
   refine ⟨a1, if h : xs.length = 1 then xs.toArray[0]'(by simpa using (show 0 < xs.length by omega)) else .tuple xs.toArray, β1, s'.store, ?_, a3, hends.AR, ?_⟩
   ·have key : results fn a'.tmps = (do
      let vs ← fn.results.mapM fun x => match x with
       | ResultVar.tmp t => pure (a'.tmps.getD t undef)
       | ResultVar.cell r t => do let y ← asAddr (a'.tmps.getD r undef); loadVar t y
      pure (if h : vs.size = 1 then vs[0] else Value.tuple vs)) := rfl
    rw [key, Sem.run_bind, Array.mapM_eq_mapM_toList, Sem.run_map, hxs]
    simp only [Result.andThen_ok, Sem.run_pure]
    congr 1
   ·rw [h3]
    exact Ot (hv.weak (c := c) (c' := c) (ρ := τ) (fun _ h => h) (fun k2 k1 h => by simp [h]) h2)
 obtain ⟨hdef, x, β1, st1, hrun, hw1, hobj1, hvx⟩ := hfin
 have hkeep1 : ∀ k a, τ k = some a → ∀ y, β k = some y → β1 a = some y := by
  intro k a hka y hy
  rcases hτ.dom k a hka with h1 | ⟨h1, h2⟩
  ·exact hw1.keep a y (by simp only [h1, Option.bind_some]; exact hy)
  ·exact absurd (hrel.dom k y hy) (hK k h1 h2).1
 have hβ2 : ∀ k2 k1, τ k2 = some k1 → (fun k => match τ k with
   | some a => β1 a
   | none => β k) k2 = β1 k1 := fun k2 k1 h => by simp [h]
 have hW2 : bg c (bT (eg r.post) pre) D' (fun k => match τ k with
   | some a => β1 a
   | none => β k) w' := by
  have hd2 : ∀ k2 a, τ k2 = some a → D' k2 := fun k2 a ha => by
   rcases hτ.dom k2 a ha with h1 | ⟨h1, h2⟩
   ·obtain ⟨o, ho⟩ := hrl a k2 h1
    cases hb : β k2 with
    | some x => exact hD _ (hrel.dom k2 _ hb)
    | none => exact hD _ (hrel.cO k2 o ho hb).2
   ·exact (hK k2 h1 h2).2
  refine hw1.weak (c' := c) (ρ := τ) rfl rfl rfl hτ.inj (fun k o h => .inl (hobj1 k o h)) hβ2 hd2 (fun k2 y hk => ?_) (fun k2 b N hk => ?_) (fun k y hk => ?_)
  ·split at hk
   ·rename_i a ha
    exact hd2 k2 a ha
   ·exact hD _ (hrel.dom k2 y hk)
  ·split at hk
   ·exact hw1.lt _ b N hk
   ·exact Nat.lt_of_lt_of_le (hrel.lt k2 b N hk) (by have := hw1.size; rw [← hw0]; exact this)
  ·have hy := hrel.keep k y hk
   split
   ·rename_i a ha
    exact hkeep1 k a ha y hy
   ·exact hy
 have hO : ee c pre D' β w (eg r.post) r.res x w' := by
  refine ⟨_, hW2, ⟨fun b o hb ho => ?_, fun k y hk => ?_⟩, ?_⟩
  ·have hlt : b < c.w0.heap.size := by rw [hw0]; exact zx ho
   have hmw : ¬ c.Mw b := fun hm => hb (hMw b hm)
   refine ⟨?_, ?_⟩
   ·rw [hw1.block b hlt hmw]
    show c.w0.heap[b]? = _
    rw [hw0]; exact ho
   ·rintro (hm | ⟨k, o', N, h1, h2, h3⟩)
    ·exact hb (.inl hm)
    ·rcases hW2.new k o' b N h1 h2 h3 with h4 | h4
     ·omega
     ·exact hmw h4
  ·split
   ·rename_i a ha
    exact hkeep1 k a ha y hk
   ·exact hk
  ·refine hvx.mono (fun b o h1 h2 => ⟨h2, fun h3 => h1 (yO (c := { c with k0 := fun a => (aU rl a).bind β }) rfl (fun k o h => .inl (hobj1 k o h)) hβ2 b h3)⟩) (fun k y hk => ?_)
   cases h1 : τ k with
   | none => simp [h1] at hk
   | some a => simpa [h1] using hk
 rcases hex with rfl | rfl
 ·exact ⟨hdef, x, hrun, x, rfl, hO⟩
 ·exact ⟨hdef, x, hrun, x, rfl, hO⟩
end core
def gD (nx : Nat) (vs : List AV) : Bool := (vs.all fun v => !v.isTuple) && (aX vs).all fun k => decide (k < nx)
def fe (nx : Nat) : aB → Prop
 | [] => True
 | (k, o) :: l => (k < nx ∧ ∀ i, i < o.len → keys (o.f i) = []) ∧ fe nx l
theorem Gj {nx : Nat} : ∀ {os : aB}, fe nx os → ∀ {k : Nat} {o : aD}, look k os = some o → k < nx ∧ ∀ i, i < o.len → keys (o.f i) = []
 | [], _, k, o, h => by simp [look] at h
 | (j, b) :: l, h, k, o, hk => by
  simp only [look] at hk
  split at hk
  ·rename_i he
   have : j = k := by simpa using he
   subst this
   simp only [Option.some.injEq] at hk
   subst hk
   exact h.1
  ·exact Gj h.2 hk
theorem FU {nx : Nat} {u : AV} (hk : ∀ k ∈ keys u, k < nx) : fG (fun k => if k < nx then some k else none) u u := by
 refine ⟨rfl, fun M w β cs hc => ?_⟩
 have gen : ∀ {l : List AV} {cs : List Value}, aH M w β l cs → (∀ k ∈ aX l, k < nx) → aH M w (fun k => (if k < nx then some k else none).bind β) l cs := by
  intro l cs h
  generalize hβ : β = β' at h
  induction h with
  | nil => exact fun _ => .nil
  | bool _ ih => exact fun h => .bool (ih hβ (by simpa [aX, keys] using h))
  | int _ ih => exact fun h => .int (ih hβ (by simpa [aX, keys] using h))
  | rat hs h1 h2 _ _ _ ih => exact fun h => .rat hs h1 h2 (ih hβ (by simpa [aX, keys] using h))
  | mag h1 h2 _ ih => exact fun h => .mag h1 h2 (ih hβ (by simpa [aX, keys] using h))
  | agg _ _ ih1 ih2 => exact fun h => .agg (ih1 hβ fun k hk => h k (by simp only [aX, keys]; exact List.mem_append_left _ hk)) (ih2 hβ fun k hk => h k (by simp only [aX]; exact List.mem_append_right _ hk))
  | ah h1 h2 h3 h4 h5 _ _ ih => exact fun h => .ah h1 h2 h3 h4 h5 (ih hβ (by simpa [aX, keys] using h))
  | cX hq h1 h2 h3 h4 h5 _ _ ih => exact fun h => .cX hq h1 h2 h3 h4 h5 (ih hβ (by simpa [aX, keys] using h))
  | vnil _ ih => exact fun h => .vnil (ih hβ (by simpa [aX, keys] using h))
  | void hx _ ih => exact fun h => .void hx (ih hβ (by simpa [aX, keys] using h))
  | str _ ih => exact fun h => .str (ih hβ (by simpa [aX, keys] using h))
  | bp h1 h2 _ _ ih => exact fun h => .bp h1 h2 (ih hβ (by simpa [aX, keys] using h))
  | @ptr _ k _ _ _ _ _ _ _ _ hk _ ih =>
   intro h
   have : k < nx := h k (by simp [aX, keys])
   exact .ptr (by simp only [this, if_true, Option.bind_some]; rw [← hβ] at hk ⊢; exact hk) (ih hβ fun k hk => h k (by simp only [aX]; exact List.mem_append_right _ hk))
  | @own _ k _ _ _ _ _ _ _ _ _ hk h1 h2 h4 h3 _ ih =>
   intro h
   have : k < nx := h k (by simp [aX, keys])
   exact .own (by simp only [this, if_true, Option.bind_some]; rw [← hβ] at hk ⊢; exact hk) h1 h2 h4 h3 (ih hβ fun k hk => h k (by simp only [aX]; exact List.mem_append_right _ hk))
  | own0 h3 _ ih => exact fun h => .own0 h3 (ih hβ fun k hk => h k (by simp only [aX]; exact List.mem_append_right _ hk))
  | func _ hc _ ih1 ih2 => exact fun h => .func (ih1 hβ fun k hk => h k (by simp only [aX, keys]; exact List.mem_append_left _ hk)) hc (ih2 hβ fun k hk => h k (by simp only [aX]; exact List.mem_append_right _ hk))
 exact gen hc fun k h => hk k (by rw [AS] at h; exact h)
theorem I6 {nx : Nat} : ∀ {vs : List AV}, gD nx vs = true → eO (fun k => if k < nx then some k else none) vs vs
 | [], _ => trivial
 | v :: vs, h => by
  simp only [gD, List.all_cons, aX, List.all_append, Bool.and_eq_true, Bool.not_eq_true'] at h
  obtain ⟨⟨h1, h2⟩, h3, h4⟩ := h
  refine ⟨⟨h1, FU fun k hk => by simpa using List.all_eq_true.1 h3 k hk⟩, I6 ?_⟩
  simp only [gD, Bool.and_eq_true]
  exact ⟨h2, h4⟩
theorem kJ {c : Ctx} {s' : aE} {ls : List Nat} {vs : List AV} {os : aB} {nx : Nat} (hv : aQ ls s' = some (vs, os)) (h0 : ∀ k x, c.k0 k = some x → k < nx) (hok : gD nx vs = true) (ho : fe nx os) : ∃ ρ, Le c ρ s' ⟨az ls vs, os, nx⟩ := by
 unfold aQ at hv
 simp only [Option.some.injEq, Prod.mk.injEq] at hv
 obtain ⟨rfl, rfl⟩ := hv
 refine ⟨fun k => if k < nx then some k else none, ?_, B5 (I6 hok), fun k2 o2 hk => ?_, fun k2 k1 hk => ?_, fun k x hk => by simp [h0 k x hk]⟩
 ·intro a b k ha hb
  split at ha <;> split at hb <;> simp_all
 ·obtain ⟨h1, h2⟩ := Gj ho hk
  refine .inl ⟨k2, o2, by simp [h1], ?_, ⟨rfl, rfl, rfl, rfl, fun i hi => FU fun k hk => by rw [h2 i hi] at hk; simp at hk⟩⟩
  rw [kn] at hk
  split at hk
  ·exact hk
  ·simp at hk
 ·split at hk
  ·assumption
  ·simp at hk
section rules
variable {P : Program} {c : Ctx} {nt : Nat} {s : aE} {Q : ak → aE → Prop} {T : Types} {Γ : aW}
theorem aq.fl {x y : Code} {i : Nat} (hx : x = .block i (.loop y)) (ls : List Nat) (nx : Nat) (h0 : ∀ k x, c.k0 k = some x → k < nx) {α : Type} (vs : α → List AV) (os : α → aB) (hok : ∀ a, gD nx (vs a) = true) (ho : ∀ a, fe nx (os a)) (I : α → Prop) (μ : α → Nat) (j : α)
  (hv : aQ ls s = some (vs j, os j)) (hI : I j)
  (round : ∀ j, I j → aq P c nt y ⟨az ls (vs j), os j, nx⟩ (cS (fun s' => ∃ k, aQ ls s' = some (vs k, os k) ∧ I k ∧ μ k < μ j) (inBlock i Q))) : aq P c nt x s Q :=
 aq.fz hx (fun a => ⟨az ls (vs a), os a, nx⟩) I μ j (kJ hv h0 (hok j) (ho j)) hI fun j hj => (round j hj).mono fun e s' h => by
  cases e with
  | normal =>
   obtain ⟨k, h1, h2, h3⟩ := h
   exact ⟨k, kJ h1 h0 (hok k) (ho k), h2, h3⟩
  | exit i => exact h
  | ret => exact h
theorem aq.gZ {x : Code} {ls : List Nat} {nx : Nat} {vs : List AV} {os : aB} (hv : aQ ls s = some (vs, os)) (h0 : ∀ k x, c.k0 k = some x → k < nx) (hok : gD nx vs = true) (ho : fe nx os) (h : aq P c nt x ⟨az ls vs, os, nx⟩ Q) : aq P c nt x s Q :=
 .jB (kJ hv h0 hok ho) h
theorem aA.gZ {l : List Code} {ls : List Nat} {nx : Nat} {vs : List AV} {os : aB} (hv : aQ ls s = some (vs, os)) (h0 : ∀ k x, c.k0 k = some x → k < nx) (hl : l.isEmpty = false) (hok : gD nx vs = true) (ho : fe nx os) (h : aA P c nt l ⟨az ls vs, os, nx⟩ Q) : aA P c nt l s Q :=
 .weak hl (kJ hv h0 hok ho) h
theorem aA.xQ (hT : dn P T) (hΓ : br P Γ) (hm : P.follows .mixedOrders = true) {fn : Func} {forks : List Nat} (n : Nat) {l : List Code} {ls : List Nat} {nx : Nat} {vs : List AV} {os : aB} (hv : aQ ls s = some (vs, os)) (h0 : ∀ k x, c.k0 k = some x → k < nx)
  (hok : gD nx vs = true) (ho : fe nx os) {t : af (List AV)} (hc : b9 T Γ forks n fn l ⟨az ls vs, os, nx⟩ = some t) (hd : (l.all fun x => bE nt x) = true) (hl : l.isEmpty = false) {res : AV} (h : t.all fun _ us => ef us res) : aA P c nt l s (Fin T fn res) :=
 .gZ hv h0 hl hok ho (.fin hT hΓ hm n hc hd h)
theorem aA.dB (hT : dn P T) (hΓ : br P Γ) (hm : P.follows .mixedOrders = true) {forks : List Nat} (n : Nat) {l : List Code} {ls : List Nat} {nx : Nat} {vs : List AV} {os : aB} (hv : aQ ls s = some (vs, os)) (h0 : ∀ k x, c.k0 k = some x → k < nx)
  (hok : gD nx vs = true) (ho : fe nx os) (ls2 : List Nat) {t : af (List AV × aB)} (hc : aF T Γ forks n ls2 l ⟨az ls vs, os, nx⟩ = some t) (hd : (l.all fun x => bE nt x) = true) (hl : l.isEmpty = false) (h : t.all fun e v => ∀ s', aQ ls2 s' = some v → Q e s') : aA P c nt l s Q :=
 .gZ hv h0 hl hok ho (.aS hT hΓ hm n ls2 hc hd h)
theorem aq.dB (hT : dn P T) (hΓ : br P Γ) (hm : P.follows .mixedOrders = true) {x : Code} {forks : List Nat} (n : Nat) {ls : List Nat} {nx : Nat} {vs : List AV} {os : aB} (hv : aQ ls s = some (vs, os)) (h0 : ∀ k x, c.k0 k = some x → k < nx)
  (hok : gD nx vs = true) (ho : fe nx os) (ls2 : List Nat) {t : af (List AV × aB)} (hc : aF T Γ forks n ls2 [x] ⟨az ls vs, os, nx⟩ = some t) (hd : bE nt x = true) (h : t.all fun e v => ∀ s', aQ ls2 s' = some v → Q e s') : aq P c nt x s Q :=
 .gZ hv h0 hok ho (.aS hT hΓ hm n ls2 hc hd h)
end rules
theorem o5 {T : Types} {fn : Func} {ls : List Nat} {vs us ws : List AV} {os ps pre : aB} {s' : aE} {τ : Nat → Option Nat} {r : cC} (hv : aQ ls s' = some (vs, os)) (hr : jh (az ls vs) fn.results.toList = some us) (hle : eO τ us ws) (hres : r.res = ou ws)
  (he : bT (eg r.post) pre = ps) (ho : mu τ os ps) : zl T fn τ pre r s' := by
 unfold aQ at hv
 simp only [Option.some.injEq, Prod.mk.injEq] at hv
 obtain ⟨rfl, rfl⟩ := hv
 refine ⟨⟨us, [], ws, Ae hr, trivial, hle, hres⟩, fun k o hk => ?_⟩
 rw [he] at hk
 obtain ⟨k1, o1, g1, g2, g3⟩ := zP ho k o hk
 refine ⟨k1, o1, g1, ?_, g3⟩
 rw [kn] at g2
 split at g2
 ·exact g2
 ·simp at g2
def qY (g : Nat → List AV → Option cC) : Spec := fun K args pre => match dj pre args with
 | some as => g K as
 | none => none
theorem BP {P : Program} {f : FuncId} {g : Nat → List AV → Option cC} (h : ∀ K args r, aX args = [] → g K args = some r → aC P f K args [] r) :
  ∀ K args pre r, qY g K args pre = some r → aC P f K args pre r := by
 intro K args pre r hg
 unfold qY at hg
 split at hg
 ·rename_i as has
  have hf := h K as r (sj has) hg
  intro need
  obtain ⟨h1, h2⟩ := hf need
  refine ⟨fun k o ho => .inr ((h1 k o ho).resolve_left fun ⟨o', h⟩ => by simp [look] at h), fun c D D' β w vs hw0 hMw hrel hD hK hv => ?_⟩
  have hv' : bP (aI c pre β) w aR as vs := yZ hrel (fun _ _ h => h) has hv
  exact (hf.frame (pre' := pre) (fun k o hk => by simp [look] at hk)).use need hrel (fun _ _ h => h) hD hK (hv'.mono (fun b o h1 h2 => ⟨h2, h1⟩) fun k x hx => by simp [aR] at hx)
 ·simp at hg
theorem BI {K k a : Nat} {pre : aB} (h : K ≤ k ∧ k < K + bY) : tr [] K pre (aU [(k, a)]) :=
 ⟨fun x y z hx hy => by
  simp only [aU, look] at hx hy
  split at hx <;> split at hy <;> simp_all, fun x y hx => by
  simp only [aU, look] at hx
  split at hx
  ·rename_i he
   have : k = x := by simpa using he
   subst this
   exact .inr h
  ·simp at hx⟩
theorem tV {K k a : Nat} {pre : aB} : tr [(a, k)] K pre (aU [(k, a)]) :=
 ⟨fun x y z hx hy => by
  simp only [aU, look] at hx hy
  split at hx <;> split at hy <;> simp_all, fun x y hx => by
  simp only [aU, look] at hx ⊢
  split at hx
  ·rename_i he
   have : k = x := by simpa using he
   subst this
   simp only [Option.some.injEq] at hx
   subst hx
   exact .inl (by simp)
  ·simp at hx⟩
theorem gT {c : Ctx} (h : c.k0 = aR) {nx : Nat} : ∀ k x, c.k0 k = some x → k < nx := fun k x hk => by rw [h] at hk; simp [aR] at hk
theorem cG {ls : List Nat} {s' : aE} {vs us : List AV} {os ps : aB} (hv : aQ ls s' = some (vs, os)) (h1 : vs = us) (h2 : os = ps) : aQ ls s' = some (us, ps) := by rw [hv, h1, h2]
end Go.Am

/- Rational numbers: signs, sizes, quotients of natural numbers. -/
namespace Go.Am
open AV
def eo (b : Bool) (n : Nat) : Int := if b then -(n : Int) else n
def sQ (b : Bool) (n d : Nat) : Rat := mkRat (eo b n) d
def bW (q : Rat) : Nat := max (bf q.num.natAbs) (bf q.den)
theorem zC {b : Bool} {n : Nat} : (eo b n).natAbs = n := by unfold eo; split <;> simp
theorem Pk {b : Bool} : eo b 0 = 0 := by unfold eo; split <;> simp
theorem Rn {b : Bool} {n g : Nat} (h : g ∣ n) : eo b n / (g : Int) = eo b (n / g) := by
 unfold eo
 split
 ·rw [Int.neg_ediv_of_dvd (Int.natCast_dvd_natCast.2 h)]; simp
 ·simp
theorem gb {q : Rat} : q < 0 ↔ q.num < 0 := by rw [Rat.lt_iff]; simp
theorem xB {b : Bool} {n d : Nat} (hd : d ≠ 0) : (sQ b n d).num = eo b (n / Nat.gcd n d) := by
 unfold sQ
 rw [Rat.num_mkRat, if_neg hd, zC, Nat.gcd_comm, Rn (Nat.gcd_dvd_left n d)]
theorem DH {b : Bool} {n d : Nat} (hd : d ≠ 0) : (sQ b n d).den = d / Nat.gcd n d := by
 unfold sQ
 rw [Rat.den_mkRat, if_neg hd, zC, Nat.gcd_comm]
theorem Ax {b : Bool} {d : Nat} : sQ b 0 d = 0 := by unfold sQ; rw [Pk]; simp
theorem Tk {b : Bool} {n d : Nat} (hn : n ≠ 0) (hd : d ≠ 0) : decide (sQ b n d < 0) = b := by
 have h1 : 0 < n / Nat.gcd n d := Nat.div_pos (Nat.le_of_dvd (by omega) (Nat.gcd_dvd_left n d)) (Nat.gcd_pos_of_pos_left _ (by omega))
 cases b
 ·simp only [decide_eq_false_iff_not, gb, xB hd, eo]; simp; omega
 ·simp only [decide_eq_true_eq, gb, xB hd, eo]; simp; omega
theorem uQ {q : Rat} : Sz q (bW q) :=
 ⟨Nat.lt_of_lt_of_le (fX.1 (Nat.le_refl _)) (Nat.pow_le_pow_right (by omega) (Nat.le_max_left _ _)), Nat.lt_of_lt_of_le (fX.1 (Nat.le_refl _)) (Nat.pow_le_pow_right (by omega) (Nat.le_max_right _ _))⟩
theorem ga {q r : Rat} {n k : Nat} (h : q = r) (hs : Sz r k) : bq (.rat q n) (.rat r k) := by
 subst h
 refine ⟨rfl, fun M w cs hc => ?_⟩
 cases hc with
 | rat _ h1 h2 h3 => cases h3; exact .rat hs h1 h2 .nil
theorem Cg {b : Bool} {n d k : Nat} (hd : d ≠ 0) (hn : n < 2 ^ k) (hdk : d < 2 ^ k) : Sz (sQ b n d) k := by
 refine ⟨?_, ?_⟩
 ·rw [xB hd, zC]; exact Nat.lt_of_le_of_lt (Nat.div_le_self _ _) hn
 ·rw [DH hd]; exact Nat.lt_of_le_of_lt (Nat.div_le_self _ _) hdk
theorem iz (q : Rat) : sQ (decide (q < 0)) q.num.natAbs q.den = q := by
 unfold sQ
 have : eo (decide (q < 0)) q.num.natAbs = q.num := by
  unfold eo
  by_cases h : q < 0
  ·have := gb.1 h; simp [h]; omega
  ·have : ¬ q.num < 0 := fun h' => h (gb.2 h')
   simp [h]; omega
 rw [this, Rat.mkRat_self]
theorem pU {b : Bool} {x y n d k : Nat} (hn : n ≠ 0) (hd : d ≠ 0) (hx : x = n / Nat.gcd n d) (hy : y = if d / Nat.gcd n d = 1 then 0 else d / Nat.gcd n d) (hs : Sz (sQ b n d) k) : bq (.agg [.bool b, .mag x, .mag y]) (.rat (sQ b n d) k) :=
 qx hs (Tk hn hd).symm (by rw [xB hd, zC, hx]) (by rw [DH hd, hy])
theorem mW {k : Nat} : bq (.agg [.bool false, .mag 0, .mag 0]) (.rat 0 (k + 1)) :=
 qx ⟨by simp [Nat.two_pow_pos], by simp⟩ (by decide) rfl rfl
section down
variable {P : Program} {c : Ctx} {nt : Nat} {s : aE} {Q : ak → aE → Prop} {T : Types}
def dy (c : Ctx) (Q : ak → aE → Prop) (e : ak) (s' : aE) : Prop := Q e s' ∨ ∃ s2 ρ, Le c ρ s' s2 ∧ Q e s2
theorem aq.down {x : Code} (h : aq P c nt x s (dy c Q)) : aq P c nt x s Q := by
 intro a w hr
 refine wp_mono (h a w hr) ?_
 rintro e a' w' ⟨ae, s', h1, h2, hq | ⟨s2, ρ, hle, hq⟩⟩
 ·exact ⟨ae, s', h1, h2, hq⟩
 ·exact ⟨ae, s2, h1, hle.rel h2, hq⟩
theorem v8 {fn : Func} {ls : List Nat} {vs : List AV} {os : aB} {nx : Nat} {s' : aE} {e : ak} {t : af (List AV)} {res : AV} (he : iA T fn e ⟨az ls vs, os, nx⟩ = some t) (hv : aQ ls s' = some (vs, os)) (h0 : ∀ k x, c.k0 k = some x → k < nx) (hok : gD nx vs = true) (ho : fe nx os)
  (h : t.all fun _ us => ef us res) : dy c (Fin T fn res) e s' := by
 obtain ⟨ρ, hle⟩ := kJ hv h0 hok ho
 exact .inr ⟨_, ρ, hle, wU he h⟩
theorem aA.gY (hT : dn P T) {Γ : aW} (hΓ : br P Γ) (hm : P.follows .mixedOrders = true) {fn : Func} {forks : List Nat} (n : Nat) {l : List Code} {ls : List Nat} {nx : Nat} {vs : List AV} {os : aB} (hv : aQ ls s = some (vs, os)) (h0 : ∀ k x, c.k0 k = some x → k < nx)
  (hok : gD nx vs = true) (ho : fe nx os) {t : af (List AV)} (hc : b9 T Γ forks n fn l ⟨az ls vs, os, nx⟩ = some t) (hd : (l.all fun x => bE nt x) = true) (hl : l.isEmpty = false) {res : AV} (h : t.all fun _ us => ef us res) : aA P c nt l s (dy c (Fin T fn res)) :=
 (aA.xQ hT hΓ hm n hv h0 hok ho hc hd hl h).mono fun _ _ h => .inl h
end down
theorem eW {P : Program} {T : Types} (hT : dn P T) {f : FuncId} {fn : Func} {x : Code} (hf : aO P f fn x) {args : List AV} {r : cC} (hk : aX args = []) (hlen : args.length ≤ fn.ntmps) (hpost : r.post = [])
  (h : r.need → ∀ c : Ctx, (∀ nx k x, c.k0 k = some x → k < nx) → aq P c fn.ntmps x ⟨aN 0 args, [], 0⟩ (dy c (Fin T fn r.res))) (K : Nat) (pre : aB) : aC P f K args pre r :=
 gA hT hf hk hlen hpost (fun need c h0 => .down (h need c fun _ => gT h0)) K pre
mutual
/-- What is known of the sizes of numbers in values. -/
def TW : AV → Prop
 | .rat q n => Sz q n
 | .agg l => oQ l
 | _ => True
def oQ : List AV → Prop
 | [] => True
 | a :: l => TW a ∧ oQ l
end
theorem aH.sz {M : Nat → Prop} {w : World} {β : aL} {l : List AV} {cs : List Value} (h : aH M w β l cs) : oQ l := by
 induction h with
 | nil => trivial
 | rat hs _ _ _ _ _ ih => exact ⟨hs, ih⟩
 | agg _ _ ih1 ih2 => exact ⟨ih1, ih2⟩
 | ah _ _ _ _ _ _ _ ih => exact ⟨trivial, ih⟩
 | cX _ _ _ _ _ _ _ _ ih => exact ⟨trivial, ih⟩
 | bp _ _ _ _ ih => exact ⟨trivial, ih⟩
 | func _ _ _ _ ih => exact ⟨trivial, ih⟩
 | _ => rename_i ih; exact ⟨trivial, ih⟩
theorem bP.sz {M : Nat → Prop} {w : World} {β : aL} : ∀ {l : List AV} {xs : List Value}, bP M w β l xs → oQ l
 | [], [], _ => trivial
 | a :: l, x :: xs, h => by
  obtain ⟨⟨cs, h1, _⟩, h2⟩ := h
  exact ⟨h1.sz.1, h2.sz⟩
 | [], _ :: _, h => h.elim
 | _ :: _, [], h => h.elim
theorem ZW {P : Program} {f : FuncId} {K : Nat} {args : List AV} {pre : aB} {r : cC} (hp : ∀ k o, look k r.post = some o → (∃ o', look k pre = some o') ∨ (K ≤ k ∧ k < K + bY)) (h : oQ args → aC P f K args pre r) : aC P f K args pre r :=
 fun need => ⟨hp, fun c D D' β w vs h1 h2 h3 h4 h5 hv => (h hv.sz need).2 c D D' β w vs h1 h2 h3 h4 h5 hv⟩
theorem iD {P : Program} {f : FuncId} {K : Nat} {args : List AV} {pre : aB} {v : AV} {l : List Prop} (h : oQ args → aC P f K args pre ⟨v, [], l⟩) : aC P f K args pre ⟨v, [], l⟩ :=
 ZW (fun k o hk => by simp [look] at hk) h
theorem gR {N n : Nat} (h : N < 2 ^ n) (hn : n < 2 ^ 44) : nl N < 2 ^ 40 := by
 have h1 : N < 2 ^ (32 * (n / 32 + 1)) := Nat.lt_of_lt_of_le h (Nat.pow_le_pow_right (by omega) (by omega))
 have := cw.2 h1
 omega
theorem Pe {q : Rat} : (if q.den = 1 then 0 else q.den) ≤ q.den := by split <;> omega
theorem Sz.gJ {q : Rat} {n : Nat} (h : Sz q n) (hn : n < 2 ^ 44) : nl q.num.natAbs < 2 ^ 40 ∧ nl q.den < 2 ^ 40 ∧ nl (if q.den = 1 then 0 else q.den) < 2 ^ 40 :=
 ⟨gR h.1 hn, gR h.2 hn, Nat.lt_of_le_of_lt (fo Pe) (gR h.2 hn)⟩
theorem Sz.pos {q : Rat} {n : Nat} (h : Sz q n) : 0 < n := by
 rcases Nat.eq_zero_or_pos n with h1 | h1
 ·subst h1; have := h.2; have := q.den_nz; omega
 ·exact h1
theorem Sz.DJ {q : Rat} {n m : Nat} (h : Sz q n) (hm : n ≤ m) : Sz q m :=
 ⟨Nat.lt_of_lt_of_le h.1 (Nat.pow_le_pow_right (by omega) hm), Nat.lt_of_lt_of_le h.2 (Nat.pow_le_pow_right (by omega) hm)⟩
theorem EA {a : Int} {d : Nat} : (mkRat a d).num.natAbs ≤ a.natAbs := by
 rw [Rat.num_mkRat]
 split
 ·simp
 ·rw [Int.natAbs_ediv_of_dvd]
  ·exact Nat.div_le_self _ _
  ·exact Int.ofNat_dvd_left.2 (Nat.gcd_dvd_right _ _)
theorem DI {a : Int} {d : Nat} (h : d ≠ 0) : (mkRat a d).den ≤ d := by
 rw [Rat.den_mkRat, if_neg h]
 exact Nat.div_le_self _ _
theorem Sz.add {q r : Rat} {n m : Nat} (h : Sz q n) (h' : Sz r m) : Sz (q + r) (n + m + 1) := by
 rw [Rat.add_def']
 have d0 : q.den * r.den ≠ 0 := Nat.mul_ne_zero q.den_nz r.den_nz
 have e : 2 ^ (n + m + 1) = 2 ^ n * 2 ^ m + 2 ^ n * 2 ^ m := by rw [Nat.pow_succ, Nat.pow_add]; omega
 have b1 : q.num.natAbs * r.den ≤ 2 ^ n * 2 ^ m := Nat.mul_le_mul (Nat.le_of_lt h.1) (Nat.le_of_lt h'.2)
 have b2 : r.num.natAbs * q.den < 2 ^ m * 2 ^ n := Nat.mul_lt_mul'' h'.1 h.2
 have b3 : q.den * r.den ≤ 2 ^ n * 2 ^ m := Nat.mul_le_mul (Nat.le_of_lt h.2) (Nat.le_of_lt h'.2)
 have b4 : 0 < 2 ^ n * 2 ^ m := Nat.mul_pos (Nat.two_pow_pos _) (Nat.two_pow_pos _)
 rw [Nat.mul_comm (2 ^ m)] at b2
 refine ⟨Nat.lt_of_le_of_lt EA ?_, Nat.lt_of_le_of_lt (DI d0) (by omega)⟩
 have b5 := Int.natAbs_add_le (q.num * r.den) (r.num * q.den)
 rw [Int.natAbs_mul, Int.natAbs_mul, Int.natAbs_natCast, Int.natAbs_natCast] at b5
 omega
theorem Sz.neg {q : Rat} {n : Nat} (h : Sz q n) : Sz (-q) n := by
 refine ⟨?_, ?_⟩
 ·rw [Rat.neg_num, Int.natAbs_neg]; exact h.1
 ·rw [Rat.neg_den]; exact h.2
theorem Sz.sub {q r : Rat} {n m : Nat} (h : Sz q n) (h' : Sz r m) : Sz (q - r) (n + m + 1) := by
 rw [Rat.sub_eq_add_neg]; exact h.add h'.neg
theorem Sz.mul {q r : Rat} {n m : Nat} (h : Sz q n) (h' : Sz r m) : Sz (q * r) (n + m) := by
 rw [Rat.mul_def']
 have d0 : q.den * r.den ≠ 0 := Nat.mul_ne_zero q.den_nz r.den_nz
 refine ⟨Nat.lt_of_le_of_lt EA ?_, Nat.lt_of_le_of_lt (DI d0) ?_⟩
 ·rw [Int.natAbs_mul, Nat.pow_add]; exact Nat.mul_lt_mul'' h.1 h'.1
 ·rw [Nat.pow_add]; exact Nat.mul_lt_mul'' h.2 h'.2
theorem Sz.inv {q : Rat} {n : Nat} (h : Sz q n) : Sz q⁻¹ n := by
 by_cases h0 : q = 0
 ·subst h0
  rw [Rat.inv_zero]
  exact h
 ·have hn : q.num ≠ 0 := fun h => h0 (Rat.num_eq_zero.1 h)
  refine ⟨?_, ?_⟩
  ·rw [Rat.num_inv, Int.natAbs_mul, Int.natAbs_natCast, Int.natAbs_sign_of_ne_zero hn, Nat.one_mul]; exact h.2
  ·rw [Rat.den_inv, if_neg hn]; exact h.1
theorem Sz.div {q r : Rat} {n m : Nat} (h : Sz q n) (h' : Sz r m) : Sz (q / r) (n + m) := by
 rw [Rat.div_def]; exact h.mul h'.inv
def dO (q : Rat) : Int := if q < 0 then -1 else if 0 < q then 1 else 0
def cB (q r : Rat) : Int := if q < r then -1 else if r < q then 1 else 0
end Go.Am

/- aW of functions that are handed a pointer to an object and leave it changed. -/
namespace Go.Am
open AV
def zd (T : Types) (fn : Func) (e : ak) (s : aE) : Option (af (List AV × Option aD)) :=
 match iA T fn e s with
 | some t => t.bind fun e us => some (.leaf e (us, look 0 s.store))
 | none => none
def vp (T : Types) (Γ : aW) (forks : List Nat) (n : Nat) (fn : Func) (x : Code) (s : aE) : Option (af (List AV × Option aD)) :=
 match cU T Γ forks n x s with
 | some t => t.bind (zd T fn)
 | none => none
theorem zR {P : Program} {T : Types} (hT : dn P T) {Γ : aW} (hΓ : br P Γ) (hm : P.follows .mixedOrders = true) {f : FuncId} {fn : Func} {x : Code} (hf : aO P f fn x) {k idx es off : Nat} {p : List Nat} {rest : List AV} {o2 o o' : aD} {res : AV} {l : List Prop}
  (hkr : aX rest = []) (hrt : (rest.all fun v => !v.isTuple) = true) (hlen : rest.length + 1 ≤ fn.ntmps) (ho : ∀ ρ, ct ρ o2 o) {forks : List Nat} (n : Nat) {t : af (List AV × Option aD)}
  (hc : vp T Γ forks n fn x ⟨aN 0 (.ptr 0 idx es off p :: rest), [(0, o)], 1⟩ = some t)
  (h : ay l → t.all fun _ v => ef v.1 res ∧ ∃ o1, v.2 = some o1 ∧ o1.row = false ∧ ct (aU [(k, 0)]) o1 o') (K : Nat) :
  aC P f K (.ptr k idx es off p :: rest) [(k, o2)] ⟨res, [(k, o')], l⟩ := by
 have hrest : ∀ {rest : List AV}, aX rest = [] → (rest.all fun v => !v.isTuple) = true → eO (aU [(0, k)]) rest rest := by
  intro rest
  induction rest with
  | nil => intro _ _; trivial
  | cons v r ih =>
   intro h1 h2
   simp only [aX, List.append_eq_nil_iff] at h1
   simp only [List.all_cons, Bool.and_eq_true, Bool.not_eq_true'] at h2
   exact ⟨⟨h2.1, aG h1.1⟩, ih h1.2 h2.2⟩
 refine lZ hT hf (args0 := .ptr 0 idx es off p :: rest) (pre0 := [(0, o)]) (nx := 1) [(0, k)] (by simpa using hlen) (by simp [gU]) ⟨⟨rfl, jF rfl⟩, hrest hkr hrt⟩ ⟨⟨k, o2, rfl, by simp [look], ho _⟩, trivial⟩
  (fun a x h => ?_) (fun x o h => .inl ?_) (fun need c h0 => ?_)
 ·simp only [aU, look] at h
  split at h
  ·simp only [Option.some.injEq] at h; subst h; exact ⟨_, by simp [look]; rfl⟩
  ·simp at h
 ·simp only [look] at h
  split at h
  ·rename_i he
   exact ⟨_, by simp only [look, he, if_true]; rfl⟩
  ·simp at h
 have h := h need
 unfold vp at hc
 cases hx : cU T Γ forks n x ⟨aN 0 (.ptr 0 idx es off p :: rest), [(0, o)], 1⟩ with
 | none => rw [hx] at hc; simp at hc
 | some u =>
  rw [hx] at hc
  refine ig hT hΓ hm n hf.dst hx (af.dM ?_ (af.gV hc h))
  rintro e s' ⟨v, h1, h2⟩
  unfold zd at h1
  split at h1
  ·rename_i v' hv'
   have h3 := af.gV h1 h2
   have h4 : v'.all fun _ us => ef us res ∧ ∃ o1, look 0 s'.store = some o1 ∧ o1.row = false ∧ ct (aU [(k, 0)]) o1 o' := by
    refine af.dM ?_ h3
    rintro e us ⟨w, g1, g2⟩
    simp only [Option.some.injEq] at g1
    subst g1
    exact g2
   have h5 : Fin T fn res e s' := wU hv' (af.dM (fun _ _ h => h.1) h4)
   have h6 : ∃ o1, look 0 s'.store = some o1 ∧ o1.row = false ∧ ct (aU [(k, 0)]) o1 o' := by
    have : ∀ {t : af (List AV)}, (t.all fun _ us => ef us res ∧ ∃ o1, look 0 s'.store = some o1 ∧ o1.row = false ∧ ct (aU [(k, 0)]) o1 o') → ∃ o1, look 0 s'.store = some o1 ∧ o1.row = false ∧ ct (aU [(k, 0)]) o1 o' := by
     intro t
     induction t with
     | leaf e us => exact fun h => h.2
     | ag ps t ih => exact fun h => ih h.2
     | fork b t1 t2 ih1 ih2 =>
      intro h
      cases b with
      | true => exact ih1 (h.1 rfl)
      | false => exact ih2 (h.2 rfl)
    exact this h4
   refine ⟨h5.1, aU [(k, 0)], tV, .inl ⟨h5.2, fun x ox hx => ?_⟩⟩
   obtain ⟨o1, g1, g2, g3⟩ := h6
   have he : bT (eg [(k, o')]) [(k, o2)] = [(k, o')] := by simp [bT, eg, put]
   rw [he] at hx
   simp only [look] at hx
   split at hx
   ·rename_i hk
    have : k = x := by simpa using hk
    subst this
    simp only [Option.some.injEq] at hx
    subst hx
    exact ⟨0, o1, by simp [aU, look], g1, g2, g3⟩
   ·simp at hx
  ·simp at h1
theorem KR {P : Program} {T : Types} (hT : dn P T) {Γ : aW} (hΓ : br P Γ) (hm : P.follows .mixedOrders = true) {f : FuncId} {fn : Func} {x : Code} (hf : aO P f fn x) {args : List AV} {o o' : aD} {a idx es off ls : Nat} {p : List Nat} {l : List Prop}
  (hka : aX args = []) (hrt : (args.all fun v => !v.isTuple) = true) (hlen : args.length ≤ fn.ntmps) (hres : fn.results.toList = [.tmp ls]) {forks : List Nat} (n : Nat) {e : ak} {q : List Prop}
  (hc : aF T Γ forks n [ls] [x] ⟨aN 0 args, [], 0⟩ = some (.leaf e ([.ptr a idx es off p], [(a, o)])))
  (he : e = .normal ∨ e = .ret) (h : ∀ ρ, ct ρ o o') (K : Nat) : aC P f K args [] ⟨.ptr K idx es off p, [(K, o')], l⟩ := by
 have hrest : ∀ {rest : List AV}, aX rest = [] → (rest.all fun v => !v.isTuple) = true → eO (aU []) rest rest := by
  intro rest
  induction rest with
  | nil => intro _ _; trivial
  | cons v r ih =>
   intro h1 h2
   simp only [aX, List.append_eq_nil_iff] at h1
   simp only [List.all_cons, Bool.and_eq_true, Bool.not_eq_true'] at h2
   exact ⟨⟨h2.1, aG h1.1⟩, ih h1.2 h2.2⟩
 refine lZ hT hf (args0 := args) (pre0 := []) (nx := 0) [] hlen rfl (hrest hka hrt) trivial (fun a k h => by simp [aU, look] at h) (fun k o h => ?_) (fun _ c h0 => ?_)
 ·simp only [look] at h
  split at h
  ·rename_i he
   have : K = k := by simpa using he
   subst this
   exact .inr ⟨Nat.le_refl _, by unfold bY; omega⟩
  ·simp at h
 refine aq.aS hT hΓ hm n [ls] hc hf.dst fun s' hv => ⟨he, aU [(K, a)], BI ⟨Nat.le_refl _, by unfold bY; omega⟩, .inr ?_⟩
 refine o5 (us := [.ptr a idx es off p]) (ws := [.ptr K idx es off p]) (ps := [(K, o')]) hv ?_ ⟨⟨rfl, jF (by simp [aU, look])⟩, trivial⟩ rfl rfl ⟨⟨a, _, by simp [aU, look], by simp [look], h _⟩, trivial⟩
 rw [hres]
 simp only [jh, az, look, beq_self_eq_true, if_true]
 rfl
end Go.Am

/- aW that the evaluator itself writes: of functions that only read, without a loop of unknown length. -/
namespace Go.Am
open AV
mutual
/-- One of two values, by a condition that is not known. -/
def dm (b : Bool) : AV → AV → Option AV
 | .rat q n, .rat r m => some (.rat (cond b q r) (max n m))
 | .int k x, .int j y => match isKind k j with
  | true => some (.int k (cond b x y))
  | false => none
 | .bool x, .bool y => some (.bool (cond b x y))
 | .ah e n f, .ah e' m g => match e == e' with
  | true => some (.ah e (cond b n m) fun i => cond b (f i) (g i))
  | false => none
 | .nil, .nil => some .nil
 | .nil, .ah e n f => match Nat.blt 0 e with
  | true => some (.ah e (cond b 0 n) f)
  | false => none
 | .ah e n f, .nil => match Nat.blt 0 e with
  | true => some (.ah e (cond b n 0) f)
  | false => none
 | .agg l, .agg m => match kf b l m with
  | some x => some (.agg x)
  | none => none
 | _, _ => none
def kf (b : Bool) : List AV → List AV → Option (List AV)
 | [], [] => some []
 | u :: l, v :: m => match dm b u v, kf b l m with
  | some x, some y => some (x :: y)
  | _, _ => none
 | _, _ => none
end
mutual
theorem Z0 : ∀ {u v x : AV}, dm true u v = some x → bq u x
 | .rat q n, v, x, h => by
  cases v <;> simp only [dm, Option.some.injEq, reduceCtorEq] at h
  subst h; exact jb (Nat.le_max_left ..)
 | .int k a, v, x, h => by
  cases v <;> simp only [dm, reduceCtorEq] at h
  split at h
  ·simp only [Option.some.injEq] at h; subst h; exact .refl _
  ·simp at h
 | .bool a, v, x, h => by
  cases v <;> simp only [dm, Option.some.injEq, reduceCtorEq] at h
  subst h; exact .refl _
 | .ah e n f, v, x, h => by
  cases v <;> simp only [dm, reduceCtorEq] at h
  ·split at h
   ·simp only [Option.some.injEq] at h; subst h; exact .refl _
   ·simp at h
  ·split at h
   ·simp only [Option.some.injEq] at h; subst h; exact .refl _
   ·simp at h
 | .nil, v, x, h => by
  cases v <;> simp only [dm, Option.some.injEq, reduceCtorEq] at h
  ·split at h
   ·rename_i he
    simp only [Option.some.injEq] at h; subst h
    exact fS (by rw [Nat.blt_eq] at he; exact he)
   ·simp at h
  ·subst h; exact .refl _
 | .agg l, v, x, h => by
  cases v <;> simp only [dm, reduceCtorEq] at h
  split at h
  ·rename_i hl
   simp only [Option.some.injEq] at h; subst h; exact eI (BA hl)
  ·simp at h
 | .mag _, v, x, h => by simp [dm] at h
 | .cX _ _ _ _, v, x, h => by simp [dm] at h
 | .void, v, x, h => by simp [dm] at h
 | .str _, v, x, h => by simp [dm] at h
 | .bp _, v, x, h => by simp [dm] at h
 | .ptr _ _ _ _ _, v, x, h => by simp [dm] at h
 | .own _ _ _ _, v, x, h => by simp [dm] at h
 | .func _ _, v, x, h => by simp [dm] at h
 | .tuple _, v, x, h => by simp [dm] at h
theorem BA : ∀ {u v x : List AV}, kf true u v = some x → dX u x
 | [], v, x, h => by
  cases v <;> simp only [kf, Option.some.injEq, reduceCtorEq] at h
  subst h; trivial
 | a :: l, v, x, h => by
  cases v <;> simp only [kf, reduceCtorEq] at h
  split at h
  ·rename_i h1 h2
   simp only [Option.some.injEq] at h; subst h; exact ⟨Z0 h1, BA h2⟩
  ·simp at h
end
mutual
theorem Rz : ∀ {u v x : AV}, dm false u v = some x → bq v x
 | .rat q n, v, x, h => by
  cases v <;> simp only [dm, Option.some.injEq, reduceCtorEq] at h
  subst h; exact jb (Nat.le_max_right ..)
 | .int k a, v, x, h => by
  cases v <;> simp only [dm, reduceCtorEq] at h
  split at h
  ·rename_i hk
   have := xu hk
   subst this
   simp only [Option.some.injEq] at h; subst h; exact .refl _
  ·simp at h
 | .bool a, v, x, h => by
  cases v <;> simp only [dm, Option.some.injEq, reduceCtorEq] at h
  subst h; exact .refl _
 | .ah e n f, v, x, h => by
  cases v <;> simp only [dm, reduceCtorEq] at h
  ·split at h
   ·rename_i hk
    have := eq_of_beq hk
    subst this
    simp only [Option.some.injEq] at h; subst h; exact .refl _
   ·simp at h
  ·split at h
   ·rename_i he
    simp only [Option.some.injEq] at h; subst h
    exact fS (by rw [Nat.blt_eq] at he; exact he)
   ·simp at h
 | .nil, v, x, h => by
  cases v <;> simp only [dm, Option.some.injEq, reduceCtorEq] at h
  ·split at h
   ·simp only [Option.some.injEq] at h; subst h; exact .refl _
   ·simp at h
  ·subst h; exact .refl _
 | .agg l, v, x, h => by
  cases v <;> simp only [dm, reduceCtorEq] at h
  split at h
  ·rename_i hl
   simp only [Option.some.injEq] at h; subst h; exact eI (zS hl)
  ·simp at h
 | .mag _, v, x, h => by simp [dm] at h
 | .cX _ _ _ _, v, x, h => by simp [dm] at h
 | .void, v, x, h => by simp [dm] at h
 | .str _, v, x, h => by simp [dm] at h
 | .bp _, v, x, h => by simp [dm] at h
 | .ptr _ _ _ _ _, v, x, h => by simp [dm] at h
 | .own _ _ _ _, v, x, h => by simp [dm] at h
 | .func _ _, v, x, h => by simp [dm] at h
 | .tuple _, v, x, h => by simp [dm] at h
theorem zS : ∀ {u v x : List AV}, kf false u v = some x → dX v x
 | [], v, x, h => by
  cases v <;> simp only [kf, Option.some.injEq, reduceCtorEq] at h
  subst h; trivial
 | a :: l, v, x, h => by
  cases v <;> simp only [kf, reduceCtorEq] at h
  split at h
  ·rename_i h1 h2
   simp only [Option.some.injEq] at h; subst h; exact ⟨Rz h1, zS h2⟩
  ·simp at h
end
theorem dX.trans : ∀ {a b c : List AV}, dX a b → dX b c → dX a c
 | [], [], [], _, _ => trivial
 | _ :: _, _ :: _, _ :: _, h, h' => ⟨h.1.trans h'.1, h.2.trans h'.2⟩
 | [], [], _ :: _, _, h => h.elim
 | [], _ :: _, _, h, _ => h.elim
 | _ :: _, [], _, h, _ => h.elim
 | _ :: _, _ :: _, [], _, h => h.elim
def lG : af (List AV) → Option (List AV × List Prop)
 | .leaf _ us => some (us, [])
 | .ag ps t => match lG t with
  | some (us, qs) => some (us, ps ++ qs)
  | none => none
 | .fork b t u => match lG t, lG u with
  | some (x, p), some (y, q) => match kf b x y with
   | some z => match p, q with
    | [], [] => some (z, [])
    | p, q => some (z, [b = true → ay p, b = false → ay q])
   | none => none
  | _, _ => none
theorem vW : ∀ {t : af (List AV)} {us : List AV} {ps : List Prop}, lG t = some (us, ps) → ay ps → t.all fun _ vs => dX vs us
 | .leaf e vs, us, ps, h, _ => by
  simp only [lG, Option.some.injEq, Prod.mk.injEq] at h
  obtain ⟨rfl, rfl⟩ := h
  exact .refl _
 | .ag l t, us, ps, h, hp => by
  simp only [lG] at h
  split at h
  ·rename_i h1
   simp only [Option.some.injEq, Prod.mk.injEq] at h
   obtain ⟨rfl, rfl⟩ := h
   obtain ⟨p1, p2⟩ := ep.1 hp
   exact ⟨p1, vW h1 p2⟩
  ·simp at h
 | .fork b t u, us, ps, h, hp => by
  simp only [lG] at h
  split at h
  ·rename_i x p y q h1 h2
   split at h
   ·rename_i z hz
    have key : us = z ∧ (b = true → ay p) ∧ (b = false → ay q) := by
     split at h
     ·simp only [Option.some.injEq, Prod.mk.injEq] at h
      exact ⟨h.1.symm, fun _ => trivial, fun _ => trivial⟩
     ·simp only [Option.some.injEq, Prod.mk.injEq] at h
      obtain ⟨rfl, rfl⟩ := h
      exact ⟨rfl, hp⟩
    obtain ⟨rfl, p1, p2⟩ := key
    refine ⟨fun hb => ?_, fun hb => ?_⟩
    ·subst hb
     exact af.dM (fun _ vs hv => hv.trans (BA hz)) (vW h1 (p1 rfl))
    ·subst hb
     exact af.dM (fun _ vs hv => hv.trans (zS hz)) (vW h2 (p2 rfl))
   ·simp at h
  ·simp at h
def mm (T : Types) (Γ : aW) (forks : List Nat) (fuel : Nat) (fn : Func) : Spec := bu fun args =>
 match Nat.ble args.length fn.ntmps with
 | true => match bF T Γ forks fuel fn (ax fn) ⟨aN 0 args, [], 0⟩ with
  | some t => match lG t with
   | some (us, ps) => match us with
    | [u] => some ⟨u, [], ps⟩
    | us => some ⟨.tuple us, [], ps⟩
   | none => none
  | none => none
 | false => none
theorem Jw {us : List AV} {v : AV} (h : dX us [v]) : ef us v := by
 match us, h with
 | [u], h => exact h.1
theorem KF {us vs : List AV} (hv : ∀ u, vs ≠ [u]) (h : dX us vs) : ef us (.tuple vs) := by
 match us, vs, h with
 | [], [], h => exact h
 | [u], [v], h => exact absurd rfl (hv v)
 | a :: b :: l, _ :: _ :: _, h => exact h
 | [u], _ :: _ :: _, h => exact absurd h.2 (by simp [dX])
 | a :: b :: l, [v], h => exact absurd h.2 (by simp [dX])
 | [], _ :: _, h => exact h.elim
 | _ :: _, [], h => exact h.elim
theorem mU {P : Program} {T : Types} (hT : dn P T) {Γ : aW} (hΓ : br P Γ) (hm : P.follows .mixedOrders = true) {f : FuncId} {fn : Func} (hf : aO P f fn (ax fn)) (forks : List Nat) (fuel : Nat) :
  ∀ K args pre r, mm T Γ forks fuel fn K args pre = some r → aC P f K args pre r := by
 refine bQ fun K args r hk hs hp => ?_
 split at hs
 ·rename_i hlen
  have hlen := Nat.le_of_ble_eq_true hlen
  split at hs
  ·rename_i t ht
   split at hs
   ·rename_i us ps hc
    split at hs
    ·simp only [Option.some.injEq] at hs
     subst hs
     exact bH (r := ⟨_, [], ps⟩) hT hΓ hm hf hk hlen rfl fuel ht (fun hn => af.dM (fun _ vs hv => Jw hv) (vW hc hn)) K []
    ·rename_i hne
     simp only [Option.some.injEq] at hs
     subst hs
     exact bH (r := ⟨_, [], ps⟩) hT hΓ hm hf hk hlen rfl fuel ht (fun hn => af.dM (fun _ vs hv => KF hne hv) (vW hc hn)) K []
   ·simp at hs
  ·simp at hs
 ·simp at hs
theorem xC {P : Program} {Γ : aW} (h : br P Γ) : br P (zG :: Γ) := aJ (fun K args pre r hs => by simp at hs) h
theorem eV {P : Program} {Γ : aW} (h : br P Γ) : br P (nG :: Γ) := aJ (fun K args pre r hs => by simp at hs) h
end Go.Am

/- Loops whose objects get other keys in each round: states up to the names of objects. -/
namespace Go.Am
open AV
def kW (rl : List (Nat × Nat)) : AV → AV
 | .ptr k i e o p => match look k rl with
  | some j => .ptr j i e o p
  | none => .void
 | .own k e s n => match look k rl with
  | some j => .own j e s n
  | none => match s, n, e with
   | 0, 0, _ + 1 => .nil
   | _, _, _ => .void
 | v => v
def kK (rl : List (Nat × Nat)) : AV → Bool
 | .ptr k _ _ _ _ => (look k rl).isSome
 | .own k e s n => (look k rl).isSome || match s, n, e with
  | 0, 0, _ + 1 => true
  | _, _, _ => false
 | .tuple _ => false
 | v => (keys v).isEmpty
theorem H7 {rl : List (Nat × Nat)} {u v : AV} (hu : u = kW rl v) (hv : kK rl v = true) : u.isTuple = false ∧ fG (aU rl) u v := by
 subst hu
 cases v with
 | ptr k i e o p =>
  simp only [kK, Option.isSome_iff_exists] at hv
  obtain ⟨j, hj⟩ := hv
  simp only [kW, hj]
  exact ⟨rfl, jF hj⟩
 | own k e s n =>
  simp only [kK] at hv
  cases hj : look k rl with
  | some j =>
   simp only [kW, hj]
   exact ⟨rfl, cH hj rfl rfl⟩
  | none =>
   rw [hj] at hv
   simp only [Option.isSome_none, Bool.false_or] at hv
   split at hv
   ·simp only [kW, hj]
    exact ⟨rfl, B3 (by omega)⟩
   ·simp at hv
 | tuple l => simp [kK] at hv
 | _ =>
  simp only [kK, List.isEmpty_iff] at hv
  exact ⟨rfl, aG hv⟩
theorem Dc {rl : List (Nat × Nat)} : ∀ {vs us : List AV}, us = vs.map (kW rl) → vs.all (kK rl) = true → eO (aU rl) us vs
 | [], _, h, _ => by subst h; trivial
 | v :: vs, _, h, hv => by
  subst h
  simp only [List.all_cons, Bool.and_eq_true] at hv
  exact ⟨H7 rfl hv.1, Dc rfl hv.2⟩
def tw : AV → Bool
 | .tuple _ => false
 | v => (keys v).isEmpty
theorem T1 {rl : List (Nat × Nat)} {v : AV} (h : tw v = true) : kW rl v = v := by
 cases v <;> first | rfl | simp [tw, keys] at h
theorem Xg {rl : List (Nat × Nat)} {v : AV} (h : tw v = true) : kK rl v = true := by
 cases v <;> first | exact h | simp [tw, keys] at h
end Go.Am

/- Functions with one loop, by what the evaluator says of its parts. -/
namespace Go.Am
open AV
def ia (rl : List (Nat × Nat)) (u v : AV) : Prop := ((kK rl v = true ∧ u = kW rl v) ∨ ∃ us vs, u = .agg us ∧ v = .agg vs ∧ eO (aU rl) us vs) ∨ (keys u = [] ∧ bq u v)
theorem Dr {ρ : Nat → Option Nat} {M : Nat → Prop} {w : World} {β : aL} : ∀ {us vs : List AV} {cs : List Value}, eO ρ us vs → aH M w β us cs → aH M w (fun k => (ρ k).bind β) vs cs
 | [], [], _, _, h => by cases h; exact .nil
 | u :: us, v :: vs, cs, hl, h => by
  obtain ⟨c1, c2, rfl, h1, h2⟩ := h.split
  exact (hl.1.2.2 M w β c1 h1).cons (Dr hl.2 h2)
 | [], _ :: _, _, h, _ => h.elim
 | _ :: _, [], _, h, _ => h.elim
theorem VB {ρ : Nat → Option Nat} {us vs : List AV} (h : eO ρ us vs) : fG ρ (.agg us) (.agg vs) := by
 refine ⟨rfl, fun M w β cs hc => ?_⟩
 cases hc with
 | agg h1 h2 => cases h2; exact .agg (Dr h h1) .nil
theorem w9 {rl : List (Nat × Nat)} {us vs : List AV} (h : eO (aU rl) us vs) : ia rl (.agg us) (.agg vs) := .inl (.inr ⟨_, _, rfl, rfl, h⟩)
theorem ia.le {rl : List (Nat × Nat)} {u v : AV} (h : ia rl u v) : fG (aU rl) u v := by
 rcases h with (h | ⟨us, vs, rfl, rfl, h⟩) | h
 ·exact (H7 h.2 h.1).2
 ·exact VB h
 ·exact rS h.1 h.2
def fI (nx : Nat) (rl : List (Nat × Nat)) (os : aB) : aB → Prop
 | [] => True
 | (k2, o2) :: ps => ((look k2 rl = none ∧ qz o2 ∧ k2 < nx) ∨ ∃ k1 o1, look k2 rl = some k1 ∧ look k1 os = some o1 ∧ o1.row = o2.row ∧ o1.wr = o2.wr ∧ o1.es = o2.es ∧ o1.len = o2.len ∧ ∀ i, i < o2.len → ia rl (o1.f i) (o2.f i)) ∧ fI nx rl os ps
theorem Bb {nx : Nat} {rl : List (Nat × Nat)} {os : aB} : ∀ {ps : aB}, fI nx rl os ps → r6 nx (aU rl) os ps
 | [], _ => trivial
 | (k2, o2) :: ps, h => by
  obtain ⟨h | ⟨k1, o1, h1, h2, h3, h4, h5, h6, h7⟩, h8⟩ := h
  ·exact ⟨.inr h, Bb h8⟩
  ·exact ⟨.inl ⟨k1, o1, h1, h2, ⟨h3.symm ▸ rfl, h4.symm ▸ rfl, h5.symm ▸ rfl, h6.symm ▸ rfl, fun i hi => (h7 i (h6 ▸ hi)).le⟩⟩, Bb h8⟩
theorem aM {rl : List (Nat × Nat)} {u v : AV} (hk : keys u = []) (h : u = v) : ia rl u v := .inr ⟨hk, h ▸ .refl _⟩
theorem aT {nx : Nat} {rl : List (Nat × Nat)} {os ps : aB} {k2 k1 : Nat} {r w : Bool} {es n m : Nat} {f g : Nat → AV} (hk : look k2 rl = some k1) (ho : look k1 os = some ⟨r, w, es, n, f⟩) (hn : n = m) (h : ∀ i, i < m → ia rl (f i) (g i))
  (hs : fI nx rl os ps) : fI nx rl os ((k2, ⟨r, w, es, m, g⟩) :: ps) := ⟨.inr ⟨k1, _, hk, ho, rfl, rfl, rfl, hn, h⟩, hs⟩
theorem cr {nx : Nat} {rl : List (Nat × Nat)} {os ps : aB} {k2 k1 : Nat} {r w : Bool} {es : Nat} {f g : Nat → AV} (hk : look k2 rl = some k1) (ho : look k1 os = some ⟨r, w, es, 1, f⟩) (h : ia rl (f 0) (g 0))
  (hs : fI nx rl os ps) : fI nx rl os ((k2, ⟨r, w, es, 1, g⟩) :: ps) := aT hk ho rfl (fun i hi => by rw [Nat.lt_one_iff.1 hi]; exact h) hs
theorem jl {nx : Nat} {rl : List (Nat × Nat)} {os ps : aB} {k2 es : Nat} {w : Bool} {f : Nat → AV} (hk : look k2 rl = none) (hes : 0 < es) (hn : k2 < nx) (hs : fI nx rl os ps) : fI nx rl os ((k2, ⟨true, w, es, 0, f⟩) :: ps) := ⟨.inl ⟨hk, ⟨rfl, rfl, hes⟩, hn⟩, hs⟩
theorem BX {α : Type} {k : Nat} {b : List (Nat × α)} : ∀ {a : List (Nat × α)}, look k (a ++ b) = match look k a with
  | some x => some x
  | none => look k b
 | [] => rfl
 | (j, x) :: a => by
  simp only [List.cons_append, look]
  split
  ·rfl
  ·exact BX
theorem Kf {P : Program} {a b : aW} (ha : br P a) (hb : br P b) : br P (a ++ b) := by
 intro f s hl
 have hl : look f (a ++ b) = some s := hl
 rw [BX] at hl
 split at hl
 ·rename_i h
  simp only [Option.some.injEq] at hl
  subst hl
  exact ha f _ h
 ·exact hb f s hl
def Kept (kp : List Nat) (c : Ctx) : Prop := ∀ k x, c.k0 k = some x → k ∈ kp
theorem kF {c : Ctx} (h0 : ∀ nx k x, c.k0 k = some x → k < nx) : Kept [] c := fun k x hk => absurd (h0 0 k x hk) (by omega)
def cQ (kp : List Nat) (v : List AV × aB) (vs : List AV) (os : aB) (nx : Nat) : Prop :=
 ∃ rl, (gU nx rl && kp.all fun k => look k rl == some k) = true ∧ v.1 = vs.map (kW rl) ∧ vs.all (kK rl) = true ∧ fI nx rl v.2 os
theorem cQ.le {kp : List Nat} {c : Ctx} {s' : aE} {ls : List Nat} {v : List AV × aB} {vs : List AV} {os : aB} {nx : Nat} (h : cQ kp v vs os nx) (hv : aQ ls s' = some v) (h0 : Kept kp c) : ∃ ρ, Le c ρ s' ⟨az ls vs, os, nx⟩ := by
 obtain ⟨rl, h1, h2, h3, h4⟩ := h
 simp only [Bool.and_eq_true] at h1
 exact Fu rl hv (fun k x hk => by simpa using List.all_eq_true.1 h1.2 k (h0 k x hk)) h1.1 (Dc h2 h3) (Bb h4)
theorem cQ.vals {vs : List AV} {nx : Nat} (h : vs.all tw = true) : cQ [] (vs, []) vs [] nx := by
 simp only [List.all_eq_true] at h
 refine ⟨[], rfl, ?_, List.all_eq_true.2 fun v hv => Xg (h v hv), trivial⟩
 have : vs.map (kW []) = vs.map id := List.map_congr_left fun v hv => T1 (h v hv)
 rw [this, List.map_id]
theorem kD {nt : Nat} : ∀ {x : Code} {p : List Nat}, bE nt x = true → (before x p).all (fun x => bE nt x) = true
 | .seq x y, 0 :: p, h => by
  simp only [bE, Bool.and_eq_true] at h
  exact kD (x := x) h.1
 | .seq x y, (n + 1) :: p, h => by
  simp only [bE, Bool.and_eq_true] at h
  simp only [before, List.all_cons, Bool.and_eq_true]
  exact ⟨h.1, kD (x := y) h.2⟩
 | .seq _ _, [], _ | .cond _ _ _, _, _ | .block _ _, _, _ | .loop _, _, _ | .region _ _ _, _, _ | .skip, _, _ | .label _, _, _ | .exit _, _, _ | .ret, _, _ | .scope _, _, _ | .goto _, _, _ | .refuse _, _, _ | .rangeFunc _ _ _ _, _, _ => by simp [before]
theorem vS {nt : Nat} : ∀ {x : Code} {p : List Nat}, bE nt x = true → (behind x p).all (fun x => bE nt x) = true
 | .seq x y, 0 :: p, h => by
  simp only [bE, Bool.and_eq_true] at h
  simp only [behind, List.all_append, List.all_cons, List.all_nil, Bool.and_true, Bool.and_eq_true]
  exact ⟨vS (x := x) h.1, h.2⟩
 | .seq x y, (n + 1) :: p, h => by
  simp only [bE, Bool.and_eq_true] at h
  exact vS (x := y) (p := p) h.2
 | .seq _ _, [], _ | .cond _ _ _, _, _ | .block _ _, _, _ | .loop _, _, _ | .region _ _ _, _, _ | .skip, _, _ | .label _, _, _ | .exit _, _, _ | .ret, _, _ | .scope _, _, _ | .goto _, _, _ | .refuse _, _, _ | .rangeFunc _ _ _ _, _, _ => by simp [behind]
theorem vg {nt : Nat} : ∀ {x : Code} {p : List Nat}, chain x p = true → bE nt x = true → bE nt (part x p) = true
 | x, [], _, h => by cases x <;> exact h
 | .seq x y, 0 :: p, hc, h => by
  simp only [bE, Bool.and_eq_true] at h
  exact vg (x := x) hc h.1
 | .seq x y, (n + 1) :: p, hc, h => by
  simp only [bE, Bool.and_eq_true] at h
  exact vg (x := y) hc h.2
 | .cond _ _ _, _ :: _, hc, _ | .block _ _, _ :: _, hc, _ | .loop _, _ :: _, hc, _ | .region _ _ _, _ :: _, hc, _ | .skip, _ :: _, hc, _ | .label _, _ :: _, hc, _ | .exit _, _ :: _, hc, _ | .ret, _ :: _, hc, _ | .scope _, _ :: _, hc, _ | .goto _, _ :: _, hc, _ | .refuse _, _ :: _, hc, _ | .rangeFunc _ _ _ _, _ :: _, hc, _ => by simp [chain] at hc
section rules
variable {P : Program} {c : Ctx} {nt : Nat} {s : aE} {Q : ak → aE → Prop} {T : Types} (hT : dn P T) {Γ : aW} (hΓ : br P Γ) (hm : P.follows .mixedOrders = true)
def Round (kp : List Nat) {α : Type} (V : α → List AV) (O : α → aB) (nx : Nat) (I D : α → Prop) (μ : α → Nat) (i : Nat) (R : List AV × aB → Prop) (a : α) : ak → List AV × aB → Prop
 | .normal, v => ∃ b, I b ∧ μ b < μ a ∧ cQ kp v (V b) (O b) nx
 | .exit k, v => k = i ∧ ∃ b, D b ∧ cQ kp v (V b) (O b) nx
 | .ret, v => R v
include hT hΓ hm in
theorem aq.Px {x y : Code} {i : Nat} (hx : x = .block i (.loop y)) {kp : List Nat} (h0 : Kept kp c) {forks : List Nat} (n : Nat) (L : List Nat) (nx : Nat) {α : Type} (V : α → List AV) (O : α → aB) (I D : α → Prop) (μ : α → Nat) (R : List AV × aB → Prop)
  (a0 : α) (hI : I a0) (hs : ∃ ρ, Le c ρ s ⟨az L (V a0), O a0, nx⟩) (hd : bE nt y = true)
  (hb : ∀ a, I a → ∃ t, aF T Γ forks n L [y] ⟨az L (V a), O a, nx⟩ = some t ∧ t.all (Round kp V O nx I D μ i R a))
  (hD : ∀ b s', D b → (∃ ρ, Le c ρ s' ⟨az L (V b), O b, nx⟩) → Q .normal s') (hR : ∀ v s', R v → aQ L s' = some v → Q .ret s') : aq P c nt x s Q := by
 refine aq.fz hx (fun a => ⟨az L (V a), O a, nx⟩) I μ a0 hs hI fun a ha => ?_
 obtain ⟨t, h1, h2⟩ := hb a ha
 refine aq.aS hT hΓ hm n L h1 hd (af.dM ?_ h2)
 rintro e v hv s' hs'
 cases e with
 | normal =>
  obtain ⟨b, g1, g2, g3⟩ := hv
  exact ⟨b, g3.le hs' h0, g1, g2⟩
 | exit k =>
  obtain ⟨rfl, b, g1, g2⟩ := hv
  exact pn (hD b s' g1 (g2.le hs' h0))
 | ret => exact hR v s' hv hs'
theorem aA.one {x : Code} (h : aq P c nt x s Q) : aA P c nt [x] s Q := h.mono fun e s' h => by cases e <;> exact h
theorem aq.js {x : Code} (h : aA P c nt [x] s Q) : aq P c nt x s Q := aq.mono h fun e s' h => by cases e <;> exact h
def Start (kp : List Nat) {α : Type} (V : α → List AV) (O : α → aB) (nx : Nat) (I : α → Prop) (R : List AV × aB → Prop) : ak → List AV × aB → Prop
 | .normal, v => ∃ a, I a ∧ cQ kp v (V a) (O a) nx
 | .ret, v => R v
 | .exit _, _ => False
include hT hΓ hm in
theorem aq.uP {x y : Code} (p : List Nat) {i : Nat} (hc : chain x p = true) (hx : part x p = .block i (.loop y)) (hd : bE nt x = true) {kp : List Nat} (h0 : Kept kp c) {f1 f2 : List Nat} (n : Nat) (L : List Nat) (nx : Nat) {α : Type} (V : α → List AV) (O : α → aB) (I D : α → Prop) (μ : α → Nat) (R : List AV × aB → Prop)
  (hp : ∃ t, aF T Γ f1 n L (before x p) s = some t ∧ t.all (Start kp V O nx I R))
  (hb : ∀ a, I a → ∃ t, aF T Γ f2 n L [y] ⟨az L (V a), O a, nx⟩ = some t ∧ t.all (Round kp V O nx I D μ i R a))
  (hD : ∀ b s', D b → (∃ ρ, Le c ρ s' ⟨az L (V b), O b, nx⟩) → aA P c nt (behind x p) s' Q) (hR : ∀ v s', R v → aQ L s' = some v → Q .ret s') : aq P c nt x s Q := by
 obtain ⟨t, h1, h2⟩ := hp
 refine aq.hole p hc (aA.aS hT hΓ hm n L h1 (kD hd) (af.dM ?_ h2))
 rintro e v hv s' hs'
 cases e with
 | normal =>
  obtain ⟨a, hI, hre⟩ := hv
  refine (show aq P c nt (part x p) s' _ from aq.Px hT hΓ hm hx h0 n L nx V O I D μ R a hI (hre.le hs' h0) ?_ hb (fun b s' hD' hle => hD b s' hD' hle) fun v s' hv hs' => hR v s' hv hs')
  have := vg (nt := nt) hc hd
  rw [hx] at this
  exact this
 | ret => exact hR v s' hv hs'
 | exit k => exact hv.elim
include hT hΓ hm in
theorem aq.nR {x y z : Code} (p : List Nat) {i : Nat} (hc : chain x p = true) (hx : part x p = .block i (.loop y)) (hz : behind x p = [z]) (hd : bE nt x = true) {kp : List Nat} (h0 : Kept kp c) {f1 f2 : List Nat} (n : Nat) (L : List Nat) (nx : Nat) {α : Type} (V : α → List AV) (O : α → aB) (I D : α → Prop) (μ : α → Nat) (R : List AV × aB → Prop)
  (hp : ∃ t, aF T Γ f1 n L (before x p) s = some t ∧ t.all (Start kp V O nx I R))
  (hb : ∀ a, I a → ∃ t, aF T Γ f2 n L [y] ⟨az L (V a), O a, nx⟩ = some t ∧ t.all (Round kp V O nx I D μ i R a))
  (hD : ∀ b, D b → aq P c nt z ⟨az L (V b), O b, nx⟩ Q) (hR : ∀ v s', R v → aQ L s' = some v → Q .ret s') : aq P c nt x s Q :=
 aq.uP hT hΓ hm p hc hx hd h0 n L nx V O I D μ R hp hb (fun b s' hD' hle => by rw [hz]; exact aA.weak rfl hle (aA.one (hD b hD'))) hR
def yT (c : Ctx) (L : List Nat) {α : Type} (V : α → List AV) (O : α → aB) (nx : Nat) (I D : α → Prop) (μ : α → Nat) (i : Nat) (R : aE → Prop) (a : α) : ak → aE → Prop
 | .normal, s' => ∃ b, I b ∧ μ b < μ a ∧ ∃ ρ, Le c ρ s' ⟨az L (V b), O b, nx⟩
 | .exit k, s' => k = i ∧ ∃ b, D b ∧ ∃ ρ, Le c ρ s' ⟨az L (V b), O b, nx⟩
 | .ret, s' => R s'
include hT hΓ hm in
theorem aq.yo {x y z : Code} (p : List Nat) {i : Nat} (hc : chain x p = true) (hx : part x p = .block i (.loop y)) (hz : behind x p = [z]) (hd : bE nt x = true) {kp : List Nat} (h0 : Kept kp c) {f1 : List Nat} (n : Nat) (L : List Nat) (nx : Nat) {α : Type} (V : α → List AV) (O : α → aB) (I D : α → Prop) (μ : α → Nat) (R : List AV × aB → Prop)
  (hp : ∃ t, aF T Γ f1 n L (before x p) s = some t ∧ t.all (Start kp V O nx I R))
  (hb : ∀ a, I a → aq P c nt y ⟨az L (V a), O a, nx⟩ (yT c L V O nx I D μ i (fun s' => ∃ v, R v ∧ aQ L s' = some v) a))
  (hD : ∀ b, D b → aq P c nt z ⟨az L (V b), O b, nx⟩ Q) (hR : ∀ v s', R v → aQ L s' = some v → Q .ret s') : aq P c nt x s Q := by
 obtain ⟨t, h1, h2⟩ := hp
 refine aq.hole p hc (aA.aS hT hΓ hm n L h1 (kD hd) (af.dM ?_ h2))
 rintro e v hv s' hs'
 cases e with
 | normal =>
  obtain ⟨a, hI, hre⟩ := hv
  refine aq.fz hx (fun a => ⟨az L (V a), O a, nx⟩) I μ a (hre.le hs' h0) hI fun a ha => (hb a ha).mono fun e s' h => ?_
  cases e with
  | normal =>
   obtain ⟨b, g1, g2, g3⟩ := h
   exact ⟨b, g3, g1, g2⟩
  | exit k =>
   obtain ⟨rfl, b, g1, g2⟩ := h
   refine pn ?_
   show aA P c nt (behind x p) s' _
   rw [hz]
   exact aA.weak rfl g2 (aA.one (hD b g1))
  | ret =>
   obtain ⟨v, g1, g2⟩ := h
   exact hR v s' g1 g2
 | ret => exact hR v s' hv hs'
 | exit k => exact hv.elim
include hT hΓ hm in
theorem aq.vI {y x1 zb : Code} (p : List Nat) {j : Nat} (hc : chain y p = true) (hx : part y p = .block j x1) (hz : behind y p = [zb]) (hd : bE nt y = true) {kp : List Nat} (h0 : Kept kp c) {f1 : List Nat} (n : Nat) (L : List Nat) (nx : Nat) {α : Type} (V : α → List AV) (O : α → aB) (I : α → Prop)
  (hp : ∃ t, aF T Γ f1 n L (before y p) s = some t ∧ t.all fun e v => match e with
   | .normal => ∃ a, I a ∧ cQ kp v (V a) (O a) nx
   | e => ∀ s', aQ L s' = some v → Q e s')
  (hb : ∀ a, I a → aq P c nt x1 ⟨az L (V a), O a, nx⟩ (inBlock j (cS (fun s' => aq P c nt zb s' Q) Q))) : aq P c nt y s Q := by
 obtain ⟨t, h1, h2⟩ := hp
 refine aq.hole p hc (aA.aS hT hΓ hm n L h1 (kD hd) (af.dM ?_ h2))
 rintro e v hv s' hs'
 cases e with
 | normal =>
  obtain ⟨a, hI, hre⟩ := hv
  refine aq.jB (hre.le hs' h0) (aq.mM hx ((hb a hI).mono fun e s' h => ?_))
  have key : ∀ {e s'}, cS (fun s' => aq P c nt zb s' Q) Q e s' → cS (fun s'' => aA P c nt (behind y p) s'' Q) Q e s' := fun {e s'} h => by
   cases e with
   | normal => show aA P c nt (behind y p) s' Q; rw [hz]; exact aA.one h
   | exit k => exact h
   | ret => exact h
  cases e with
  | normal => exact key (e := .normal) h
  | exit k =>
   simp only [inBlock] at h ⊢
   split
   ·rename_i hk; rw [if_pos hk] at h; exact key (e := .normal) h
   ·rename_i hk; rw [if_neg hk] at h; exact key (e := .exit k) h
  | ret => exact key (e := .ret) h
 | ret => exact hv s' hs'
 | exit k => exact hv s' hs'
theorem aq.tail {z zb : Code} {j : Nat} (hne : ∀ s', Q (.exit j) s' → False) (h : aA P c nt [z, zb] s Q) : aq P c nt z s (inBlock j (cS (fun s' => aq P c nt zb s' Q) Q)) :=
 aq.mono h fun e s' h => by
  cases e with
  | normal => exact aq.mono h fun e s' h => by cases e <;> exact h
  | exit k =>
   simp only [inBlock]
   split
   ·rename_i hk; subst hk; exact (hne _ h).elim
   ·exact h
  | ret => exact h
def je (fn : Func) (L : List Nat) (res : AV) (v : List AV × aB) : Prop := ∃ us, Ao fn (az L v.1) = some us ∧ ef us res
theorem je.fin {fn : Func} {L : List Nat} {res : AV} {v : List AV × aB} {s' : aE} (h : je fn L res v) (hs' : aQ L s' = some v) : dy c (Fin T fn res) .ret s' := by
 obtain ⟨us, g1, g2⟩ := h
 exact .inl (eL (.inr rfl) hs' g1 g2)
theorem vX {c : Prop} [Decidable c] {u v : AV} (hu : keys u = []) (hv : keys v = []) : keys (if c then u else v) = [] := by split <;> assumption
def xp (T : Types) (fn : Func) (L : List Nat) (res : AV) (v : List AV × aB) : Prop :=
 ∃ vs us nx t, v.1 = vs ++ us ∧ vs.length = L.length ∧ aX us = [] ∧ iA T fn .ret ⟨az L vs, v.2, nx⟩ = some t ∧ gD nx vs = true ∧ fe nx v.2 ∧ t.all fun _ us => ef us res
theorem xp.fin {fn : Func} {L L1 : List Nat} {res : AV} {v : List AV × aB} {s' : aE} (h0 : Kept [] c) (h : xp T fn L res v) (hs' : aQ (L ++ L1) s' = some v) : dy c (Fin T fn res) .ret s' := by
 obtain ⟨vs, us, nx, t, h1, h2, h3, h4, h5, h6, h7⟩ := h
 obtain ⟨v1, v2⟩ := v
 simp only at h1
 subst h1
 exact v8 h4 (gf hs' h2 h3) (fun k x hk => by simpa using h0 k x hk) h5 h6 h7
include hT hΓ hm in
theorem lX {f : FuncId} {fn : Func} (hf : aO P f fn (ax fn)) {args : List AV} {r : cC} (hk : aX args = []) (hlen : args.length ≤ fn.ntmps) (hpost : r.post = []) (p : List Nat) {i : Nat} {y z : Code} (hc : chain (ax fn) p = true) (hx : part (ax fn) p = .block i (.loop y)) (hz : behind (ax fn) p = [z])
  {f1 f2 f3 : List Nat} (n : Nat) (L : List Nat) (nx : Nat) {α : Type} (V : α → List AV) (O : α → aB) (I D : α → Prop) (μ : α → Nat)
  (h : r.need → (∃ t, aF T Γ f1 n L (before (ax fn) p) ⟨aN 0 args, [], 0⟩ = some t ∧ t.all (Start [] V O nx I (je fn L r.res))) ∧
   (∀ a, I a → ∃ t, aF T Γ f2 n L [y] ⟨az L (V a), O a, nx⟩ = some t ∧ t.all (Round [] V O nx I D μ i (je fn L r.res) a)) ∧
   ∀ a, D a → ∃ t, b9 T Γ f3 n fn [z] ⟨az L (V a), O a, nx⟩ = some t ∧ t.all fun _ us => ef us r.res) (K : Nat) (pre : aB) : aC P f K args pre r := by
 refine eW hT hf hk hlen hpost (fun need c h0 => ?_) K pre
 obtain ⟨hp, hb, he⟩ := h need
 refine aq.nR hT hΓ hm p hc hx hz hf.dst (kF h0) n L nx V O I D μ (je fn L r.res) hp hb (fun a ha => ?_) fun v s' hv hs' => hv.fin hs'
 obtain ⟨t, g1, g2⟩ := he a ha
 have := vS (x := ax fn) (p := p) hf.dst
 rw [hz] at this
 exact aq.js ((aA.fin hT hΓ hm n g1 this g2).mono fun _ _ h => .inl h)
def IF (T : Types) (fn : Func) (k : Nat) (res : AV) (o' : aD) (e : ak) (s' : aE) : Prop :=
 (e = .normal ∨ e = .ret) ∧ Ends T fn res s' ∧ ∃ o1, look 0 s'.store = some o1 ∧ o1.row = false ∧ ct (aU [(k, 0)]) o1 o'
def wV (T : Types) (Γ : aW) (forks : List Nat) (n : Nat) (fn : Func) (l : List Code) (s : aE) : Option (af (List AV × Option aD)) :=
 match mQ T Γ forks n l s with
 | some t => t.bind (zd T fn)
 | none => none
include hT hΓ hm in
theorem aA.Gk {fn : Func} {forks : List Nat} (n : Nat) {l : List Code} {s : aE} {t : af (List AV × Option aD)} (hc : wV T Γ forks n fn l s = some t) (hd : (l.all fun x => bE nt x) = true) {k : Nat} {res : AV} {o' : aD}
  (h : t.all fun _ v => ef v.1 res ∧ ∃ o1, v.2 = some o1 ∧ o1.row = false ∧ ct (aU [(k, 0)]) o1 o') : aA P c nt l s (IF T fn k res o') := by
 unfold wV at hc
 split at hc
 ·rename_i u hx
  refine xO hT hΓ hm hd hx (af.dM ?_ (af.gV hc h))
  rintro e s' ⟨v, h1, h2⟩
  unfold zd at h1
  split at h1
  ·rename_i v' hv'
   have h4 : v'.all fun _ us => ef us res ∧ ∃ o1, look 0 s'.store = some o1 ∧ o1.row = false ∧ ct (aU [(k, 0)]) o1 o' := by
    refine af.dM ?_ (af.gV h1 h2)
    rintro e us ⟨w, g1, g2⟩
    simp only [Option.some.injEq] at g1
    subst g1
    exact g2
   have h5 : Fin T fn res e s' := wU hv' (af.dM (fun _ _ h => h.1) h4)
   refine ⟨h5.1, h5.2, ?_⟩
   have : ∀ {t : af (List AV)}, (t.all fun _ us => ef us res ∧ ∃ o1, look 0 s'.store = some o1 ∧ o1.row = false ∧ ct (aU [(k, 0)]) o1 o') → ∃ o1, look 0 s'.store = some o1 ∧ o1.row = false ∧ ct (aU [(k, 0)]) o1 o' := by
    intro t
    induction t with
    | leaf e us => exact fun h => h.2
    | ag ps t ih => exact fun h => ih h.2
    | fork b t1 t2 ih1 ih2 =>
     intro h
     cases b with
     | true => exact ih1 (h.1 rfl)
     | false => exact ih2 (h.2 rfl)
   exact this h4
  ·simp at h1
 ·simp at hc
theorem Bk {rl : List (Nat × Nat)} : ∀ {rest : List AV}, aX rest = [] → (rest.all fun v => !v.isTuple) = true → eO (aU rl) rest rest
 | [], _, _ => trivial
 | v :: r, h1, h2 => by
  simp only [aX, List.append_eq_nil_iff] at h1
  simp only [List.all_cons, Bool.and_eq_true, Bool.not_eq_true'] at h2
  exact ⟨⟨h2.1, aG h1.1⟩, Bk h1.2 h2.2⟩
include hT in
theorem Hj {f : FuncId} {fn : Func} {x : Code} (hf : aO P f fn x) {k idx es off : Nat} {p : List Nat} {rest : List AV} {o2 o o' : aD} {res : AV} {l : List Prop}
  (hkr : aX rest = []) (hrt : (rest.all fun v => !v.isTuple) = true) (hlen : rest.length + 1 ≤ fn.ntmps) (ho : ∀ ρ, ct ρ o2 o)
  (h : ay l → ∀ c : Ctx, Kept [0] c → aq P c fn.ntmps x ⟨aN 0 (.ptr 0 idx es off p :: rest), [(0, o)], 1⟩ (IF T fn k res o')) (K : Nat) :
  aC P f K (.ptr k idx es off p :: rest) [(k, o2)] ⟨res, [(k, o')], l⟩ := by
 refine lZ hT hf (args0 := .ptr 0 idx es off p :: rest) (pre0 := [(0, o)]) (nx := 1) [(0, k)] (by simpa using hlen) (by simp [gU]) ⟨⟨rfl, jF rfl⟩, Bk hkr hrt⟩ ⟨⟨k, o2, rfl, by simp [look], ho _⟩, trivial⟩
  (fun a x h => ?_) (fun x o h => .inl ?_) (fun need c h0 => ?_)
 ·simp only [aU, look] at h
  split at h
  ·simp only [Option.some.injEq] at h; subst h; exact ⟨_, by simp [look]; rfl⟩
  ·simp at h
 ·simp only [look] at h
  split at h
  ·rename_i he
   exact ⟨_, by simp only [look, he, if_true]; rfl⟩
  ·simp at h
 have hk : Kept [0] c := fun a y hy => by
  have := h0 a y hy
  simp only [aU, look] at this
  split at this
  ·rename_i he; have := eq_of_beq he; subst this; exact List.mem_singleton_self _
  ·simp at this
 refine (h need c hk).mono fun e s' ⟨h1, h2, o1, g1, g2, g3⟩ => ⟨h1, aU [(k, 0)], tV, .inl ⟨h2, fun x ox hx => ?_⟩⟩
 have he : bT (eg [(k, o')]) [(k, o2)] = [(k, o')] := by simp [bT, eg, put]
 rw [he] at hx
 simp only [look] at hx
 split at hx
 ·rename_i hk
  have : k = x := by simpa using hk
  subst this
  simp only [Option.some.injEq] at hx
  subst hx
  exact ⟨0, o1, by simp [aU, look], g1, g2, g3⟩
 ·simp at hx
end rules
end Go.Am

/- Functions that are handed two lists that may still be written to, and leave them as they are. -/
namespace Go.Am
open AV
theorem I7 {ρ : Nat → Option Nat} : ∀ {us vs : List AV}, aX us = [] → (us.all fun v => !v.isTuple) = true → dX us vs → eO ρ us vs
 | [], [], _, _, _ => trivial
 | u :: us, v :: vs, h1, h2, h => by
  simp only [aX, List.append_eq_nil_iff] at h1
  simp only [List.all_cons, Bool.and_eq_true, Bool.not_eq_true'] at h2
  exact ⟨⟨h2.1, rS h1.1 h.1⟩, I7 h1.2 h2.2 h.2⟩
 | [], _ :: _, _, _, h => h.elim
 | _ :: _, [], _, _, h => h.elim
def Bn (T : Types) (fn : Func) (e : ak) (s : aE) : Option (af (List AV × Option aD × Option aD)) := match e with
 | .exit _ => none
 | e => match fC T s fn.results.toList with
  | some (vs, q) => some (.need q (.leaf e (vs, look 0 s.store, look 1 s.store)))
  | none => none
def Fc (us : List AV) (o p : aD) (v : List AV × Option aD × Option aD) : Prop :=
 aX v.1 = [] ∧ (v.1.all fun v => !v.isTuple) = true ∧ dX v.1 us ∧ (∃ o1, v.2.1 = some o1 ∧ ∀ ρ, ct ρ o1 o) ∧ ∃ p1, v.2.2 = some p1 ∧ ∀ ρ, ct ρ p1 p
def Di (T : Types) (fn : Func) (us : List AV) (o p : aD) (e : ak) (s : aE) : Prop :=
 (e = .normal ∨ e = .ret) ∧ (∃ vs q, fC T s fn.results.toList = some (vs, q) ∧ ay q ∧ aX vs = [] ∧ (vs.all fun v => !v.isTuple) = true ∧ dX vs us) ∧ (∃ o1, look 0 s.store = some o1 ∧ ∀ ρ, ct ρ o1 o) ∧ ∃ p1, look 1 s.store = some p1 ∧ ∀ ρ, ct ρ p1 p
theorem Ns {T : Types} {fn : Func} {e : ak} {s : aE} {t : af (List AV × Option aD × Option aD)} {us : List AV} {o p : aD} (h1 : Bn T fn e s = some t) (h2 : t.all fun _ v => Fc us o p v) : Di T fn us o p e s := by
 unfold Bn at h1
 have key : ∀ {e' : ak}, (match fC T s fn.results.toList with
   | some (vs, q) => some (af.need q (.leaf e' (vs, look 0 s.store, look 1 s.store)))
   | none => none) = some t → (∃ vs q, fC T s fn.results.toList = some (vs, q) ∧ ay q ∧ aX vs = [] ∧ (vs.all fun v => !v.isTuple) = true ∧ dX vs us) ∧ (∃ o1, look 0 s.store = some o1 ∧ ∀ ρ, ct ρ o1 o) ∧ ∃ p1, look 1 s.store = some p1 ∧ ∀ ρ, ct ρ p1 p := by
  intro e' h1
  cases hr : fC T s fn.results.toList with
  | none => rw [hr] at h1; simp at h1
  | some r =>
   obtain ⟨vs, q⟩ := r
   rw [hr] at h1
   simp only [Option.some.injEq] at h1
   subst h1
   obtain ⟨g1, g2, g3, g4, g5, g6⟩ := af.yY.1 h2
   exact ⟨⟨vs, q, rfl, g1, g2, g3, g4⟩, g5, g6⟩
 cases e with
 | normal => exact ⟨.inl rfl, key h1⟩
 | ret => exact ⟨.inr rfl, key h1⟩
 | exit i => simp at h1
section rules
variable {P : Program} {c : Ctx} {nt : Nat} {s : aE} {Q : ak → aE → Prop} {T : Types} (hT : dn P T) {Γ : aW} (hΓ : br P Γ) (hm : P.follows .mixedOrders = true)
def GI (T : Types) (fn : Func) (L : List Nat) (us : List AV) (o p : aD) (v : List AV × aB) : Prop :=
 ∃ vs ws nx t, v.1 = vs ++ ws ∧ vs.length = L.length ∧ aX ws = [] ∧ Bn T fn .ret ⟨az L vs, v.2, nx⟩ = some t ∧ gD nx vs = true ∧ fe nx v.2 ∧ 2 ≤ nx ∧ t.all fun _ v => Fc us o p v
theorem GI.fin {fn : Func} {L L1 : List Nat} {us : List AV} {o p : aD} {v : List AV × aB} {s' : aE} (h0 : Kept [0, 1] c) (h : GI T fn L us o p v) (hs' : aQ (L ++ L1) s' = some v) : dy c (Di T fn us o p) .ret s' := by
 obtain ⟨vs, ws, nx, t, h1, h2, h3, h4, h5, h6, hn, h7⟩ := h
 obtain ⟨v1, v2⟩ := v
 simp only at h1
 subst h1
 obtain ⟨ρ, hle⟩ := kJ (gf hs' h2 h3) (fun k x hk => by
  have := h0 k x hk
  simp only [List.mem_cons, List.not_mem_nil, or_false] at this
  omega) h5 h6
 exact .inr ⟨_, ρ, hle, Ns h4 h7⟩
end rules
end Go.Am

/- Functions that are handed a list to write to, and give back a part of it. -/
namespace Go.Am
open AV
def Cs (fn : Func) (k : Nat) (ws : List AV) (o' : aD) (e : ak) (s' : aE) : Prop :=
 (e = .normal ∨ e = .ret) ∧ ∃ ls vs us os o1, aQ ls s' = some (vs, os) ∧ jh (az ls vs) fn.results.toList = some us ∧ eO (aU [(k, 0)]) us ws ∧ look 0 os = some o1 ∧ ct (aU [(k, 0)]) o1 o'
def CO (fn : Func) (k : Nat) (ws : List AV) (o' : aD) (L : List Nat) (v : List AV × aB) : Prop := ∃ us o1, jh (az L v.1) fn.results.toList = some us ∧ eO (aU [(k, 0)]) us ws ∧ look 0 v.2 = some o1 ∧ ct (aU [(k, 0)]) o1 o'
theorem CO.fin {fn : Func} {k : Nat} {ws : List AV} {o' : aD} {L : List Nat} {v : List AV × aB} {s' : aE} (h : CO fn k ws o' L v) (hs' : aQ L s' = some v) : Cs fn k ws o' .ret s' := by
 obtain ⟨us, o1, h1, h2, h3, h4⟩ := h
 exact ⟨.inr rfl, L, v.1, us, v.2, o1, hs', h1, h2, h3, h4⟩
section rules
variable {P : Program} {c : Ctx} {nt : Nat} {s : aE} {Q : ak → aE → Prop} {T : Types} (hT : dn P T) {Γ : aW} (hΓ : br P Γ) (hm : P.follows .mixedOrders = true)
include hT in
theorem BB {f : FuncId} {fn : Func} {x : Code} (hf : aO P f fn x) {k es st n : Nat} {rest ws : List AV} {o2 o o' : aD} {l : List Prop}
  (hkr : aX rest = []) (hrt : (rest.all fun v => !v.isTuple) = true) (hlen : rest.length + 1 ≤ fn.ntmps) (ho : ∀ ρ, ct ρ o2 o)
  (h : ay l → ∀ c : Ctx, Kept [0] c → aq P c fn.ntmps x ⟨aN 0 (.own 0 es st n :: rest), [(0, o)], 1⟩ (Cs fn k ws o')) (K : Nat) :
  aC P f K (.own k es st n :: rest) [(k, o2)] ⟨ou ws, [(k, o')], l⟩ := by
 refine lZ hT hf (args0 := .own 0 es st n :: rest) (pre0 := [(0, o)]) (nx := 1) [(0, k)] (by simpa using hlen) (by simp [gU]) ⟨⟨rfl, cH rfl rfl rfl⟩, Bk hkr hrt⟩ ⟨⟨k, o2, rfl, by simp [look], ho _⟩, trivial⟩
  (fun a x h => ?_) (fun x o h => .inl ?_) (fun need c h0 => ?_)
 ·simp only [aU, look] at h
  split at h
  ·simp only [Option.some.injEq] at h; subst h; exact ⟨_, by simp [look]; rfl⟩
  ·simp at h
 ·simp only [look] at h
  split at h
  ·rename_i he
   exact ⟨_, by simp only [look, he, if_true]; rfl⟩
  ·simp at h
 have hk : Kept [0] c := fun a y hy => by
  have := h0 a y hy
  simp only [aU, look] at this
  split at this
  ·rename_i he; have := eq_of_beq he; subst this; exact List.mem_singleton_self _
  ·simp at this
 refine (h need c hk).mono fun e s' ⟨h1, ls, vs, us, os, o1, g1, g2, g3, g4, g5⟩ => ⟨h1, aU [(k, 0)], tV, .inr (o5 (ws := ws) (ps := [(k, o')]) g1 g2 g3 rfl (by simp [bT, eg, put]) ⟨⟨0, o1, by simp [aU, look], g4, g5⟩, trivial⟩)⟩
include hT in
theorem Qb {f : FuncId} {fn : Func} {x : Code} (hf : aO P f fn x) {args args0 ws : List AV} {o' : aD} {K : Nat} {l : List Prop} (ha : ay l → eO (aU []) args args0) (hlen : args0.length ≤ fn.ntmps)
  (h : ay l → ∀ c : Ctx, Kept [] c → aq P c fn.ntmps x ⟨aN 0 args0, [], 0⟩ fun e s' => (e = .normal ∨ e = .ret) ∧ ∃ ls vs us os a o, aQ ls s' = some (vs, os) ∧ jh (az ls vs) fn.results.toList = some us ∧ eO (aU [(K, a)]) us ws ∧ look a os = some o ∧ ct (aU [(K, a)]) o o') :
  aC P f K args [] ⟨ou ws, [(K, o')], l⟩ := by
 intro need
 refine (lZ hT hf (args0 := args0) (pre0 := []) (nx := 0) [] hlen rfl (ha need) trivial (fun a k h => by simp [aU, look] at h) (fun k o h => ?_) (fun need c h0 => ?_) : aC P f K args [] ⟨ou ws, [(K, o')], l⟩) need
 ·simp only [look] at h
  split at h
  ·rename_i he
   have : K = k := by simpa using he
   subst this
   exact .inr ⟨Nat.le_refl _, by unfold bY; omega⟩
  ·simp at h
 ·refine (h need c fun k x hk => by simpa [aU, look] using h0 k x hk).mono ?_
  rintro e s' ⟨h1, ls, vs, us, os, a, o, h2, h3, h4, h5, h6⟩
  exact ⟨h1, aU [(K, a)], BI ⟨Nat.le_refl _, by unfold bY; omega⟩, .inr (o5 (ws := ws) (ps := [(K, o')]) h2 h3 h4 rfl rfl ⟨⟨a, o, by simp [aU, look], h5, h6⟩, trivial⟩)⟩
end rules
end Go.Am

/- A loop in a loop. -/
namespace Go.Am
open AV
section rules
variable {P : Program} {c : Ctx} {nt : Nat} {s : aE} {Q : ak → aE → Prop} {T : Types} (hT : dn P T) {Γ : aW} (hΓ : br P Γ) (hm : P.follows .mixedOrders = true)
def Head (kp : List Nat) {α : Type} (V : α → List AV) (O : α → aB) (nx : Nat) (D : α → Prop) (i : Nat) (R : List AV × aB → Prop) (G : α → Prop) (a : α) : ak → List AV × aB → Prop
 | .normal, v => G a ∧ cQ kp v (V a) (O a) nx
 | .exit k, v => k = i ∧ ∃ b, D b ∧ cQ kp v (V b) (O b) nx
 | .ret, v => R v
def F7 (kp : List Nat) {α : Type} (V : α → List AV) (O : α → aB) (nx : Nat) (I : α → Prop) (μ : α → Nat) (a : α) : ak → List AV × aB → Prop
 | .normal, v => ∃ b, I b ∧ μ b < μ a ∧ cQ kp v (V b) (O b) nx
 | _, _ => False
theorem VP {i : Nat} {y : Code} (h : bE nt (.block i (.loop y)) = true) : bE nt y = true := by simpa [bE] using h
theorem Wg {i : Nat} {y : Code} (h : bE nt (.block i y) = true) : bE nt y = true := by simpa [bE] using h
include hT hΓ hm in
theorem aq.Yk {x y : Code} (p : List Nat) {i : Nat} (hc : chain x p = true) (hx : part x p = .block i (.loop y)) (hd : bE nt x = true) {kp : List Nat} (h0 : Kept kp c) {f1 : List Nat} (n : Nat) (L : List Nat) (nx : Nat) {α : Type} (V : α → List AV) (O : α → aB) (I D : α → Prop) (μ : α → Nat) (R : List AV × aB → Prop)
  (hp : ∃ t, aF T Γ f1 n L (before x p) s = some t ∧ t.all (Start kp V O nx I R))
  (hb : ∀ a, I a → aq P c nt y ⟨az L (V a), O a, nx⟩ (yT c L V O nx I D μ i (fun s' => ∃ v, R v ∧ aQ L s' = some v) a))
  (hD : ∀ b s', D b → (∃ ρ, Le c ρ s' ⟨az L (V b), O b, nx⟩) → aA P c nt (behind x p) s' Q) (hR : ∀ v s', R v → aQ L s' = some v → Q .ret s') : aq P c nt x s Q := by
 obtain ⟨t, h1, h2⟩ := hp
 refine aq.hole p hc (aA.aS hT hΓ hm n L h1 (kD hd) (af.dM ?_ h2))
 rintro e v hv s' hs'
 cases e with
 | normal =>
  obtain ⟨a, hI, hre⟩ := hv
  refine aq.fz hx (fun a => ⟨az L (V a), O a, nx⟩) I μ a (hre.le hs' h0) hI fun a ha => (hb a ha).mono fun e s' h => ?_
  cases e with
  | normal =>
   obtain ⟨b, g1, g2, g3⟩ := h
   exact ⟨b, g3, g1, g2⟩
  | exit k =>
   obtain ⟨rfl, b, g1, g2⟩ := h
   refine pn ?_
   show aA P c nt (behind x p) s' _
   exact hD b s' g1 g2
  | ret =>
   obtain ⟨v, g1, g2⟩ := h
   exact hR v s' g1 g2
 | ret => exact hR v s' hv hs'
 | exit k => exact hv.elim
include hT hΓ hm in
theorem aq.oY {x : Code} (p : List Nat) (hc : chain x p = true) (hz : behind x p = []) (hd : bE nt x = true) {kp : List Nat} (h0 : Kept kp c) {f1 : List Nat} (n : Nat) (L : List Nat) (nx : Nat) {α : Type} (V : α → List AV) (O : α → aB) (I : α → Prop)
  (hp : ∃ t, aF T Γ f1 n L (before x p) s = some t ∧ t.all fun e v => match e with
   | .normal => ∃ a, I a ∧ cQ kp v (V a) (O a) nx
   | e => ∀ s', aQ L s' = some v → Q e s')
  (hb : ∀ a, I a → aq P c nt (part x p) ⟨az L (V a), O a, nx⟩ Q) : aq P c nt x s Q := by
 obtain ⟨t, h1, h2⟩ := hp
 refine aq.hole p hc (aA.aS hT hΓ hm n L h1 (kD hd) (af.dM ?_ h2))
 rintro e v hv s' hs'
 cases e with
 | normal =>
  obtain ⟨a, hI, hre⟩ := hv
  show aq P c nt (part x p) s' _
  rw [hz]
  exact aq.jB (hre.le hs' h0) ((hb a hI).mono fun e s' h => by cases e <;> exact h)
 | ret => exact hv s' hs'
 | exit k => exact hv s' hs'
include hT hΓ hm in
theorem aq.zf {x y x1 zb y2 : Code} (p : List Nat) {i : Nat} (hc : chain x p = true) (hx : part x p = .block i (.loop y)) (hd : bE nt x = true)
  (q : List Nat) {j : Nat} (hcq : chain y q = true) (hxq : part y q = .block j x1) (hzq : behind y q = [zb]) (r : List Nat) {i2 : Nat} (hcr : chain x1 r = true) (hxr : part x1 r = .block i2 (.loop y2)) (hij : (i == j) = false)
  {kp : List Nat} (h0 : Kept kp c) {f1 f2 f3 f4 f5 : List Nat} (n : Nat) (L1 L2 : List Nat) (nx1 nx2 : Nat) {α β : Type} (V1 : α → List AV) (O1 : α → aB) (I1 D1 : α → Prop) (μ1 : α → Nat) (G : α → Prop) (R1 R2 : List AV × aB → Prop)
  (V2 : α → β → List AV) (O2 : α → β → aB) (I2 D2 : α → β → Prop) (μ2 : α → β → Nat)
  (hp : ∃ t, aF T Γ f1 n L1 (before x p) s = some t ∧ t.all (Start kp V1 O1 nx1 I1 R1))
  (ho : ∀ a, I1 a → ∃ t, aF T Γ f2 n L1 (before y q) ⟨az L1 (V1 a), O1 a, nx1⟩ = some t ∧ t.all (Head kp V1 O1 nx1 D1 i R1 G a))
  (hi : ∀ a, I1 a → G a → ∃ t, aF T Γ f3 n L2 (before x1 r) ⟨az L1 (V1 a), O1 a, nx1⟩ = some t ∧ t.all (Start kp (V2 a) (O2 a) nx2 (I2 a) R2))
  (hb : ∀ a, I1 a → G a → ∀ b, I2 a b → ∃ t, aF T Γ f4 n L2 [y2] ⟨az L2 (V2 a b), O2 a b, nx2⟩ = some t ∧ t.all (Round kp (V2 a) (O2 a) nx2 (I2 a) (D2 a) (μ2 a) i2 R2 b))
  (ht : ∀ a, I1 a → G a → ∀ b, D2 a b → ∃ t, aF T Γ f5 n L1 (behind x1 r ++ [zb]) ⟨az L2 (V2 a b), O2 a b, nx2⟩ = some t ∧ t.all (F7 kp V1 O1 nx1 I1 μ1 a))
  (hD : ∀ b s', D1 b → (∃ ρ, Le c ρ s' ⟨az L1 (V1 b), O1 b, nx1⟩) → aA P c nt (behind x p) s' Q) (hR1 : ∀ v s', R1 v → aQ L1 s' = some v → Q .ret s') (hR2 : ∀ v s', R2 v → aQ L2 s' = some v → Q .ret s') : aq P c nt x s Q := by
 have hdy : bE nt y = true := by
  have := vg (nt := nt) hc hd
  rw [hx] at this
  exact VP this
 have hdx1 : bE nt x1 = true := by
  have := vg (nt := nt) hcq hdy
  rw [hxq] at this
  exact Wg this
 have hdz : ((behind x1 r ++ [zb]).all fun x => bE nt x) = true := by
  have h1 := vS (nt := nt) (p := r) hdx1
  have h2 := vS (nt := nt) (p := q) hdy
  rw [hzq] at h2
  rw [List.all_append, h1, h2]; rfl
 obtain ⟨t, h1, h2⟩ := hp
 refine aq.hole p hc (aA.aS hT hΓ hm n L1 h1 (kD hd) (af.dM ?_ h2))
 rintro e v hv s' hs'
 cases e with
 | ret => exact hR1 v s' hv hs'
 | exit k => exact hv.elim
 | normal =>
  obtain ⟨a, hI, hre⟩ := hv
  refine (show aq P c nt (part x p) s' _ from aq.fz hx (fun a => ⟨az L1 (V1 a), O1 a, nx1⟩) I1 μ1 a (hre.le hs' h0) hI fun a ha => ?_)
  refine aq.mono (Q := yT c L1 V1 O1 nx1 I1 D1 μ1 i (fun s' => Q .ret s') a) ?_ fun e s' h => ?_
  ·refine aq.vI hT hΓ hm q hcq hxq hzq hdy h0 (f1 := f2) n L1 nx1 (fun _ : Unit => V1 a) (fun _ => O1 a) (fun _ => G a) ?_ (fun _ hG => ?_)
   ·obtain ⟨t, g1, g2⟩ := ho a ha
    refine ⟨t, g1, af.dM ?_ g2⟩
    rintro e v hv
    cases e with
    | normal => exact ⟨(), hv.1, hv.2⟩
    | exit k => exact fun s' hs' => ⟨hv.1, hv.2.imp fun b hb => ⟨hb.1, hb.2.le hs' h0⟩⟩
    | ret => exact fun s' hs' => hR1 v s' hv hs'
   ·refine aq.uP hT hΓ hm r hcr hxr hdx1 h0 (f1 := f3) (f2 := f4) n L2 nx2 (V2 a) (O2 a) (I2 a) (D2 a) (μ2 a) R2 (hi a ha hG) (hb a ha hG) (fun b s' hb hle => ?_) (fun v s' hv hs' => hR2 v s' hv hs')
    obtain ⟨t, g1, g2⟩ := ht a ha hG b hb
    have key : aA P c nt (behind x1 r ++ [zb]) s' (yT c L1 V1 O1 nx1 I1 D1 μ1 i (fun s' => Q .ret s') a) := by
     refine aA.weak (by cases behind x1 r <;> rfl) hle (aA.aS hT hΓ hm n L1 g1 hdz (af.dM ?_ g2))
     rintro e v hv s' hs'
     cases e with
     | normal =>
      obtain ⟨b, k1, k2, k3⟩ := hv
      exact ⟨b, k1, k2, k3.le hs' h0⟩
     | exit k => exact hv.elim
     | ret => exact hv.elim
    refine aA.mono ?_ (aA.append key)
    rintro e s' h
    cases e with
    | normal => exact aq.js h
    | exit k =>
     simp only [inBlock]
     have hk : k = i := h.1
     rw [if_neg (by rw [hk]; simpa using hij)]
     exact h
    | ret => exact h
  ·cases e with
   | normal =>
    obtain ⟨b, g1, g2, g3⟩ := h
    exact ⟨b, g3, g1, g2⟩
   | exit k =>
    obtain ⟨rfl, b, g1, g2⟩ := h
    refine pn ?_
    show aA P c nt (behind x p) s' _
    exact hD b s' g1 g2
   | ret => exact h
include hT hΓ hm in
theorem aq.Cd {x y z x1 zb y2 : Code} (p : List Nat) {i : Nat} (hc : chain x p = true) (hx : part x p = .block i (.loop y)) (hz : behind x p = [z]) (hd : bE nt x = true)
  (q : List Nat) {j : Nat} (hcq : chain y q = true) (hxq : part y q = .block j x1) (hzq : behind y q = [zb]) (r : List Nat) {i2 : Nat} (hcr : chain x1 r = true) (hxr : part x1 r = .block i2 (.loop y2)) (hij : (i == j) = false)
  {kp : List Nat} (h0 : Kept kp c) {f1 f2 f3 f4 f5 : List Nat} (n : Nat) (L1 L2 : List Nat) (nx1 nx2 : Nat) {α β : Type} (V1 : α → List AV) (O1 : α → aB) (I1 D1 : α → Prop) (μ1 : α → Nat) (G : α → Prop) (R1 R2 : List AV × aB → Prop)
  (V2 : α → β → List AV) (O2 : α → β → aB) (I2 D2 : α → β → Prop) (μ2 : α → β → Nat)
  (hp : ∃ t, aF T Γ f1 n L1 (before x p) s = some t ∧ t.all (Start kp V1 O1 nx1 I1 R1))
  (ho : ∀ a, I1 a → ∃ t, aF T Γ f2 n L1 (before y q) ⟨az L1 (V1 a), O1 a, nx1⟩ = some t ∧ t.all (Head kp V1 O1 nx1 D1 i R1 G a))
  (hi : ∀ a, I1 a → G a → ∃ t, aF T Γ f3 n L2 (before x1 r) ⟨az L1 (V1 a), O1 a, nx1⟩ = some t ∧ t.all (Start kp (V2 a) (O2 a) nx2 (I2 a) R2))
  (hb : ∀ a, I1 a → G a → ∀ b, I2 a b → ∃ t, aF T Γ f4 n L2 [y2] ⟨az L2 (V2 a b), O2 a b, nx2⟩ = some t ∧ t.all (Round kp (V2 a) (O2 a) nx2 (I2 a) (D2 a) (μ2 a) i2 R2 b))
  (ht : ∀ a, I1 a → G a → ∀ b, D2 a b → ∃ t, aF T Γ f5 n L1 (behind x1 r ++ [zb]) ⟨az L2 (V2 a b), O2 a b, nx2⟩ = some t ∧ t.all (F7 kp V1 O1 nx1 I1 μ1 a))
  (hD : ∀ b, D1 b → aq P c nt z ⟨az L1 (V1 b), O1 b, nx1⟩ Q) (hR1 : ∀ v s', R1 v → aQ L1 s' = some v → Q .ret s') (hR2 : ∀ v s', R2 v → aQ L2 s' = some v → Q .ret s') : aq P c nt x s Q :=
 aq.zf hT hΓ hm p hc hx hd q hcq hxq hzq r hcr hxr hij h0 n L1 L2 nx1 nx2 V1 O1 I1 D1 μ1 G R1 R2 V2 O2 I2 D2 μ2 hp ho hi hb ht (fun b s' hb hle => by rw [hz]; exact aA.weak rfl hle (aA.one (hD b hb))) hR1 hR2
end rules
end Go.Am

/- The call of a law, from its contract: whatever the arguments. -/
namespace Go.Am
open Go Go.ChangeShapes Go.WideShapes Go.ChangeAt Go.RowKit AV
inductive PK where
 | list
 | int (k : IntKind)
 | bool
def GZ (P : Program) : PK → TypeId → Prop
 | .list, t => ∃ e, P.underlying t = some (.slice e) ∧ P.underlying e = some (.int .i64) ∧ P.cellsOf e = 1
 | .int k, t => P.underlying t = some (.int k)
 | .bool, t => P.underlying t = some .bool
def tO (P : Program) : List PK → List TypeId → Prop
 | [], [] => True
 | k :: ks, t :: ts => (GZ P k t ∧ P.readableRec t = true ∧ t < P.types.size) ∧ tO P ks ts
 | _, _ => False
def DG : PK → AV → Prop
 | .list, a => ∃ (n : Nat) (z : Nat → Int), a = .ah 1 n (fun i => .int .i64 (z i))
 | .int k, a => ∃ n, a = .int k n
 | .bool, a => ∃ b, a = .bool b
def zV : List PK → List AV → Prop
 | [], as => as = []
 | k :: ks, as => ∃ a l, as = a :: l ∧ DG k a ∧ zV ks l
section
variable {P : Program} {H : Type} {enc : TypeId × Value → H} {W : World} {base : Nat}
theorem W4 {k : PK} {t : TypeId} {v : Value} {d : DataW H} {p : List MemPlace} (hk : GZ P k t) (h : DataW.Trod enc P W 0 (fun _ => true) true t v d p) (hv : Value.okWide P W .any base t v) : ∃ a, DG k a ∧ aV (fun _ => False) W aR a v := by
 cases k with
 | int k =>
  obtain ⟨n, rfl⟩ := okWide_int hk hv
  exact ⟨_, ⟨n, rfl⟩, .bV (.int .nil) rfl⟩
 | bool =>
  obtain ⟨b, rfl⟩ := okWide_bool hk hv
  exact ⟨_, ⟨b, rfl⟩, .bV (.bool .nil) rfl⟩
 | list =>
  obtain ⟨e, h1, h2, h3⟩ := hk
  obtain ⟨a0, len, cap, rfl⟩ := okWide_slice h1 hv
  obtain ⟨fuel, hf⟩ := h
  have key : ∀ {z : Nat → Int}, len ≤ cap → (len = 0 ∨ ∃ b o, a0 = some ⟨b, o, none⟩ ∧ ∀ i, i < len → W.cell? ⟨b, o + i, none⟩ = some (.int .i64 (z i))) → aV (fun _ => False) W aR (.ah 1 len (fun i => .int .i64 (z i))) (.slice a0 len cap) := fun {z} hcap hr => by
   refine .bV (.ah (cf := fun i => [.int .i64 (z i)]) ?_ (by omega) hcap (fun _ _ => rfl) (fun _ _ => .int .nil) .nil) rfl
   rcases hr with hr | ⟨b, o, rfl, hr⟩
   ·exact .inl hr
   ·refine .inr ⟨b, o, rfl, fun i hi => ?_⟩
    have hc := hr i hi
    simp only [World.cell?] at hc
    split at hc
    ·rename_i cs ty fr hh
     simp only [Option.isSome_none, Bool.false_eq_true, if_false] at hc
     refine ⟨cs, ty, fr, hh, id, fun j v hj => ?_⟩
     have hj0 : j = 0 := by have := (List.getElem?_eq_some_iff.1 hj).1; simp at this; exact this
     subst hj0
     simp only [List.getElem?_cons_zero, Option.some.injEq] at hj
     subst hj
     simpa using hc
    ·simp at hc
  rcases open_ints h1 h2 h3 hf with ⟨hcs, hx⟩ | ⟨a, len', cap', zs, hcs, _, hl, hm, hz, hx, hcell, hwz⟩
  ·simp only [Value.cells, List.cons.injEq, Value.slice.injEq, and_true] at hcs
   obtain ⟨rfl, rfl, rfl⟩ := hcs
   exact ⟨_, ⟨0, fun _ => 0, rfl⟩, key (z := fun _ => 0) (Nat.le_refl _) (.inl rfl)⟩
  ·simp only [Value.cells, List.cons.injEq, Value.slice.injEq, and_true] at hcs
   obtain ⟨rfl, rfl, rfl⟩ := hcs
   simp only [if_true] at hz
   refine ⟨_, ⟨len, fun i => zs.getD i 0, rfl⟩, key hl ?_⟩
   rcases Nat.eq_zero_or_pos len with h0 | h0
   ·exact .inl h0
   ·obtain ⟨b, o, m⟩ := a
    have h1 := hcell 0 (by omega)
    have : m = none := by
     cases m with
     | none => rfl
     | some y => exfalso; simp only [Addr.add, World.cell?] at h1; split at h1 <;> simp at h1
    subst this
    exact .inr ⟨b, o, rfl, fun i hi => by
     have h2 := hcell i (by omega)
     rcases Nat.eq_zero_or_pos i with hi | hi
     ·subst hi; simpa [Addr.add] using h2
     ·simpa [Addr.add, Nat.pos_iff_ne_zero.1 hi] using h2⟩
theorem Iw : ∀ {ks : List PK} {ts : List TypeId} {vs : List Value} {ds : List (DataW H)} {p : List MemPlace}, tO P ks ts → DataW.TrodAll enc P W 0 (fun _ => true) true ts vs ds p → (∀ (j : Nat) t v, ts[j]? = some t → vs[j]? = some v → Value.okWide P W .any base t v) →
  ∃ as, zV ks as ∧ bP (fun _ => False) W aR as vs
 | [], [], vs, ds, p, _, h, _ => by
  obtain ⟨rfl, _, _⟩ := trodAll_nil h
  exact ⟨[], rfl, trivial⟩
 | k :: ks, t :: ts, vs, ds, p, hk, h, hv => by
  obtain ⟨v, vs', d, ds', p1, q, rfl, rfl, rfl, hd, hrest⟩ := trodAll_cons h
  obtain ⟨a, h1, h2⟩ := W4 hk.1.1 hd (hv 0 t v rfl rfl)
  obtain ⟨as, h3, h4⟩ := Iw hk.2 hrest fun j t v h1 h2 => hv (j + 1) t v h1 h2
  exact ⟨a :: as, ⟨a, as, rfl, h1, h3⟩, h2, h4⟩
 | [], _ :: _, _, _, _, h, _, _ => h.elim
 | _ :: _, [], _, _, _, h, _, _ => h.elim
theorem IT {b : Nat} {sp : Nat → Bool} {held : Bool} : ∀ {ts : List TypeId} {vs : List Value} {ds : List (DataW H)} {p : List MemPlace}, DataW.TrodAll enc P W b sp held ts vs ds p → ds.length = ts.length
 | [], vs, ds, p, h => by
  obtain ⟨_, rfl, _⟩ := trodAll_nil h
  rfl
 | t :: ts, vs, ds, p, h => by
  obtain ⟨v, vs', d, ds', p1, q, rfl, rfl, rfl, hd, hrest⟩ := trodAll_cons h
  simp [IT hrest]
theorem F0 (hl : laidOutB P = true) {W' : World} (hb : Below W.heap.size W W') : ∀ {ks : List PK} {ts : List TypeId} {vs : List Value} {ds : List (DataW H)} {p : List MemPlace}, tO P ks ts → DataW.TrodAll enc P W 0 (fun _ => true) true ts vs ds p → (∀ x ∈ p, x.block < W.heap.size) →
  DataW.TrodAll enc P W' 0 (fun b => decide (b < W.heap.size)) true ts vs ds p
 | [], [], vs, ds, p, _, h, _ => by
  obtain ⟨rfl, rfl, rfl⟩ := trodAll_nil h
  exact trodAll_mk0
 | k :: ks, t :: ts, vs, ds, p, hk, h, hlt => by
  obtain ⟨v, vs', d, ds', p1, q, rfl, rfl, rfl, hd, hrest⟩ := trodAll_cons h
  exact ⟨_, _, Below.trod hl hk.1.2.1 hk.1.2.2 hd hb fun x hx => hlt x (List.mem_append_left _ hx), F0 hl hb hk.2 hrest fun x hx => hlt x (List.mem_append_right _ hx), rfl⟩
 | [], _ :: _, _, _, _, h, _, _ => h.elim
 | _ :: _, [], _, _, _, h, _, _ => h.elim
theorem P5 (hl : laidOutB P = true) {f : FuncId} {fn : Func} (hf : P.funcs[f]? = some fn) (hb : fn.body.isNone = false) {ks : List PK} {ts : List TypeId} (hk : tO P ks ts) {args : Array Value} {ds : List (DataW H)} {p : List MemPlace}
  (hA : DataW.TrodAll enc P W 0 (fun _ => true) true ts args.toList ds p) (hv : ∀ (j : Nat) t v, ts[j]? = some t → args[j]? = some v → Value.okWide P W .any base t v) (hlt : ∀ x ∈ p, x.block < W.heap.size) (hF : ∀ as, zV ks as → aC P f 0 as [] ⟨.bool true, [], []⟩) :
  Calls P f args W fun e W' => e = .returned (.bool true) ∧ Below W.heap.size W W' ∧ DataW.TrodAll enc P W' 0 (fun b => decide (b < W.heap.size)) true ts args.toList ds p := by
 obtain ⟨as, h1, h2⟩ := Iw hk hA fun j t v h1 h2 => hv j t v h1 (by simpa using h2)
 obtain ⟨_, hF⟩ := hF as h1 trivial
 have hrel : bg ⟨fun _ => False, W, fun _ => False, aR⟩ [] (fun _ => False) aR W :=
  { obj := fun k o h => by simp [look] at h, cO := fun k o h => by simp [look] at h, inj := fun k k' o o' b N N' h => by simp [look] at h, dom := fun k x h => by simp [aR] at h, keep := fun k x h => h, lt := fun k b N h => by simp [aR] at h, os := rfl, tape := rfl, output := rfl, size := Nat.le_refl _, block := fun _ _ _ => rfl, fW := fun b h => h.elim, new := fun k o b N h => by simp [look] at h }
 have hM : aI ⟨fun _ => False, W, fun _ => False, aR⟩ [] aR = fun _ => False := by
  funext b
  simp [aI, look]
 have hinv := hF ⟨fun _ => False, W, fun _ => False, aR⟩ (fun _ => False) (fun _ => True) aR W _ rfl (fun b h => h.elim) hrel (fun k h => h.elim) (fun k _ _ => ⟨id, trivial⟩) (by rw [hM]; exact h2)
 rcases hinv with ⟨fn', g1, g2, g3, g4⟩ | ⟨x, g1, _⟩
 ·have g5 := g4
  rw [show args.toList.toArray = args from by simp] at g5
  refine g5.mono fun e W' ⟨x, he, hx⟩ => ?_
  obtain ⟨β', q1, q2, q3⟩ := hx
  have := q3.bool
  subst this
  have hbl : Below W.heap.size W W' := ⟨q1.os, q1.tape, q1.output, q1.size, fun k hk => q1.block k hk id⟩
  exact ⟨he, hbl, F0 hl hbl hk hA hlt⟩
 ·exfalso
  simp only [callFunc, Sem.run_bind, run_program, Result.andThen_ok, hf, hb, Bool.false_eq_true, if_false] at g1
  split at g1 <;> simp at g1
end
end Go.Am
