/- aP of functions that are handed a pointer to an object and leave it changed. -/
import Derived.Test.YtbghpkgbokbmlaaGreatZ1
import Derived.ProofKit
import Derived.ChangeSlices
set_option linter.unusedVariables false
namespace Go.Am
open AV
def AU (T : Types) (fn : Func) (e : ah) (s : aA) : Option (aa (List AV × Option aJ)) :=
 match gI T fn e s with
 | some t => t.bind fun e us => some (.leaf e (us, look 0 s.store))
 | none => none
def nh (T : Types) (Γ : aP) (forks : List Nat) (n : Nat) (fn : Func) (x : Code) (s : aA) : Option (aa (List AV × Option aJ)) :=
 match cE T Γ forks n x s with
 | some t => t.bind (AU T fn)
 | none => none
theorem uh {P : Program} {T : Types} (hT : dh P T) {Γ : aP} (hΓ : aX P Γ) (hm : P.follows .mixedOrders = true) {f : FuncId} {fn : Func} {x : Code} (hf : aO P f fn x) {k idx es off : Nat} {p : List Nat} {rest : List AV} {o2 o o' : aJ} {res : AV} {l : List Prop}
  (hkr : aT rest = []) (hrt : (rest.all fun v => !v.isTuple) = true) (hlen : rest.length + 1 ≤ fn.ntmps) (ho : ∀ ρ, cL ρ o2 o) {forks : List Nat} (n : Nat) {t : aa (List AV × Option aJ)}
  (hc : nh T Γ forks n fn x ⟨aM 0 (.ptr 0 idx es off p :: rest), [(0, o)], 1⟩ = some t)
  (h : ay l → t.all fun _ v => dL v.1 res ∧ ∃ o1, v.2 = some o1 ∧ o1.row = false ∧ cL (aY [(k, 0)]) o1 o') (K : Nat) :
  az P f K (.ptr k idx es off p :: rest) [(k, o2)] ⟨res, [(k, o')], l⟩ := by
 have hrest : ∀ {rest : List AV}, aT rest = [] → (rest.all fun v => !v.isTuple) = true → ey (aY [(0, k)]) rest rest := by
  intro rest
  induction rest with
  | nil => intro _ _; trivial
  | cons v r ih =>
   intro h1 h2
   simp only [aT, List.append_eq_nil_iff] at h1
   simp only [List.all_cons, Bool.and_eq_true, Bool.not_eq_true'] at h2
   exact ⟨⟨h2.1, aD h1.1⟩, ih h1.2 h2.2⟩
 refine nw hT hf (args0 := .ptr 0 idx es off p :: rest) (pre0 := [(0, o)]) (nx := 1) [(0, k)] (by simpa using hlen) (by simp [gU]) ⟨⟨rfl, je rfl⟩, hrest hkr hrt⟩ ⟨⟨k, o2, rfl, by simp [look], ho _⟩, trivial⟩
  (fun a x h => ?_) (fun x o h => .inl ?_) (fun need c h0 => ?_)
 ·simp only [aY, look] at h
  split at h
  ·simp only [Option.some.injEq] at h; subst h; exact ⟨_, by simp [look]; rfl⟩
  ·simp at h
 ·simp only [look] at h
  split at h
  ·rename_i he
   exact ⟨_, by simp only [look, he, if_true]; rfl⟩
  ·simp at h
 have h := h need
 unfold nh at hc
 cases hx : cE T Γ forks n x ⟨aM 0 (.ptr 0 idx es off p :: rest), [(0, o)], 1⟩ with
 | none => rw [hx] at hc; simp at hc
 | some u =>
  rw [hx] at hc
  refine gB hT hΓ hm n hf.dst hx (aa.eW ?_ (aa.gL hc h))
  rintro e s' ⟨v, h1, h2⟩
  unfold AU at h1
  split at h1
  ·rename_i v' hv'
   have h3 := aa.gL h1 h2
   have h4 : v'.all fun _ us => dL us res ∧ ∃ o1, look 0 s'.store = some o1 ∧ o1.row = false ∧ cL (aY [(k, 0)]) o1 o' := by
    refine aa.eW ?_ h3
    rintro e us ⟨w, g1, g2⟩
    simp only [Option.some.injEq] at g1
    subst g1
    exact g2
   have h5 : Fin T fn res e s' := yF hv' (aa.eW (fun _ _ h => h.1) h4)
   have h6 : ∃ o1, look 0 s'.store = some o1 ∧ o1.row = false ∧ cL (aY [(k, 0)]) o1 o' := by
    have : ∀ {t : aa (List AV)}, (t.all fun _ us => dL us res ∧ ∃ o1, look 0 s'.store = some o1 ∧ o1.row = false ∧ cL (aY [(k, 0)]) o1 o') → ∃ o1, look 0 s'.store = some o1 ∧ o1.row = false ∧ cL (aY [(k, 0)]) o1 o' := by
     intro t
     induction t with
     | leaf e us => exact fun h => h.2
     | af ps t ih => exact fun h => ih h.2
     | fork b t1 t2 ih1 ih2 =>
      intro h
      cases b with
      | true => exact ih1 (h.1 rfl)
      | false => exact ih2 (h.2 rfl)
    exact this h4
   refine ⟨h5.1, aY [(k, 0)], vQ, .inl ⟨h5.2, fun x ox hx => ?_⟩⟩
   obtain ⟨o1, g1, g2, g3⟩ := h6
   have he : bR (ec [(k, o')]) [(k, o2)] = [(k, o')] := by simp [bR, ec, put]
   rw [he] at hx
   simp only [look] at hx
   split at hx
   ·rename_i hk
    have : k = x := by simpa using hk
    subst this
    simp only [Option.some.injEq] at hx
    subst hx
    exact ⟨0, o1, by simp [aY, look], g1, g2, g3⟩
   ·simp at hx
  ·simp at h1
theorem P9 {P : Program} {T : Types} (hT : dh P T) {Γ : aP} (hΓ : aX P Γ) (hm : P.follows .mixedOrders = true) {f : FuncId} {fn : Func} {x : Code} (hf : aO P f fn x) {args : List AV} {o o' : aJ} {a idx es off ls : Nat} {p : List Nat} {l : List Prop}
  (hka : aT args = []) (hrt : (args.all fun v => !v.isTuple) = true) (hlen : args.length ≤ fn.ntmps) (hres : fn.results.toList = [.tmp ls]) {forks : List Nat} (n : Nat) {e : ah} {q : List Prop}
  (hc : aI T Γ forks n [ls] [x] ⟨aM 0 args, [], 0⟩ = some (.leaf e ([.ptr a idx es off p], [(a, o)])))
  (he : e = .normal ∨ e = .ret) (h : ∀ ρ, cL ρ o o') (K : Nat) : az P f K args [] ⟨.ptr K idx es off p, [(K, o')], l⟩ := by
 have hrest : ∀ {rest : List AV}, aT rest = [] → (rest.all fun v => !v.isTuple) = true → ey (aY []) rest rest := by
  intro rest
  induction rest with
  | nil => intro _ _; trivial
  | cons v r ih =>
   intro h1 h2
   simp only [aT, List.append_eq_nil_iff] at h1
   simp only [List.all_cons, Bool.and_eq_true, Bool.not_eq_true'] at h2
   exact ⟨⟨h2.1, aD h1.1⟩, ih h1.2 h2.2⟩
 refine nw hT hf (args0 := args) (pre0 := []) (nx := 0) [] hlen rfl (hrest hka hrt) trivial (fun a k h => by simp [aY, look] at h) (fun k o h => ?_) (fun _ c h0 => ?_)
 ·simp only [look] at h
  split at h
  ·rename_i he
   have : K = k := by simpa using he
   subst this
   exact .inr ⟨Nat.le_refl _, by unfold bL; omega⟩
  ·simp at h
 refine aq.aV hT hΓ hm n [ls] hc hf.dst fun s' hv => ⟨he, aY [(K, a)], xw ⟨Nat.le_refl _, by unfold bL; omega⟩, .inr ?_⟩
 refine r6 (us := [.ptr a idx es off p]) (ws := [.ptr K idx es off p]) (ps := [(K, o')]) hv ?_ ⟨⟨rfl, je (by simp [aY, look])⟩, trivial⟩ rfl rfl ⟨⟨a, _, by simp [aY, look], by simp [look], h _⟩, trivial⟩
 rw [hres]
 simp only [iu, aB, look, beq_self_eq_true, if_true]
 rfl
end Go.Am

/- aP that the evaluator itself writes: of functions that only read, without a loop of unknown length. -/
namespace Go.Am
open AV
mutual
/-- One of two values, by a condition that is not known. -/
def cS (b : Bool) : AV → AV → Option AV
 | .rat q n, .rat r m => some (.rat (cond b q r) (max n m))
 | .int k x, .int j y => match isKind k j with
  | true => some (.int k (cond b x y))
  | false => none
 | .bool x, .bool y => some (.bool (cond b x y))
 | .ak e n f, .ak e' m g => match e == e' with
  | true => some (.ak e (cond b n m) fun i => cond b (f i) (g i))
  | false => none
 | .nil, .nil => some .nil
 | .nil, .ak e n f => match Nat.blt 0 e with
  | true => some (.ak e (cond b 0 n) f)
  | false => none
 | .ak e n f, .nil => match Nat.blt 0 e with
  | true => some (.ak e (cond b n 0) f)
  | false => none
 | .agg l, .agg m => match jx b l m with
  | some x => some (.agg x)
  | none => none
 | _, _ => none
def jx (b : Bool) : List AV → List AV → Option (List AV)
 | [], [] => some []
 | u :: l, v :: m => match cS b u v, jx b l m with
  | some x, some y => some (x :: y)
  | _, _ => none
 | _, _ => none
end
mutual
theorem Ta : ∀ {u v x : AV}, cS true u v = some x → bp u x
 | .rat q n, v, x, h => by
  cases v <;> simp only [cS, Option.some.injEq, reduceCtorEq] at h
  subst h; exact dZ (Nat.le_max_left ..)
 | .int k a, v, x, h => by
  cases v <;> simp only [cS, reduceCtorEq] at h
  split at h
  ·simp only [Option.some.injEq] at h; subst h; exact .refl _
  ·simp at h
 | .bool a, v, x, h => by
  cases v <;> simp only [cS, Option.some.injEq, reduceCtorEq] at h
  subst h; exact .refl _
 | .ak e n f, v, x, h => by
  cases v <;> simp only [cS, reduceCtorEq] at h
  ·split at h
   ·simp only [Option.some.injEq] at h; subst h; exact .refl _
   ·simp at h
  ·split at h
   ·simp only [Option.some.injEq] at h; subst h; exact .refl _
   ·simp at h
 | .nil, v, x, h => by
  cases v <;> simp only [cS, Option.some.injEq, reduceCtorEq] at h
  ·split at h
   ·rename_i he
    simp only [Option.some.injEq] at h; subst h
    exact fK (by rw [Nat.blt_eq] at he; exact he)
   ·simp at h
  ·subst h; exact .refl _
 | .agg l, v, x, h => by
  cases v <;> simp only [cS, reduceCtorEq] at h
  split at h
  ·rename_i hl
   simp only [Option.some.injEq] at h; subst h; exact cN (vS hl)
  ·simp at h
 | .mag _, v, x, h => by simp [cS] at h
 | .cF _ _ _ _, v, x, h => by simp [cS] at h
 | .void, v, x, h => by simp [cS] at h
 | .str _, v, x, h => by simp [cS] at h
 | .bG _, v, x, h => by simp [cS] at h
 | .ptr _ _ _ _ _, v, x, h => by simp [cS] at h
 | .own _ _ _ _, v, x, h => by simp [cS] at h
 | .func _ _, v, x, h => by simp [cS] at h
 | .tuple _, v, x, h => by simp [cS] at h
theorem vS : ∀ {u v x : List AV}, jx true u v = some x → dj u x
 | [], v, x, h => by
  cases v <;> simp only [jx, Option.some.injEq, reduceCtorEq] at h
  subst h; trivial
 | a :: l, v, x, h => by
  cases v <;> simp only [jx, reduceCtorEq] at h
  split at h
  ·rename_i h1 h2
   simp only [Option.some.injEq] at h; subst h; exact ⟨Ta h1, vS h2⟩
  ·simp at h
end
mutual
theorem GB : ∀ {u v x : AV}, cS false u v = some x → bp v x
 | .rat q n, v, x, h => by
  cases v <;> simp only [cS, Option.some.injEq, reduceCtorEq] at h
  subst h; exact dZ (Nat.le_max_right ..)
 | .int k a, v, x, h => by
  cases v <;> simp only [cS, reduceCtorEq] at h
  split at h
  ·rename_i hk
   have := vh hk
   subst this
   simp only [Option.some.injEq] at h; subst h; exact .refl _
  ·simp at h
 | .bool a, v, x, h => by
  cases v <;> simp only [cS, Option.some.injEq, reduceCtorEq] at h
  subst h; exact .refl _
 | .ak e n f, v, x, h => by
  cases v <;> simp only [cS, reduceCtorEq] at h
  ·split at h
   ·rename_i hk
    have := eq_of_beq hk
    subst this
    simp only [Option.some.injEq] at h; subst h; exact .refl _
   ·simp at h
  ·split at h
   ·rename_i he
    simp only [Option.some.injEq] at h; subst h
    exact fK (by rw [Nat.blt_eq] at he; exact he)
   ·simp at h
 | .nil, v, x, h => by
  cases v <;> simp only [cS, Option.some.injEq, reduceCtorEq] at h
  ·split at h
   ·simp only [Option.some.injEq] at h; subst h; exact .refl _
   ·simp at h
  ·subst h; exact .refl _
 | .agg l, v, x, h => by
  cases v <;> simp only [cS, reduceCtorEq] at h
  split at h
  ·rename_i hl
   simp only [Option.some.injEq] at h; subst h; exact cN (wX hl)
  ·simp at h
 | .mag _, v, x, h => by simp [cS] at h
 | .cF _ _ _ _, v, x, h => by simp [cS] at h
 | .void, v, x, h => by simp [cS] at h
 | .str _, v, x, h => by simp [cS] at h
 | .bG _, v, x, h => by simp [cS] at h
 | .ptr _ _ _ _ _, v, x, h => by simp [cS] at h
 | .own _ _ _ _, v, x, h => by simp [cS] at h
 | .func _ _, v, x, h => by simp [cS] at h
 | .tuple _, v, x, h => by simp [cS] at h
theorem wX : ∀ {u v x : List AV}, jx false u v = some x → dj v x
 | [], v, x, h => by
  cases v <;> simp only [jx, Option.some.injEq, reduceCtorEq] at h
  subst h; trivial
 | a :: l, v, x, h => by
  cases v <;> simp only [jx, reduceCtorEq] at h
  split at h
  ·rename_i h1 h2
   simp only [Option.some.injEq] at h; subst h; exact ⟨GB h1, wX h2⟩
  ·simp at h
end
theorem dj.trans : ∀ {a b c : List AV}, dj a b → dj b c → dj a c
 | [], [], [], _, _ => trivial
 | _ :: _, _ :: _, _ :: _, h, h' => ⟨h.1.trans h'.1, h.2.trans h'.2⟩
 | [], [], _ :: _, _, h => h.elim
 | [], _ :: _, _, h, _ => h.elim
 | _ :: _, [], _, h, _ => h.elim
 | _ :: _, _ :: _, [], _, h => h.elim
def ki : aa (List AV) → Option (List AV × List Prop)
 | .leaf _ us => some (us, [])
 | .af ps t => match ki t with
  | some (us, qs) => some (us, ps ++ qs)
  | none => none
 | .fork b t u => match ki t, ki u with
  | some (x, p), some (y, q) => match jx b x y with
   | some z => match p, q with
    | [], [] => some (z, [])
    | p, q => some (z, [b = true → ay p, b = false → ay q])
   | none => none
  | _, _ => none
theorem qd : ∀ {t : aa (List AV)} {us : List AV} {ps : List Prop}, ki t = some (us, ps) → ay ps → t.all fun _ vs => dj vs us
 | .leaf e vs, us, ps, h, _ => by
  simp only [ki, Option.some.injEq, Prod.mk.injEq] at h
  obtain ⟨rfl, rfl⟩ := h
  exact .refl _
 | .af l t, us, ps, h, hp => by
  simp only [ki] at h
  split at h
  ·rename_i h1
   simp only [Option.some.injEq, Prod.mk.injEq] at h
   obtain ⟨rfl, rfl⟩ := h
   obtain ⟨p1, p2⟩ := dU.1 hp
   exact ⟨p1, qd h1 p2⟩
  ·simp at h
 | .fork b t u, us, ps, h, hp => by
  simp only [ki] at h
  split at h
  ·rename_i x p y q h1 h2
   split at h
   ·rename_i z hz
    have key : us = z ∧ (b = true → ay p) ∧ (b = false → ay q) := by
     split at h
     ·simp only [Option.some.injEq, Prod.mk.injEq] at h
      exact ⟨h.1.symm, fun _ => trivial, fun _ => trivial⟩
     ·simp only [Option.some.injEq, Prod.mk.injEq] at h
      obtain ⟨rfl, rfl⟩ := h
      exact ⟨rfl, hp⟩
    obtain ⟨rfl, p1, p2⟩ := key
    refine ⟨fun hb => ?_, fun hb => ?_⟩
    ·subst hb
     exact aa.eW (fun _ vs hv => hv.trans (vS hz)) (qd h1 (p1 rfl))
    ·subst hb
     exact aa.eW (fun _ vs hv => hv.trans (wX hz)) (qd h2 (p2 rfl))
   ·simp at h
  ·simp at h
def cK (T : Types) (Γ : aP) (forks : List Nat) (fuel : Nat) (fn : Func) : Spec := bk fun args =>
 match Nat.ble args.length fn.ntmps with
 | true => match bw T Γ forks fuel fn (au fn) ⟨aM 0 args, [], 0⟩ with
  | some t => match ki t with
   | some (us, ps) => match us with
    | [u] => some ⟨u, [], ps⟩
    | us => some ⟨.tuple us, [], ps⟩
   | none => none
  | none => none
 | false => none
theorem KP {us : List AV} {v : AV} (h : dj us [v]) : dL us v := by
 match us, h with
 | [u], h => exact h.1
theorem TG {us vs : List AV} (hv : ∀ u, vs ≠ [u]) (h : dj us vs) : dL us (.tuple vs) := by
 match us, vs, h with
 | [], [], h => exact h
 | [u], [v], h => exact absurd rfl (hv v)
 | a :: b :: l, _ :: _ :: _, h => exact h
 | [u], _ :: _ :: _, h => exact absurd h.2 (by simp [dj])
 | a :: b :: l, [v], h => exact absurd h.2 (by simp [dj])
 | [], _ :: _, h => exact h.elim
 | _ :: _, [], h => exact h.elim
theorem cM {P : Program} {T : Types} (hT : dh P T) {Γ : aP} (hΓ : aX P Γ) (hm : P.follows .mixedOrders = true) {f : FuncId} {fn : Func} (hf : aO P f fn (au fn)) (forks : List Nat) (fuel : Nat) :
  ∀ K args pre r, cK T Γ forks fuel fn K args pre = some r → az P f K args pre r := by
 refine bD fun K args r hk hs hp => ?_
 split at hs
 ·rename_i hlen
  have hlen := Nat.le_of_ble_eq_true hlen
  split at hs
  ·rename_i t ht
   split at hs
   ·rename_i us ps hc
    split at hs
    ·simp only [Option.some.injEq] at hs
     subst hs
     exact bC (r := ⟨_, [], ps⟩) hT hΓ hm hf hk hlen rfl fuel ht (fun hn => aa.eW (fun _ vs hv => KP hv) (qd hc hn)) K []
    ·rename_i hne
     simp only [Option.some.injEq] at hs
     subst hs
     exact bC (r := ⟨_, [], ps⟩) hT hΓ hm hf hk hlen rfl fuel ht (fun hn => aa.eW (fun _ vs hv => TG hne hv) (qd hc hn)) K []
   ·simp at hs
  ·simp at hs
 ·simp at hs
theorem cz {P : Program} {Γ : aP} (h : aX P Γ) : aX P (sG :: Γ) := aE (fun K args pre r hs => by simp at hs) h
theorem ij {P : Program} {Γ : aP} (h : aX P Γ) : aX P (nG :: Γ) := aE (fun K args pre r hs => by simp at hs) h
end Go.Am

/- Loops whose objects get other keys in each round: states up to the names of objects. -/
namespace Go.Am
open AV
def jl (rl : List (Nat × Nat)) : AV → AV
 | .ptr k i e o p => match look k rl with
  | some j => .ptr j i e o p
  | none => .void
 | .own k e s n => match look k rl with
  | some j => .own j e s n
  | none => match s, n, e with
   | 0, 0, _ + 1 => .nil
   | _, _, _ => .void
 | v => v
def jB (rl : List (Nat × Nat)) : AV → Bool
 | .ptr k _ _ _ _ => (look k rl).isSome
 | .own k e s n => (look k rl).isSome || match s, n, e with
  | 0, 0, _ + 1 => true
  | _, _, _ => false
 | .tuple _ => false
 | v => (keys v).isEmpty
theorem F5 {rl : List (Nat × Nat)} {u v : AV} (hu : u = jl rl v) (hv : jB rl v = true) : u.isTuple = false ∧ fo (aY rl) u v := by
 subst hu
 cases v with
 | ptr k i e o p =>
  simp only [jB, Option.isSome_iff_exists] at hv
  obtain ⟨j, hj⟩ := hv
  simp only [jl, hj]
  exact ⟨rfl, je hj⟩
 | own k e s n =>
  simp only [jB] at hv
  cases hj : look k rl with
  | some j =>
   simp only [jl, hj]
   exact ⟨rfl, cw hj rfl rfl⟩
  | none =>
   rw [hj] at hv
   simp only [Option.isSome_none, Bool.false_or] at hv
   split at hv
   ·simp only [jl, hj]
    exact ⟨rfl, xx (by omega)⟩
   ·simp at hv
 | tuple l => simp [jB] at hv
 | _ =>
  simp only [jB, List.isEmpty_iff] at hv
  exact ⟨rfl, aD hv⟩
theorem CG {rl : List (Nat × Nat)} : ∀ {vs us : List AV}, us = vs.map (jl rl) → vs.all (jB rl) = true → ey (aY rl) us vs
 | [], _, h, _ => by subst h; trivial
 | v :: vs, _, h, hv => by
  subst h
  simp only [List.all_cons, Bool.and_eq_true] at hv
  exact ⟨F5 rfl hv.1, CG rfl hv.2⟩
def o8 : AV → Bool
 | .tuple _ => false
 | v => (keys v).isEmpty
theorem SI {rl : List (Nat × Nat)} {v : AV} (h : o8 v = true) : jl rl v = v := by
 cases v <;> first | rfl | simp [o8, keys] at h
theorem RB {rl : List (Nat × Nat)} {v : AV} (h : o8 v = true) : jB rl v = true := by
 cases v <;> first | exact h | simp [o8, keys] at h
end Go.Am

/- Functions with one loop, by what the evaluator says of its parts. -/
namespace Go.Am
open AV
def gG (rl : List (Nat × Nat)) (u v : AV) : Prop := ((jB rl v = true ∧ u = jl rl v) ∨ ∃ us vs, u = .agg us ∧ v = .agg vs ∧ ey (aY rl) us vs) ∨ (keys u = [] ∧ bp u v)
theorem C9 {ρ : Nat → Option Nat} {M : Nat → Prop} {w : World} {β : aK} : ∀ {us vs : List AV} {cs : List Value}, ey ρ us vs → aF M w β us cs → aF M w (fun k => (ρ k).bind β) vs cs
 | [], [], _, _, h => by cases h; exact .nil
 | u :: us, v :: vs, cs, hl, h => by
  obtain ⟨c1, c2, rfl, h1, h2⟩ := h.split
  exact (hl.1.2.2 M w β c1 h1).cons (C9 hl.2 h2)
 | [], _ :: _, _, h, _ => h.elim
 | _ :: _, [], _, h, _ => h.elim
theorem HB {ρ : Nat → Option Nat} {us vs : List AV} (h : ey ρ us vs) : fo ρ (.agg us) (.agg vs) := by
 refine ⟨rfl, fun M w β cs hc => ?_⟩
 cases hc with
 | agg h1 h2 => cases h2; exact .agg (C9 h h1) .nil
theorem xQ {rl : List (Nat × Nat)} {us vs : List AV} (h : ey (aY rl) us vs) : gG rl (.agg us) (.agg vs) := .inl (.inr ⟨_, _, rfl, rfl, h⟩)
theorem gG.le {rl : List (Nat × Nat)} {u v : AV} (h : gG rl u v) : fo (aY rl) u v := by
 rcases h with (h | ⟨us, vs, rfl, rfl, h⟩) | h
 ·exact (F5 h.2 h.1).2
 ·exact HB h
 ·exact p5 h.1 h.2
def jQ (nx : Nat) (rl : List (Nat × Nat)) (os : aC) : aC → Prop
 | [] => True
 | (k2, o2) :: ps => ((look k2 rl = none ∧ nQ o2 ∧ k2 < nx) ∨ ∃ k1 o1, look k2 rl = some k1 ∧ look k1 os = some o1 ∧ o1.row = o2.row ∧ o1.wr = o2.wr ∧ o1.es = o2.es ∧ o1.len = o2.len ∧ ∀ i, i < o2.len → gG rl (o1.f i) (o2.f i)) ∧ jQ nx rl os ps
theorem wU {nx : Nat} {rl : List (Nat × Nat)} {os : aC} : ∀ {ps : aC}, jQ nx rl os ps → o3 nx (aY rl) os ps
 | [], _ => trivial
 | (k2, o2) :: ps, h => by
  obtain ⟨h | ⟨k1, o1, h1, h2, h3, h4, h5, h6, h7⟩, h8⟩ := h
  ·exact ⟨.inr h, wU h8⟩
  ·exact ⟨.inl ⟨k1, o1, h1, h2, ⟨h3.symm ▸ rfl, h4.symm ▸ rfl, h5.symm ▸ rfl, h6.symm ▸ rfl, fun i hi => (h7 i (h6 ▸ hi)).le⟩⟩, wU h8⟩
theorem bU {rl : List (Nat × Nat)} {u v : AV} (hk : keys u = []) (h : u = v) : gG rl u v := .inr ⟨hk, h ▸ .refl _⟩
theorem ep {nx : Nat} {rl : List (Nat × Nat)} {os ps : aC} {k2 k1 : Nat} {r w : Bool} {es n m : Nat} {f g : Nat → AV} (hk : look k2 rl = some k1) (ho : look k1 os = some ⟨r, w, es, n, f⟩) (hn : n = m) (h : ∀ i, i < m → gG rl (f i) (g i))
  (hs : jQ nx rl os ps) : jQ nx rl os ((k2, ⟨r, w, es, m, g⟩) :: ps) := ⟨.inr ⟨k1, _, hk, ho, rfl, rfl, rfl, hn, h⟩, hs⟩
theorem cj {nx : Nat} {rl : List (Nat × Nat)} {os ps : aC} {k2 k1 : Nat} {r w : Bool} {es : Nat} {f g : Nat → AV} (hk : look k2 rl = some k1) (ho : look k1 os = some ⟨r, w, es, 1, f⟩) (h : gG rl (f 0) (g 0))
  (hs : jQ nx rl os ps) : jQ nx rl os ((k2, ⟨r, w, es, 1, g⟩) :: ps) := ep hk ho rfl (fun i hi => by rw [Nat.lt_one_iff.1 hi]; exact h) hs
theorem xX {nx : Nat} {rl : List (Nat × Nat)} {os ps : aC} {k2 es : Nat} {w : Bool} {f : Nat → AV} (hk : look k2 rl = none) (hes : 0 < es) (hn : k2 < nx) (hs : jQ nx rl os ps) : jQ nx rl os ((k2, ⟨true, w, es, 0, f⟩) :: ps) := ⟨.inl ⟨hk, ⟨rfl, rfl, hes⟩, hn⟩, hs⟩
theorem y8 {α : Type} {k : Nat} {b : List (Nat × α)} : ∀ {a : List (Nat × α)}, look k (a ++ b) = match look k a with
  | some x => some x
  | none => look k b
 | [] => rfl
 | (j, x) :: a => by
  simp only [List.cons_append, look]
  split
  ·rfl
  ·exact y8
theorem ek {P : Program} {a b : aP} (ha : aX P a) (hb : aX P b) : aX P (a ++ b) := by
 intro f s hl
 have hl : look f (a ++ b) = some s := hl
 rw [y8] at hl
 split at hl
 ·rename_i h
  simp only [Option.some.injEq] at hl
  subst hl
  exact ha f _ h
 ·exact hb f s hl
def Kept (kp : List Nat) (c : Ctx) : Prop := ∀ k x, c.k0 k = some x → k ∈ kp
theorem nv {c : Ctx} (h0 : ∀ nx k x, c.k0 k = some x → k < nx) : Kept [] c := fun k x hk => absurd (h0 0 k x hk) (by omega)
def jb (kp : List Nat) (v : List AV × aC) (vs : List AV) (os : aC) (nx : Nat) : Prop :=
 ∃ rl, (gU nx rl && kp.all fun k => look k rl == some k) = true ∧ v.1 = vs.map (jl rl) ∧ vs.all (jB rl) = true ∧ jQ nx rl v.2 os
theorem jb.le {kp : List Nat} {c : Ctx} {s' : aA} {ls : List Nat} {v : List AV × aC} {vs : List AV} {os : aC} {nx : Nat} (h : jb kp v vs os nx) (hv : aR ls s' = some v) (h0 : Kept kp c) : ∃ ρ, Le c ρ s' ⟨aB ls vs, os, nx⟩ := by
 obtain ⟨rl, h1, h2, h3, h4⟩ := h
 simp only [Bool.and_eq_true] at h1
 exact Cz rl hv (fun k x hk => by simpa using List.all_eq_true.1 h1.2 k (h0 k x hk)) h1.1 (CG h2 h3) (wU h4)
theorem jb.vals {vs : List AV} {nx : Nat} (h : vs.all o8 = true) : jb [] (vs, []) vs [] nx := by
 simp only [List.all_eq_true] at h
 refine ⟨[], rfl, ?_, List.all_eq_true.2 fun v hv => RB (h v hv), trivial⟩
 have : vs.map (jl []) = vs.map id := List.map_congr_left fun v hv => SI (h v hv)
 rw [this, List.map_id]
theorem yo {nt : Nat} : ∀ {x : Code} {p : List Nat}, bP nt x = true → (before x p).all (fun x => bP nt x) = true
 | .seq x y, 0 :: p, h => by
  simp only [bP, Bool.and_eq_true] at h
  exact yo (x := x) h.1
 | .seq x y, (n + 1) :: p, h => by
  simp only [bP, Bool.and_eq_true] at h
  simp only [before, List.all_cons, Bool.and_eq_true]
  exact ⟨h.1, yo (x := y) h.2⟩
 | .seq _ _, [], _ | .cond _ _ _, _, _ | .block _ _, _, _ | .loop _, _, _ | .region _ _ _, _, _ | .skip, _, _ | .label _, _, _ | .exit _, _, _ | .ret, _, _ | .scope _, _, _ | .goto _, _, _ | .refuse _, _, _ | .rangeFunc _ _ _ _, _, _ => by simp [before]
theorem xA {nt : Nat} : ∀ {x : Code} {p : List Nat}, bP nt x = true → (behind x p).all (fun x => bP nt x) = true
 | .seq x y, 0 :: p, h => by
  simp only [bP, Bool.and_eq_true] at h
  simp only [behind, List.all_append, List.all_cons, List.all_nil, Bool.and_true, Bool.and_eq_true]
  exact ⟨xA (x := x) h.1, h.2⟩
 | .seq x y, (n + 1) :: p, h => by
  simp only [bP, Bool.and_eq_true] at h
  exact xA (x := y) (p := p) h.2
 | .seq _ _, [], _ | .cond _ _ _, _, _ | .block _ _, _, _ | .loop _, _, _ | .region _ _ _, _, _ | .skip, _, _ | .label _, _, _ | .exit _, _, _ | .ret, _, _ | .scope _, _, _ | .goto _, _, _ | .refuse _, _, _ | .rangeFunc _ _ _ _, _, _ => by simp [behind]
theorem yO {nt : Nat} : ∀ {x : Code} {p : List Nat}, chain x p = true → bP nt x = true → bP nt (part x p) = true
 | x, [], _, h => by cases x <;> exact h
 | .seq x y, 0 :: p, hc, h => by
  simp only [bP, Bool.and_eq_true] at h
  exact yO (x := x) hc h.1
 | .seq x y, (n + 1) :: p, hc, h => by
  simp only [bP, Bool.and_eq_true] at h
  exact yO (x := y) hc h.2
 | .cond _ _ _, _ :: _, hc, _ | .block _ _, _ :: _, hc, _ | .loop _, _ :: _, hc, _ | .region _ _ _, _ :: _, hc, _ | .skip, _ :: _, hc, _ | .label _, _ :: _, hc, _ | .exit _, _ :: _, hc, _ | .ret, _ :: _, hc, _ | .scope _, _ :: _, hc, _ | .goto _, _ :: _, hc, _ | .refuse _, _ :: _, hc, _ | .rangeFunc _ _ _ _, _ :: _, hc, _ => by simp [chain] at hc
section rules
variable {P : Program} {c : Ctx} {nt : Nat} {s : aA} {Q : ah → aA → Prop} {T : Types} (hT : dh P T) {Γ : aP} (hΓ : aX P Γ) (hm : P.follows .mixedOrders = true)
def Round (kp : List Nat) {α : Type} (V : α → List AV) (O : α → aC) (nx : Nat) (I D : α → Prop) (μ : α → Nat) (i : Nat) (R : List AV × aC → Prop) (a : α) : ah → List AV × aC → Prop
 | .normal, v => ∃ b, I b ∧ μ b < μ a ∧ jb kp v (V b) (O b) nx
 | .exit k, v => k = i ∧ ∃ b, D b ∧ jb kp v (V b) (O b) nx
 | .ret, v => R v
include hT hΓ hm in
theorem aq.Ks {x y : Code} {i : Nat} (hx : x = .block i (.loop y)) {kp : List Nat} (h0 : Kept kp c) {forks : List Nat} (n : Nat) (L : List Nat) (nx : Nat) {α : Type} (V : α → List AV) (O : α → aC) (I D : α → Prop) (μ : α → Nat) (R : List AV × aC → Prop)
  (a0 : α) (hI : I a0) (hs : ∃ ρ, Le c ρ s ⟨aB L (V a0), O a0, nx⟩) (hd : bP nt y = true)
  (hb : ∀ a, I a → ∃ t, aI T Γ forks n L [y] ⟨aB L (V a), O a, nx⟩ = some t ∧ t.all (Round kp V O nx I D μ i R a))
  (hD : ∀ b s', D b → (∃ ρ, Le c ρ s' ⟨aB L (V b), O b, nx⟩) → Q .normal s') (hR : ∀ v s', R v → aR L s' = some v → Q .ret s') : aq P c nt x s Q := by
 refine aq.fN hx (fun a => ⟨aB L (V a), O a, nx⟩) I μ a0 hs hI fun a ha => ?_
 obtain ⟨t, h1, h2⟩ := hb a ha
 refine aq.aV hT hΓ hm n L h1 hd (aa.eW ?_ h2)
 rintro e v hv s' hs'
 cases e with
 | normal =>
  obtain ⟨b, g1, g2, g3⟩ := hv
  exact ⟨b, g3.le hs' h0, g1, g2⟩
 | exit k =>
  obtain ⟨rfl, b, g1, g2⟩ := hv
  exact AT (hD b s' g1 (g2.le hs' h0))
 | ret => exact hR v s' hv hs'
theorem ax.one {x : Code} (h : aq P c nt x s Q) : ax P c nt [x] s Q := h.mono fun e s' h => by cases e <;> exact h
theorem aq.oz {x : Code} (h : ax P c nt [x] s Q) : aq P c nt x s Q := aq.mono h fun e s' h => by cases e <;> exact h
def Start (kp : List Nat) {α : Type} (V : α → List AV) (O : α → aC) (nx : Nat) (I : α → Prop) (R : List AV × aC → Prop) : ah → List AV × aC → Prop
 | .normal, v => ∃ a, I a ∧ jb kp v (V a) (O a) nx
 | .ret, v => R v
 | .exit _, _ => False
include hT hΓ hm in
theorem aq.Td {x y : Code} (p : List Nat) {i : Nat} (hc : chain x p = true) (hx : part x p = .block i (.loop y)) (hd : bP nt x = true) {kp : List Nat} (h0 : Kept kp c) {f1 f2 : List Nat} (n : Nat) (L : List Nat) (nx : Nat) {α : Type} (V : α → List AV) (O : α → aC) (I D : α → Prop) (μ : α → Nat) (R : List AV × aC → Prop)
  (hp : ∃ t, aI T Γ f1 n L (before x p) s = some t ∧ t.all (Start kp V O nx I R))
  (hb : ∀ a, I a → ∃ t, aI T Γ f2 n L [y] ⟨aB L (V a), O a, nx⟩ = some t ∧ t.all (Round kp V O nx I D μ i R a))
  (hD : ∀ b s', D b → (∃ ρ, Le c ρ s' ⟨aB L (V b), O b, nx⟩) → ax P c nt (behind x p) s' Q) (hR : ∀ v s', R v → aR L s' = some v → Q .ret s') : aq P c nt x s Q := by
 obtain ⟨t, h1, h2⟩ := hp
 refine aq.hole p hc (ax.aV hT hΓ hm n L h1 (yo hd) (aa.eW ?_ h2))
 rintro e v hv s' hs'
 cases e with
 | normal =>
  obtain ⟨a, hI, hre⟩ := hv
  refine (show aq P c nt (part x p) s' _ from aq.Ks hT hΓ hm hx h0 n L nx V O I D μ R a hI (hre.le hs' h0) ?_ hb (fun b s' hD' hle => hD b s' hD' hle) fun v s' hv hs' => hR v s' hv hs')
  have := yO (nt := nt) hc hd
  rw [hx] at this
  exact this
 | ret => exact hR v s' hv hs'
 | exit k => exact hv.elim
include hT hΓ hm in
theorem aq.mm {x y z : Code} (p : List Nat) {i : Nat} (hc : chain x p = true) (hx : part x p = .block i (.loop y)) (hz : behind x p = [z]) (hd : bP nt x = true) {kp : List Nat} (h0 : Kept kp c) {f1 f2 : List Nat} (n : Nat) (L : List Nat) (nx : Nat) {α : Type} (V : α → List AV) (O : α → aC) (I D : α → Prop) (μ : α → Nat) (R : List AV × aC → Prop)
  (hp : ∃ t, aI T Γ f1 n L (before x p) s = some t ∧ t.all (Start kp V O nx I R))
  (hb : ∀ a, I a → ∃ t, aI T Γ f2 n L [y] ⟨aB L (V a), O a, nx⟩ = some t ∧ t.all (Round kp V O nx I D μ i R a))
  (hD : ∀ b, D b → aq P c nt z ⟨aB L (V b), O b, nx⟩ Q) (hR : ∀ v s', R v → aR L s' = some v → Q .ret s') : aq P c nt x s Q :=
 aq.Td hT hΓ hm p hc hx hd h0 n L nx V O I D μ R hp hb (fun b s' hD' hle => by rw [hz]; exact ax.weak rfl hle (ax.one (hD b hD'))) hR
def oG (fn : Func) (L : List Nat) (res : AV) (v : List AV × aC) : Prop := ∃ us, vG fn (aB L v.1) = some us ∧ dL us res
theorem oG.fin {fn : Func} {L : List Nat} {res : AV} {v : List AV × aC} {s' : aA} (h : oG fn L res v) (hs' : aR L s' = some v) : de c (Fin T fn res) .ret s' := by
 obtain ⟨us, g1, g2⟩ := h
 exact .inl (en (.inr rfl) hs' g1 g2)
theorem uV {c : Prop} [Decidable c] {u v : AV} (hu : keys u = []) (hv : keys v = []) : keys (if c then u else v) = [] := by split <;> assumption
def uj (T : Types) (fn : Func) (L : List Nat) (res : AV) (v : List AV × aC) : Prop :=
 ∃ vs us nx t, v.1 = vs ++ us ∧ vs.length = L.length ∧ aT us = [] ∧ gI T fn .ret ⟨aB L vs, v.2, nx⟩ = some t ∧ fR nx vs = true ∧ eH nx v.2 ∧ t.all fun _ us => dL us res
theorem uj.fin {fn : Func} {L L1 : List Nat} {res : AV} {v : List AV × aC} {s' : aA} (h0 : Kept [] c) (h : uj T fn L res v) (hs' : aR (L ++ L1) s' = some v) : de c (Fin T fn res) .ret s' := by
 obtain ⟨vs, us, nx, t, h1, h2, h3, h4, h5, h6, h7⟩ := h
 obtain ⟨v1, v2⟩ := v
 simp only at h1
 subst h1
 exact qQ h4 (fA hs' h2 h3) (fun k x hk => by simpa using h0 k x hk) h5 h6 h7
include hT hΓ hm in
theorem ud {f : FuncId} {fn : Func} (hf : aO P f fn (au fn)) {args : List AV} {r : b7} (hk : aT args = []) (hlen : args.length ≤ fn.ntmps) (hpost : r.post = []) (p : List Nat) {i : Nat} {y z : Code} (hc : chain (au fn) p = true) (hx : part (au fn) p = .block i (.loop y)) (hz : behind (au fn) p = [z])
  {f1 f2 f3 : List Nat} (n : Nat) (L : List Nat) (nx : Nat) {α : Type} (V : α → List AV) (O : α → aC) (I D : α → Prop) (μ : α → Nat)
  (h : r.need → (∃ t, aI T Γ f1 n L (before (au fn) p) ⟨aM 0 args, [], 0⟩ = some t ∧ t.all (Start [] V O nx I (oG fn L r.res))) ∧
   (∀ a, I a → ∃ t, aI T Γ f2 n L [y] ⟨aB L (V a), O a, nx⟩ = some t ∧ t.all (Round [] V O nx I D μ i (oG fn L r.res) a)) ∧
   ∀ a, D a → ∃ t, cr T Γ f3 n fn [z] ⟨aB L (V a), O a, nx⟩ = some t ∧ t.all fun _ us => dL us r.res) (K : Nat) (pre : aC) : az P f K args pre r := by
 refine fk hT hf hk hlen hpost (fun need c h0 => ?_) K pre
 obtain ⟨hp, hb, he⟩ := h need
 refine aq.mm hT hΓ hm p hc hx hz hf.dst (nv h0) n L nx V O I D μ (oG fn L r.res) hp hb (fun a ha => ?_) fun v s' hv hs' => hv.fin hs'
 obtain ⟨t, g1, g2⟩ := he a ha
 have := xA (x := au fn) (p := p) hf.dst
 rw [hz] at this
 exact aq.oz ((ax.fin hT hΓ hm n g1 this g2).mono fun _ _ h => .inl h)
end rules
end Go.Am

/- Functions that are handed two lists that may still be written to, and leave them as they are. -/
namespace Go.Am
open AV
theorem xO {ρ : Nat → Option Nat} : ∀ {us vs : List AV}, aT us = [] → (us.all fun v => !v.isTuple) = true → dj us vs → ey ρ us vs
 | [], [], _, _, _ => trivial
 | u :: us, v :: vs, h1, h2, h => by
  simp only [aT, List.append_eq_nil_iff] at h1
  simp only [List.all_cons, Bool.and_eq_true, Bool.not_eq_true'] at h2
  exact ⟨⟨h2.1, p5 h1.1 h.1⟩, xO h1.2 h2.2 h.2⟩
 | [], _ :: _, _, _, h => h.elim
 | _ :: _, [], _, _, h => h.elim
def v9 (T : Types) (fn : Func) (e : ah) (s : aA) : Option (aa (List AV × Option aJ × Option aJ)) := match e with
 | .exit _ => none
 | e => match eP T s fn.results.toList with
  | some (vs, q) => some (.need q (.leaf e (vs, look 0 s.store, look 1 s.store)))
  | none => none
def CB (us : List AV) (o p : aJ) (v : List AV × Option aJ × Option aJ) : Prop :=
 aT v.1 = [] ∧ (v.1.all fun v => !v.isTuple) = true ∧ dj v.1 us ∧ (∃ o1, v.2.1 = some o1 ∧ ∀ ρ, cL ρ o1 o) ∧ ∃ p1, v.2.2 = some p1 ∧ ∀ ρ, cL ρ p1 p
def AS (T : Types) (fn : Func) (us : List AV) (o p : aJ) (e : ah) (s : aA) : Prop :=
 (e = .normal ∨ e = .ret) ∧ (∃ vs q, eP T s fn.results.toList = some (vs, q) ∧ ay q ∧ aT vs = [] ∧ (vs.all fun v => !v.isTuple) = true ∧ dj vs us) ∧ (∃ o1, look 0 s.store = some o1 ∧ ∀ ρ, cL ρ o1 o) ∧ ∃ p1, look 1 s.store = some p1 ∧ ∀ ρ, cL ρ p1 p
theorem LY {T : Types} {fn : Func} {e : ah} {s : aA} {t : aa (List AV × Option aJ × Option aJ)} {us : List AV} {o p : aJ} (h1 : v9 T fn e s = some t) (h2 : t.all fun _ v => CB us o p v) : AS T fn us o p e s := by
 unfold v9 at h1
 have key : ∀ {e' : ah}, (match eP T s fn.results.toList with
   | some (vs, q) => some (aa.need q (.leaf e' (vs, look 0 s.store, look 1 s.store)))
   | none => none) = some t → (∃ vs q, eP T s fn.results.toList = some (vs, q) ∧ ay q ∧ aT vs = [] ∧ (vs.all fun v => !v.isTuple) = true ∧ dj vs us) ∧ (∃ o1, look 0 s.store = some o1 ∧ ∀ ρ, cL ρ o1 o) ∧ ∃ p1, look 1 s.store = some p1 ∧ ∀ ρ, cL ρ p1 p := by
  intro e' h1
  cases hr : eP T s fn.results.toList with
  | none => rw [hr] at h1; simp at h1
  | some r =>
   obtain ⟨vs, q⟩ := r
   rw [hr] at h1
   simp only [Option.some.injEq] at h1
   subst h1
   obtain ⟨g1, g2, g3, g4, g5, g6⟩ := aa.tV.1 h2
   exact ⟨⟨vs, q, rfl, g1, g2, g3, g4⟩, g5, g6⟩
 cases e with
 | normal => exact ⟨.inl rfl, key h1⟩
 | ret => exact ⟨.inr rfl, key h1⟩
 | exit i => simp at h1
section rules
variable {P : Program} {c : Ctx} {nt : Nat} {s : aA} {Q : ah → aA → Prop} {T : Types} (hT : dh P T) {Γ : aP} (hΓ : aX P Γ) (hm : P.follows .mixedOrders = true)
def CR (T : Types) (fn : Func) (L : List Nat) (us : List AV) (o p : aJ) (v : List AV × aC) : Prop :=
 ∃ vs ws nx t, v.1 = vs ++ ws ∧ vs.length = L.length ∧ aT ws = [] ∧ v9 T fn .ret ⟨aB L vs, v.2, nx⟩ = some t ∧ fR nx vs = true ∧ eH nx v.2 ∧ 2 ≤ nx ∧ t.all fun _ v => CB us o p v
theorem CR.fin {fn : Func} {L L1 : List Nat} {us : List AV} {o p : aJ} {v : List AV × aC} {s' : aA} (h0 : Kept [0, 1] c) (h : CR T fn L us o p v) (hs' : aR (L ++ L1) s' = some v) : de c (AS T fn us o p) .ret s' := by
 obtain ⟨vs, ws, nx, t, h1, h2, h3, h4, h5, h6, hn, h7⟩ := h
 obtain ⟨v1, v2⟩ := v
 simp only at h1
 subst h1
 obtain ⟨ρ, hle⟩ := jK (fA hs' h2 h3) (fun k x hk => by
  have := h0 k x hk
  simp only [List.mem_cons, List.not_mem_nil, or_false] at this
  omega) h5 h6
 exact .inr ⟨_, ρ, hle, LY h4 h7⟩
end rules
end Go.Am

/- Functions that are handed a list to write to, and give back a part of it. -/
namespace Go.Am
open AV
def NS (fn : Func) (k : Nat) (ws : List AV) (o' : aJ) (e : ah) (s' : aA) : Prop :=
 (e = .normal ∨ e = .ret) ∧ ∃ ls vs us os o1, aR ls s' = some (vs, os) ∧ iu (aB ls vs) fn.results.toList = some us ∧ ey (aY [(k, 0)]) us ws ∧ look 0 os = some o1 ∧ cL (aY [(k, 0)]) o1 o'
def Be (fn : Func) (k : Nat) (ws : List AV) (o' : aJ) (L : List Nat) (v : List AV × aC) : Prop := ∃ us o1, iu (aB L v.1) fn.results.toList = some us ∧ ey (aY [(k, 0)]) us ws ∧ look 0 v.2 = some o1 ∧ cL (aY [(k, 0)]) o1 o'
theorem Be.fin {fn : Func} {k : Nat} {ws : List AV} {o' : aJ} {L : List Nat} {v : List AV × aC} {s' : aA} (h : Be fn k ws o' L v) (hs' : aR L s' = some v) : NS fn k ws o' .ret s' := by
 obtain ⟨us, o1, h1, h2, h3, h4⟩ := h
 exact ⟨.inr rfl, L, v.1, us, v.2, o1, hs', h1, h2, h3, h4⟩
section rules
variable {P : Program} {c : Ctx} {nt : Nat} {s : aA} {Q : ah → aA → Prop} {T : Types} (hT : dh P T) {Γ : aP} (hΓ : aX P Γ) (hm : P.follows .mixedOrders = true)
include hT in
theorem ED {f : FuncId} {fn : Func} {x : Code} (hf : aO P f fn x) {args args0 ws : List AV} {o' : aJ} {K : Nat} {l : List Prop} (ha : ay l → ey (aY []) args args0) (hlen : args0.length ≤ fn.ntmps)
  (h : ay l → ∀ c : Ctx, Kept [] c → aq P c fn.ntmps x ⟨aM 0 args0, [], 0⟩ fun e s' => (e = .normal ∨ e = .ret) ∧ ∃ ls vs us os a o, aR ls s' = some (vs, os) ∧ iu (aB ls vs) fn.results.toList = some us ∧ ey (aY [(K, a)]) us ws ∧ look a os = some o ∧ cL (aY [(K, a)]) o o') :
  az P f K args [] ⟨jr ws, [(K, o')], l⟩ := by
 intro need
 refine (nw hT hf (args0 := args0) (pre0 := []) (nx := 0) [] hlen rfl (ha need) trivial (fun a k h => by simp [aY, look] at h) (fun k o h => ?_) (fun need c h0 => ?_) : az P f K args [] ⟨jr ws, [(K, o')], l⟩) need
 ·simp only [look] at h
  split at h
  ·rename_i he
   have : K = k := by simpa using he
   subst this
   exact .inr ⟨Nat.le_refl _, by unfold bL; omega⟩
  ·simp at h
 ·refine (h need c fun k x hk => by simpa [aY, look] using h0 k x hk).mono ?_
  rintro e s' ⟨h1, ls, vs, us, os, a, o, h2, h3, h4, h5, h6⟩
  exact ⟨h1, aY [(K, a)], xw ⟨Nat.le_refl _, by unfold bL; omega⟩, .inr (r6 (ws := ws) (ps := [(K, o')]) h2 h3 h4 rfl rfl ⟨⟨a, o, by simp [aY, look], h5, h6⟩, trivial⟩)⟩
end rules
end Go.Am

/- A loop in a loop. -/
namespace Go.Am
open AV
section rules
variable {P : Program} {c : Ctx} {nt : Nat} {s : aA} {Q : ah → aA → Prop} {T : Types} (hT : dh P T) {Γ : aP} (hΓ : aX P Γ) (hm : P.follows .mixedOrders = true)
end rules
end Go.Am

/- The call of a law, from its contract: whatever the arguments. -/
namespace Go.Am
open Go Go.ChangeShapes Go.WideShapes Go.ChangeAt Go.RowKit AV
inductive PK where
 | list
 | int (k : IntKind)
 | bool
def BI (P : Program) : PK → TypeId → Prop
 | .list, t => ∃ e, P.underlying t = some (.slice e) ∧ P.underlying e = some (.int .i64) ∧ P.cellsOf e = 1
 | .int k, t => P.underlying t = some (.int k)
 | .bool, t => P.underlying t = some .bool
def pV (P : Program) : List PK → List TypeId → Prop
 | [], [] => True
 | k :: ks, t :: ts => (BI P k t ∧ P.readableRec t = true ∧ t < P.types.size) ∧ pV P ks ts
 | _, _ => False
def zT : PK → AV → Prop
 | .list, a => ∃ (n : Nat) (z : Nat → Int), a = .ak 1 n (fun i => .int .i64 (z i))
 | .int k, a => ∃ n, a = .int k n
 | .bool, a => ∃ b, a = .bool b
def xz : List PK → List AV → Prop
 | [], as => as = []
 | k :: ks, as => ∃ a l, as = a :: l ∧ zT k a ∧ xz ks l
section
variable {P : Program} {H : Type} {enc : TypeId × Value → H} {W : World} {base : Nat}
theorem ON {k : PK} {t : TypeId} {v : Value} {d : DataW H} {p : List MemPlace} (hk : BI P k t) (h : DataW.Trod enc P W 0 (fun _ => true) true t v d p) (hv : Value.okWide P W .any base t v) : ∃ a, zT k a ∧ aS (fun _ => False) W aQ a v := by
 cases k with
 | int k =>
  obtain ⟨n, rfl⟩ := okWide_int hk hv
  exact ⟨_, ⟨n, rfl⟩, .bK (.int .nil) rfl⟩
 | bool =>
  obtain ⟨b, rfl⟩ := okWide_bool hk hv
  exact ⟨_, ⟨b, rfl⟩, .bK (.bool .nil) rfl⟩
 | list =>
  obtain ⟨e, h1, h2, h3⟩ := hk
  obtain ⟨a0, len, cap, rfl⟩ := okWide_slice h1 hv
  obtain ⟨fuel, hf⟩ := h
  have key : ∀ {z : Nat → Int}, len ≤ cap → (len = 0 ∨ ∃ b o, a0 = some ⟨b, o, none⟩ ∧ ∀ i, i < len → W.cell? ⟨b, o + i, none⟩ = some (.int .i64 (z i))) → aS (fun _ => False) W aQ (.ak 1 len (fun i => .int .i64 (z i))) (.slice a0 len cap) := fun {z} hcap hr => by
   refine .bK (.ak (cf := fun i => [.int .i64 (z i)]) ?_ (by omega) hcap (fun _ _ => rfl) (fun _ _ => .int .nil) .nil) rfl
   rcases hr with hr | ⟨b, o, rfl, hr⟩
   ·exact .inl hr
   ·refine .inr ⟨b, o, rfl, fun i hi => ?_⟩
    have hc := hr i hi
    simp only [World.cell?] at hc
    split at hc
    ·rename_i cs ty fr hh
     simp only [Option.isSome_none, Bool.false_eq_true, if_false] at hc
     refine ⟨cs, ty, fr, hh, id, fun j v hj => ?_⟩
     have hj0 : j = 0 := by have := (List.getElem?_eq_some_iff.1 hj).1; simp at this; exact this
     subst hj0
     simp only [List.getElem?_cons_zero, Option.some.injEq] at hj
     subst hj
     simpa using hc
    ·simp at hc
  rcases open_ints h1 h2 h3 hf with ⟨hcs, hx⟩ | ⟨a, len', cap', zs, hcs, _, hl, hm, hz, hx, hcell, hwz⟩
  ·simp only [Value.cells, List.cons.injEq, Value.slice.injEq, and_true] at hcs
   obtain ⟨rfl, rfl, rfl⟩ := hcs
   exact ⟨_, ⟨0, fun _ => 0, rfl⟩, key (z := fun _ => 0) (Nat.le_refl _) (.inl rfl)⟩
  ·simp only [Value.cells, List.cons.injEq, Value.slice.injEq, and_true] at hcs
   obtain ⟨rfl, rfl, rfl⟩ := hcs
   simp only [if_true] at hz
   refine ⟨_, ⟨len, fun i => zs.getD i 0, rfl⟩, key hl ?_⟩
   rcases Nat.eq_zero_or_pos len with h0 | h0
   ·exact .inl h0
   ·obtain ⟨b, o, m⟩ := a
    have h1 := hcell 0 (by omega)
    have : m = none := by
     cases m with
     | none => rfl
     | some y => exfalso; simp only [Addr.add, World.cell?] at h1; split at h1 <;> simp at h1
    subst this
    exact .inr ⟨b, o, rfl, fun i hi => by
     have h2 := hcell i (by omega)
     rcases Nat.eq_zero_or_pos i with hi | hi
     ·subst hi; simpa [Addr.add] using h2
     ·simpa [Addr.add, Nat.pos_iff_ne_zero.1 hi] using h2⟩
theorem Ef : ∀ {ks : List PK} {ts : List TypeId} {vs : List Value} {ds : List (DataW H)} {p : List MemPlace}, pV P ks ts → DataW.TrodAll enc P W 0 (fun _ => true) true ts vs ds p → (∀ (j : Nat) t v, ts[j]? = some t → vs[j]? = some v → Value.okWide P W .any base t v) →
  ∃ as, xz ks as ∧ bA (fun _ => False) W aQ as vs
 | [], [], vs, ds, p, _, h, _ => by
  obtain ⟨rfl, _, _⟩ := trodAll_nil h
  exact ⟨[], rfl, trivial⟩
 | k :: ks, t :: ts, vs, ds, p, hk, h, hv => by
  obtain ⟨v, vs', d, ds', p1, q, rfl, rfl, rfl, hd, hrest⟩ := trodAll_cons h
  obtain ⟨a, h1, h2⟩ := ON hk.1.1 hd (hv 0 t v rfl rfl)
  obtain ⟨as, h3, h4⟩ := Ef hk.2 hrest fun j t v h1 h2 => hv (j + 1) t v h1 h2
  exact ⟨a :: as, ⟨a, as, rfl, h1, h3⟩, h2, h4⟩
 | [], _ :: _, _, _, _, h, _, _ => h.elim
 | _ :: _, [], _, _, _, h, _, _ => h.elim
theorem Fy {b : Nat} {sp : Nat → Bool} {held : Bool} : ∀ {ts : List TypeId} {vs : List Value} {ds : List (DataW H)} {p : List MemPlace}, DataW.TrodAll enc P W b sp held ts vs ds p → ds.length = ts.length
 | [], vs, ds, p, h => by
  obtain ⟨_, rfl, _⟩ := trodAll_nil h
  rfl
 | t :: ts, vs, ds, p, h => by
  obtain ⟨v, vs', d, ds', p1, q, rfl, rfl, rfl, hd, hrest⟩ := trodAll_cons h
  simp [Fy hrest]
theorem BR (hl : laidOutB P = true) {W' : World} (hb : Below W.heap.size W W') : ∀ {ks : List PK} {ts : List TypeId} {vs : List Value} {ds : List (DataW H)} {p : List MemPlace}, pV P ks ts → DataW.TrodAll enc P W 0 (fun _ => true) true ts vs ds p → (∀ x ∈ p, x.block < W.heap.size) →
  DataW.TrodAll enc P W' 0 (fun b => decide (b < W.heap.size)) true ts vs ds p
 | [], [], vs, ds, p, _, h, _ => by
  obtain ⟨rfl, rfl, rfl⟩ := trodAll_nil h
  exact trodAll_mk0
 | k :: ks, t :: ts, vs, ds, p, hk, h, hlt => by
  obtain ⟨v, vs', d, ds', p1, q, rfl, rfl, rfl, hd, hrest⟩ := trodAll_cons h
  exact ⟨_, _, Below.trod hl hk.1.2.1 hk.1.2.2 hd hb fun x hx => hlt x (List.mem_append_left _ hx), BR hl hb hk.2 hrest fun x hx => hlt x (List.mem_append_right _ hx), rfl⟩
 | [], _ :: _, _, _, _, h, _, _ => h.elim
 | _ :: _, [], _, _, _, h, _, _ => h.elim
theorem JW (hl : laidOutB P = true) {f : FuncId} {fn : Func} (hf : P.funcs[f]? = some fn) (hb : fn.body.isNone = false) {ks : List PK} {ts : List TypeId} (hk : pV P ks ts) {args : Array Value} {ds : List (DataW H)} {p : List MemPlace}
  (hA : DataW.TrodAll enc P W 0 (fun _ => true) true ts args.toList ds p) (hv : ∀ (j : Nat) t v, ts[j]? = some t → args[j]? = some v → Value.okWide P W .any base t v) (hlt : ∀ x ∈ p, x.block < W.heap.size) (hF : ∀ as, xz ks as → az P f 0 as [] ⟨.bool true, [], []⟩) :
  Calls P f args W fun e W' => e = .returned (.bool true) ∧ Below W.heap.size W W' ∧ DataW.TrodAll enc P W' 0 (fun b => decide (b < W.heap.size)) true ts args.toList ds p := by
 obtain ⟨as, h1, h2⟩ := Ef hk hA fun j t v h1 h2 => hv j t v h1 (by simpa using h2)
 obtain ⟨_, hF⟩ := hF as h1 trivial
 have hrel : aW ⟨fun _ => False, W, fun _ => False, aQ⟩ [] (fun _ => False) aQ W :=
  { obj := fun k o h => by simp [look] at h, cA := fun k o h => by simp [look] at h, inj := fun k k' o o' b N N' h => by simp [look] at h, dom := fun k x h => by simp [aQ] at h, keep := fun k x h => h, lt := fun k b N h => by simp [aQ] at h, os := rfl, tape := rfl, output := rfl, size := Nat.le_refl _, block := fun _ _ _ => rfl, fj := fun b h => h.elim, new := fun k o b N h => by simp [look] at h }
 have hM : aH ⟨fun _ => False, W, fun _ => False, aQ⟩ [] aQ = fun _ => False := by
  funext b
  simp [aH, look]
 have hinv := hF ⟨fun _ => False, W, fun _ => False, aQ⟩ (fun _ => False) (fun _ => True) aQ W _ rfl (fun b h => h.elim) hrel (fun k h => h.elim) (fun k _ _ => ⟨id, trivial⟩) (by rw [hM]; exact h2)
 rcases hinv with ⟨fn', g1, g2, g3, g4⟩ | ⟨x, g1, _⟩
 ·have g5 := g4
  rw [show args.toList.toArray = args from by simp] at g5
  refine g5.mono fun e W' ⟨x, he, hx⟩ => ?_
  obtain ⟨β', q1, q2, q3⟩ := hx
  have := q3.bool
  subst this
  have hbl : Below W.heap.size W W' := ⟨q1.os, q1.tape, q1.output, q1.size, fun k hk => q1.block k hk id⟩
  exact ⟨he, hbl, BR hl hbl hk hA hlt⟩
 ·exfalso
  simp only [callFunc, Sem.run_bind, run_program, Result.andThen_ok, hf, hb, Bool.false_eq_true, if_false] at g1
  split at g1 <;> simp at g1
end
end Go.Am
