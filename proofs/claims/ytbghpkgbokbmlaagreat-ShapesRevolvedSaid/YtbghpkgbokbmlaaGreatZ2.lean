/- aT of functions that are handed a pointer to an object and leave it changed. -/
import Derived.Test.YtbghpkgbokbmlaaGreatZ1
import Derived.ProofKit
import Derived.ChangeSlices
set_option linter.unusedVariables false
namespace Go.Am
open AV
def yJ (T : Types) (fn : Func) (e : ah) (s : aF) : Option (aa (List AV × Option ay)) :=
 match ju T fn e s with
 | some t => t.bind fun e us => some (.leaf e (us, look 0 s.store))
 | none => none
def qw (T : Types) (Γ : aT) (forks : List Nat) (n : Nat) (fn : Func) (x : Code) (s : aF) : Option (aa (List AV × Option ay)) :=
 match cP T Γ forks n x s with
 | some t => t.bind (yJ T fn)
 | none => none
theorem xV {P : Program} {T : Types} (hT : dK P T) {Γ : aT} (hΓ : bh P Γ) (hm : P.follows .mixedOrders = true) {f : FuncId} {fn : Func} {x : Code} (hf : aS P f fn x) {k idx es off : Nat} {p : List Nat} {rest : List AV} {o2 o o' : ay} {res : AV} {l : List Prop}
  (hkr : bg rest = []) (hrt : (rest.all fun v => !v.isTuple) = true) (hlen : rest.length + 1 ≤ fn.ntmps) (ho : ∀ ρ, cC ρ o2 o) {forks : List Nat} (n : Nat) {t : aa (List AV × Option ay)}
  (hc : qw T Γ forks n fn x ⟨aO 0 (.ptr 0 idx es off p :: rest), [(0, o)], 1⟩ = some t)
  (h : ax l → t.all fun _ v => dL v.1 res ∧ ∃ o1, v.2 = some o1 ∧ o1.row = false ∧ cC (aZ [(k, 0)]) o1 o') (K : Nat) :
  aB P f K (.ptr k idx es off p :: rest) [(k, o2)] ⟨res, [(k, o')], l⟩ := by
 have hrest : ∀ {rest : List AV}, bg rest = [] → (rest.all fun v => !v.isTuple) = true → e9 (aZ [(0, k)]) rest rest := by
  intro rest
  induction rest with
  | nil => intro _ _; trivial
  | cons v r ih =>
   intro h1 h2
   simp only [bg, List.append_eq_nil_iff] at h1
   simp only [List.all_cons, Bool.and_eq_true, Bool.not_eq_true'] at h2
   exact ⟨⟨h2.1, aG h1.1⟩, ih h1.2 h2.2⟩
 refine nA hT hf (args0 := .ptr 0 idx es off p :: rest) (pre0 := [(0, o)]) (nx := 1) [(0, k)] (by simpa using hlen) (by simp [ia]) ⟨⟨rfl, jC rfl⟩, hrest hkr hrt⟩ ⟨⟨k, o2, rfl, by simp [look], ho _⟩, trivial⟩
  (fun a x h => ?_) (fun x o h => .inl ?_) (fun need c h0 => ?_)
 ·simp only [aZ, look] at h
  split at h
  ·simp only [Option.some.injEq] at h; subst h; exact ⟨_, by simp [look]; rfl⟩
  ·simp at h
 ·simp only [look] at h
  split at h
  ·rename_i he
   exact ⟨_, by simp only [look, he, if_true]; rfl⟩
  ·simp at h
 have h := h need
 unfold qw at hc
 cases hx : cP T Γ forks n x ⟨aO 0 (.ptr 0 idx es off p :: rest), [(0, o)], 1⟩ with
 | none => rw [hx] at hc; simp at hc
 | some u =>
  rw [hx] at hc
  refine iz hT hΓ hm n hf.dst hx (aa.er ?_ (aa.g7 hc h))
  rintro e s' ⟨v, h1, h2⟩
  unfold yJ at h1
  split at h1
  ·rename_i v' hv'
   have h3 := aa.g7 h1 h2
   have h4 : v'.all fun _ us => dL us res ∧ ∃ o1, look 0 s'.store = some o1 ∧ o1.row = false ∧ cC (aZ [(k, 0)]) o1 o' := by
    refine aa.er ?_ h3
    rintro e us ⟨w, g1, g2⟩
    simp only [Option.some.injEq] at g1
    subst g1
    exact g2
   have h5 : Fin T fn res e s' := xX hv' (aa.er (fun _ _ h => h.1) h4)
   have h6 : ∃ o1, look 0 s'.store = some o1 ∧ o1.row = false ∧ cC (aZ [(k, 0)]) o1 o' := by
    have : ∀ {t : aa (List AV)}, (t.all fun _ us => dL us res ∧ ∃ o1, look 0 s'.store = some o1 ∧ o1.row = false ∧ cC (aZ [(k, 0)]) o1 o') → ∃ o1, look 0 s'.store = some o1 ∧ o1.row = false ∧ cC (aZ [(k, 0)]) o1 o' := by
     intro t
     induction t with
     | leaf e us => exact fun h => h.2
     | af ps t ih => exact fun h => ih h.2
     | fork b t1 t2 ih1 ih2 =>
      intro h
      cases b with
      | true => exact ih1 (h.1 rfl)
      | false => exact ih2 (h.2 rfl)
    exact this h4
   refine ⟨h5.1, aZ [(k, 0)], xI, .inl ⟨h5.2, fun x ox hx => ?_⟩⟩
   obtain ⟨o1, g1, g2, g3⟩ := h6
   have he : cj (eC [(k, o')]) [(k, o2)] = [(k, o')] := by simp [cj, eC, put]
   rw [he] at hx
   simp only [look] at hx
   split at hx
   ·rename_i hk
    have : k = x := by simpa using hk
    subst this
    simp only [Option.some.injEq] at hx
    subst hx
    exact ⟨0, o1, by simp [aZ, look], g1, g2, g3⟩
   ·simp at hx
  ·simp at h1
theorem TP {P : Program} {T : Types} (hT : dK P T) {Γ : aT} (hΓ : bh P Γ) (hm : P.follows .mixedOrders = true) {f : FuncId} {fn : Func} {x : Code} (hf : aS P f fn x) {args : List AV} {o o' : ay} {a idx es off ls : Nat} {p : List Nat} {l : List Prop}
  (hka : bg args = []) (hrt : (args.all fun v => !v.isTuple) = true) (hlen : args.length ≤ fn.ntmps) (hres : fn.results.toList = [.tmp ls]) {forks : List Nat} (n : Nat) {e : ah} {q : List Prop}
  (hc : aI T Γ forks n [ls] [x] ⟨aO 0 args, [], 0⟩ = some (.leaf e ([.ptr a idx es off p], [(a, o)])))
  (he : e = .normal ∨ e = .ret) (h : ∀ ρ, cC ρ o o') (K : Nat) : aB P f K args [] ⟨.ptr K idx es off p, [(K, o')], l⟩ := by
 have hrest : ∀ {rest : List AV}, bg rest = [] → (rest.all fun v => !v.isTuple) = true → e9 (aZ []) rest rest := by
  intro rest
  induction rest with
  | nil => intro _ _; trivial
  | cons v r ih =>
   intro h1 h2
   simp only [bg, List.append_eq_nil_iff] at h1
   simp only [List.all_cons, Bool.and_eq_true, Bool.not_eq_true'] at h2
   exact ⟨⟨h2.1, aG h1.1⟩, ih h1.2 h2.2⟩
 refine nA hT hf (args0 := args) (pre0 := []) (nx := 0) [] hlen rfl (hrest hka hrt) trivial (fun a k h => by simp [aZ, look] at h) (fun k o h => ?_) (fun _ c h0 => ?_)
 ·simp only [look] at h
  split at h
  ·rename_i he
   have : K = k := by simpa using he
   subst this
   exact .inr ⟨Nat.le_refl _, by unfold bY; omega⟩
  ·simp at h
 refine ak.bk hT hΓ hm n [ls] hc hf.dst fun s' hv => ⟨he, aZ [(K, a)], B9 ⟨Nat.le_refl _, by unfold bY; omega⟩, .inr ?_⟩
 refine uA (us := [.ptr a idx es off p]) (ws := [.ptr K idx es off p]) (ps := [(K, o')]) hv ?_ ⟨⟨rfl, jC (by simp [aZ, look])⟩, trivial⟩ rfl rfl ⟨⟨a, _, by simp [aZ, look], by simp [look], h _⟩, trivial⟩
 rw [hres]
 simp only [jm, aA, look, beq_self_eq_true, if_true]
 rfl
end Go.Am

/- aT that the evaluator itself writes: of functions that only read, without a loop of unknown length. -/
namespace Go.Am
open AV
mutual
/-- One of two values, by a condition that is not known. -/
def dw (b : Bool) : AV → AV → Option AV
 | .rat q n, .rat r m => some (.rat (cond b q r) (max n m))
 | .int k x, .int j y => match isKind k j with
  | true => some (.int k (cond b x y))
  | false => none
 | .bool x, .bool y => some (.bool (cond b x y))
 | .aj e n f, .aj e' m g => match e == e' with
  | true => some (.aj e (cond b n m) fun i => cond b (f i) (g i))
  | false => none
 | .nil, .nil => some .nil
 | .nil, .aj e n f => match Nat.blt 0 e with
  | true => some (.aj e (cond b 0 n) f)
  | false => none
 | .aj e n f, .nil => match Nat.blt 0 e with
  | true => some (.aj e (cond b n 0) f)
  | false => none
 | .agg l, .agg m => match kf b l m with
  | some x => some (.agg x)
  | none => none
 | _, _ => none
def kf (b : Bool) : List AV → List AV → Option (List AV)
 | [], [] => some []
 | u :: l, v :: m => match dw b u v, kf b l m with
  | some x, some y => some (x :: y)
  | _, _ => none
 | _, _ => none
end
mutual
theorem aat : ∀ {u v x : AV}, dw true u v = some x → bD u x
 | .rat q n, v, x, h => by
  cases v <;> simp only [dw, Option.some.injEq, reduceCtorEq] at h
  subst h; exact dF (Nat.le_max_left ..)
 | .int k a, v, x, h => by
  cases v <;> simp only [dw, reduceCtorEq] at h
  split at h
  ·simp only [Option.some.injEq] at h; subst h; exact .refl _
  ·simp at h
 | .bool a, v, x, h => by
  cases v <;> simp only [dw, Option.some.injEq, reduceCtorEq] at h
  subst h; exact .refl _
 | .aj e n f, v, x, h => by
  cases v <;> simp only [dw, reduceCtorEq] at h
  ·split at h
   ·simp only [Option.some.injEq] at h; subst h; exact .refl _
   ·simp at h
  ·split at h
   ·simp only [Option.some.injEq] at h; subst h; exact .refl _
   ·simp at h
 | .nil, v, x, h => by
  cases v <;> simp only [dw, Option.some.injEq, reduceCtorEq] at h
  ·split at h
   ·rename_i he
    simp only [Option.some.injEq] at h; subst h
    exact jD (by rw [Nat.blt_eq] at he; exact he)
   ·simp at h
  ·subst h; exact .refl _
 | .agg l, v, x, h => by
  cases v <;> simp only [dw, reduceCtorEq] at h
  split at h
  ·rename_i hl
   simp only [Option.some.injEq] at h; subst h; exact eG (Br hl)
  ·simp at h
 | .mag _, v, x, h => by simp [dw] at h
 | .cO _ _ _ _, v, x, h => by simp [dw] at h
 | .void, v, x, h => by simp [dw] at h
 | .str _, v, x, h => by simp [dw] at h
 | .bS _, v, x, h => by simp [dw] at h
 | .ptr _ _ _ _ _, v, x, h => by simp [dw] at h
 | .own _ _ _ _, v, x, h => by simp [dw] at h
 | .func _ _, v, x, h => by simp [dw] at h
 | .tuple _, v, x, h => by simp [dw] at h
theorem Br : ∀ {u v x : List AV}, kf true u v = some x → eu u x
 | [], v, x, h => by
  cases v <;> simp only [kf, Option.some.injEq, reduceCtorEq] at h
  subst h; trivial
 | a :: l, v, x, h => by
  cases v <;> simp only [kf, reduceCtorEq] at h
  split at h
  ·rename_i h1 h2
   simp only [Option.some.injEq] at h; subst h; exact ⟨aat h1, Br h2⟩
  ·simp at h
end
mutual
theorem aaS : ∀ {u v x : AV}, dw false u v = some x → bD v x
 | .rat q n, v, x, h => by
  cases v <;> simp only [dw, Option.some.injEq, reduceCtorEq] at h
  subst h; exact dF (Nat.le_max_right ..)
 | .int k a, v, x, h => by
  cases v <;> simp only [dw, reduceCtorEq] at h
  split at h
  ·rename_i hk
   have := xJ hk
   subst this
   simp only [Option.some.injEq] at h; subst h; exact .refl _
  ·simp at h
 | .bool a, v, x, h => by
  cases v <;> simp only [dw, Option.some.injEq, reduceCtorEq] at h
  subst h; exact .refl _
 | .aj e n f, v, x, h => by
  cases v <;> simp only [dw, reduceCtorEq] at h
  ·split at h
   ·rename_i hk
    have := eq_of_beq hk
    subst this
    simp only [Option.some.injEq] at h; subst h; exact .refl _
   ·simp at h
  ·split at h
   ·rename_i he
    simp only [Option.some.injEq] at h; subst h
    exact jD (by rw [Nat.blt_eq] at he; exact he)
   ·simp at h
 | .nil, v, x, h => by
  cases v <;> simp only [dw, Option.some.injEq, reduceCtorEq] at h
  ·split at h
   ·simp only [Option.some.injEq] at h; subst h; exact .refl _
   ·simp at h
  ·subst h; exact .refl _
 | .agg l, v, x, h => by
  cases v <;> simp only [dw, reduceCtorEq] at h
  split at h
  ·rename_i hl
   simp only [Option.some.injEq] at h; subst h; exact eG (Bu hl)
  ·simp at h
 | .mag _, v, x, h => by simp [dw] at h
 | .cO _ _ _ _, v, x, h => by simp [dw] at h
 | .void, v, x, h => by simp [dw] at h
 | .str _, v, x, h => by simp [dw] at h
 | .bS _, v, x, h => by simp [dw] at h
 | .ptr _ _ _ _ _, v, x, h => by simp [dw] at h
 | .own _ _ _ _, v, x, h => by simp [dw] at h
 | .func _ _, v, x, h => by simp [dw] at h
 | .tuple _, v, x, h => by simp [dw] at h
theorem Bu : ∀ {u v x : List AV}, kf false u v = some x → eu v x
 | [], v, x, h => by
  cases v <;> simp only [kf, Option.some.injEq, reduceCtorEq] at h
  subst h; trivial
 | a :: l, v, x, h => by
  cases v <;> simp only [kf, reduceCtorEq] at h
  split at h
  ·rename_i h1 h2
   simp only [Option.some.injEq] at h; subst h; exact ⟨aaS h1, Bu h2⟩
  ·simp at h
end
theorem eu.trans : ∀ {a b c : List AV}, eu a b → eu b c → eu a c
 | [], [], [], _, _ => trivial
 | _ :: _, _ :: _, _ :: _, h, h' => ⟨h.1.trans h'.1, h.2.trans h'.2⟩
 | [], [], _ :: _, _, h => h.elim
 | [], _ :: _, _, h, _ => h.elim
 | _ :: _, [], _, h, _ => h.elim
 | _ :: _, _ :: _, [], _, h => h.elim
def mF : aa (List AV) → Option (List AV × List Prop)
 | .leaf _ us => some (us, [])
 | .af ps t => match mF t with
  | some (us, qs) => some (us, ps ++ qs)
  | none => none
 | .fork b t u => match mF t, mF u with
  | some (x, p), some (y, q) => match kf b x y with
   | some z => match p, q with
    | [], [] => some (z, [])
    | p, q => some (z, [b = true → ax p, b = false → ax q])
   | none => none
  | _, _ => none
theorem uR : ∀ {t : aa (List AV)} {us : List AV} {ps : List Prop}, mF t = some (us, ps) → ax ps → t.all fun _ vs => eu vs us
 | .leaf e vs, us, ps, h, _ => by
  simp only [mF, Option.some.injEq, Prod.mk.injEq] at h
  obtain ⟨rfl, rfl⟩ := h
  exact .refl _
 | .af l t, us, ps, h, hp => by
  simp only [mF] at h
  split at h
  ·rename_i h1
   simp only [Option.some.injEq, Prod.mk.injEq] at h
   obtain ⟨rfl, rfl⟩ := h
   obtain ⟨p1, p2⟩ := dX.1 hp
   exact ⟨p1, uR h1 p2⟩
  ·simp at h
 | .fork b t u, us, ps, h, hp => by
  simp only [mF] at h
  split at h
  ·rename_i x p y q h1 h2
   split at h
   ·rename_i z hz
    have key : us = z ∧ (b = true → ax p) ∧ (b = false → ax q) := by
     split at h
     ·simp only [Option.some.injEq, Prod.mk.injEq] at h
      exact ⟨h.1.symm, fun _ => trivial, fun _ => trivial⟩
     ·simp only [Option.some.injEq, Prod.mk.injEq] at h
      obtain ⟨rfl, rfl⟩ := h
      exact ⟨rfl, hp⟩
    obtain ⟨rfl, p1, p2⟩ := key
    refine ⟨fun hb => ?_, fun hb => ?_⟩
    ·subst hb
     exact aa.er (fun _ vs hv => hv.trans (Br hz)) (uR h1 (p1 rfl))
    ·subst hb
     exact aa.er (fun _ vs hv => hv.trans (Bu hz)) (uR h2 (p2 rfl))
   ·simp at h
  ·simp at h
def cZ (T : Types) (Γ : aT) (forks : List Nat) (fuel : Nat) (fn : Func) : Spec := bt fun args =>
 match Nat.ble args.length fn.ntmps with
 | true => match bB T Γ forks fuel fn (au fn) ⟨aO 0 args, [], 0⟩ with
  | some t => match mF t with
   | some (us, ps) => match us with
    | [u] => some ⟨u, [], ps⟩
    | us => some ⟨.tuple us, [], ps⟩
   | none => none
  | none => none
 | false => none
theorem YU {us : List AV} {v : AV} (h : eu us [v]) : dL us v := by
 match us, h with
 | [u], h => exact h.1
theorem Tv {us vs : List AV} (hv : ∀ u, vs ≠ [u]) (h : eu us vs) : dL us (.tuple vs) := by
 match us, vs, h with
 | [], [], h => exact h
 | [u], [v], h => exact absurd rfl (hv v)
 | a :: b :: l, _ :: _ :: _, h => exact h
 | [u], _ :: _ :: _, h => exact absurd h.2 (by simp [eu])
 | a :: b :: l, [v], h => exact absurd h.2 (by simp [eu])
 | [], _ :: _, h => exact h.elim
 | _ :: _, [], h => exact h.elim
theorem dh {P : Program} {T : Types} (hT : dK P T) {Γ : aT} (hΓ : bh P Γ) (hm : P.follows .mixedOrders = true) {f : FuncId} {fn : Func} (hf : aS P f fn (au fn)) (forks : List Nat) (fuel : Nat) :
  ∀ K args pre r, cZ T Γ forks fuel fn K args pre = some r → aB P f K args pre r := by
 refine bJ fun K args r hk hs hp => ?_
 split at hs
 ·rename_i hlen
  have hlen := Nat.le_of_ble_eq_true hlen
  split at hs
  ·rename_i t ht
   split at hs
   ·rename_i us ps hc
    split at hs
    ·simp only [Option.some.injEq] at hs
     subst hs
     exact bF (r := ⟨_, [], ps⟩) hT hΓ hm hf hk hlen rfl fuel ht (fun hn => aa.er (fun _ vs hv => YU hv) (uR hc hn)) K []
    ·rename_i hne
     simp only [Option.some.injEq] at hs
     subst hs
     exact bF (r := ⟨_, [], ps⟩) hT hΓ hm hf hk hlen rfl fuel ht (fun hn => aa.er (fun _ vs hv => Tv hne hv) (uR hc hn)) K []
   ·simp at hs
  ·simp at hs
 ·simp at hs
theorem de {P : Program} {Γ : aT} (h : bh P Γ) : bh P (sG :: Γ) := aE (fun K args pre r hs => by simp at hs) h
theorem eP {P : Program} {Γ : aT} (h : bh P Γ) : bh P (nG :: Γ) := aE (fun K args pre r hs => by simp at hs) h
end Go.Am

/- Loops whose objects get other keys in each round: states up to the names of objects. -/
namespace Go.Am
open AV
def kJ (rl : List (Nat × Nat)) : AV → AV
 | .ptr k i e o p => match look k rl with
  | some j => .ptr j i e o p
  | none => .void
 | .own k e s n => match look k rl with
  | some j => .own j e s n
  | none => match s, n, e with
   | 0, 0, _ + 1 => .nil
   | _, _, _ => .void
 | v => v
def ke (rl : List (Nat × Nat)) : AV → Bool
 | .ptr k _ _ _ _ => (look k rl).isSome
 | .own k e s n => (look k rl).isSome || match s, n, e with
  | 0, 0, _ + 1 => true
  | _, _, _ => false
 | .tuple _ => false
 | v => (keys v).isEmpty
theorem GX {rl : List (Nat × Nat)} {u v : AV} (hu : u = kJ rl v) (hv : ke rl v = true) : u.isTuple = false ∧ fo (aZ rl) u v := by
 subst hu
 cases v with
 | ptr k i e o p =>
  simp only [ke, Option.isSome_iff_exists] at hv
  obtain ⟨j, hj⟩ := hv
  simp only [kJ, hj]
  exact ⟨rfl, jC hj⟩
 | own k e s n =>
  simp only [ke] at hv
  cases hj : look k rl with
  | some j =>
   simp only [kJ, hj]
   exact ⟨rfl, b7 hj rfl rfl⟩
  | none =>
   rw [hj] at hv
   simp only [Option.isSome_none, Bool.false_or] at hv
   split at hv
   ·simp only [kJ, hj]
    exact ⟨rfl, vI (by omega)⟩
   ·simp at hv
 | tuple l => simp [ke] at hv
 | _ =>
  simp only [ke, List.isEmpty_iff] at hv
  exact ⟨rfl, aG hv⟩
theorem GW {rl : List (Nat × Nat)} : ∀ {vs us : List AV}, us = vs.map (kJ rl) → vs.all (ke rl) = true → e9 (aZ rl) us vs
 | [], _, h, _ => by subst h; trivial
 | v :: vs, _, h, hv => by
  subst h
  simp only [List.all_cons, Bool.and_eq_true] at hv
  exact ⟨GX rfl hv.1, GW rfl hv.2⟩
def vi : AV → Bool
 | .tuple _ => false
 | v => (keys v).isEmpty
theorem Ll {rl : List (Nat × Nat)} {v : AV} (h : vi v = true) : kJ rl v = v := by
 cases v <;> first | rfl | simp [vi, keys] at h
theorem Mx {rl : List (Nat × Nat)} {v : AV} (h : vi v = true) : ke rl v = true := by
 cases v <;> first | exact h | simp [vi, keys] at h
end Go.Am

/- Functions with one loop, by what the evaluator says of its parts. -/
namespace Go.Am
open AV
def fY (rl : List (Nat × Nat)) (u v : AV) : Prop := ((ke rl v = true ∧ u = kJ rl v) ∨ ∃ us vs, u = .agg us ∧ v = .agg vs ∧ e9 (aZ rl) us vs) ∨ (keys u = [] ∧ bD u v)
theorem G8 {ρ : Nat → Option Nat} {M : Nat → Prop} {w : World} {β : aP} : ∀ {us vs : List AV} {cs : List Value}, e9 ρ us vs → aJ M w β us cs → aJ M w (fun k => (ρ k).bind β) vs cs
 | [], [], _, _, h => by cases h; exact .nil
 | u :: us, v :: vs, cs, hl, h => by
  obtain ⟨c1, c2, rfl, h1, h2⟩ := h.split
  exact (hl.1.2.2 M w β c1 h1).cons (G8 hl.2 h2)
 | [], _ :: _, _, h, _ => h.elim
 | _ :: _, [], _, h, _ => h.elim
theorem QB {ρ : Nat → Option Nat} {us vs : List AV} (h : e9 ρ us vs) : fo ρ (.agg us) (.agg vs) := by
 refine ⟨rfl, fun M w β cs hc => ?_⟩
 cases hc with
 | agg h1 h2 => cases h2; exact .agg (G8 h h1) .nil
theorem ru {rl : List (Nat × Nat)} {us vs : List AV} (h : e9 (aZ rl) us vs) : fY rl (.agg us) (.agg vs) := .inl (.inr ⟨_, _, rfl, rfl, h⟩)
theorem fY.le {rl : List (Nat × Nat)} {u v : AV} (h : fY rl u v) : fo (aZ rl) u v := by
 rcases h with (h | ⟨us, vs, rfl, rfl, h⟩) | h
 ·exact (GX h.2 h.1).2
 ·exact QB h
 ·exact tC h.1 h.2
def gM (nx : Nat) (rl : List (Nat × Nat)) (os : aD) : aD → Prop
 | [] => True
 | (k2, o2) :: ps => ((look k2 rl = none ∧ qm o2 ∧ k2 < nx) ∨ ∃ k1 o1, look k2 rl = some k1 ∧ look k1 os = some o1 ∧ o1.row = o2.row ∧ o1.wr = o2.wr ∧ o1.es = o2.es ∧ o1.len = o2.len ∧ ∀ i, i < o2.len → fY rl (o1.f i) (o2.f i)) ∧ gM nx rl os ps
theorem AA {nx : Nat} {rl : List (Nat × Nat)} {os : aD} : ∀ {ps : aD}, gM nx rl os ps → uH nx (aZ rl) os ps
 | [], _ => trivial
 | (k2, o2) :: ps, h => by
  obtain ⟨h | ⟨k1, o1, h1, h2, h3, h4, h5, h6, h7⟩, h8⟩ := h
  ·exact ⟨.inr h, AA h8⟩
  ·exact ⟨.inl ⟨k1, o1, h1, h2, ⟨h3.symm ▸ rfl, h4.symm ▸ rfl, h5.symm ▸ rfl, h6.symm ▸ rfl, fun i hi => (h7 i (h6 ▸ hi)).le⟩⟩, AA h8⟩
theorem aQ {rl : List (Nat × Nat)} {u v : AV} (hk : keys u = []) (h : u = v) : fY rl u v := .inr ⟨hk, h ▸ .refl _⟩
theorem bR {nx : Nat} {rl : List (Nat × Nat)} {os ps : aD} {k2 k1 : Nat} {r w : Bool} {es n m : Nat} {f g : Nat → AV} (hk : look k2 rl = some k1) (ho : look k1 os = some ⟨r, w, es, n, f⟩) (hn : n = m) (h : ∀ i, i < m → fY rl (f i) (g i))
  (hs : gM nx rl os ps) : gM nx rl os ((k2, ⟨r, w, es, m, g⟩) :: ps) := ⟨.inr ⟨k1, _, hk, ho, rfl, rfl, rfl, hn, h⟩, hs⟩
theorem aU {nx : Nat} {rl : List (Nat × Nat)} {os ps : aD} {k2 k1 : Nat} {r w : Bool} {es : Nat} {f g : Nat → AV} (hk : look k2 rl = some k1) (ho : look k1 os = some ⟨r, w, es, 1, f⟩) (h : fY rl (f 0) (g 0))
  (hs : gM nx rl os ps) : gM nx rl os ((k2, ⟨r, w, es, 1, g⟩) :: ps) := bR hk ho rfl (fun i hi => by rw [Nat.lt_one_iff.1 hi]; exact h) hs
theorem qf {nx : Nat} {rl : List (Nat × Nat)} {os ps : aD} {k2 es : Nat} {w : Bool} {f : Nat → AV} (hk : look k2 rl = none) (hes : 0 < es) (hn : k2 < nx) (hs : gM nx rl os ps) : gM nx rl os ((k2, ⟨true, w, es, 0, f⟩) :: ps) := ⟨.inl ⟨hk, ⟨rfl, rfl, hes⟩, hn⟩, hs⟩
theorem PJ {α : Type} {k : Nat} {a : α} {l : List (Nat × α)} : look k ((k, a) :: l) = some a := by simp [look]
theorem GJ {α : Type} {j k : Nat} {b : α} {l : List (Nat × α)} (h : (j == k) = false) : look k ((j, b) :: l) = look k l := by simp [look, h]
theorem Gv {α : Type} {k : Nat} {b : List (Nat × α)} : ∀ {a : List (Nat × α)}, look k (a ++ b) = match look k a with
  | some x => some x
  | none => look k b
 | [] => rfl
 | (j, x) :: a => by
  simp only [List.cons_append, look]
  split
  ·rfl
  ·exact Gv
theorem gA {P : Program} {a b : aT} (ha : bh P a) (hb : bh P b) : bh P (a ++ b) := by
 intro f s hl
 have hl : look f (a ++ b) = some s := hl
 rw [Gv] at hl
 split at hl
 ·rename_i h
  simp only [Option.some.injEq] at hl
  subst hl
  exact ha f _ h
 ·exact hb f s hl
def Kept (kp : List Nat) (c : Ctx) : Prop := ∀ k x, c.k0 k = some x → k ∈ kp
theorem kE {c : Ctx} (h0 : ∀ nx k x, c.k0 k = some x → k < nx) : Kept [] c := fun k x hk => absurd (h0 0 k x hk) (by omega)
def dx (kp : List Nat) (v : List AV × aD) (vs : List AV) (os : aD) (nx : Nat) : Prop :=
 ∃ rl, (ia nx rl && kp.all fun k => look k rl == some k) = true ∧ v.1 = vs.map (kJ rl) ∧ vs.all (ke rl) = true ∧ gM nx rl v.2 os
theorem dx.le {kp : List Nat} {c : Ctx} {s' : aF} {ls : List Nat} {v : List AV × aD} {vs : List AV} {os : aD} {nx : Nat} (h : dx kp v vs os nx) (hv : aW ls s' = some v) (h0 : Kept kp c) : ∃ ρ, Le c ρ s' ⟨aA ls vs, os, nx⟩ := by
 obtain ⟨rl, h1, h2, h3, h4⟩ := h
 simp only [Bool.and_eq_true] at h1
 exact II rl hv (fun k x hk => by simpa using List.all_eq_true.1 h1.2 k (h0 k x hk)) h1.1 (GW h2 h3) (AA h4)
theorem dx.vals {vs : List AV} {nx : Nat} (h : vs.all vi = true) : dx [] (vs, []) vs [] nx := by
 simp only [List.all_eq_true] at h
 refine ⟨[], rfl, ?_, List.all_eq_true.2 fun v hv => Mx (h v hv), trivial⟩
 have : vs.map (kJ []) = vs.map id := List.map_congr_left fun v hv => Ll (h v hv)
 rw [this, List.map_id]
theorem nK {nt : Nat} : ∀ {x : Code} {p : List Nat}, bK nt x = true → (before x p).all (fun x => bK nt x) = true
 | .seq x y, 0 :: p, h => by
  simp only [bK, Bool.and_eq_true] at h
  exact nK (x := x) h.1
 | .seq x y, (n + 1) :: p, h => by
  simp only [bK, Bool.and_eq_true] at h
  simp only [before, List.all_cons, Bool.and_eq_true]
  exact ⟨h.1, nK (x := y) h.2⟩
 | .seq _ _, [], _ | .cond _ _ _, _, _ | .block _ _, _, _ | .loop _, _, _ | .region _ _ _, _, _ | .skip, _, _ | .label _, _, _ | .exit _, _, _ | .ret, _, _ | .scope _, _, _ | .goto _, _, _ | .refuse _, _, _ | .rangeFunc _ _ _ _, _, _ => by simp [before]
theorem rV {nt : Nat} : ∀ {x : Code} {p : List Nat}, bK nt x = true → (behind x p).all (fun x => bK nt x) = true
 | .seq x y, 0 :: p, h => by
  simp only [bK, Bool.and_eq_true] at h
  simp only [behind, List.all_append, List.all_cons, List.all_nil, Bool.and_true, Bool.and_eq_true]
  exact ⟨rV (x := x) h.1, h.2⟩
 | .seq x y, (n + 1) :: p, h => by
  simp only [bK, Bool.and_eq_true] at h
  exact rV (x := y) (p := p) h.2
 | .seq _ _, [], _ | .cond _ _ _, _, _ | .block _ _, _, _ | .loop _, _, _ | .region _ _ _, _, _ | .skip, _, _ | .label _, _, _ | .exit _, _, _ | .ret, _, _ | .scope _, _, _ | .goto _, _, _ | .refuse _, _, _ | .rangeFunc _ _ _ _, _, _ => by simp [behind]
theorem q8 {nt : Nat} : ∀ {x : Code} {p : List Nat}, chain x p = true → bK nt x = true → bK nt (part x p) = true
 | x, [], _, h => by cases x <;> exact h
 | .seq x y, 0 :: p, hc, h => by
  simp only [bK, Bool.and_eq_true] at h
  exact q8 (x := x) hc h.1
 | .seq x y, (n + 1) :: p, hc, h => by
  simp only [bK, Bool.and_eq_true] at h
  exact q8 (x := y) hc h.2
 | .cond _ _ _, _ :: _, hc, _ | .block _ _, _ :: _, hc, _ | .loop _, _ :: _, hc, _ | .region _ _ _, _ :: _, hc, _ | .skip, _ :: _, hc, _ | .label _, _ :: _, hc, _ | .exit _, _ :: _, hc, _ | .ret, _ :: _, hc, _ | .scope _, _ :: _, hc, _ | .goto _, _ :: _, hc, _ | .refuse _, _ :: _, hc, _ | .rangeFunc _ _ _ _, _ :: _, hc, _ => by simp [chain] at hc
section rules
variable {P : Program} {c : Ctx} {nt : Nat} {s : aF} {Q : ah → aF → Prop} {T : Types} (hT : dK P T) {Γ : aT} (hΓ : bh P Γ) (hm : P.follows .mixedOrders = true)
def Round (kp : List Nat) {α : Type} (V : α → List AV) (O : α → aD) (nx : Nat) (I D : α → Prop) (μ : α → Nat) (i : Nat) (R : List AV × aD → Prop) (a : α) : ah → List AV × aD → Prop
 | .normal, v => ∃ b, I b ∧ μ b < μ a ∧ dx kp v (V b) (O b) nx
 | .exit k, v => k = i ∧ ∃ b, D b ∧ dx kp v (V b) (O b) nx
 | .ret, v => R v
include hT hΓ hm in
theorem ak.LV {x y : Code} {i : Nat} (hx : x = .block i (.loop y)) {kp : List Nat} (h0 : Kept kp c) {forks : List Nat} (n : Nat) (L : List Nat) (nx : Nat) {α : Type} (V : α → List AV) (O : α → aD) (I D : α → Prop) (μ : α → Nat) (R : List AV × aD → Prop)
  (a0 : α) (hI : I a0) (hs : ∃ ρ, Le c ρ s ⟨aA L (V a0), O a0, nx⟩) (hd : bK nt y = true)
  (hb : ∀ a, I a → ∃ t, aI T Γ forks n L [y] ⟨aA L (V a), O a, nx⟩ = some t ∧ t.all (Round kp V O nx I D μ i R a))
  (hD : ∀ b s', D b → (∃ ρ, Le c ρ s' ⟨aA L (V b), O b, nx⟩) → Q .normal s') (hR : ∀ v s', R v → aW L s' = some v → Q .ret s') : ak P c nt x s Q := by
 refine ak.fV hx (fun a => ⟨aA L (V a), O a, nx⟩) I μ a0 hs hI fun a ha => ?_
 obtain ⟨t, h1, h2⟩ := hb a ha
 refine ak.bk hT hΓ hm n L h1 hd (aa.er ?_ h2)
 rintro e v hv s' hs'
 cases e with
 | normal =>
  obtain ⟨b, g1, g2, g3⟩ := hv
  exact ⟨b, g3.le hs' h0, g1, g2⟩
 | exit k =>
  obtain ⟨rfl, b, g1, g2⟩ := hv
  exact wk (hD b s' g1 (g2.le hs' h0))
 | ret => exact hR v s' hv hs'
theorem az.one {x : Code} (h : ak P c nt x s Q) : az P c nt [x] s Q := h.mono fun e s' h => by cases e <;> exact h
theorem ak.jg {x : Code} (h : az P c nt [x] s Q) : ak P c nt x s Q := ak.mono h fun e s' h => by cases e <;> exact h
def Start (kp : List Nat) {α : Type} (V : α → List AV) (O : α → aD) (nx : Nat) (I : α → Prop) (R : List AV × aD → Prop) : ah → List AV × aD → Prop
 | .normal, v => ∃ a, I a ∧ dx kp v (V a) (O a) nx
 | .ret, v => R v
 | .exit _, _ => False
include hT hΓ hm in
theorem ak.xP {x y : Code} (p : List Nat) {i : Nat} (hc : chain x p = true) (hx : part x p = .block i (.loop y)) (hd : bK nt x = true) {kp : List Nat} (h0 : Kept kp c) {f1 f2 : List Nat} (n : Nat) (L : List Nat) (nx : Nat) {α : Type} (V : α → List AV) (O : α → aD) (I D : α → Prop) (μ : α → Nat) (R : List AV × aD → Prop)
  (hp : ∃ t, aI T Γ f1 n L (before x p) s = some t ∧ t.all (Start kp V O nx I R))
  (hb : ∀ a, I a → ∃ t, aI T Γ f2 n L [y] ⟨aA L (V a), O a, nx⟩ = some t ∧ t.all (Round kp V O nx I D μ i R a))
  (hD : ∀ b s', D b → (∃ ρ, Le c ρ s' ⟨aA L (V b), O b, nx⟩) → az P c nt (behind x p) s' Q) (hR : ∀ v s', R v → aW L s' = some v → Q .ret s') : ak P c nt x s Q := by
 obtain ⟨t, h1, h2⟩ := hp
 refine ak.hole p hc (az.bk hT hΓ hm n L h1 (nK hd) (aa.er ?_ h2))
 rintro e v hv s' hs'
 cases e with
 | normal =>
  obtain ⟨a, hI, hre⟩ := hv
  refine (show ak P c nt (part x p) s' _ from ak.LV hT hΓ hm hx h0 n L nx V O I D μ R a hI (hre.le hs' h0) ?_ hb (fun b s' hD' hle => hD b s' hD' hle) fun v s' hv hs' => hR v s' hv hs')
  have := q8 (nt := nt) hc hd
  rw [hx] at this
  exact this
 | ret => exact hR v s' hv hs'
 | exit k => exact hv.elim
include hT hΓ hm in
theorem ak.iM {x y z : Code} (p : List Nat) {i : Nat} (hc : chain x p = true) (hx : part x p = .block i (.loop y)) (hz : behind x p = [z]) (hd : bK nt x = true) {kp : List Nat} (h0 : Kept kp c) {f1 f2 : List Nat} (n : Nat) (L : List Nat) (nx : Nat) {α : Type} (V : α → List AV) (O : α → aD) (I D : α → Prop) (μ : α → Nat) (R : List AV × aD → Prop)
  (hp : ∃ t, aI T Γ f1 n L (before x p) s = some t ∧ t.all (Start kp V O nx I R))
  (hb : ∀ a, I a → ∃ t, aI T Γ f2 n L [y] ⟨aA L (V a), O a, nx⟩ = some t ∧ t.all (Round kp V O nx I D μ i R a))
  (hD : ∀ b, D b → ak P c nt z ⟨aA L (V b), O b, nx⟩ Q) (hR : ∀ v s', R v → aW L s' = some v → Q .ret s') : ak P c nt x s Q :=
 ak.xP hT hΓ hm p hc hx hd h0 n L nx V O I D μ R hp hb (fun b s' hD' hle => by rw [hz]; exact az.weak rfl hle (az.one (hD b hD'))) hR
def Ct (c : Ctx) (L : List Nat) {α : Type} (V : α → List AV) (O : α → aD) (nx : Nat) (I D : α → Prop) (μ : α → Nat) (i : Nat) (R : aF → Prop) (a : α) : ah → aF → Prop
 | .normal, s' => ∃ b, I b ∧ μ b < μ a ∧ ∃ ρ, Le c ρ s' ⟨aA L (V b), O b, nx⟩
 | .exit k, s' => k = i ∧ ∃ b, D b ∧ ∃ ρ, Le c ρ s' ⟨aA L (V b), O b, nx⟩
 | .ret, s' => R s'
include hT hΓ hm in
theorem ak.LQ {x y z : Code} (p : List Nat) {i : Nat} (hc : chain x p = true) (hx : part x p = .block i (.loop y)) (hz : behind x p = [z]) (hd : bK nt x = true) {kp : List Nat} (h0 : Kept kp c) {f1 : List Nat} (n : Nat) (L : List Nat) (nx : Nat) {α : Type} (V : α → List AV) (O : α → aD) (I D : α → Prop) (μ : α → Nat) (R : List AV × aD → Prop)
  (hp : ∃ t, aI T Γ f1 n L (before x p) s = some t ∧ t.all (Start kp V O nx I R))
  (hb : ∀ a, I a → ak P c nt y ⟨aA L (V a), O a, nx⟩ (Ct c L V O nx I D μ i (fun s' => ∃ v, R v ∧ aW L s' = some v) a))
  (hD : ∀ b, D b → ak P c nt z ⟨aA L (V b), O b, nx⟩ Q) (hR : ∀ v s', R v → aW L s' = some v → Q .ret s') : ak P c nt x s Q := by
 obtain ⟨t, h1, h2⟩ := hp
 refine ak.hole p hc (az.bk hT hΓ hm n L h1 (nK hd) (aa.er ?_ h2))
 rintro e v hv s' hs'
 cases e with
 | normal =>
  obtain ⟨a, hI, hre⟩ := hv
  refine ak.fV hx (fun a => ⟨aA L (V a), O a, nx⟩) I μ a (hre.le hs' h0) hI fun a ha => (hb a ha).mono fun e s' h => ?_
  cases e with
  | normal =>
   obtain ⟨b, g1, g2, g3⟩ := h
   exact ⟨b, g3, g1, g2⟩
  | exit k =>
   obtain ⟨rfl, b, g1, g2⟩ := h
   refine wk ?_
   show az P c nt (behind x p) s' _
   rw [hz]
   exact az.weak rfl g2 (az.one (hD b g1))
  | ret =>
   obtain ⟨v, g1, g2⟩ := h
   exact hR v s' g1 g2
 | ret => exact hR v s' hv hs'
 | exit k => exact hv.elim
include hT hΓ hm in
theorem ak.Fh {y x1 zb : Code} (p : List Nat) {j : Nat} (hc : chain y p = true) (hx : part y p = .block j x1) (hz : behind y p = [zb]) (hd : bK nt y = true) {kp : List Nat} (h0 : Kept kp c) {f1 : List Nat} (n : Nat) (L : List Nat) (nx : Nat) {α : Type} (V : α → List AV) (O : α → aD) (I : α → Prop)
  (hp : ∃ t, aI T Γ f1 n L (before y p) s = some t ∧ t.all fun e v => match e with
   | .normal => ∃ a, I a ∧ dx kp v (V a) (O a) nx
   | e => ∀ s', aW L s' = some v → Q e s')
  (hb : ∀ a, I a → ak P c nt x1 ⟨aA L (V a), O a, nx⟩ (inBlock j (cT (fun s' => ak P c nt zb s' Q) Q))) : ak P c nt y s Q := by
 obtain ⟨t, h1, h2⟩ := hp
 refine ak.hole p hc (az.bk hT hΓ hm n L h1 (nK hd) (aa.er ?_ h2))
 rintro e v hv s' hs'
 cases e with
 | normal =>
  obtain ⟨a, hI, hre⟩ := hv
  refine ak.mJ (hre.le hs' h0) (ak.mM hx ((hb a hI).mono fun e s' h => ?_))
  have key : ∀ {e s'}, cT (fun s' => ak P c nt zb s' Q) Q e s' → cT (fun s'' => az P c nt (behind y p) s'' Q) Q e s' := fun {e s'} h => by
   cases e with
   | normal => show az P c nt (behind y p) s' Q; rw [hz]; exact az.one h
   | exit k => exact h
   | ret => exact h
  cases e with
  | normal => exact key (e := .normal) h
  | exit k =>
   simp only [inBlock] at h ⊢
   split
   ·rename_i hk; rw [if_pos hk] at h; exact key (e := .normal) h
   ·rename_i hk; rw [if_neg hk] at h; exact key (e := .exit k) h
  | ret => exact key (e := .ret) h
 | ret => exact hv s' hs'
 | exit k => exact hv s' hs'
theorem ak.tail {z zb : Code} {j : Nat} (hne : ∀ s', Q (.exit j) s' → False) (h : az P c nt [z, zb] s Q) : ak P c nt z s (inBlock j (cT (fun s' => ak P c nt zb s' Q) Q)) :=
 ak.mono h fun e s' h => by
  cases e with
  | normal => exact ak.mono h fun e s' h => by cases e <;> exact h
  | exit k =>
   simp only [inBlock]
   split
   ·rename_i hk; subst hk; exact (hne _ h).elim
   ·exact h
  | ret => exact h
def jS (fn : Func) (L : List Nat) (res : AV) (v : List AV × aD) : Prop := ∃ us, Ci fn (aA L v.1) = some us ∧ dL us res
theorem jS.fin {fn : Func} {L : List Nat} {res : AV} {v : List AV × aD} {s' : aF} (h : jS fn L res v) (hs' : aW L s' = some v) : dD c (Fin T fn res) .ret s' := by
 obtain ⟨us, g1, g2⟩ := h
 exact .inl (eW (.inr rfl) hs' g1 g2)
def Dv (T : Types) (fn : Func) (L : List Nat) (res : AV) (v : List AV × aD) : Prop :=
 ∃ vs us nx t, v.1 = vs ++ us ∧ vs.length = L.length ∧ bg us = [] ∧ ju T fn .ret ⟨aA L vs, v.2, nx⟩ = some t ∧ gH nx vs = true ∧ fC nx v.2 ∧ t.all fun _ us => dL us res
theorem Dv.fin {fn : Func} {L L1 : List Nat} {res : AV} {v : List AV × aD} {s' : aF} (h0 : Kept [] c) (h : Dv T fn L res v) (hs' : aW (L ++ L1) s' = some v) : dD c (Fin T fn res) .ret s' := by
 obtain ⟨vs, us, nx, t, h1, h2, h3, h4, h5, h6, h7⟩ := h
 obtain ⟨v1, v2⟩ := v
 simp only at h1
 subst h1
 exact tJ h4 (ga hs' h2 h3) (fun k x hk => by simpa using h0 k x hk) h5 h6 h7
include hT hΓ hm in
theorem kY {f : FuncId} {fn : Func} (hf : aS P f fn (au fn)) {args : List AV} {r : cD} (hk : bg args = []) (hlen : args.length ≤ fn.ntmps) (hpost : r.post = []) (p : List Nat) {i : Nat} {y z : Code} (hc : chain (au fn) p = true) (hx : part (au fn) p = .block i (.loop y)) (hz : behind (au fn) p = [z])
  {f1 f2 f3 : List Nat} (n : Nat) (L : List Nat) (nx : Nat) {α : Type} (V : α → List AV) (O : α → aD) (I D : α → Prop) (μ : α → Nat)
  (h : r.need → (∃ t, aI T Γ f1 n L (before (au fn) p) ⟨aO 0 args, [], 0⟩ = some t ∧ t.all (Start [] V O nx I (jS fn L r.res))) ∧
   (∀ a, I a → ∃ t, aI T Γ f2 n L [y] ⟨aA L (V a), O a, nx⟩ = some t ∧ t.all (Round [] V O nx I D μ i (jS fn L r.res) a)) ∧
   ∀ a, D a → ∃ t, b9 T Γ f3 n fn [z] ⟨aA L (V a), O a, nx⟩ = some t ∧ t.all fun _ us => dL us r.res) (K : Nat) (pre : aD) : aB P f K args pre r := by
 refine fq hT hf hk hlen hpost (fun need c h0 => ?_) K pre
 obtain ⟨hp, hb, he⟩ := h need
 refine ak.iM hT hΓ hm p hc hx hz hf.dst (kE h0) n L nx V O I D μ (jS fn L r.res) hp hb (fun a ha => ?_) fun v s' hv hs' => hv.fin hs'
 obtain ⟨t, g1, g2⟩ := he a ha
 have := rV (x := au fn) (p := p) hf.dst
 rw [hz] at this
 exact ak.jg ((az.fin hT hΓ hm n g1 this g2).mono fun _ _ h => .inl h)
def Hl (T : Types) (fn : Func) (k : Nat) (res : AV) (o' : ay) (e : ah) (s' : aF) : Prop :=
 (e = .normal ∨ e = .ret) ∧ Ends T fn res s' ∧ ∃ o1, look 0 s'.store = some o1 ∧ o1.row = false ∧ cC (aZ [(k, 0)]) o1 o'
def xY (T : Types) (Γ : aT) (forks : List Nat) (n : Nat) (fn : Func) (l : List Code) (s : aF) : Option (aa (List AV × Option ay)) :=
 match n9 T Γ forks n l s with
 | some t => t.bind (yJ T fn)
 | none => none
include hT hΓ hm in
theorem az.Dn {fn : Func} {forks : List Nat} (n : Nat) {l : List Code} {s : aF} {t : aa (List AV × Option ay)} (hc : xY T Γ forks n fn l s = some t) (hd : (l.all fun x => bK nt x) = true) {k : Nat} {res : AV} {o' : ay}
  (h : t.all fun _ v => dL v.1 res ∧ ∃ o1, v.2 = some o1 ∧ o1.row = false ∧ cC (aZ [(k, 0)]) o1 o') : az P c nt l s (Hl T fn k res o') := by
 unfold xY at hc
 split at hc
 ·rename_i u hx
  refine xh hT hΓ hm hd hx (aa.er ?_ (aa.g7 hc h))
  rintro e s' ⟨v, h1, h2⟩
  unfold yJ at h1
  split at h1
  ·rename_i v' hv'
   have h4 : v'.all fun _ us => dL us res ∧ ∃ o1, look 0 s'.store = some o1 ∧ o1.row = false ∧ cC (aZ [(k, 0)]) o1 o' := by
    refine aa.er ?_ (aa.g7 h1 h2)
    rintro e us ⟨w, g1, g2⟩
    simp only [Option.some.injEq] at g1
    subst g1
    exact g2
   have h5 : Fin T fn res e s' := xX hv' (aa.er (fun _ _ h => h.1) h4)
   refine ⟨h5.1, h5.2, ?_⟩
   have : ∀ {t : aa (List AV)}, (t.all fun _ us => dL us res ∧ ∃ o1, look 0 s'.store = some o1 ∧ o1.row = false ∧ cC (aZ [(k, 0)]) o1 o') → ∃ o1, look 0 s'.store = some o1 ∧ o1.row = false ∧ cC (aZ [(k, 0)]) o1 o' := by
    intro t
    induction t with
    | leaf e us => exact fun h => h.2
    | af ps t ih => exact fun h => ih h.2
    | fork b t1 t2 ih1 ih2 =>
     intro h
     cases b with
     | true => exact ih1 (h.1 rfl)
     | false => exact ih2 (h.2 rfl)
   exact this h4
  ·simp at h1
 ·simp at hc
theorem Kk {rl : List (Nat × Nat)} : ∀ {rest : List AV}, bg rest = [] → (rest.all fun v => !v.isTuple) = true → e9 (aZ rl) rest rest
 | [], _, _ => trivial
 | v :: r, h1, h2 => by
  simp only [bg, List.append_eq_nil_iff] at h1
  simp only [List.all_cons, Bool.and_eq_true, Bool.not_eq_true'] at h2
  exact ⟨⟨h2.1, aG h1.1⟩, Kk h1.2 h2.2⟩
include hT in
theorem Fw {f : FuncId} {fn : Func} {x : Code} (hf : aS P f fn x) {k idx es off : Nat} {p : List Nat} {rest : List AV} {o2 o o' : ay} {res : AV} {l : List Prop}
  (hkr : bg rest = []) (hrt : (rest.all fun v => !v.isTuple) = true) (hlen : rest.length + 1 ≤ fn.ntmps) (ho : ∀ ρ, cC ρ o2 o)
  (h : ax l → ∀ c : Ctx, Kept [0] c → ak P c fn.ntmps x ⟨aO 0 (.ptr 0 idx es off p :: rest), [(0, o)], 1⟩ (Hl T fn k res o')) (K : Nat) :
  aB P f K (.ptr k idx es off p :: rest) [(k, o2)] ⟨res, [(k, o')], l⟩ := by
 refine nA hT hf (args0 := .ptr 0 idx es off p :: rest) (pre0 := [(0, o)]) (nx := 1) [(0, k)] (by simpa using hlen) (by simp [ia]) ⟨⟨rfl, jC rfl⟩, Kk hkr hrt⟩ ⟨⟨k, o2, rfl, by simp [look], ho _⟩, trivial⟩
  (fun a x h => ?_) (fun x o h => .inl ?_) (fun need c h0 => ?_)
 ·simp only [aZ, look] at h
  split at h
  ·simp only [Option.some.injEq] at h; subst h; exact ⟨_, by simp [look]; rfl⟩
  ·simp at h
 ·simp only [look] at h
  split at h
  ·rename_i he
   exact ⟨_, by simp only [look, he, if_true]; rfl⟩
  ·simp at h
 have hk : Kept [0] c := fun a y hy => by
  have := h0 a y hy
  simp only [aZ, look] at this
  split at this
  ·rename_i he; have := eq_of_beq he; subst this; exact List.mem_singleton_self _
  ·simp at this
 refine (h need c hk).mono fun e s' ⟨h1, h2, o1, g1, g2, g3⟩ => ⟨h1, aZ [(k, 0)], xI, .inl ⟨h2, fun x ox hx => ?_⟩⟩
 have he : cj (eC [(k, o')]) [(k, o2)] = [(k, o')] := by simp [cj, eC, put]
 rw [he] at hx
 simp only [look] at hx
 split at hx
 ·rename_i hk
  have : k = x := by simpa using hk
  subst this
  simp only [Option.some.injEq] at hx
  subst hx
  exact ⟨0, o1, by simp [aZ, look], g1, g2, g3⟩
 ·simp at hx
end rules
end Go.Am

/- Functions that are handed two lists that may still be written to, and leave them as they are. -/
namespace Go.Am
open AV
theorem Bb {ρ : Nat → Option Nat} : ∀ {us vs : List AV}, bg us = [] → (us.all fun v => !v.isTuple) = true → eu us vs → e9 ρ us vs
 | [], [], _, _, _ => trivial
 | u :: us, v :: vs, h1, h2, h => by
  simp only [bg, List.append_eq_nil_iff] at h1
  simp only [List.all_cons, Bool.and_eq_true, Bool.not_eq_true'] at h2
  exact ⟨⟨h2.1, tC h1.1 h.1⟩, Bb h1.2 h2.2 h.2⟩
 | [], _ :: _, _, _, h => h.elim
 | _ :: _, [], _, _, h => h.elim
def zw (T : Types) (fn : Func) (e : ah) (s : aF) : Option (aa (List AV × Option ay × Option ay)) := match e with
 | .exit _ => none
 | e => match fE T s fn.results.toList with
  | some (vs, q) => some (.need q (.leaf e (vs, look 0 s.store, look 1 s.store)))
  | none => none
def F5 (us : List AV) (o p : ay) (v : List AV × Option ay × Option ay) : Prop :=
 bg v.1 = [] ∧ (v.1.all fun v => !v.isTuple) = true ∧ eu v.1 us ∧ (∃ o1, v.2.1 = some o1 ∧ ∀ ρ, cC ρ o1 o) ∧ ∃ p1, v.2.2 = some p1 ∧ ∀ ρ, cC ρ p1 p
def FR (T : Types) (fn : Func) (us : List AV) (o p : ay) (e : ah) (s : aF) : Prop :=
 (e = .normal ∨ e = .ret) ∧ (∃ vs q, fE T s fn.results.toList = some (vs, q) ∧ ax q ∧ bg vs = [] ∧ (vs.all fun v => !v.isTuple) = true ∧ eu vs us) ∧ (∃ o1, look 0 s.store = some o1 ∧ ∀ ρ, cC ρ o1 o) ∧ ∃ p1, look 1 s.store = some p1 ∧ ∀ ρ, cC ρ p1 p
theorem aaT {T : Types} {fn : Func} {e : ah} {s : aF} {t : aa (List AV × Option ay × Option ay)} {us : List AV} {o p : ay} (h1 : zw T fn e s = some t) (h2 : t.all fun _ v => F5 us o p v) : FR T fn us o p e s := by
 unfold zw at h1
 have key : ∀ {e' : ah}, (match fE T s fn.results.toList with
   | some (vs, q) => some (aa.need q (.leaf e' (vs, look 0 s.store, look 1 s.store)))
   | none => none) = some t → (∃ vs q, fE T s fn.results.toList = some (vs, q) ∧ ax q ∧ bg vs = [] ∧ (vs.all fun v => !v.isTuple) = true ∧ eu vs us) ∧ (∃ o1, look 0 s.store = some o1 ∧ ∀ ρ, cC ρ o1 o) ∧ ∃ p1, look 1 s.store = some p1 ∧ ∀ ρ, cC ρ p1 p := by
  intro e' h1
  cases hr : fE T s fn.results.toList with
  | none => rw [hr] at h1; simp at h1
  | some r =>
   obtain ⟨vs, q⟩ := r
   rw [hr] at h1
   simp only [Option.some.injEq] at h1
   subst h1
   obtain ⟨g1, g2, g3, g4, g5, g6⟩ := aa.wJ.1 h2
   exact ⟨⟨vs, q, rfl, g1, g2, g3, g4⟩, g5, g6⟩
 cases e with
 | normal => exact ⟨.inl rfl, key h1⟩
 | ret => exact ⟨.inr rfl, key h1⟩
 | exit i => simp at h1
section rules
variable {P : Program} {c : Ctx} {nt : Nat} {s : aF} {Q : ah → aF → Prop} {T : Types} (hT : dK P T) {Γ : aT} (hΓ : bh P Γ) (hm : P.follows .mixedOrders = true)
def FG (T : Types) (fn : Func) (L : List Nat) (us : List AV) (o p : ay) (v : List AV × aD) : Prop :=
 ∃ vs ws nx t, v.1 = vs ++ ws ∧ vs.length = L.length ∧ bg ws = [] ∧ zw T fn .ret ⟨aA L vs, v.2, nx⟩ = some t ∧ gH nx vs = true ∧ fC nx v.2 ∧ 2 ≤ nx ∧ t.all fun _ v => F5 us o p v
theorem FG.fin {fn : Func} {L L1 : List Nat} {us : List AV} {o p : ay} {v : List AV × aD} {s' : aF} (h0 : Kept [0, 1] c) (h : FG T fn L us o p v) (hs' : aW (L ++ L1) s' = some v) : dD c (FR T fn us o p) .ret s' := by
 obtain ⟨vs, ws, nx, t, h1, h2, h3, h4, h5, h6, hn, h7⟩ := h
 obtain ⟨v1, v2⟩ := v
 simp only at h1
 subst h1
 obtain ⟨ρ, hle⟩ := kX (ga hs' h2 h3) (fun k x hk => by
  have := h0 k x hk
  simp only [List.mem_cons, List.not_mem_nil, or_false] at this
  omega) h5 h6
 exact .inr ⟨_, ρ, hle, aaT h4 h7⟩
end rules
end Go.Am

/- Functions that are handed a list to write to, and give back a part of it. -/
namespace Go.Am
open AV
def aai (fn : Func) (k : Nat) (ws : List AV) (o' : ay) (e : ah) (s' : aF) : Prop :=
 (e = .normal ∨ e = .ret) ∧ ∃ ls vs us os o1, aW ls s' = some (vs, os) ∧ jm (aA ls vs) fn.results.toList = some us ∧ e9 (aZ [(k, 0)]) us ws ∧ look 0 os = some o1 ∧ cC (aZ [(k, 0)]) o1 o'
def Jm (fn : Func) (k : Nat) (ws : List AV) (o' : ay) (L : List Nat) (v : List AV × aD) : Prop := ∃ us o1, jm (aA L v.1) fn.results.toList = some us ∧ e9 (aZ [(k, 0)]) us ws ∧ look 0 v.2 = some o1 ∧ cC (aZ [(k, 0)]) o1 o'
theorem Jm.fin {fn : Func} {k : Nat} {ws : List AV} {o' : ay} {L : List Nat} {v : List AV × aD} {s' : aF} (h : Jm fn k ws o' L v) (hs' : aW L s' = some v) : aai fn k ws o' .ret s' := by
 obtain ⟨us, o1, h1, h2, h3, h4⟩ := h
 exact ⟨.inr rfl, L, v.1, us, v.2, o1, hs', h1, h2, h3, h4⟩
section rules
variable {P : Program} {c : Ctx} {nt : Nat} {s : aF} {Q : ah → aF → Prop} {T : Types} (hT : dK P T) {Γ : aT} (hΓ : bh P Γ) (hm : P.follows .mixedOrders = true)
include hT in
theorem Eu {f : FuncId} {fn : Func} {x : Code} (hf : aS P f fn x) {args args0 ws : List AV} {o' : ay} {K : Nat} {l : List Prop} (ha : ax l → e9 (aZ []) args args0) (hlen : args0.length ≤ fn.ntmps)
  (h : ax l → ∀ c : Ctx, Kept [] c → ak P c fn.ntmps x ⟨aO 0 args0, [], 0⟩ fun e s' => (e = .normal ∨ e = .ret) ∧ ∃ ls vs us os a o, aW ls s' = some (vs, os) ∧ jm (aA ls vs) fn.results.toList = some us ∧ e9 (aZ [(K, a)]) us ws ∧ look a os = some o ∧ cC (aZ [(K, a)]) o o') :
  aB P f K args [] ⟨ot ws, [(K, o')], l⟩ := by
 intro need
 refine (nA hT hf (args0 := args0) (pre0 := []) (nx := 0) [] hlen rfl (ha need) trivial (fun a k h => by simp [aZ, look] at h) (fun k o h => ?_) (fun need c h0 => ?_) : aB P f K args [] ⟨ot ws, [(K, o')], l⟩) need
 ·simp only [look] at h
  split at h
  ·rename_i he
   have : K = k := by simpa using he
   subst this
   exact .inr ⟨Nat.le_refl _, by unfold bY; omega⟩
  ·simp at h
 ·refine (h need c fun k x hk => by simpa [aZ, look] using h0 k x hk).mono ?_
  rintro e s' ⟨h1, ls, vs, us, os, a, o, h2, h3, h4, h5, h6⟩
  exact ⟨h1, aZ [(K, a)], B9 ⟨Nat.le_refl _, by unfold bY; omega⟩, .inr (uA (ws := ws) (ps := [(K, o')]) h2 h3 h4 rfl rfl ⟨⟨a, o, by simp [aZ, look], h5, h6⟩, trivial⟩)⟩
end rules
end Go.Am

/- A loop in a loop. -/
namespace Go.Am
open AV
section rules
variable {P : Program} {c : Ctx} {nt : Nat} {s : aF} {Q : ah → aF → Prop} {T : Types} (hT : dK P T) {Γ : aT} (hΓ : bh P Γ) (hm : P.follows .mixedOrders = true)
def Head (kp : List Nat) {α : Type} (V : α → List AV) (O : α → aD) (nx : Nat) (D : α → Prop) (i : Nat) (R : List AV × aD → Prop) (G : α → Prop) (a : α) : ah → List AV × aD → Prop
 | .normal, v => G a ∧ dx kp v (V a) (O a) nx
 | .exit k, v => k = i ∧ ∃ b, D b ∧ dx kp v (V b) (O b) nx
 | .ret, v => R v
def Nk (kp : List Nat) {α : Type} (V : α → List AV) (O : α → aD) (nx : Nat) (I : α → Prop) (μ : α → Nat) (a : α) : ah → List AV × aD → Prop
 | .normal, v => ∃ b, I b ∧ μ b < μ a ∧ dx kp v (V b) (O b) nx
 | _, _ => False
theorem ZV {i : Nat} {y : Code} (h : bK nt (.block i (.loop y)) = true) : bK nt y = true := by simpa [bK] using h
theorem Yz {i : Nat} {y : Code} (h : bK nt (.block i y) = true) : bK nt y = true := by simpa [bK] using h
include hT hΓ hm in
theorem ak.AU {x y z x1 zb y2 : Code} (p : List Nat) {i : Nat} (hc : chain x p = true) (hx : part x p = .block i (.loop y)) (hz : behind x p = [z]) (hd : bK nt x = true)
  (q : List Nat) {j : Nat} (hcq : chain y q = true) (hxq : part y q = .block j x1) (hzq : behind y q = [zb]) (r : List Nat) {i2 : Nat} (hcr : chain x1 r = true) (hxr : part x1 r = .block i2 (.loop y2)) (hij : (i == j) = false)
  {kp : List Nat} (h0 : Kept kp c) {f1 f2 f3 f4 f5 : List Nat} (n : Nat) (L1 L2 : List Nat) (nx1 nx2 : Nat) {α β : Type} (V1 : α → List AV) (O1 : α → aD) (I1 D1 : α → Prop) (μ1 : α → Nat) (G : α → Prop) (R1 R2 : List AV × aD → Prop)
  (V2 : α → β → List AV) (O2 : α → β → aD) (I2 D2 : α → β → Prop) (μ2 : α → β → Nat)
  (hp : ∃ t, aI T Γ f1 n L1 (before x p) s = some t ∧ t.all (Start kp V1 O1 nx1 I1 R1))
  (ho : ∀ a, I1 a → ∃ t, aI T Γ f2 n L1 (before y q) ⟨aA L1 (V1 a), O1 a, nx1⟩ = some t ∧ t.all (Head kp V1 O1 nx1 D1 i R1 G a))
  (hi : ∀ a, I1 a → G a → ∃ t, aI T Γ f3 n L2 (before x1 r) ⟨aA L1 (V1 a), O1 a, nx1⟩ = some t ∧ t.all (Start kp (V2 a) (O2 a) nx2 (I2 a) R2))
  (hb : ∀ a, I1 a → G a → ∀ b, I2 a b → ∃ t, aI T Γ f4 n L2 [y2] ⟨aA L2 (V2 a b), O2 a b, nx2⟩ = some t ∧ t.all (Round kp (V2 a) (O2 a) nx2 (I2 a) (D2 a) (μ2 a) i2 R2 b))
  (ht : ∀ a, I1 a → G a → ∀ b, D2 a b → ∃ t, aI T Γ f5 n L1 (behind x1 r ++ [zb]) ⟨aA L2 (V2 a b), O2 a b, nx2⟩ = some t ∧ t.all (Nk kp V1 O1 nx1 I1 μ1 a))
  (hD : ∀ b, D1 b → ak P c nt z ⟨aA L1 (V1 b), O1 b, nx1⟩ Q) (hR1 : ∀ v s', R1 v → aW L1 s' = some v → Q .ret s') (hR2 : ∀ v s', R2 v → aW L2 s' = some v → Q .ret s') : ak P c nt x s Q := by
 have hdy : bK nt y = true := by
  have := q8 (nt := nt) hc hd
  rw [hx] at this
  exact ZV this
 have hdx1 : bK nt x1 = true := by
  have := q8 (nt := nt) hcq hdy
  rw [hxq] at this
  exact Yz this
 have hdz : ((behind x1 r ++ [zb]).all fun x => bK nt x) = true := by
  have h1 := rV (nt := nt) (p := r) hdx1
  have h2 := rV (nt := nt) (p := q) hdy
  rw [hzq] at h2
  rw [List.all_append, h1, h2]; rfl
 obtain ⟨t, h1, h2⟩ := hp
 refine ak.hole p hc (az.bk hT hΓ hm n L1 h1 (nK hd) (aa.er ?_ h2))
 rintro e v hv s' hs'
 cases e with
 | ret => exact hR1 v s' hv hs'
 | exit k => exact hv.elim
 | normal =>
  obtain ⟨a, hI, hre⟩ := hv
  refine (show ak P c nt (part x p) s' _ from ak.fV hx (fun a => ⟨aA L1 (V1 a), O1 a, nx1⟩) I1 μ1 a (hre.le hs' h0) hI fun a ha => ?_)
  refine ak.mono (Q := Ct c L1 V1 O1 nx1 I1 D1 μ1 i (fun s' => Q .ret s') a) ?_ fun e s' h => ?_
  ·refine ak.Fh hT hΓ hm q hcq hxq hzq hdy h0 (f1 := f2) n L1 nx1 (fun _ : Unit => V1 a) (fun _ => O1 a) (fun _ => G a) ?_ (fun _ hG => ?_)
   ·obtain ⟨t, g1, g2⟩ := ho a ha
    refine ⟨t, g1, aa.er ?_ g2⟩
    rintro e v hv
    cases e with
    | normal => exact ⟨(), hv.1, hv.2⟩
    | exit k => exact fun s' hs' => ⟨hv.1, hv.2.imp fun b hb => ⟨hb.1, hb.2.le hs' h0⟩⟩
    | ret => exact fun s' hs' => hR1 v s' hv hs'
   ·refine ak.xP hT hΓ hm r hcr hxr hdx1 h0 (f1 := f3) (f2 := f4) n L2 nx2 (V2 a) (O2 a) (I2 a) (D2 a) (μ2 a) R2 (hi a ha hG) (hb a ha hG) (fun b s' hb hle => ?_) (fun v s' hv hs' => hR2 v s' hv hs')
    obtain ⟨t, g1, g2⟩ := ht a ha hG b hb
    have key : az P c nt (behind x1 r ++ [zb]) s' (Ct c L1 V1 O1 nx1 I1 D1 μ1 i (fun s' => Q .ret s') a) := by
     refine az.weak (by cases behind x1 r <;> rfl) hle (az.bk hT hΓ hm n L1 g1 hdz (aa.er ?_ g2))
     rintro e v hv s' hs'
     cases e with
     | normal =>
      obtain ⟨b, k1, k2, k3⟩ := hv
      exact ⟨b, k1, k2, k3.le hs' h0⟩
     | exit k => exact hv.elim
     | ret => exact hv.elim
    refine az.mono ?_ (az.append key)
    rintro e s' h
    cases e with
    | normal => exact ak.jg h
    | exit k =>
     simp only [inBlock]
     have hk : k = i := h.1
     rw [if_neg (by rw [hk]; simpa using hij)]
     exact h
    | ret => exact h
  ·cases e with
   | normal =>
    obtain ⟨b, g1, g2, g3⟩ := h
    exact ⟨b, g3, g1, g2⟩
   | exit k =>
    obtain ⟨rfl, b, g1, g2⟩ := h
    refine wk ?_
    show az P c nt (behind x p) s' _
    rw [hz]
    exact az.weak rfl g2 (az.one (hD b g1))
   | ret => exact h
end rules
end Go.Am

/- The call of a law, from its contract: whatever the arguments. -/
namespace Go.Am
open Go Go.ChangeShapes Go.WideShapes Go.ChangeAt Go.RowKit AV
inductive PK where
 | list
 | int (k : IntKind)
 | bool
def E8 (P : Program) : PK → TypeId → Prop
 | .list, t => ∃ e, P.underlying t = some (.slice e) ∧ P.underlying e = some (.int .i64) ∧ P.cellsOf e = 1
 | .int k, t => P.underlying t = some (.int k)
 | .bool, t => P.underlying t = some .bool
def r4 (P : Program) : List PK → List TypeId → Prop
 | [], [] => True
 | k :: ks, t :: ts => (E8 P k t ∧ P.readableRec t = true ∧ t < P.types.size) ∧ r4 P ks ts
 | _, _ => False
def ID : PK → AV → Prop
 | .list, a => ∃ (n : Nat) (z : Nat → Int), a = .aj 1 n (fun i => .int .i64 (z i))
 | .int k, a => ∃ n, a = .int k n
 | .bool, a => ∃ b, a = .bool b
def A8 : List PK → List AV → Prop
 | [], as => as = []
 | k :: ks, as => ∃ a l, as = a :: l ∧ ID k a ∧ A8 ks l
section
variable {P : Program} {H : Type} {enc : TypeId × Value → H} {W : World} {base : Nat}
theorem Sy {k : PK} {t : TypeId} {v : Value} {d : DataW H} {p : List MemPlace} (hk : E8 P k t) (h : DataW.Trod enc P W 0 (fun _ => true) true t v d p) (hv : Value.okWide P W .any base t v) : ∃ a, ID k a ∧ bf (fun _ => False) W aX a v := by
 cases k with
 | int k =>
  obtain ⟨n, rfl⟩ := okWide_int hk hv
  exact ⟨_, ⟨n, rfl⟩, .bX (.int .nil) rfl⟩
 | bool =>
  obtain ⟨b, rfl⟩ := okWide_bool hk hv
  exact ⟨_, ⟨b, rfl⟩, .bX (.bool .nil) rfl⟩
 | list =>
  obtain ⟨e, h1, h2, h3⟩ := hk
  obtain ⟨a0, len, cap, rfl⟩ := okWide_slice h1 hv
  obtain ⟨fuel, hf⟩ := h
  have key : ∀ {z : Nat → Int}, len ≤ cap → (len = 0 ∨ ∃ b o, a0 = some ⟨b, o, none⟩ ∧ ∀ i, i < len → W.cell? ⟨b, o + i, none⟩ = some (.int .i64 (z i))) → bf (fun _ => False) W aX (.aj 1 len (fun i => .int .i64 (z i))) (.slice a0 len cap) := fun {z} hcap hr => by
   refine .bX (.aj (cf := fun i => [.int .i64 (z i)]) ?_ (by omega) hcap (fun _ _ => rfl) (fun _ _ => .int .nil) .nil) rfl
   rcases hr with hr | ⟨b, o, rfl, hr⟩
   ·exact .inl hr
   ·refine .inr ⟨b, o, rfl, fun i hi => ?_⟩
    have hc := hr i hi
    simp only [World.cell?] at hc
    split at hc
    ·rename_i cs ty fr hh
     simp only [Option.isSome_none, Bool.false_eq_true, if_false] at hc
     refine ⟨cs, ty, fr, hh, id, fun j v hj => ?_⟩
     have hj0 : j = 0 := by have := (List.getElem?_eq_some_iff.1 hj).1; simp at this; exact this
     subst hj0
     simp only [List.getElem?_cons_zero, Option.some.injEq] at hj
     subst hj
     simpa using hc
    ·simp at hc
  rcases open_ints h1 h2 h3 hf with ⟨hcs, hx⟩ | ⟨a, len', cap', zs, hcs, _, hl, hm, hz, hx, hcell, hwz⟩
  ·simp only [Value.cells, List.cons.injEq, Value.slice.injEq, and_true] at hcs
   obtain ⟨rfl, rfl, rfl⟩ := hcs
   exact ⟨_, ⟨0, fun _ => 0, rfl⟩, key (z := fun _ => 0) (Nat.le_refl _) (.inl rfl)⟩
  ·simp only [Value.cells, List.cons.injEq, Value.slice.injEq, and_true] at hcs
   obtain ⟨rfl, rfl, rfl⟩ := hcs
   simp only [if_true] at hz
   refine ⟨_, ⟨len, fun i => zs.getD i 0, rfl⟩, key hl ?_⟩
   rcases Nat.eq_zero_or_pos len with h0 | h0
   ·exact .inl h0
   ·obtain ⟨b, o, m⟩ := a
    have h1 := hcell 0 (by omega)
    have : m = none := by
     cases m with
     | none => rfl
     | some y => exfalso; simp only [Addr.add, World.cell?] at h1; split at h1 <;> simp at h1
    subst this
    exact .inr ⟨b, o, rfl, fun i hi => by
     have h2 := hcell i (by omega)
     rcases Nat.eq_zero_or_pos i with hi | hi
     ·subst hi; simpa [Addr.add] using h2
     ·simpa [Addr.add, Nat.pos_iff_ne_zero.1 hi] using h2⟩
theorem FF : ∀ {ks : List PK} {ts : List TypeId} {vs : List Value} {ds : List (DataW H)} {p : List MemPlace}, r4 P ks ts → DataW.TrodAll enc P W 0 (fun _ => true) true ts vs ds p → (∀ (j : Nat) t v, ts[j]? = some t → vs[j]? = some v → Value.okWide P W .any base t v) →
  ∃ as, A8 ks as ∧ bN (fun _ => False) W aX as vs
 | [], [], vs, ds, p, _, h, _ => by
  obtain ⟨rfl, _, _⟩ := trodAll_nil h
  exact ⟨[], rfl, trivial⟩
 | k :: ks, t :: ts, vs, ds, p, hk, h, hv => by
  obtain ⟨v, vs', d, ds', p1, q, rfl, rfl, rfl, hd, hrest⟩ := trodAll_cons h
  obtain ⟨a, h1, h2⟩ := Sy hk.1.1 hd (hv 0 t v rfl rfl)
  obtain ⟨as, h3, h4⟩ := FF hk.2 hrest fun j t v h1 h2 => hv (j + 1) t v h1 h2
  exact ⟨a :: as, ⟨a, as, rfl, h1, h3⟩, h2, h4⟩
 | [], _ :: _, _, _, _, h, _, _ => h.elim
 | _ :: _, [], _, _, _, h, _, _ => h.elim
theorem Fe {b : Nat} {sp : Nat → Bool} {held : Bool} : ∀ {ts : List TypeId} {vs : List Value} {ds : List (DataW H)} {p : List MemPlace}, DataW.TrodAll enc P W b sp held ts vs ds p → ds.length = ts.length
 | [], vs, ds, p, h => by
  obtain ⟨_, rfl, _⟩ := trodAll_nil h
  rfl
 | t :: ts, vs, ds, p, h => by
  obtain ⟨v, vs', d, ds', p1, q, rfl, rfl, rfl, hd, hrest⟩ := trodAll_cons h
  simp [Fe hrest]
theorem Fc (hl : laidOutB P = true) {W' : World} (hb : Below W.heap.size W W') : ∀ {ks : List PK} {ts : List TypeId} {vs : List Value} {ds : List (DataW H)} {p : List MemPlace}, r4 P ks ts → DataW.TrodAll enc P W 0 (fun _ => true) true ts vs ds p → (∀ x ∈ p, x.block < W.heap.size) →
  DataW.TrodAll enc P W' 0 (fun b => decide (b < W.heap.size)) true ts vs ds p
 | [], [], vs, ds, p, _, h, _ => by
  obtain ⟨rfl, rfl, rfl⟩ := trodAll_nil h
  exact trodAll_mk0
 | k :: ks, t :: ts, vs, ds, p, hk, h, hlt => by
  obtain ⟨v, vs', d, ds', p1, q, rfl, rfl, rfl, hd, hrest⟩ := trodAll_cons h
  exact ⟨_, _, Below.trod hl hk.1.2.1 hk.1.2.2 hd hb fun x hx => hlt x (List.mem_append_left _ hx), Fc hl hb hk.2 hrest fun x hx => hlt x (List.mem_append_right _ hx), rfl⟩
 | [], _ :: _, _, _, _, h, _, _ => h.elim
 | _ :: _, [], _, _, _, h, _, _ => h.elim
theorem X1 (hl : laidOutB P = true) {f : FuncId} {fn : Func} (hf : P.funcs[f]? = some fn) (hb : fn.body.isNone = false) {ks : List PK} {ts : List TypeId} (hk : r4 P ks ts) {args : Array Value} {ds : List (DataW H)} {p : List MemPlace}
  (hA : DataW.TrodAll enc P W 0 (fun _ => true) true ts args.toList ds p) (hv : ∀ (j : Nat) t v, ts[j]? = some t → args[j]? = some v → Value.okWide P W .any base t v) (hlt : ∀ x ∈ p, x.block < W.heap.size) (hF : ∀ as, A8 ks as → aB P f 0 as [] ⟨.bool true, [], []⟩) :
  Calls P f args W fun e W' => e = .returned (.bool true) ∧ Below W.heap.size W W' ∧ DataW.TrodAll enc P W' 0 (fun b => decide (b < W.heap.size)) true ts args.toList ds p := by
 obtain ⟨as, h1, h2⟩ := FF hk hA fun j t v h1 h2 => hv j t v h1 (by simpa using h2)
 obtain ⟨_, hF⟩ := hF as h1 trivial
 have hrel : bp ⟨fun _ => False, W, fun _ => False, aX⟩ [] (fun _ => False) aX W :=
  { obj := fun k o h => by simp [look] at h, cL := fun k o h => by simp [look] at h, inj := fun k k' o o' b N N' h => by simp [look] at h, dom := fun k x h => by simp [aX] at h, keep := fun k x h => h, lt := fun k b N h => by simp [aX] at h, os := rfl, tape := rfl, output := rfl, size := Nat.le_refl _, block := fun _ _ _ => rfl, fO := fun b h => h.elim, new := fun k o b N h => by simp [look] at h }
 have hM : aL ⟨fun _ => False, W, fun _ => False, aX⟩ [] aX = fun _ => False := by
  funext b
  simp [aL, look]
 have hinv := hF ⟨fun _ => False, W, fun _ => False, aX⟩ (fun _ => False) (fun _ => True) aX W _ rfl (fun b h => h.elim) hrel (fun k h => h.elim) (fun k _ _ => ⟨id, trivial⟩) (by rw [hM]; exact h2)
 rcases hinv with ⟨fn', g1, g2, g3, g4⟩ | ⟨x, g1, _⟩
 ·have g5 := g4
  rw [show args.toList.toArray = args from by simp] at g5
  refine g5.mono fun e W' ⟨x, he, hx⟩ => ?_
  obtain ⟨β', q1, q2, q3⟩ := hx
  have := q3.bool
  subst this
  have hbl : Below W.heap.size W W' := ⟨q1.os, q1.tape, q1.output, q1.size, fun k hk => q1.block k hk id⟩
  exact ⟨he, hbl, Fc hl hbl hk hA hlt⟩
 ·exfalso
  simp only [callFunc, Sem.run_bind, run_program, Result.andThen_ok, hf, hb, Bool.false_eq_true, if_false] at g1
  split at g1 <;> simp at g1
end
end Go.Am
