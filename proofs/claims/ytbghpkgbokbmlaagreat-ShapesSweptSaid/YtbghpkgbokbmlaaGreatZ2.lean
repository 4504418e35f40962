/- aQ of functions that are handed a pointer to an object and leave it changed. -/
import Derived.Test.YtbghpkgbokbmlaaGreatZ1
import Derived.ProofKit
import Derived.ChangeSlices
set_option linter.unusedVariables false
namespace Go.Am
open AV
def yf (T : Types) (fn : Func) (e : ag) (s : aE) : Option (aa (List AV × Option ay)) :=
 match iY T fn e s with
 | some t => t.bind fun e us => some (.leaf e (us, look 0 s.store))
 | none => none
def pU (T : Types) (Γ : aQ) (forks : List Nat) (n : Nat) (fn : Func) (x : Code) (s : aE) : Option (aa (List AV × Option ay)) :=
 match cW T Γ forks n x s with
 | some t => t.bind (yf T fn)
 | none => none
theorem zC {P : Program} {T : Types} (hT : dX P T) {Γ : aQ} (hΓ : aW P Γ) (hm : P.follows .mixedOrders = true) {f : FuncId} {fn : Func} {x : Code} (hf : aP P f fn x) {k idx es off : Nat} {p : List Nat} {rest : List AV} {o2 o o' : ay} {res : AV} {l : List Prop}
  (hkr : bf rest = []) (hrt : (rest.all fun v => !v.isTuple) = true) (hlen : rest.length + 1 ≤ fn.ntmps) (ho : ∀ ρ, cF ρ o2 o) {forks : List Nat} (n : Nat) {t : aa (List AV × Option ay)}
  (hc : pU T Γ forks n fn x ⟨aM 0 (.ptr 0 idx es off p :: rest), [(0, o)], 1⟩ = some t)
  (h : ax l → t.all fun _ v => ec v.1 res ∧ ∃ o1, v.2 = some o1 ∧ o1.row = false ∧ cF (aX [(k, 0)]) o1 o') (K : Nat) :
  az P f K (.ptr k idx es off p :: rest) [(k, o2)] ⟨res, [(k, o')], l⟩ := by
 have hrest : ∀ {rest : List AV}, bf rest = [] → (rest.all fun v => !v.isTuple) = true → fh (aX [(0, k)]) rest rest := by
  intro rest
  induction rest with
  | nil => intro _ _; trivial
  | cons v r ih =>
   intro h1 h2
   simp only [bf, List.append_eq_nil_iff] at h1
   simp only [List.all_cons, Bool.and_eq_true, Bool.not_eq_true'] at h2
   exact ⟨⟨h2.1, aG h1.1⟩, ih h1.2 h2.2⟩
 refine nR hT hf (args0 := .ptr 0 idx es off p :: rest) (pre0 := [(0, o)]) (nx := 1) [(0, k)] (by simpa using hlen) (by simp [iz]) ⟨⟨rfl, jW rfl⟩, hrest hkr hrt⟩ ⟨⟨k, o2, rfl, by simp [look], ho _⟩, trivial⟩
  (fun a x h => ?_) (fun x o h => .inl ?_) (fun need c h0 => ?_)
 ·simp only [aX, look] at h
  split at h
  ·simp only [Option.some.injEq] at h; subst h; exact ⟨_, by simp [look]; rfl⟩
  ·simp at h
 ·simp only [look] at h
  split at h
  ·rename_i he
   exact ⟨_, by simp only [look, he, if_true]; rfl⟩
  ·simp at h
 have h := h need
 unfold pU at hc
 cases hx : cW T Γ forks n x ⟨aM 0 (.ptr 0 idx es off p :: rest), [(0, o)], 1⟩ with
 | none => rw [hx] at hc; simp at hc
 | some u =>
  rw [hx] at hc
  refine iO hT hΓ hm n hf.dst hx (aa.eI ?_ (aa.iw hc h))
  rintro e s' ⟨v, h1, h2⟩
  unfold yf at h1
  split at h1
  ·rename_i v' hv'
   have h3 := aa.iw h1 h2
   have h4 : v'.all fun _ us => ec us res ∧ ∃ o1, look 0 s'.store = some o1 ∧ o1.row = false ∧ cF (aX [(k, 0)]) o1 o' := by
    refine aa.eI ?_ h3
    rintro e us ⟨w, g1, g2⟩
    simp only [Option.some.injEq] at g1
    subst g1
    exact g2
   have h5 : Fin T fn res e s' := yZ hv' (aa.eI (fun _ _ h => h.1) h4)
   have h6 : ∃ o1, look 0 s'.store = some o1 ∧ o1.row = false ∧ cF (aX [(k, 0)]) o1 o' := by
    have : ∀ {t : aa (List AV)}, (t.all fun _ us => ec us res ∧ ∃ o1, look 0 s'.store = some o1 ∧ o1.row = false ∧ cF (aX [(k, 0)]) o1 o') → ∃ o1, look 0 s'.store = some o1 ∧ o1.row = false ∧ cF (aX [(k, 0)]) o1 o' := by
     intro t
     induction t with
     | leaf e us => exact fun h => h.2
     | af ps t ih => exact fun h => ih h.2
     | fork b t1 t2 ih1 ih2 =>
      intro h
      cases b with
      | true => exact ih1 (h.1 rfl)
      | false => exact ih2 (h.2 rfl)
    exact this h4
   refine ⟨h5.1, aX [(k, 0)], x4, .inl ⟨h5.2, fun x ox hx => ?_⟩⟩
   obtain ⟨o1, g1, g2, g3⟩ := h6
   have he : ck (eJ [(k, o')]) [(k, o2)] = [(k, o')] := by simp [ck, eJ, put]
   rw [he] at hx
   simp only [look] at hx
   split at hx
   ·rename_i hk
    have : k = x := by simpa using hk
    subst this
    simp only [Option.some.injEq] at hx
    subst hx
    exact ⟨0, o1, by simp [aX, look], g1, g2, g3⟩
   ·simp at hx
  ·simp at h1
theorem Xd {P : Program} {T : Types} (hT : dX P T) {Γ : aQ} (hΓ : aW P Γ) (hm : P.follows .mixedOrders = true) {f : FuncId} {fn : Func} {x : Code} (hf : aP P f fn x) {args : List AV} {o o' : ay} {a idx es off ls : Nat} {p : List Nat} {l : List Prop}
  (hka : bf args = []) (hrt : (args.all fun v => !v.isTuple) = true) (hlen : args.length ≤ fn.ntmps) (hres : fn.results.toList = [.tmp ls]) {forks : List Nat} (n : Nat) {e : ag} {q : List Prop}
  (hc : aH T Γ forks n [ls] [x] ⟨aM 0 args, [], 0⟩ = some (.leaf e ([.ptr a idx es off p], [(a, o)])))
  (he : e = .normal ∨ e = .ret) (h : ∀ ρ, cF ρ o o') (K : Nat) : az P f K args [] ⟨.ptr K idx es off p, [(K, o')], l⟩ := by
 have hrest : ∀ {rest : List AV}, bf rest = [] → (rest.all fun v => !v.isTuple) = true → fh (aX []) rest rest := by
  intro rest
  induction rest with
  | nil => intro _ _; trivial
  | cons v r ih =>
   intro h1 h2
   simp only [bf, List.append_eq_nil_iff] at h1
   simp only [List.all_cons, Bool.and_eq_true, Bool.not_eq_true'] at h2
   exact ⟨⟨h2.1, aG h1.1⟩, ih h1.2 h2.2⟩
 refine nR hT hf (args0 := args) (pre0 := []) (nx := 0) [] hlen rfl (hrest hka hrt) trivial (fun a k h => by simp [aX, look] at h) (fun k o h => ?_) (fun _ c h0 => ?_)
 ·simp only [look] at h
  split at h
  ·rename_i he
   have : K = k := by simpa using he
   subst this
   exact .inr ⟨Nat.le_refl _, by unfold bZ; omega⟩
  ·simp at h
 refine aq.aZ hT hΓ hm n [ls] hc hf.dst fun s' hv => ⟨he, aX [(K, a)], A2 ⟨Nat.le_refl _, by unfold bZ; omega⟩, .inr ?_⟩
 refine uq (us := [.ptr a idx es off p]) (ws := [.ptr K idx es off p]) (ps := [(K, o')]) hv ?_ ⟨⟨rfl, jW (by simp [aX, look])⟩, trivial⟩ rfl rfl ⟨⟨a, _, by simp [aX, look], by simp [look], h _⟩, trivial⟩
 rw [hres]
 simp only [jn, aB, look, beq_self_eq_true, if_true]
 rfl
end Go.Am

/- aQ that the evaluator itself writes: of functions that only read, without a loop of unknown length. -/
namespace Go.Am
open AV
mutual
/-- One of two values, by a condition that is not known. -/
def dI (b : Bool) : AV → AV → Option AV
 | .rat q n, .rat r m => some (.rat (cond b q r) (max n m))
 | .int k x, .int j y => match isKind k j with
  | true => some (.int k (cond b x y))
  | false => none
 | .bool x, .bool y => some (.bool (cond b x y))
 | .aj e n f, .aj e' m g => match e == e' with
  | true => some (.aj e (cond b n m) fun i => cond b (f i) (g i))
  | false => none
 | .nil, .nil => some .nil
 | .nil, .aj e n f => match Nat.blt 0 e with
  | true => some (.aj e (cond b 0 n) f)
  | false => none
 | .aj e n f, .nil => match Nat.blt 0 e with
  | true => some (.aj e (cond b n 0) f)
  | false => none
 | .agg l, .agg m => match lp b l m with
  | some x => some (.agg x)
  | none => none
 | _, _ => none
def lp (b : Bool) : List AV → List AV → Option (List AV)
 | [], [] => some []
 | u :: l, v :: m => match dI b u v, lp b l m with
  | some x, some y => some (x :: y)
  | _, _ => none
 | _, _ => none
end
mutual
theorem YE : ∀ {u v x : AV}, dI true u v = some x → bn u x
 | .rat q n, v, x, h => by
  cases v <;> simp only [dI, Option.some.injEq, reduceCtorEq] at h
  subst h; exact dN (Nat.le_max_left ..)
 | .int k a, v, x, h => by
  cases v <;> simp only [dI, reduceCtorEq] at h
  split at h
  ·simp only [Option.some.injEq] at h; subst h; exact .refl _
  ·simp at h
 | .bool a, v, x, h => by
  cases v <;> simp only [dI, Option.some.injEq, reduceCtorEq] at h
  subst h; exact .refl _
 | .aj e n f, v, x, h => by
  cases v <;> simp only [dI, reduceCtorEq] at h
  ·split at h
   ·simp only [Option.some.injEq] at h; subst h; exact .refl _
   ·simp at h
  ·split at h
   ·simp only [Option.some.injEq] at h; subst h; exact .refl _
   ·simp at h
 | .nil, v, x, h => by
  cases v <;> simp only [dI, Option.some.injEq, reduceCtorEq] at h
  ·split at h
   ·rename_i he
    simp only [Option.some.injEq] at h; subst h
    exact gL (by rw [Nat.blt_eq] at he; exact he)
   ·simp at h
  ·subst h; exact .refl _
 | .agg l, v, x, h => by
  cases v <;> simp only [dI, reduceCtorEq] at h
  split at h
  ·rename_i hl
   simp only [Option.some.injEq] at h; subst h; exact cN (Ai hl)
  ·simp at h
 | .mag _, v, x, h => by simp [dI] at h
 | .cV _ _ _ _, v, x, h => by simp [dI] at h
 | .void, v, x, h => by simp [dI] at h
 | .str _, v, x, h => by simp [dI] at h
 | .bS _, v, x, h => by simp [dI] at h
 | .ptr _ _ _ _ _, v, x, h => by simp [dI] at h
 | .own _ _ _ _, v, x, h => by simp [dI] at h
 | .func _ _, v, x, h => by simp [dI] at h
 | .tuple _, v, x, h => by simp [dI] at h
theorem Ai : ∀ {u v x : List AV}, lp true u v = some x → dm u x
 | [], v, x, h => by
  cases v <;> simp only [lp, Option.some.injEq, reduceCtorEq] at h
  subst h; trivial
 | a :: l, v, x, h => by
  cases v <;> simp only [lp, reduceCtorEq] at h
  split at h
  ·rename_i h1 h2
   simp only [Option.some.injEq] at h; subst h; exact ⟨YE h1, Ai h2⟩
  ·simp at h
end
mutual
theorem WQ : ∀ {u v x : AV}, dI false u v = some x → bn v x
 | .rat q n, v, x, h => by
  cases v <;> simp only [dI, Option.some.injEq, reduceCtorEq] at h
  subst h; exact dN (Nat.le_max_right ..)
 | .int k a, v, x, h => by
  cases v <;> simp only [dI, reduceCtorEq] at h
  split at h
  ·rename_i hk
   have := yy hk
   subst this
   simp only [Option.some.injEq] at h; subst h; exact .refl _
  ·simp at h
 | .bool a, v, x, h => by
  cases v <;> simp only [dI, Option.some.injEq, reduceCtorEq] at h
  subst h; exact .refl _
 | .aj e n f, v, x, h => by
  cases v <;> simp only [dI, reduceCtorEq] at h
  ·split at h
   ·rename_i hk
    have := eq_of_beq hk
    subst this
    simp only [Option.some.injEq] at h; subst h; exact .refl _
   ·simp at h
  ·split at h
   ·rename_i he
    simp only [Option.some.injEq] at h; subst h
    exact gL (by rw [Nat.blt_eq] at he; exact he)
   ·simp at h
 | .nil, v, x, h => by
  cases v <;> simp only [dI, Option.some.injEq, reduceCtorEq] at h
  ·split at h
   ·simp only [Option.some.injEq] at h; subst h; exact .refl _
   ·simp at h
  ·subst h; exact .refl _
 | .agg l, v, x, h => by
  cases v <;> simp only [dI, reduceCtorEq] at h
  split at h
  ·rename_i hl
   simp only [Option.some.injEq] at h; subst h; exact cN (BR hl)
  ·simp at h
 | .mag _, v, x, h => by simp [dI] at h
 | .cV _ _ _ _, v, x, h => by simp [dI] at h
 | .void, v, x, h => by simp [dI] at h
 | .str _, v, x, h => by simp [dI] at h
 | .bS _, v, x, h => by simp [dI] at h
 | .ptr _ _ _ _ _, v, x, h => by simp [dI] at h
 | .own _ _ _ _, v, x, h => by simp [dI] at h
 | .func _ _, v, x, h => by simp [dI] at h
 | .tuple _, v, x, h => by simp [dI] at h
theorem BR : ∀ {u v x : List AV}, lp false u v = some x → dm v x
 | [], v, x, h => by
  cases v <;> simp only [lp, Option.some.injEq, reduceCtorEq] at h
  subst h; trivial
 | a :: l, v, x, h => by
  cases v <;> simp only [lp, reduceCtorEq] at h
  split at h
  ·rename_i h1 h2
   simp only [Option.some.injEq] at h; subst h; exact ⟨WQ h1, BR h2⟩
  ·simp at h
end
theorem dm.trans : ∀ {a b c : List AV}, dm a b → dm b c → dm a c
 | [], [], [], _, _ => trivial
 | _ :: _, _ :: _, _ :: _, h, h' => ⟨h.1.trans h'.1, h.2.trans h'.2⟩
 | [], [], _ :: _, _, h => h.elim
 | [], _ :: _, _, h, _ => h.elim
 | _ :: _, [], _, h, _ => h.elim
 | _ :: _, _ :: _, [], _, h => h.elim
def mz : aa (List AV) → Option (List AV × List Prop)
 | .leaf _ us => some (us, [])
 | .af ps t => match mz t with
  | some (us, qs) => some (us, ps ++ qs)
  | none => none
 | .fork b t u => match mz t, mz u with
  | some (x, p), some (y, q) => match lp b x y with
   | some z => match p, q with
    | [], [] => some (z, [])
    | p, q => some (z, [b = true → ax p, b = false → ax q])
   | none => none
  | _, _ => none
theorem vT : ∀ {t : aa (List AV)} {us : List AV} {ps : List Prop}, mz t = some (us, ps) → ax ps → t.all fun _ vs => dm vs us
 | .leaf e vs, us, ps, h, _ => by
  simp only [mz, Option.some.injEq, Prod.mk.injEq] at h
  obtain ⟨rfl, rfl⟩ := h
  exact .refl _
 | .af l t, us, ps, h, hp => by
  simp only [mz] at h
  split at h
  ·rename_i h1
   simp only [Option.some.injEq, Prod.mk.injEq] at h
   obtain ⟨rfl, rfl⟩ := h
   obtain ⟨p1, p2⟩ := dA.1 hp
   exact ⟨p1, vT h1 p2⟩
  ·simp at h
 | .fork b t u, us, ps, h, hp => by
  simp only [mz] at h
  split at h
  ·rename_i x p y q h1 h2
   split at h
   ·rename_i z hz
    have key : us = z ∧ (b = true → ax p) ∧ (b = false → ax q) := by
     split at h
     ·simp only [Option.some.injEq, Prod.mk.injEq] at h
      exact ⟨h.1.symm, fun _ => trivial, fun _ => trivial⟩
     ·simp only [Option.some.injEq, Prod.mk.injEq] at h
      obtain ⟨rfl, rfl⟩ := h
      exact ⟨rfl, hp⟩
    obtain ⟨rfl, p1, p2⟩ := key
    refine ⟨fun hb => ?_, fun hb => ?_⟩
    ·subst hb
     exact aa.eI (fun _ vs hv => hv.trans (Ai hz)) (vT h1 (p1 rfl))
    ·subst hb
     exact aa.eI (fun _ vs hv => hv.trans (BR hz)) (vT h2 (p2 rfl))
   ·simp at h
  ·simp at h
def cG (T : Types) (Γ : aQ) (forks : List Nat) (fuel : Nat) (fn : Func) : Spec := bt fun args =>
 match Nat.ble args.length fn.ntmps with
 | true => match bA T Γ forks fuel fn (au fn) ⟨aM 0 args, [], 0⟩ with
  | some t => match mz t with
   | some (us, ps) => match us with
    | [u] => some ⟨u, [], ps⟩
    | us => some ⟨.tuple us, [], ps⟩
   | none => none
  | none => none
 | false => none
theorem adt {us : List AV} {v : AV} (h : dm us [v]) : ec us v := by
 match us, h with
 | [u], h => exact h.1
theorem R3 {us vs : List AV} (hv : ∀ u, vs ≠ [u]) (h : dm us vs) : ec us (.tuple vs) := by
 match us, vs, h with
 | [], [], h => exact h
 | [u], [v], h => exact absurd rfl (hv v)
 | a :: b :: l, _ :: _ :: _, h => exact h
 | [u], _ :: _ :: _, h => exact absurd h.2 (by simp [dm])
 | a :: b :: l, [v], h => exact absurd h.2 (by simp [dm])
 | [], _ :: _, h => exact h.elim
 | _ :: _, [], h => exact h.elim
theorem cH {P : Program} {T : Types} (hT : dX P T) {Γ : aQ} (hΓ : aW P Γ) (hm : P.follows .mixedOrders = true) {f : FuncId} {fn : Func} (hf : aP P f fn (au fn)) (forks : List Nat) (fuel : Nat) :
  ∀ K args pre r, cG T Γ forks fuel fn K args pre = some r → az P f K args pre r := by
 refine bH fun K args r hk hs hp => ?_
 split at hs
 ·rename_i hlen
  have hlen := Nat.le_of_ble_eq_true hlen
  split at hs
  ·rename_i t ht
   split at hs
   ·rename_i us ps hc
    split at hs
    ·simp only [Option.some.injEq] at hs
     subst hs
     exact bD (r := ⟨_, [], ps⟩) hT hΓ hm hf hk hlen rfl fuel ht (fun hn => aa.eI (fun _ vs hv => adt hv) (vT hc hn)) K []
    ·rename_i hne
     simp only [Option.some.injEq] at hs
     subst hs
     exact bD (r := ⟨_, [], ps⟩) hT hΓ hm hf hk hlen rfl fuel ht (fun hn => aa.eI (fun _ vs hv => R3 hne hv) (vT hc hn)) K []
   ·simp at hs
  ·simp at hs
 ·simp at hs
theorem dc {P : Program} {Γ : aQ} (h : aW P Γ) : aW P (sG :: Γ) := aC (fun K args pre r hs => by simp at hs) h
theorem eu {P : Program} {Γ : aQ} (h : aW P Γ) : aW P (nG :: Γ) := aC (fun K args pre r hs => by simp at hs) h
end Go.Am

/- Loops whose objects get other keys in each round: states up to the names of objects. -/
namespace Go.Am
open AV
def kO (rl : List (Nat × Nat)) : AV → AV
 | .ptr k i e o p => match look k rl with
  | some j => .ptr j i e o p
  | none => .void
 | .own k e s n => match look k rl with
  | some j => .own j e s n
  | none => match s, n, e with
   | 0, 0, _ + 1 => .nil
   | _, _, _ => .void
 | v => v
def lK (rl : List (Nat × Nat)) : AV → Bool
 | .ptr k _ _ _ _ => (look k rl).isSome
 | .own k e s n => (look k rl).isSome || match s, n, e with
  | 0, 0, _ + 1 => true
  | _, _, _ => false
 | .tuple _ => false
 | v => (keys v).isEmpty
theorem HJ {rl : List (Nat × Nat)} {u v : AV} (hu : u = kO rl v) (hv : lK rl v = true) : u.isTuple = false ∧ fD (aX rl) u v := by
 subst hu
 cases v with
 | ptr k i e o p =>
  simp only [lK, Option.isSome_iff_exists] at hv
  obtain ⟨j, hj⟩ := hv
  simp only [kO, hj]
  exact ⟨rfl, jW hj⟩
 | own k e s n =>
  simp only [lK] at hv
  cases hj : look k rl with
  | some j =>
   simp only [kO, hj]
   exact ⟨rfl, cj hj rfl rfl⟩
  | none =>
   rw [hj] at hv
   simp only [Option.isSome_none, Bool.false_or] at hv
   split at hv
   ·simp only [kO, hj]
    exact ⟨rfl, pL (by omega)⟩
   ·simp at hv
 | tuple l => simp [lK] at hv
 | _ =>
  simp only [lK, List.isEmpty_iff] at hv
  exact ⟨rfl, aG hv⟩
theorem G7 {rl : List (Nat × Nat)} : ∀ {vs us : List AV}, us = vs.map (kO rl) → vs.all (lK rl) = true → fh (aX rl) us vs
 | [], _, h, _ => by subst h; trivial
 | v :: vs, _, h, hv => by
  subst h
  simp only [List.all_cons, Bool.and_eq_true] at hv
  exact ⟨HJ rfl hv.1, G7 rfl hv.2⟩
def s5 : AV → Bool
 | .tuple _ => false
 | v => (keys v).isEmpty
theorem Pq {rl : List (Nat × Nat)} {v : AV} (h : s5 v = true) : kO rl v = v := by
 cases v <;> first | rfl | simp [s5, keys] at h
theorem QI {rl : List (Nat × Nat)} {v : AV} (h : s5 v = true) : lK rl v = true := by
 cases v <;> first | exact h | simp [s5, keys] at h
end Go.Am

/- Functions with one loop, by what the evaluator says of its parts. -/
namespace Go.Am
open AV
def ga (rl : List (Nat × Nat)) (u v : AV) : Prop := ((lK rl v = true ∧ u = kO rl v) ∨ ∃ us vs, u = .agg us ∧ v = .agg vs ∧ fh (aX rl) us vs) ∨ (keys u = [] ∧ bn u v)
theorem Fc {ρ : Nat → Option Nat} {M : Nat → Prop} {w : World} {β : aO} : ∀ {us vs : List AV} {cs : List Value}, fh ρ us vs → aI M w β us cs → aI M w (fun k => (ρ k).bind β) vs cs
 | [], [], _, _, h => by cases h; exact .nil
 | u :: us, v :: vs, cs, hl, h => by
  obtain ⟨c1, c2, rfl, h1, h2⟩ := h.split
  exact (hl.1.2.2 M w β c1 h1).cons (Fc hl.2 h2)
 | [], _ :: _, _, h, _ => h.elim
 | _ :: _, [], _, h, _ => h.elim
theorem S7 {ρ : Nat → Option Nat} {us vs : List AV} (h : fh ρ us vs) : fD ρ (.agg us) (.agg vs) := by
 refine ⟨rfl, fun M w β cs hc => ?_⟩
 cases hc with
 | agg h1 h2 => cases h2; exact .agg (Fc h h1) .nil
theorem mm {rl : List (Nat × Nat)} {us vs : List AV} (h : fh (aX rl) us vs) : ga rl (.agg us) (.agg vs) := .inl (.inr ⟨_, _, rfl, rfl, h⟩)
theorem ga.le {rl : List (Nat × Nat)} {u v : AV} (h : ga rl u v) : fD (aX rl) u v := by
 rcases h with (h | ⟨us, vs, rfl, rfl, h⟩) | h
 ·exact (HJ h.2 h.1).2
 ·exact S7 h
 ·exact su h.1 h.2
def iM (nx : Nat) (rl : List (Nat × Nat)) (os : aD) : aD → Prop
 | [] => True
 | (k2, o2) :: ps => ((look k2 rl = none ∧ pP o2 ∧ k2 < nx) ∨ ∃ k1 o1, look k2 rl = some k1 ∧ look k1 os = some o1 ∧ o1.row = o2.row ∧ o1.wr = o2.wr ∧ o1.es = o2.es ∧ o1.len = o2.len ∧ ∀ i, i < o2.len → ga rl (o1.f i) (o2.f i)) ∧ iM nx rl os ps
theorem BA {nx : Nat} {rl : List (Nat × Nat)} {os : aD} : ∀ {ps : aD}, iM nx rl os ps → u9 nx (aX rl) os ps
 | [], _ => trivial
 | (k2, o2) :: ps, h => by
  obtain ⟨h | ⟨k1, o1, h1, h2, h3, h4, h5, h6, h7⟩, h8⟩ := h
  ·exact ⟨.inr h, BA h8⟩
  ·exact ⟨.inl ⟨k1, o1, h1, h2, ⟨h3.symm ▸ rfl, h4.symm ▸ rfl, h5.symm ▸ rfl, h6.symm ▸ rfl, fun i hi => (h7 i (h6 ▸ hi)).le⟩⟩, BA h8⟩
theorem aN {rl : List (Nat × Nat)} {u v : AV} (hk : keys u = []) (h : u = v) : ga rl u v := .inr ⟨hk, h ▸ .refl _⟩
theorem bP {nx : Nat} {rl : List (Nat × Nat)} {os ps : aD} {k2 k1 : Nat} {r w : Bool} {es n m : Nat} {f g : Nat → AV} (hk : look k2 rl = some k1) (ho : look k1 os = some ⟨r, w, es, n, f⟩) (hn : n = m) (h : ∀ i, i < m → ga rl (f i) (g i))
  (hs : iM nx rl os ps) : iM nx rl os ((k2, ⟨r, w, es, m, g⟩) :: ps) := ⟨.inr ⟨k1, _, hk, ho, rfl, rfl, rfl, hn, h⟩, hs⟩
theorem aR {nx : Nat} {rl : List (Nat × Nat)} {os ps : aD} {k2 k1 : Nat} {r w : Bool} {es : Nat} {f g : Nat → AV} (hk : look k2 rl = some k1) (ho : look k1 os = some ⟨r, w, es, 1, f⟩) (h : ga rl (f 0) (g 0))
  (hs : iM nx rl os ps) : iM nx rl os ((k2, ⟨r, w, es, 1, g⟩) :: ps) := bP hk ho rfl (fun i hi => by rw [Nat.lt_one_iff.1 hi]; exact h) hs
theorem pH {nx : Nat} {rl : List (Nat × Nat)} {os ps : aD} {k2 es : Nat} {w : Bool} {f : Nat → AV} (hk : look k2 rl = none) (hes : 0 < es) (hn : k2 < nx) (hs : iM nx rl os ps) : iM nx rl os ((k2, ⟨true, w, es, 0, f⟩) :: ps) := ⟨.inl ⟨hk, ⟨rfl, rfl, hes⟩, hn⟩, hs⟩
theorem SA {α : Type} {k : Nat} {a : α} {l : List (Nat × α)} : look k ((k, a) :: l) = some a := by simp [look]
theorem IF {α : Type} {j k : Nat} {b : α} {l : List (Nat × α)} (h : (j == k) = false) : look k ((j, b) :: l) = look k l := by simp [look, h]
theorem HM {α : Type} {k : Nat} {b : List (Nat × α)} : ∀ {a : List (Nat × α)}, look k (a ++ b) = match look k a with
  | some x => some x
  | none => look k b
 | [] => rfl
 | (j, x) :: a => by
  simp only [List.cons_append, look]
  split
  ·rfl
  ·exact HM
theorem gh {P : Program} {a b : aQ} (ha : aW P a) (hb : aW P b) : aW P (a ++ b) := by
 intro f s hl
 have hl : look f (a ++ b) = some s := hl
 rw [HM] at hl
 split at hl
 ·rename_i h
  simp only [Option.some.injEq] at hl
  subst hl
  exact ha f _ h
 ·exact hb f s hl
def Kept (kp : List Nat) (c : Ctx) : Prop := ∀ k x, c.k0 k = some x → k ∈ kp
theorem jO {c : Ctx} (h0 : ∀ nx k x, c.k0 k = some x → k < nx) : Kept [] c := fun k x hk => absurd (h0 0 k x hk) (by omega)
def dF (kp : List Nat) (v : List AV × aD) (vs : List AV) (os : aD) (nx : Nat) : Prop :=
 ∃ rl, (iz nx rl && kp.all fun k => look k rl == some k) = true ∧ v.1 = vs.map (kO rl) ∧ vs.all (lK rl) = true ∧ iM nx rl v.2 os
theorem dF.le {kp : List Nat} {c : Ctx} {s' : aE} {ls : List Nat} {v : List AV × aD} {vs : List AV} {os : aD} {nx : Nat} (h : dF kp v vs os nx) (hv : aU ls s' = some v) (h0 : Kept kp c) : ∃ ρ, Le c ρ s' ⟨aB ls vs, os, nx⟩ := by
 obtain ⟨rl, h1, h2, h3, h4⟩ := h
 simp only [Bool.and_eq_true] at h1
 exact Ec rl hv (fun k x hk => by simpa using List.all_eq_true.1 h1.2 k (h0 k x hk)) h1.1 (G7 h2 h3) (BA h4)
theorem dF.vals {vs : List AV} {nx : Nat} (h : vs.all s5 = true) : dF [] (vs, []) vs [] nx := by
 simp only [List.all_eq_true] at h
 refine ⟨[], rfl, ?_, List.all_eq_true.2 fun v hv => QI (h v hv), trivial⟩
 have : vs.map (kO []) = vs.map id := List.map_congr_left fun v hv => Pq (h v hv)
 rw [this, List.map_id]
theorem mY {nt : Nat} : ∀ {x : Code} {p : List Nat}, bK nt x = true → (before x p).all (fun x => bK nt x) = true
 | .seq x y, 0 :: p, h => by
  simp only [bK, Bool.and_eq_true] at h
  exact mY (x := x) h.1
 | .seq x y, (n + 1) :: p, h => by
  simp only [bK, Bool.and_eq_true] at h
  simp only [before, List.all_cons, Bool.and_eq_true]
  exact ⟨h.1, mY (x := y) h.2⟩
 | .seq _ _, [], _ | .cond _ _ _, _, _ | .block _ _, _, _ | .loop _, _, _ | .region _ _ _, _, _ | .skip, _, _ | .label _, _, _ | .exit _, _, _ | .ret, _, _ | .scope _, _, _ | .goto _, _, _ | .refuse _, _, _ | .rangeFunc _ _ _ _, _, _ => by simp [before]
theorem tw {nt : Nat} : ∀ {x : Code} {p : List Nat}, bK nt x = true → (behind x p).all (fun x => bK nt x) = true
 | .seq x y, 0 :: p, h => by
  simp only [bK, Bool.and_eq_true] at h
  simp only [behind, List.all_append, List.all_cons, List.all_nil, Bool.and_true, Bool.and_eq_true]
  exact ⟨tw (x := x) h.1, h.2⟩
 | .seq x y, (n + 1) :: p, h => by
  simp only [bK, Bool.and_eq_true] at h
  exact tw (x := y) (p := p) h.2
 | .seq _ _, [], _ | .cond _ _ _, _, _ | .block _ _, _, _ | .loop _, _, _ | .region _ _ _, _, _ | .skip, _, _ | .label _, _, _ | .exit _, _, _ | .ret, _, _ | .scope _, _, _ | .goto _, _, _ | .refuse _, _, _ | .rangeFunc _ _ _ _, _, _ => by simp [behind]
theorem tN {nt : Nat} : ∀ {x : Code} {p : List Nat}, chain x p = true → bK nt x = true → bK nt (part x p) = true
 | x, [], _, h => by cases x <;> exact h
 | .seq x y, 0 :: p, hc, h => by
  simp only [bK, Bool.and_eq_true] at h
  exact tN (x := x) hc h.1
 | .seq x y, (n + 1) :: p, hc, h => by
  simp only [bK, Bool.and_eq_true] at h
  exact tN (x := y) hc h.2
 | .cond _ _ _, _ :: _, hc, _ | .block _ _, _ :: _, hc, _ | .loop _, _ :: _, hc, _ | .region _ _ _, _ :: _, hc, _ | .skip, _ :: _, hc, _ | .label _, _ :: _, hc, _ | .exit _, _ :: _, hc, _ | .ret, _ :: _, hc, _ | .scope _, _ :: _, hc, _ | .goto _, _ :: _, hc, _ | .refuse _, _ :: _, hc, _ | .rangeFunc _ _ _ _, _ :: _, hc, _ => by simp [chain] at hc
section rules
variable {P : Program} {c : Ctx} {nt : Nat} {s : aE} {Q : ag → aE → Prop} {T : Types} (hT : dX P T) {Γ : aQ} (hΓ : aW P Γ) (hm : P.follows .mixedOrders = true)
def Round (kp : List Nat) {α : Type} (V : α → List AV) (O : α → aD) (nx : Nat) (I D : α → Prop) (μ : α → Nat) (i : Nat) (R : List AV × aD → Prop) (a : α) : ag → List AV × aD → Prop
 | .normal, v => ∃ b, I b ∧ μ b < μ a ∧ dF kp v (V b) (O b) nx
 | .exit k, v => k = i ∧ ∃ b, D b ∧ dF kp v (V b) (O b) nx
 | .ret, v => R v
include hT hΓ hm in
theorem aq.Mc {x y : Code} {i : Nat} (hx : x = .block i (.loop y)) {kp : List Nat} (h0 : Kept kp c) {forks : List Nat} (n : Nat) (L : List Nat) (nx : Nat) {α : Type} (V : α → List AV) (O : α → aD) (I D : α → Prop) (μ : α → Nat) (R : List AV × aD → Prop)
  (a0 : α) (hI : I a0) (hs : ∃ ρ, Le c ρ s ⟨aB L (V a0), O a0, nx⟩) (hd : bK nt y = true)
  (hb : ∀ a, I a → ∃ t, aH T Γ forks n L [y] ⟨aB L (V a), O a, nx⟩ = some t ∧ t.all (Round kp V O nx I D μ i R a))
  (hD : ∀ b s', D b → (∃ ρ, Le c ρ s' ⟨aB L (V b), O b, nx⟩) → Q .normal s') (hR : ∀ v s', R v → aU L s' = some v → Q .ret s') : aq P c nt x s Q := by
 refine aq.gk hx (fun a => ⟨aB L (V a), O a, nx⟩) I μ a0 hs hI fun a ha => ?_
 obtain ⟨t, h1, h2⟩ := hb a ha
 refine aq.aZ hT hΓ hm n L h1 hd (aa.eI ?_ h2)
 rintro e v hv s' hs'
 cases e with
 | normal =>
  obtain ⟨b, g1, g2, g3⟩ := hv
  exact ⟨b, g3.le hs' h0, g1, g2⟩
 | exit k =>
  obtain ⟨rfl, b, g1, g2⟩ := hv
  exact Cv (hD b s' g1 (g2.le hs' h0))
 | ret => exact hR v s' hv hs'
theorem aA.one {x : Code} (h : aq P c nt x s Q) : aA P c nt [x] s Q := h.mono fun e s' h => by cases e <;> exact h
theorem aq.jq {x : Code} (h : aA P c nt [x] s Q) : aq P c nt x s Q := aq.mono h fun e s' h => by cases e <;> exact h
def Start (kp : List Nat) {α : Type} (V : α → List AV) (O : α → aD) (nx : Nat) (I : α → Prop) (R : List AV × aD → Prop) : ag → List AV × aD → Prop
 | .normal, v => ∃ a, I a ∧ dF kp v (V a) (O a) nx
 | .ret, v => R v
 | .exit _, _ => False
include hT hΓ hm in
theorem aq.pX {x y : Code} (p : List Nat) {i : Nat} (hc : chain x p = true) (hx : part x p = .block i (.loop y)) (hd : bK nt x = true) {kp : List Nat} (h0 : Kept kp c) {f1 f2 : List Nat} (n : Nat) (L : List Nat) (nx : Nat) {α : Type} (V : α → List AV) (O : α → aD) (I D : α → Prop) (μ : α → Nat) (R : List AV × aD → Prop)
  (hp : ∃ t, aH T Γ f1 n L (before x p) s = some t ∧ t.all (Start kp V O nx I R))
  (hb : ∀ a, I a → ∃ t, aH T Γ f2 n L [y] ⟨aB L (V a), O a, nx⟩ = some t ∧ t.all (Round kp V O nx I D μ i R a))
  (hD : ∀ b s', D b → (∃ ρ, Le c ρ s' ⟨aB L (V b), O b, nx⟩) → aA P c nt (behind x p) s' Q) (hR : ∀ v s', R v → aU L s' = some v → Q .ret s') : aq P c nt x s Q := by
 obtain ⟨t, h1, h2⟩ := hp
 refine aq.hole p hc (aA.aZ hT hΓ hm n L h1 (mY hd) (aa.eI ?_ h2))
 rintro e v hv s' hs'
 cases e with
 | normal =>
  obtain ⟨a, hI, hre⟩ := hv
  refine (show aq P c nt (part x p) s' _ from aq.Mc hT hΓ hm hx h0 n L nx V O I D μ R a hI (hre.le hs' h0) ?_ hb (fun b s' hD' hle => hD b s' hD' hle) fun v s' hv hs' => hR v s' hv hs')
  have := tN (nt := nt) hc hd
  rw [hx] at this
  exact this
 | ret => exact hR v s' hv hs'
 | exit k => exact hv.elim
include hT hΓ hm in
theorem aq.jx {x y z : Code} (p : List Nat) {i : Nat} (hc : chain x p = true) (hx : part x p = .block i (.loop y)) (hz : behind x p = [z]) (hd : bK nt x = true) {kp : List Nat} (h0 : Kept kp c) {f1 f2 : List Nat} (n : Nat) (L : List Nat) (nx : Nat) {α : Type} (V : α → List AV) (O : α → aD) (I D : α → Prop) (μ : α → Nat) (R : List AV × aD → Prop)
  (hp : ∃ t, aH T Γ f1 n L (before x p) s = some t ∧ t.all (Start kp V O nx I R))
  (hb : ∀ a, I a → ∃ t, aH T Γ f2 n L [y] ⟨aB L (V a), O a, nx⟩ = some t ∧ t.all (Round kp V O nx I D μ i R a))
  (hD : ∀ b, D b → aq P c nt z ⟨aB L (V b), O b, nx⟩ Q) (hR : ∀ v s', R v → aU L s' = some v → Q .ret s') : aq P c nt x s Q :=
 aq.pX hT hΓ hm p hc hx hd h0 n L nx V O I D μ R hp hb (fun b s' hD' hle => by rw [hz]; exact aA.weak rfl hle (aA.one (hD b hD'))) hR
def Jk (c : Ctx) (L : List Nat) {α : Type} (V : α → List AV) (O : α → aD) (nx : Nat) (I D : α → Prop) (μ : α → Nat) (i : Nat) (R : aE → Prop) (a : α) : ag → aE → Prop
 | .normal, s' => ∃ b, I b ∧ μ b < μ a ∧ ∃ ρ, Le c ρ s' ⟨aB L (V b), O b, nx⟩
 | .exit k, s' => k = i ∧ ∃ b, D b ∧ ∃ ρ, Le c ρ s' ⟨aB L (V b), O b, nx⟩
 | .ret, s' => R s'
include hT hΓ hm in
theorem aq.UY {y x1 zb : Code} (p : List Nat) {j : Nat} (hc : chain y p = true) (hx : part y p = .block j x1) (hz : behind y p = [zb]) (hd : bK nt y = true) {kp : List Nat} (h0 : Kept kp c) {f1 : List Nat} (n : Nat) (L : List Nat) (nx : Nat) {α : Type} (V : α → List AV) (O : α → aD) (I : α → Prop)
  (hp : ∃ t, aH T Γ f1 n L (before y p) s = some t ∧ t.all fun e v => match e with
   | .normal => ∃ a, I a ∧ dF kp v (V a) (O a) nx
   | e => ∀ s', aU L s' = some v → Q e s')
  (hb : ∀ a, I a → aq P c nt x1 ⟨aB L (V a), O a, nx⟩ (inBlock j (dw (fun s' => aq P c nt zb s' Q) Q))) : aq P c nt y s Q := by
 obtain ⟨t, h1, h2⟩ := hp
 refine aq.hole p hc (aA.aZ hT hΓ hm n L h1 (mY hd) (aa.eI ?_ h2))
 rintro e v hv s' hs'
 cases e with
 | normal =>
  obtain ⟨a, hI, hre⟩ := hv
  refine aq.jX (hre.le hs' h0) (aq.mo hx ((hb a hI).mono fun e s' h => ?_))
  have key : ∀ {e s'}, dw (fun s' => aq P c nt zb s' Q) Q e s' → dw (fun s'' => aA P c nt (behind y p) s'' Q) Q e s' := fun {e s'} h => by
   cases e with
   | normal => show aA P c nt (behind y p) s' Q; rw [hz]; exact aA.one h
   | exit k => exact h
   | ret => exact h
  cases e with
  | normal => exact key (e := .normal) h
  | exit k =>
   simp only [inBlock] at h ⊢
   split
   ·rename_i hk; rw [if_pos hk] at h; exact key (e := .normal) h
   ·rename_i hk; rw [if_neg hk] at h; exact key (e := .exit k) h
  | ret => exact key (e := .ret) h
 | ret => exact hv s' hs'
 | exit k => exact hv s' hs'
def j7 (fn : Func) (L : List Nat) (res : AV) (v : List AV × aD) : Prop := ∃ us, Ds fn (aB L v.1) = some us ∧ ec us res
theorem j7.fin {fn : Func} {L : List Nat} {res : AV} {v : List AV × aD} {s' : aE} (h : j7 fn L res v) (hs' : aU L s' = some v) : dz c (Fin T fn res) .ret s' := by
 obtain ⟨us, g1, g2⟩ := h
 exact .inl (e9 (.inr rfl) hs' g1 g2)
theorem Jh {c : Prop} [Decidable c] {u v : AV} (hu : keys u = []) (hv : keys v = []) : keys (if c then u else v) = [] := by split <;> assumption
def CG (T : Types) (fn : Func) (L : List Nat) (res : AV) (v : List AV × aD) : Prop :=
 ∃ vs us nx t, v.1 = vs ++ us ∧ vs.length = L.length ∧ bf us = [] ∧ iY T fn .ret ⟨aB L vs, v.2, nx⟩ = some t ∧ gY nx vs = true ∧ fE nx v.2 ∧ t.all fun _ us => ec us res
theorem CG.fin {fn : Func} {L L1 : List Nat} {res : AV} {v : List AV × aD} {s' : aE} (h0 : Kept [] c) (h : CG T fn L res v) (hs' : aU (L ++ L1) s' = some v) : dz c (Fin T fn res) .ret s' := by
 obtain ⟨vs, us, nx, t, h1, h2, h3, h4, h5, h6, h7⟩ := h
 obtain ⟨v1, v2⟩ := v
 simp only at h1
 subst h1
 exact vI h4 (gr hs' h2 h3) (fun k x hk => by simpa using h0 k x hk) h5 h6 h7
include hT hΓ hm in
theorem jy {f : FuncId} {fn : Func} (hf : aP P f fn (au fn)) {args : List AV} {r : cB} (hk : bf args = []) (hlen : args.length ≤ fn.ntmps) (hpost : r.post = []) (p : List Nat) {i : Nat} {y z : Code} (hc : chain (au fn) p = true) (hx : part (au fn) p = .block i (.loop y)) (hz : behind (au fn) p = [z])
  {f1 f2 f3 : List Nat} (n : Nat) (L : List Nat) (nx : Nat) {α : Type} (V : α → List AV) (O : α → aD) (I D : α → Prop) (μ : α → Nat)
  (h : r.need → (∃ t, aH T Γ f1 n L (before (au fn) p) ⟨aM 0 args, [], 0⟩ = some t ∧ t.all (Start [] V O nx I (j7 fn L r.res))) ∧
   (∀ a, I a → ∃ t, aH T Γ f2 n L [y] ⟨aB L (V a), O a, nx⟩ = some t ∧ t.all (Round [] V O nx I D μ i (j7 fn L r.res) a)) ∧
   ∀ a, D a → ∃ t, bW T Γ f3 n fn [z] ⟨aB L (V a), O a, nx⟩ = some t ∧ t.all fun _ us => ec us r.res) (K : Nat) (pre : aD) : az P f K args pre r := by
 refine fe hT hf hk hlen hpost (fun need c h0 => ?_) K pre
 obtain ⟨hp, hb, he⟩ := h need
 refine aq.jx hT hΓ hm p hc hx hz hf.dst (jO h0) n L nx V O I D μ (j7 fn L r.res) hp hb (fun a ha => ?_) fun v s' hv hs' => hv.fin hs'
 obtain ⟨t, g1, g2⟩ := he a ha
 have := tw (x := au fn) (p := p) hf.dst
 rw [hz] at this
 exact aq.jq ((aA.fin hT hΓ hm n g1 this g2).mono fun _ _ h => .inl h)
def Ep (T : Types) (fn : Func) (k : Nat) (res : AV) (o' : ay) (e : ag) (s' : aE) : Prop :=
 (e = .normal ∨ e = .ret) ∧ Ends T fn res s' ∧ ∃ o1, look 0 s'.store = some o1 ∧ o1.row = false ∧ cF (aX [(k, 0)]) o1 o'
def zK (T : Types) (Γ : aQ) (forks : List Nat) (n : Nat) (fn : Func) (l : List Code) (s : aE) : Option (aa (List AV × Option ay)) :=
 match nF T Γ forks n l s with
 | some t => t.bind (yf T fn)
 | none => none
include hT hΓ hm in
theorem aA.IT {fn : Func} {forks : List Nat} (n : Nat) {l : List Code} {s : aE} {t : aa (List AV × Option ay)} (hc : zK T Γ forks n fn l s = some t) (hd : (l.all fun x => bK nt x) = true) {k : Nat} {res : AV} {o' : ay}
  (h : t.all fun _ v => ec v.1 res ∧ ∃ o1, v.2 = some o1 ∧ o1.row = false ∧ cF (aX [(k, 0)]) o1 o') : aA P c nt l s (Ep T fn k res o') := by
 unfold zK at hc
 split at hc
 ·rename_i u hx
  refine xT hT hΓ hm hd hx (aa.eI ?_ (aa.iw hc h))
  rintro e s' ⟨v, h1, h2⟩
  unfold yf at h1
  split at h1
  ·rename_i v' hv'
   have h4 : v'.all fun _ us => ec us res ∧ ∃ o1, look 0 s'.store = some o1 ∧ o1.row = false ∧ cF (aX [(k, 0)]) o1 o' := by
    refine aa.eI ?_ (aa.iw h1 h2)
    rintro e us ⟨w, g1, g2⟩
    simp only [Option.some.injEq] at g1
    subst g1
    exact g2
   have h5 : Fin T fn res e s' := yZ hv' (aa.eI (fun _ _ h => h.1) h4)
   refine ⟨h5.1, h5.2, ?_⟩
   have : ∀ {t : aa (List AV)}, (t.all fun _ us => ec us res ∧ ∃ o1, look 0 s'.store = some o1 ∧ o1.row = false ∧ cF (aX [(k, 0)]) o1 o') → ∃ o1, look 0 s'.store = some o1 ∧ o1.row = false ∧ cF (aX [(k, 0)]) o1 o' := by
    intro t
    induction t with
    | leaf e us => exact fun h => h.2
    | af ps t ih => exact fun h => ih h.2
    | fork b t1 t2 ih1 ih2 =>
     intro h
     cases b with
     | true => exact ih1 (h.1 rfl)
     | false => exact ih2 (h.2 rfl)
   exact this h4
  ·simp at h1
 ·simp at hc
theorem Fq {rl : List (Nat × Nat)} : ∀ {rest : List AV}, bf rest = [] → (rest.all fun v => !v.isTuple) = true → fh (aX rl) rest rest
 | [], _, _ => trivial
 | v :: r, h1, h2 => by
  simp only [bf, List.append_eq_nil_iff] at h1
  simp only [List.all_cons, Bool.and_eq_true, Bool.not_eq_true'] at h2
  exact ⟨⟨h2.1, aG h1.1⟩, Fq h1.2 h2.2⟩
include hT in
theorem Jm {f : FuncId} {fn : Func} {x : Code} (hf : aP P f fn x) {k idx es off : Nat} {p : List Nat} {rest : List AV} {o2 o o' : ay} {res : AV} {l : List Prop}
  (hkr : bf rest = []) (hrt : (rest.all fun v => !v.isTuple) = true) (hlen : rest.length + 1 ≤ fn.ntmps) (ho : ∀ ρ, cF ρ o2 o)
  (h : ax l → ∀ c : Ctx, Kept [0] c → aq P c fn.ntmps x ⟨aM 0 (.ptr 0 idx es off p :: rest), [(0, o)], 1⟩ (Ep T fn k res o')) (K : Nat) :
  az P f K (.ptr k idx es off p :: rest) [(k, o2)] ⟨res, [(k, o')], l⟩ := by
 refine nR hT hf (args0 := .ptr 0 idx es off p :: rest) (pre0 := [(0, o)]) (nx := 1) [(0, k)] (by simpa using hlen) (by simp [iz]) ⟨⟨rfl, jW rfl⟩, Fq hkr hrt⟩ ⟨⟨k, o2, rfl, by simp [look], ho _⟩, trivial⟩
  (fun a x h => ?_) (fun x o h => .inl ?_) (fun need c h0 => ?_)
 ·simp only [aX, look] at h
  split at h
  ·simp only [Option.some.injEq] at h; subst h; exact ⟨_, by simp [look]; rfl⟩
  ·simp at h
 ·simp only [look] at h
  split at h
  ·rename_i he
   exact ⟨_, by simp only [look, he, if_true]; rfl⟩
  ·simp at h
 have hk : Kept [0] c := fun a y hy => by
  have := h0 a y hy
  simp only [aX, look] at this
  split at this
  ·rename_i he; have := eq_of_beq he; subst this; exact List.mem_singleton_self _
  ·simp at this
 refine (h need c hk).mono fun e s' ⟨h1, h2, o1, g1, g2, g3⟩ => ⟨h1, aX [(k, 0)], x4, .inl ⟨h2, fun x ox hx => ?_⟩⟩
 have he : ck (eJ [(k, o')]) [(k, o2)] = [(k, o')] := by simp [ck, eJ, put]
 rw [he] at hx
 simp only [look] at hx
 split at hx
 ·rename_i hk
  have : k = x := by simpa using hk
  subst this
  simp only [Option.some.injEq] at hx
  subst hx
  exact ⟨0, o1, by simp [aX, look], g1, g2, g3⟩
 ·simp at hx
end rules
end Go.Am

/- Functions that are handed two lists that may still be written to, and leave them as they are. -/
namespace Go.Am
open AV
theorem Dp {ρ : Nat → Option Nat} : ∀ {us vs : List AV}, bf us = [] → (us.all fun v => !v.isTuple) = true → dm us vs → fh ρ us vs
 | [], [], _, _, _ => trivial
 | u :: us, v :: vs, h1, h2, h => by
  simp only [bf, List.append_eq_nil_iff] at h1
  simp only [List.all_cons, Bool.and_eq_true, Bool.not_eq_true'] at h2
  exact ⟨⟨h2.1, su h1.1 h.1⟩, Dp h1.2 h2.2 h.2⟩
 | [], _ :: _, _, _, h => h.elim
 | _ :: _, [], _, _, h => h.elim
def A0 (T : Types) (fn : Func) (e : ag) (s : aE) : Option (aa (List AV × Option ay × Option ay)) := match e with
 | .exit _ => none
 | e => match fP T s fn.results.toList with
  | some (vs, q) => some (.need q (.leaf e (vs, look 0 s.store, look 1 s.store)))
  | none => none
def EA (us : List AV) (o p : ay) (v : List AV × Option ay × Option ay) : Prop :=
 bf v.1 = [] ∧ (v.1.all fun v => !v.isTuple) = true ∧ dm v.1 us ∧ (∃ o1, v.2.1 = some o1 ∧ ∀ ρ, cF ρ o1 o) ∧ ∃ p1, v.2.2 = some p1 ∧ ∀ ρ, cF ρ p1 p
def Lk (T : Types) (fn : Func) (us : List AV) (o p : ay) (e : ag) (s : aE) : Prop :=
 (e = .normal ∨ e = .ret) ∧ (∃ vs q, fP T s fn.results.toList = some (vs, q) ∧ ax q ∧ bf vs = [] ∧ (vs.all fun v => !v.isTuple) = true ∧ dm vs us) ∧ (∃ o1, look 0 s.store = some o1 ∧ ∀ ρ, cF ρ o1 o) ∧ ∃ p1, look 1 s.store = some p1 ∧ ∀ ρ, cF ρ p1 p
theorem acw {T : Types} {fn : Func} {e : ag} {s : aE} {t : aa (List AV × Option ay × Option ay)} {us : List AV} {o p : ay} (h1 : A0 T fn e s = some t) (h2 : t.all fun _ v => EA us o p v) : Lk T fn us o p e s := by
 unfold A0 at h1
 have key : ∀ {e' : ag}, (match fP T s fn.results.toList with
   | some (vs, q) => some (aa.need q (.leaf e' (vs, look 0 s.store, look 1 s.store)))
   | none => none) = some t → (∃ vs q, fP T s fn.results.toList = some (vs, q) ∧ ax q ∧ bf vs = [] ∧ (vs.all fun v => !v.isTuple) = true ∧ dm vs us) ∧ (∃ o1, look 0 s.store = some o1 ∧ ∀ ρ, cF ρ o1 o) ∧ ∃ p1, look 1 s.store = some p1 ∧ ∀ ρ, cF ρ p1 p := by
  intro e' h1
  cases hr : fP T s fn.results.toList with
  | none => rw [hr] at h1; simp at h1
  | some r =>
   obtain ⟨vs, q⟩ := r
   rw [hr] at h1
   simp only [Option.some.injEq] at h1
   subst h1
   obtain ⟨g1, g2, g3, g4, g5, g6⟩ := aa.xk.1 h2
   exact ⟨⟨vs, q, rfl, g1, g2, g3, g4⟩, g5, g6⟩
 cases e with
 | normal => exact ⟨.inl rfl, key h1⟩
 | ret => exact ⟨.inr rfl, key h1⟩
 | exit i => simp at h1
section rules
variable {P : Program} {c : Ctx} {nt : Nat} {s : aE} {Q : ag → aE → Prop} {T : Types} (hT : dX P T) {Γ : aQ} (hΓ : aW P Γ) (hm : P.follows .mixedOrders = true)
def Ll (T : Types) (fn : Func) (L : List Nat) (us : List AV) (o p : ay) (v : List AV × aD) : Prop :=
 ∃ vs ws nx t, v.1 = vs ++ ws ∧ vs.length = L.length ∧ bf ws = [] ∧ A0 T fn .ret ⟨aB L vs, v.2, nx⟩ = some t ∧ gY nx vs = true ∧ fE nx v.2 ∧ 2 ≤ nx ∧ t.all fun _ v => EA us o p v
theorem Ll.fin {fn : Func} {L L1 : List Nat} {us : List AV} {o p : ay} {v : List AV × aD} {s' : aE} (h0 : Kept [0, 1] c) (h : Ll T fn L us o p v) (hs' : aU (L ++ L1) s' = some v) : dz c (Lk T fn us o p) .ret s' := by
 obtain ⟨vs, ws, nx, t, h1, h2, h3, h4, h5, h6, hn, h7⟩ := h
 obtain ⟨v1, v2⟩ := v
 simp only at h1
 subst h1
 obtain ⟨ρ, hle⟩ := kS (gr hs' h2 h3) (fun k x hk => by
  have := h0 k x hk
  simp only [List.mem_cons, List.not_mem_nil, or_false] at this
  omega) h5 h6
 exact .inr ⟨_, ρ, hle, acw h4 h7⟩
end rules
end Go.Am

/- Functions that are handed a list to write to, and give back a part of it. -/
namespace Go.Am
open AV
def LZ (fn : Func) (k : Nat) (ws : List AV) (o' : ay) (e : ag) (s' : aE) : Prop :=
 (e = .normal ∨ e = .ret) ∧ ∃ ls vs us os o1, aU ls s' = some (vs, os) ∧ jn (aB ls vs) fn.results.toList = some us ∧ fh (aX [(k, 0)]) us ws ∧ look 0 os = some o1 ∧ cF (aX [(k, 0)]) o1 o'
def La (fn : Func) (k : Nat) (ws : List AV) (o' : ay) (L : List Nat) (v : List AV × aD) : Prop := ∃ us o1, jn (aB L v.1) fn.results.toList = some us ∧ fh (aX [(k, 0)]) us ws ∧ look 0 v.2 = some o1 ∧ cF (aX [(k, 0)]) o1 o'
theorem La.fin {fn : Func} {k : Nat} {ws : List AV} {o' : ay} {L : List Nat} {v : List AV × aD} {s' : aE} (h : La fn k ws o' L v) (hs' : aU L s' = some v) : LZ fn k ws o' .ret s' := by
 obtain ⟨us, o1, h1, h2, h3, h4⟩ := h
 exact ⟨.inr rfl, L, v.1, us, v.2, o1, hs', h1, h2, h3, h4⟩
section rules
variable {P : Program} {c : Ctx} {nt : Nat} {s : aE} {Q : ag → aE → Prop} {T : Types} (hT : dX P T) {Γ : aQ} (hΓ : aW P Γ) (hm : P.follows .mixedOrders = true)
include hT in
theorem FY {f : FuncId} {fn : Func} {x : Code} (hf : aP P f fn x) {args args0 ws : List AV} {o' : ay} {K : Nat} {l : List Prop} (ha : ax l → fh (aX []) args args0) (hlen : args0.length ≤ fn.ntmps)
  (h : ax l → ∀ c : Ctx, Kept [] c → aq P c fn.ntmps x ⟨aM 0 args0, [], 0⟩ fun e s' => (e = .normal ∨ e = .ret) ∧ ∃ ls vs us os a o, aU ls s' = some (vs, os) ∧ jn (aB ls vs) fn.results.toList = some us ∧ fh (aX [(K, a)]) us ws ∧ look a os = some o ∧ cF (aX [(K, a)]) o o') :
  az P f K args [] ⟨lN ws, [(K, o')], l⟩ := by
 intro need
 refine (nR hT hf (args0 := args0) (pre0 := []) (nx := 0) [] hlen rfl (ha need) trivial (fun a k h => by simp [aX, look] at h) (fun k o h => ?_) (fun need c h0 => ?_) : az P f K args [] ⟨lN ws, [(K, o')], l⟩) need
 ·simp only [look] at h
  split at h
  ·rename_i he
   have : K = k := by simpa using he
   subst this
   exact .inr ⟨Nat.le_refl _, by unfold bZ; omega⟩
  ·simp at h
 ·refine (h need c fun k x hk => by simpa [aX, look] using h0 k x hk).mono ?_
  rintro e s' ⟨h1, ls, vs, us, os, a, o, h2, h3, h4, h5, h6⟩
  exact ⟨h1, aX [(K, a)], A2 ⟨Nat.le_refl _, by unfold bZ; omega⟩, .inr (uq (ws := ws) (ps := [(K, o')]) h2 h3 h4 rfl rfl ⟨⟨a, o, by simp [aX, look], h5, h6⟩, trivial⟩)⟩
end rules
end Go.Am

/- A loop in a loop. -/
namespace Go.Am
open AV
section rules
variable {P : Program} {c : Ctx} {nt : Nat} {s : aE} {Q : ag → aE → Prop} {T : Types} (hT : dX P T) {Γ : aQ} (hΓ : aW P Γ) (hm : P.follows .mixedOrders = true)
def Head (kp : List Nat) {α : Type} (V : α → List AV) (O : α → aD) (nx : Nat) (D : α → Prop) (i : Nat) (R : List AV × aD → Prop) (G : α → Prop) (a : α) : ag → List AV × aD → Prop
 | .normal, v => G a ∧ dF kp v (V a) (O a) nx
 | .exit k, v => k = i ∧ ∃ b, D b ∧ dF kp v (V b) (O b) nx
 | .ret, v => R v
def abV (kp : List Nat) {α : Type} (V : α → List AV) (O : α → aD) (nx : Nat) (I : α → Prop) (μ : α → Nat) (a : α) : ag → List AV × aD → Prop
 | .normal, v => ∃ b, I b ∧ μ b < μ a ∧ dF kp v (V b) (O b) nx
 | _, _ => False
theorem YA {i : Nat} {y : Code} (h : bK nt (.block i (.loop y)) = true) : bK nt y = true := by simpa [bK] using h
theorem adb {i : Nat} {y : Code} (h : bK nt (.block i y) = true) : bK nt y = true := by simpa [bK] using h
include hT hΓ hm in
theorem aq.B5 {x y z x1 zb y2 : Code} (p : List Nat) {i : Nat} (hc : chain x p = true) (hx : part x p = .block i (.loop y)) (hz : behind x p = [z]) (hd : bK nt x = true)
  (q : List Nat) {j : Nat} (hcq : chain y q = true) (hxq : part y q = .block j x1) (hzq : behind y q = [zb]) (r : List Nat) {i2 : Nat} (hcr : chain x1 r = true) (hxr : part x1 r = .block i2 (.loop y2)) (hij : (i == j) = false)
  {kp : List Nat} (h0 : Kept kp c) {f1 f2 f3 f4 f5 : List Nat} (n : Nat) (L1 L2 : List Nat) (nx1 nx2 : Nat) {α β : Type} (V1 : α → List AV) (O1 : α → aD) (I1 D1 : α → Prop) (μ1 : α → Nat) (G : α → Prop) (R1 R2 : List AV × aD → Prop)
  (V2 : α → β → List AV) (O2 : α → β → aD) (I2 D2 : α → β → Prop) (μ2 : α → β → Nat)
  (hp : ∃ t, aH T Γ f1 n L1 (before x p) s = some t ∧ t.all (Start kp V1 O1 nx1 I1 R1))
  (ho : ∀ a, I1 a → ∃ t, aH T Γ f2 n L1 (before y q) ⟨aB L1 (V1 a), O1 a, nx1⟩ = some t ∧ t.all (Head kp V1 O1 nx1 D1 i R1 G a))
  (hi : ∀ a, I1 a → G a → ∃ t, aH T Γ f3 n L2 (before x1 r) ⟨aB L1 (V1 a), O1 a, nx1⟩ = some t ∧ t.all (Start kp (V2 a) (O2 a) nx2 (I2 a) R2))
  (hb : ∀ a, I1 a → G a → ∀ b, I2 a b → ∃ t, aH T Γ f4 n L2 [y2] ⟨aB L2 (V2 a b), O2 a b, nx2⟩ = some t ∧ t.all (Round kp (V2 a) (O2 a) nx2 (I2 a) (D2 a) (μ2 a) i2 R2 b))
  (ht : ∀ a, I1 a → G a → ∀ b, D2 a b → ∃ t, aH T Γ f5 n L1 (behind x1 r ++ [zb]) ⟨aB L2 (V2 a b), O2 a b, nx2⟩ = some t ∧ t.all (abV kp V1 O1 nx1 I1 μ1 a))
  (hD : ∀ b, D1 b → aq P c nt z ⟨aB L1 (V1 b), O1 b, nx1⟩ Q) (hR1 : ∀ v s', R1 v → aU L1 s' = some v → Q .ret s') (hR2 : ∀ v s', R2 v → aU L2 s' = some v → Q .ret s') : aq P c nt x s Q := by
 have hdy : bK nt y = true := by
  have := tN (nt := nt) hc hd
  rw [hx] at this
  exact YA this
 have hdx1 : bK nt x1 = true := by
  have := tN (nt := nt) hcq hdy
  rw [hxq] at this
  exact adb this
 have hdz : ((behind x1 r ++ [zb]).all fun x => bK nt x) = true := by
  have h1 := tw (nt := nt) (p := r) hdx1
  have h2 := tw (nt := nt) (p := q) hdy
  rw [hzq] at h2
  rw [List.all_append, h1, h2]; rfl
 obtain ⟨t, h1, h2⟩ := hp
 refine aq.hole p hc (aA.aZ hT hΓ hm n L1 h1 (mY hd) (aa.eI ?_ h2))
 rintro e v hv s' hs'
 cases e with
 | ret => exact hR1 v s' hv hs'
 | exit k => exact hv.elim
 | normal =>
  obtain ⟨a, hI, hre⟩ := hv
  refine (show aq P c nt (part x p) s' _ from aq.gk hx (fun a => ⟨aB L1 (V1 a), O1 a, nx1⟩) I1 μ1 a (hre.le hs' h0) hI fun a ha => ?_)
  refine aq.mono (Q := Jk c L1 V1 O1 nx1 I1 D1 μ1 i (fun s' => Q .ret s') a) ?_ fun e s' h => ?_
  ·refine aq.UY hT hΓ hm q hcq hxq hzq hdy h0 (f1 := f2) n L1 nx1 (fun _ : Unit => V1 a) (fun _ => O1 a) (fun _ => G a) ?_ (fun _ hG => ?_)
   ·obtain ⟨t, g1, g2⟩ := ho a ha
    refine ⟨t, g1, aa.eI ?_ g2⟩
    rintro e v hv
    cases e with
    | normal => exact ⟨(), hv.1, hv.2⟩
    | exit k => exact fun s' hs' => ⟨hv.1, hv.2.imp fun b hb => ⟨hb.1, hb.2.le hs' h0⟩⟩
    | ret => exact fun s' hs' => hR1 v s' hv hs'
   ·refine aq.pX hT hΓ hm r hcr hxr hdx1 h0 (f1 := f3) (f2 := f4) n L2 nx2 (V2 a) (O2 a) (I2 a) (D2 a) (μ2 a) R2 (hi a ha hG) (hb a ha hG) (fun b s' hb hle => ?_) (fun v s' hv hs' => hR2 v s' hv hs')
    obtain ⟨t, g1, g2⟩ := ht a ha hG b hb
    have key : aA P c nt (behind x1 r ++ [zb]) s' (Jk c L1 V1 O1 nx1 I1 D1 μ1 i (fun s' => Q .ret s') a) := by
     refine aA.weak (by cases behind x1 r <;> rfl) hle (aA.aZ hT hΓ hm n L1 g1 hdz (aa.eI ?_ g2))
     rintro e v hv s' hs'
     cases e with
     | normal =>
      obtain ⟨b, k1, k2, k3⟩ := hv
      exact ⟨b, k1, k2, k3.le hs' h0⟩
     | exit k => exact hv.elim
     | ret => exact hv.elim
    refine aA.mono ?_ (aA.append key)
    rintro e s' h
    cases e with
    | normal => exact aq.jq h
    | exit k =>
     simp only [inBlock]
     have hk : k = i := h.1
     rw [if_neg (by rw [hk]; simpa using hij)]
     exact h
    | ret => exact h
  ·cases e with
   | normal =>
    obtain ⟨b, g1, g2, g3⟩ := h
    exact ⟨b, g3, g1, g2⟩
   | exit k =>
    obtain ⟨rfl, b, g1, g2⟩ := h
    refine Cv ?_
    show aA P c nt (behind x p) s' _
    rw [hz]
    exact aA.weak rfl g2 (aA.one (hD b g1))
   | ret => exact h
end rules
end Go.Am

/- The call of a law, from its contract: whatever the arguments. -/
namespace Go.Am
open Go Go.ChangeShapes Go.WideShapes Go.ChangeAt Go.RowKit AV
inductive PK where
 | list
 | int (k : IntKind)
 | bool
def Ej (P : Program) : PK → TypeId → Prop
 | .list, t => ∃ e, P.underlying t = some (.slice e) ∧ P.underlying e = some (.int .i64) ∧ P.cellsOf e = 1
 | .int k, t => P.underlying t = some (.int k)
 | .bool, t => P.underlying t = some .bool
def s7 (P : Program) : List PK → List TypeId → Prop
 | [], [] => True
 | k :: ks, t :: ts => (Ej P k t ∧ P.readableRec t = true ∧ t < P.types.size) ∧ s7 P ks ts
 | _, _ => False
def Ey : PK → AV → Prop
 | .list, a => ∃ (n : Nat) (z : Nat → Int), a = .aj 1 n (fun i => .int .i64 (z i))
 | .int k, a => ∃ n, a = .int k n
 | .bool, a => ∃ b, a = .bool b
def Ce : List PK → List AV → Prop
 | [], as => as = []
 | k :: ks, as => ∃ a l, as = a :: l ∧ Ey k a ∧ Ce ks l
section
variable {P : Program} {H : Type} {enc : TypeId × Value → H} {W : World} {base : Nat}
theorem Ss {k : PK} {t : TypeId} {v : Value} {d : DataW H} {p : List MemPlace} (hk : Ej P k t) (h : DataW.Trod enc P W 0 (fun _ => true) true t v d p) (hv : Value.okWide P W .any base t v) : ∃ a, Ey k a ∧ aY (fun _ => False) W aV a v := by
 cases k with
 | int k =>
  obtain ⟨n, rfl⟩ := okWide_int hk hv
  exact ⟨_, ⟨n, rfl⟩, .b6 (.int .nil) rfl⟩
 | bool =>
  obtain ⟨b, rfl⟩ := okWide_bool hk hv
  exact ⟨_, ⟨b, rfl⟩, .b6 (.bool .nil) rfl⟩
 | list =>
  obtain ⟨e, h1, h2, h3⟩ := hk
  obtain ⟨a0, len, cap, rfl⟩ := okWide_slice h1 hv
  obtain ⟨fuel, hf⟩ := h
  have key : ∀ {z : Nat → Int}, len ≤ cap → (len = 0 ∨ ∃ b o, a0 = some ⟨b, o, none⟩ ∧ ∀ i, i < len → W.cell? ⟨b, o + i, none⟩ = some (.int .i64 (z i))) → aY (fun _ => False) W aV (.aj 1 len (fun i => .int .i64 (z i))) (.slice a0 len cap) := fun {z} hcap hr => by
   refine .b6 (.aj (cf := fun i => [.int .i64 (z i)]) ?_ (by omega) hcap (fun _ _ => rfl) (fun _ _ => .int .nil) .nil) rfl
   rcases hr with hr | ⟨b, o, rfl, hr⟩
   ·exact .inl hr
   ·refine .inr ⟨b, o, rfl, fun i hi => ?_⟩
    have hc := hr i hi
    simp only [World.cell?] at hc
    split at hc
    ·rename_i cs ty fr hh
     simp only [Option.isSome_none, Bool.false_eq_true, if_false] at hc
     refine ⟨cs, ty, fr, hh, id, fun j v hj => ?_⟩
     have hj0 : j = 0 := by have := (List.getElem?_eq_some_iff.1 hj).1; simp at this; exact this
     subst hj0
     simp only [List.getElem?_cons_zero, Option.some.injEq] at hj
     subst hj
     simpa using hc
    ·simp at hc
  rcases open_ints h1 h2 h3 hf with ⟨hcs, hx⟩ | ⟨a, len', cap', zs, hcs, _, hl, hm, hz, hx, hcell, hwz⟩
  ·simp only [Value.cells, List.cons.injEq, Value.slice.injEq, and_true] at hcs
   obtain ⟨rfl, rfl, rfl⟩ := hcs
   exact ⟨_, ⟨0, fun _ => 0, rfl⟩, key (z := fun _ => 0) (Nat.le_refl _) (.inl rfl)⟩
  ·simp only [Value.cells, List.cons.injEq, Value.slice.injEq, and_true] at hcs
   obtain ⟨rfl, rfl, rfl⟩ := hcs
   simp only [if_true] at hz
   refine ⟨_, ⟨len, fun i => zs.getD i 0, rfl⟩, key hl ?_⟩
   rcases Nat.eq_zero_or_pos len with h0 | h0
   ·exact .inl h0
   ·obtain ⟨b, o, m⟩ := a
    have h1 := hcell 0 (by omega)
    have : m = none := by
     cases m with
     | none => rfl
     | some y => exfalso; simp only [Addr.add, World.cell?] at h1; split at h1 <;> simp at h1
    subst this
    exact .inr ⟨b, o, rfl, fun i hi => by
     have h2 := hcell i (by omega)
     rcases Nat.eq_zero_or_pos i with hi | hi
     ·subst hi; simpa [Addr.add] using h2
     ·simpa [Addr.add, Nat.pos_iff_ne_zero.1 hi] using h2⟩
theorem It : ∀ {ks : List PK} {ts : List TypeId} {vs : List Value} {ds : List (DataW H)} {p : List MemPlace}, s7 P ks ts → DataW.TrodAll enc P W 0 (fun _ => true) true ts vs ds p → (∀ (j : Nat) t v, ts[j]? = some t → vs[j]? = some v → Value.okWide P W .any base t v) →
  ∃ as, Ce ks as ∧ bO (fun _ => False) W aV as vs
 | [], [], vs, ds, p, _, h, _ => by
  obtain ⟨rfl, _, _⟩ := trodAll_nil h
  exact ⟨[], rfl, trivial⟩
 | k :: ks, t :: ts, vs, ds, p, hk, h, hv => by
  obtain ⟨v, vs', d, ds', p1, q, rfl, rfl, rfl, hd, hrest⟩ := trodAll_cons h
  obtain ⟨a, h1, h2⟩ := Ss hk.1.1 hd (hv 0 t v rfl rfl)
  obtain ⟨as, h3, h4⟩ := It hk.2 hrest fun j t v h1 h2 => hv (j + 1) t v h1 h2
  exact ⟨a :: as, ⟨a, as, rfl, h1, h3⟩, h2, h4⟩
 | [], _ :: _, _, _, _, h, _, _ => h.elim
 | _ :: _, [], _, _, _, h, _, _ => h.elim
theorem LL {b : Nat} {sp : Nat → Bool} {held : Bool} : ∀ {ts : List TypeId} {vs : List Value} {ds : List (DataW H)} {p : List MemPlace}, DataW.TrodAll enc P W b sp held ts vs ds p → ds.length = ts.length
 | [], vs, ds, p, h => by
  obtain ⟨_, rfl, _⟩ := trodAll_nil h
  rfl
 | t :: ts, vs, ds, p, h => by
  obtain ⟨v, vs', d, ds', p1, q, rfl, rfl, rfl, hd, hrest⟩ := trodAll_cons h
  simp [LL hrest]
theorem K8 (hl : laidOutB P = true) {W' : World} (hb : Below W.heap.size W W') : ∀ {ks : List PK} {ts : List TypeId} {vs : List Value} {ds : List (DataW H)} {p : List MemPlace}, s7 P ks ts → DataW.TrodAll enc P W 0 (fun _ => true) true ts vs ds p → (∀ x ∈ p, x.block < W.heap.size) →
  DataW.TrodAll enc P W' 0 (fun b => decide (b < W.heap.size)) true ts vs ds p
 | [], [], vs, ds, p, _, h, _ => by
  obtain ⟨rfl, rfl, rfl⟩ := trodAll_nil h
  exact trodAll_mk0
 | k :: ks, t :: ts, vs, ds, p, hk, h, hlt => by
  obtain ⟨v, vs', d, ds', p1, q, rfl, rfl, rfl, hd, hrest⟩ := trodAll_cons h
  exact ⟨_, _, Below.trod hl hk.1.2.1 hk.1.2.2 hd hb fun x hx => hlt x (List.mem_append_left _ hx), K8 hl hb hk.2 hrest fun x hx => hlt x (List.mem_append_right _ hx), rfl⟩
 | [], _ :: _, _, _, _, h, _, _ => h.elim
 | _ :: _, [], _, _, _, h, _, _ => h.elim
theorem XU (hl : laidOutB P = true) {f : FuncId} {fn : Func} (hf : P.funcs[f]? = some fn) (hb : fn.body.isNone = false) {ks : List PK} {ts : List TypeId} (hk : s7 P ks ts) {args : Array Value} {ds : List (DataW H)} {p : List MemPlace}
  (hA : DataW.TrodAll enc P W 0 (fun _ => true) true ts args.toList ds p) (hv : ∀ (j : Nat) t v, ts[j]? = some t → args[j]? = some v → Value.okWide P W .any base t v) (hlt : ∀ x ∈ p, x.block < W.heap.size) (hF : ∀ as, Ce ks as → az P f 0 as [] ⟨.bool true, [], []⟩) :
  Calls P f args W fun e W' => e = .returned (.bool true) ∧ Below W.heap.size W W' ∧ DataW.TrodAll enc P W' 0 (fun b => decide (b < W.heap.size)) true ts args.toList ds p := by
 obtain ⟨as, h1, h2⟩ := It hk hA fun j t v h1 h2 => hv j t v h1 (by simpa using h2)
 obtain ⟨_, hF⟩ := hF as h1 trivial
 have hrel : bm ⟨fun _ => False, W, fun _ => False, aV⟩ [] (fun _ => False) aV W :=
  { obj := fun k o h => by simp [look] at h, cP := fun k o h => by simp [look] at h, inj := fun k k' o o' b N N' h => by simp [look] at h, dom := fun k x h => by simp [aV] at h, keep := fun k x h => h, lt := fun k b N h => by simp [aV] at h, os := rfl, tape := rfl, output := rfl, size := Nat.le_refl _, block := fun _ _ _ => rfl, gb := fun b h => h.elim, new := fun k o b N h => by simp [look] at h }
 have hM : aJ ⟨fun _ => False, W, fun _ => False, aV⟩ [] aV = fun _ => False := by
  funext b
  simp [aJ, look]
 have hinv := hF ⟨fun _ => False, W, fun _ => False, aV⟩ (fun _ => False) (fun _ => True) aV W _ rfl (fun b h => h.elim) hrel (fun k h => h.elim) (fun k _ _ => ⟨id, trivial⟩) (by rw [hM]; exact h2)
 rcases hinv with ⟨fn', g1, g2, g3, g4⟩ | ⟨x, g1, _⟩
 ·have g5 := g4
  rw [show args.toList.toArray = args from by simp] at g5
  refine g5.mono fun e W' ⟨x, he, hx⟩ => ?_
  obtain ⟨β', q1, q2, q3⟩ := hx
  have := q3.bool
  subst this
  have hbl : Below W.heap.size W W' := ⟨q1.os, q1.tape, q1.output, q1.size, fun k hk => q1.block k hk id⟩
  exact ⟨he, hbl, K8 hl hbl hk hA hlt⟩
 ·exfalso
  simp only [callFunc, Sem.run_bind, run_program, Result.andThen_ok, hf, hb, Bool.false_eq_true, if_false] at g1
  split at g1 <;> simp at g1
end
end Go.Am
