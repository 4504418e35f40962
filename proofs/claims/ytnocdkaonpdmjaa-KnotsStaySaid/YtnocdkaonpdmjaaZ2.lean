/- The evaluator with forks: where a condition is not known, both ways. -/
import Derived.Test.YtnocdkaonpdmjaaZ1
import Derived.RangeFuncCalls
import Derived.TacticsIn
import Derived.ProofKit
import Derived.ChangeSlices
set_option linter.unusedVariables false
namespace Go.Am
open AV
inductive ATree (α : Type) where
  | leaf (e : AEx) (a : α)
  | must (l : List Prop) (t : ATree α)
  | fork (b : Bool) (t u : ATree α)
namespace ATree
variable {α β : Type}
def all (Q : AEx → α → Prop) : ATree α → Prop
  | leaf e a => Q e a
  | must l t => allP l ∧ t.all Q
  | fork b t u => (b = true → t.all Q) ∧ (b = false → u.all Q)
def need (l : List Prop) (t : ATree α) : ATree α := match l with
  | [] => t
  | l => must l t
def bind (f : AEx → α → Option (ATree β)) : ATree α → Option (ATree β)
  | leaf e a => f e a
  | must l t => match t.bind f with
    | some u => some (must l u)
    | none => none
  | fork b t u => match t.bind f, u.bind f with
    | some t', some u' => some (fork b t' u')
    | _, _ => none
theorem all_need {Q : AEx → α → Prop} {l : List Prop} {t : ATree α} : (need l t).all Q ↔ allP l ∧ t.all Q := by
  cases l with
  | nil => simp [need, allP]
  | cons p l => exact Iff.rfl
theorem bind_all {f : AEx → α → Option (ATree β)} {Q : AEx → β → Prop} : ∀ {t : ATree α} {u : ATree β}, t.bind f = some u → u.all Q → t.all fun e a => ∃ v, f e a = some v ∧ v.all Q
  | leaf e a, u, h, hu => ⟨u, h, hu⟩
  | must l t, u, h, hu => by
    simp only [bind] at h
    cases ht : t.bind f with
    | none => rw [ht] at h; simp at h
    | some v =>
      rw [ht] at h
      simp only [Option.some.injEq] at h
      subst h
      exact ⟨hu.1, bind_all ht hu.2⟩
  | fork b t u, v, h, hv => by
    simp only [bind] at h
    cases ht : t.bind f with
    | none => rw [ht] at h; simp at h
    | some t' =>
      cases hu : u.bind f with
      | none => rw [ht, hu] at h; simp at h
      | some u' =>
        rw [ht, hu] at h
        simp only [Option.some.injEq] at h
        subst h
        exact ⟨fun hb => bind_all ht (hv.1 hb), fun hb => bind_all hu (hv.2 hb)⟩
theorem all_mono {Q Q' : AEx → α → Prop} (h : ∀ e a, Q e a → Q' e a) : ∀ {t : ATree α}, t.all Q → t.all Q'
  | leaf _ _, ht => h _ _ ht
  | must _ _, ht => ⟨ht.1, all_mono h ht.2⟩
  | fork _ _ _, ht => ⟨fun hb => all_mono h (ht.1 hb), fun hb => all_mono h (ht.2 hb)⟩
end ATree
def guardsOf (forks : List Nat) (ops : List Oper) : List Oper → Nat → List (Nat × Nat)
  | [], _ => []
  | o :: l, i => match o.dst with
    | some d => if (forks.contains d || (forks.contains (d + 100000) || forks.contains (d + 200000))) && ops.any (fun p => match p.guard with
        | some (g, _) => g == i
        | none => false) then (i, if forks.contains d then d else if forks.contains (d + 100000) then d + 100000 else d + 200000) :: guardsOf forks ops l (i + 1) else guardsOf forks ops l (i + 1)
    | none => guardsOf forks ops l (i + 1)
def regT (T : Types) (Γ : Contracts) (ops : Array Oper) (d : Bool) (s : AState) : List (Nat × Nat) → List (Nat × Bool) → Option (ATree AState)
  | [], orc => match regionAV T Γ orc ops d s with
    | some (s', need) => some (.need need (.leaf .normal s'))
    | none => none
  | (g, t) :: gs, orc => match Nat.blt t 100000 with
    | false => match Nat.blt t 200000 with
      | true => regT T Γ ops d s gs ((g, true) :: orc)
      | false => regT T Γ ops d s gs ((g, false) :: orc)
    | true => match runOps T Γ orc ops.toList (ops.toList.take (g + 1)) 0 s with
      | some (s', _, _) => match look t s'.slots with
        | some (.bool b) => match regT T Γ ops d s gs ((g, true) :: orc), regT T Γ ops d s gs ((g, false) :: orc) with
          | some x, some y => some (.fork b x y)
          | _, _ => none
        | _ => regT T Γ ops d s gs orc
      | none => none
def forkOn (forks : List Nat) : Operand → Nat
  | .tmp t => if forks.contains t then 1 else if forks.contains (t + 100000) then 2 else if forks.contains (t + 200000) then 3 else 0
  | _ => 0
def treeAV (T : Types) (Γ : Contracts) (forks : List Nat) : Nat → Code → AState → Option (ATree AState)
  | 0, _, _ => none
  | n + 1, c, s => match c with
    | .skip => some (.leaf .normal s)
    | .label _ => some (.leaf .normal s)
    | .region _ ops d => regT T Γ ops d s (guardsOf forks ops.toList ops.toList 0) []
    | .seq x y => match treeAV T Γ forks n x s with
      | some t => t.bind fun e s' => match e with
        | .normal => treeAV T Γ forks n y s'
        | .exit i => some (.leaf (.exit i) s')
        | .ret => some (.leaf .ret s')
      | none => none
    | .cond b x y => match s.rho b with
      | some (.bool t) => match forkOn forks b with
        | 1 => match treeAV T Γ forks n x s, treeAV T Γ forks n y s with
          | some u, some v => some (.fork t u v)
          | _, _ => none
        | 2 => match treeAV T Γ forks n x s with
          | some u => some (.must [t = true] u)
          | none => none
        | 3 => match treeAV T Γ forks n y s with
          | some u => some (.must [t = false] u)
          | none => none
        | _ => match t with
          | true => treeAV T Γ forks n x s
          | false => treeAV T Γ forks n y s
      | _ => none
    | .block id x => match treeAV T Γ forks n x s with
      | some t => t.bind fun e s' => match e with
        | .normal => some (.leaf .normal s')
        | .exit j => match j == id with
          | true => some (.leaf .normal s')
          | false => some (.leaf (.exit j) s')
        | .ret => some (.leaf .ret s')
      | none => none
    | .loop x => match treeAV T Γ forks n x s with
      | some t => t.bind fun e s' => match e with
        | .normal => treeAV T Γ forks n (.loop x) s'
        | .exit j => some (.leaf (.exit j) s')
        | .ret => some (.leaf .ret s')
      | none => none
    | .exit id => some (.leaf (.exit id) s)
    | .ret => some (.leaf .ret s)
    | _ => none
section rules
variable {P : Program} {c : Ctx} {nt : Nat} {Q : AEx → AState → Prop} {T : Types} (hT : TOK P T) {Γ : Contracts} (hΓ : GOK P Γ) (hm : P.follows .mixedOrders = true)
include hT hΓ hm in
theorem regT_ok {id : Nat} {ops : Array Oper} {d : Bool} (hd : dstOK nt (.region id ops d) = true) {s : AState} : ∀ (gs : List (Nat × Nat)) (orc : List (Nat × Bool)) {t : ATree AState}, regT T Γ ops d s gs orc = some t → t.all Q →
    AWp P c nt (.region id ops d) s Q
  | [], orc, t, h, ht => by
    simp only [regT] at h
    cases hr : regionAV T Γ orc ops d s with
    | none => rw [hr] at h; simp at h
    | some q =>
      obtain ⟨s', need⟩ := q
      rw [hr] at h
      simp only [Option.some.injEq] at h
      subst h
      obtain ⟨h1, h2⟩ := ATree.all_need.1 ht
      exact .region hT hΓ hm hd hr h1 h2
  | (g, k) :: gs, orc, t, h, ht => by
    simp only [regT] at h
    split at h
    · split at h
      · exact regT_ok hd gs _ h ht
      · exact regT_ok hd gs _ h ht
    · split at h
      · split at h
        · split at h
          · rename_i x y hx hy
            simp only [Option.some.injEq] at h
            subst h
            exact (Bool.eq_false_or_eq_true _).elim (fun hb => regT_ok hd gs _ hx (ht.1 hb)) (fun hb => regT_ok hd gs _ hy (ht.2 hb))
          · simp at h
        · exact regT_ok hd gs _ h ht
      · simp at h
def AWpIn (P : Program) (c : Ctx) (nt : Nat) (x : Code) (s : AState) (Q : AEx → AState → Prop) : Prop :=
  ∀ a w, Rel c nt (fun k => k < s.next) s.slots s.store a w → ∀ (fr : Frame) (k : List Item) (cs : List Frame), fr.roundOf = (fen c.ro).round → (fen c.ro).fn fr.fn → (fen c.ro).room (cs.length + 1 + 3) → ∃ e a' w', (∃ ae t, e = AEx.conc ae ∧ Rel c nt (fun k => k < t.next) t.slots t.store a' w' ∧ Q ae t) ∧
    ArrivesIn (Machine.fenced P (fen c.ro)) P (lone (fr.atR a (.code x :: .inLoop x :: k)) cs w) fr k cs e a' w'
theorem AWpIn.loop {x : Code} {s : AState} (h : AWpIn P c nt x s Q) : AWp P c nt (.loop x) s Q := by
  intro a w hrel fr k cs h01 h02 h03
  obtain ⟨e, a', w', g, harr⟩ := h a w hrel fr k cs h01 h02 h03
  exact ⟨e, a', w', g, .of_steps (.one (fenced_calm h02 h03 rfl) stepR_loop) harr⟩
theorem AWpIn.round {x : Code} {s : AState} (h : AWp P c nt x s fun e s' => match e with
    | .normal => AWpIn P c nt x s' Q
    | e => Q e s') : AWpIn P c nt x s Q := by
  intro a w hrel fr k cs h01 h02 h03
  obtain ⟨e, a1, w1, ⟨ae, t, rfl, g1, g2⟩, harr⟩ := h a w hrel fr (.inLoop x :: k) cs h01 h02 h03
  cases ae with
  | normal =>
    obtain ⟨e2, a2, w2, hq2, harr2⟩ := g2 a1 w1 g1 fr k cs h01 h02 h03
    exact ⟨e2, a2, w2, hq2, .of_steps (StepsIn.trans harr (.one (fenced_calm h02 h03 rfl) stepR_inLoop)) harr2⟩
  | exit i => exact ⟨_, a1, w1, ⟨.exit i, t, rfl, g1, g2⟩, .pass (x := .inLoop x) rfl (fun _ _ => .inl (by simp [AEx.conc])) harr⟩
  | ret => exact ⟨_, a1, w1, ⟨.ret, t, rfl, g1, g2⟩, .pass (x := .inLoop x) rfl (fun _ _ => .inl (by simp [AEx.conc])) harr⟩
include hT hΓ hm in
theorem treeAV_ok {forks : List Nat} : ∀ (n : Nat) {x : Code} {s : AState} {Q : AEx → AState → Prop}, dstOK nt x = true → ∀ {t : ATree AState}, treeAV T Γ forks n x s = some t → t.all Q → AWp P c nt x s Q
  | 0, x, s, Q, _, t, h, _ => by simp [treeAV] at h
  | n + 1, .skip, s, Q, _, t, h, ht => by
    simp only [treeAV, Option.some.injEq] at h
    subst h; exact .skip ht
  | n + 1, .label l, s, Q, _, t, h, ht => by
    simp only [treeAV, Option.some.injEq] at h
    subst h; exact .label ht
  | n + 1, .exit i, s, Q, _, t, h, ht => by
    simp only [treeAV, Option.some.injEq] at h
    subst h; exact .exit ht
  | n + 1, .ret, s, Q, _, t, h, ht => by
    simp only [treeAV, Option.some.injEq] at h
    subst h; exact .ret ht
  | n + 1, .region i ops d, s, Q, hd, t, h, ht => by
    simp only [treeAV] at h
    exact regT_ok hT hΓ hm hd _ _ h ht
  | n + 1, .seq x y, s, Q, hd, t, h, ht => by
    simp only [dstOK, Bool.and_eq_true] at hd
    simp only [treeAV] at h
    cases hx : treeAV T Γ forks n x s with
    | none => rw [hx] at h; simp at h
    | some u =>
      rw [hx] at h
      refine .seq (treeAV_ok n hd.1 hx (ATree.all_mono ?_ (ATree.bind_all h ht)))
      rintro e s' ⟨v, h1, h2⟩
      cases e with
      | normal => exact treeAV_ok n hd.2 h1 h2
      | exit i => simp only [Option.some.injEq] at h1; subst h1; exact h2
      | ret => simp only [Option.some.injEq] at h1; subst h1; exact h2
  | n + 1, .cond b x y, s, Q, hd, t, h, ht => by
    simp only [dstOK, Bool.and_eq_true] at hd
    simp only [treeAV] at h
    split at h
    · rename_i t' hb
      split at h
      · split at h
        · rename_i u v hu hv
          simp only [Option.some.injEq] at h
          subst h
          exact .cond hb (fun h' => treeAV_ok n hd.1 hu (ht.1 h')) (fun h' => treeAV_ok n hd.2 hv (ht.2 h'))
        · simp at h
      · split at h
        · rename_i u hu
          simp only [Option.some.injEq] at h
          subst h
          have hb' : t' = true := ht.1
          exact .cond hb (fun _ => treeAV_ok n hd.1 hu ht.2) (fun h' => by rw [hb'] at h'; simp at h')
        · simp at h
      · split at h
        · rename_i u hu
          simp only [Option.some.injEq] at h
          subst h
          have hb' : t' = false := ht.1
          exact .cond hb (fun h' => by rw [hb'] at h'; simp at h') (fun _ => treeAV_ok n hd.2 hu ht.2)
        · simp at h
      · split at h
        · exact .cond hb (fun _ => treeAV_ok n hd.1 h ht) (fun h' => by simp at h')
        · exact .cond hb (fun h' => by simp at h') (fun _ => treeAV_ok n hd.2 h ht)
    · simp at h
  | n + 1, .block id x, s, Q, hd, t, h, ht => by
    simp only [dstOK] at hd
    simp only [treeAV] at h
    cases hx : treeAV T Γ forks n x s with
    | none => rw [hx] at h; simp at h
    | some u =>
      rw [hx] at h
      refine .block (treeAV_ok n hd hx (ATree.all_mono ?_ (ATree.bind_all h ht)))
      rintro e s' ⟨v, h1, h2⟩
      cases e with
      | normal => simp only [Option.some.injEq] at h1; subst h1; exact h2
      | exit j =>
        simp only at h1 ⊢
        cases hj : j == id with
        | true =>
          rw [hj] at h1
          simp only [Option.some.injEq] at h1; subst h1
          rw [if_pos (by simpa using hj)]; exact h2
        | false =>
          rw [hj] at h1
          simp only [Option.some.injEq] at h1; subst h1
          rw [if_neg (by simpa using hj)]; exact h2
      | ret => simp only [Option.some.injEq] at h1; subst h1; exact h2
  | n + 1, .loop x, s, Q, hd, t, h, ht => by
    have key : ∀ (m : Nat) (s : AState) (t : ATree AState), m ≤ n + 1 → treeAV T Γ forks m (.loop x) s = some t → t.all Q → AWpIn P c nt x s Q := by
      intro m
      induction m with
      | zero => intro s t _ h; simp [treeAV] at h
      | succ m ihm =>
        intro s t hmn h ht
        simp only [treeAV] at h
        cases hx : treeAV T Γ forks m x s with
        | none => rw [hx] at h; simp at h
        | some u =>
          rw [hx] at h
          have hlen : m ≤ n := by omega
          refine .round (treeAV_ok m (by simpa [dstOK] using hd) hx (ATree.all_mono ?_ (ATree.bind_all h ht)))
          rintro e s' ⟨v, h1, h2⟩
          cases e with
          | normal => exact ihm s' v (by omega) h1 h2
          | exit i => simp only [Option.some.injEq] at h1; subst h1; exact h2
          | ret => simp only [Option.some.injEq] at h1; subst h1; exact h2
    exact (key (n + 1) s t (Nat.le_refl _) h ht).loop
  | n + 1, .scope x, s, Q, _, t, h, _ => by simp [treeAV] at h
  | n + 1, .goto l, s, Q, _, t, h, _ => by simp [treeAV] at h
  | n + 1, .refuse l, s, Q, _, t, h, _ => by simp [treeAV] at h
  | n + 1, .rangeFunc _ _ _ _, s, Q, _, t, h, _ => by simp [treeAV] at h
def slotOf (s : AState) (t : Nat) : AV := match look t s.slots with
  | some v => v
  | none => .tuple []
def allSlots (s : AState) : List Nat → List AV
  | [] => []
  | t :: l => slotOf s t :: allSlots s l
def keysIn (st : Store) : List Nat → List Nat
  | [] => []
  | k :: l => match look k st with
    | some o => if o.row then keysIn st l else keys (o.f 0) ++ keysIn st l
    | none => keysIn st l
def seenK (st : Store) (ks : List Nat) : List Nat := ks ++ keysIn st ks
def viewAV (ls : List Nat) (s : AState) : Option (List AV × Store) :=
  some (allSlots s ls, pick s.store (seenK s.store (keysL (allSlots s ls))))
def viewT (ls : List Nat) (e : AEx) (s : AState) : Option (ATree (List AV × Store)) :=
  match viewAV ls s with
  | some v => some (.leaf e v)
  | none => none
def endT (T : Types) (fn : Func) (e : AEx) (s : AState) : Option (ATree (List AV)) :=
  match e with
  | .exit _ => none
  | e => match resultsAV T s fn.results.toList with
    | some (vs, q) => match frzL (freezeAll (pick s.store (keysL vs))) vs with
      | some us => some (.need q (.leaf e us))
      | none => none
    | none => none
def funT (T : Types) (Γ : Contracts) (forks : List Nat) (n : Nat) (fn : Func) (x : Code) (s : AState) : Option (ATree (List AV)) :=
  match treeAV T Γ forks n x s with
  | some t => t.bind (endT T fn)
  | none => none
include hT hΓ hm in
theorem AWp.ends {fn : Func} {x : Code} {s : AState} {forks : List Nat} (n : Nat) (hd : dstOK nt x = true) {t : ATree (List AV)} (hc : funT T Γ forks n fn x s = some t) {res : AV} (h : t.all fun _ us => resOK us res) :
    AWp P c nt x s fun e s' => (e = .normal ∨ e = .ret) ∧ Ends T fn res s' := by
  unfold funT at hc
  cases hx : treeAV T Γ forks n x s with
  | none => rw [hx] at hc; simp at hc
  | some u =>
    rw [hx] at hc
    refine treeAV_ok hT hΓ hm n hd hx (ATree.all_mono ?_ (ATree.bind_all hc h))
    rintro e s' ⟨v, h1, h2⟩
    unfold endT at h1
    have key : ∀ {e' : AEx}, (match resultsAV T s' fn.results.toList with
        | some (vs, q) => match frzL (freezeAll (pick s'.store (keysL vs))) vs with
          | some us => some (ATree.need q (.leaf e' us))
          | none => none
        | none => none) = some v → Ends T fn res s' := by
      intro e' h1
      cases hr : resultsAV T s' fn.results.toList with
      | none => rw [hr] at h1; simp at h1
      | some p =>
        obtain ⟨vs, q⟩ := p
        rw [hr] at h1
        simp only at h1
        cases hf : frzL (freezeAll (pick s'.store (keysL vs))) vs with
        | none => rw [hf] at h1; simp at h1
        | some us =>
          rw [hf] at h1
          simp only [Option.some.injEq] at h1
          subst h1
          obtain ⟨g1, g2⟩ := ATree.all_need.1 h2
          exact ⟨vs, q, us, hr, g1, hf, g2⟩
    cases e with
    | normal => exact ⟨.inl rfl, key h1⟩
    | ret => exact ⟨.inr rfl, key h1⟩
    | exit i => simp at h1
include hT hΓ hm in
theorem fok_tree {f : FuncId} {fn : Func} {x : Code} (hf : FnIs P f fn x) {args : List AV} {r : CRes} (hk : keysL args = []) (hlen : args.length ≤ fn.ntmps) (hpost : r.post = []) {forks : List Nat} (n : Nat) {t : ATree (List AV)}
    (hc : funT T Γ forks n fn x ⟨zipSlots 0 args, [], 0⟩ = some t) (h : r.need → t.all fun _ us => resOK us r.res) (K : Nat) (pre : Store) : FOK P f K args pre r :=
  fok_pure hT hf hk hlen hpost (fun hn _ _ => .ends hT hΓ hm n hf.dst hc (h hn)) K pre
end rules
end Go.Am

/- Weaker values; states by what is seen of them; contracts of functions that only read. -/
namespace Go.Am
open AV
theorem keysL_single {v : AV} : keysL [v] = keys v := by simp [keysL]
theorem avLe_of0 {ρ : Nat → Option Nat} {u v : AV} (hk : keys u = []) (h : avLe0 u v) : avLe ρ u v := by
  refine ⟨h.1, fun M w β cs hc => ?_⟩
  have := h.2 M w cs (keysL_noKeys hc (by rw [keysL_single, hk]))
  exact this.mono (fun b o h1 h2 => ⟨h2, h1⟩) _ fun k x hx => by simp [noKeys] at hx
theorem avLe_pure {ρ : Nat → Option Nat} {u : AV} (hk : keys u = []) : avLe ρ u u := avLe_of0 hk (.refl u)
theorem avLe_int {ρ : Nat → Option Nat} {k : IntKind} {a b : Int} (h : a = b) : avLe ρ (.int k a) (.int k b) := h ▸ avLe_pure (by simp [keys])
theorem avLe_own {ρ : Nat → Option Nat} {k k2 es s s2 n n2 : Nat} (h : ρ k2 = some k) (hs : s = s2) (hn : n = n2) : avLe ρ (.own k es s n) (.own k2 es s2 n2) := by
  subst hs hn
  refine ⟨rfl, fun M w β cs hc => ?_⟩
  cases hc with
  | own h1 h2 h3 h4 h5 h6 =>
    cases h6
    exact .own (by simp [h, h1]) h2 h3 h4 h5 .nil
  | own0 h5 h6 => cases h6; exact .own0 h5 .nil
theorem avLe_nil {ρ : Nat → Option Nat} {k es : Nat} (h : 0 < es) : avLe ρ .nil (.own k es 0 0) := by
  refine ⟨rfl, fun M w β cs hc => ?_⟩
  cases hc with
  | vnil h1 => cases h1; exact .own0 h .nil
theorem avLe_ptr {ρ : Nat → Option Nat} {k k2 idx es off : Nat} {p : List Nat} (h : ρ k2 = some k) : avLe ρ (.ptr k idx es off p) (.ptr k2 idx es off p) := by
  refine ⟨rfl, fun M w β cs hc => ?_⟩
  cases hc with
  | ptr h1 h6 =>
    cases h6
    exact .ptr (by simp only [h, Option.bind_some]; exact h1) .nil
theorem avLe0.trans {a b c : AV} (h : avLe0 a b) (h' : avLe0 b c) : avLe0 a c := ⟨h'.1.trans h.1, fun M w cs hc => h'.2 M w cs (h.2 M w cs hc)⟩
theorem avLe0_of_eq {a b : AV} (h : a = b) : avLe0 a b := h ▸ .refl a
theorem avLe0_int {k : IntKind} {a b : Int} (h : a = b) : avLe0 (.int k a) (.int k b) := h ▸ .refl _
theorem avLe0_bool {a b : Bool} (h : a = b) : avLe0 (.bool a) (.bool b) := h ▸ .refl _
theorem avLes0_cells {M : Nat → Prop} {w : World} : ∀ {us vs : List AV} {cs : List Value}, avLes0 us vs → CReps M w noKeys us cs → CReps M w noKeys vs cs
  | [], [], _, _, h => h
  | u :: us, v :: vs, cs, hl, h => by
    obtain ⟨c1, c2, rfl, h1, h2⟩ := h.split
    exact (hl.1.2 M w c1 h1).cons (avLes0_cells hl.2 h2)
  | [], _ :: _, _, h, _ => h.elim
  | _ :: _, [], _, h, _ => h.elim
theorem avLe0_agg {us vs : List AV} (h : avLes0 us vs) : avLe0 (.agg us) (.agg vs) := by
  refine ⟨rfl, fun M w cs hc => ?_⟩
  cases hc with
  | agg h1 h2 => cases h2; exact .agg (avLes0_cells h h1) .nil
theorem avLe0_tab {es n : Nat} {f g : Nat → AV} (h : ∀ i, i < n → avLe0 (f i) (g i)) : avLe0 (.tab es n f) (.tab es n g) := by
  refine ⟨rfl, fun M w cs hc => ?_⟩
  cases hc with
  | tab h1 h2 h3 h4 h5 h6 => cases h6; exact .tab h1 h2 h3 h4 (fun i hi => (h i hi).2 _ _ _ (h5 i hi)) .nil
theorem avLe0_tab_eq {es n m : Nat} {f g : Nat → AV} (hn : n = m) (h : ∀ i, i < n → f i = g i) : avLe0 (.tab es n f) (.tab es m g) := hn ▸ avLe0_tab fun i hi => avLe0_of_eq (h i hi)
theorem limbsV_inv {N i : Nat} {v : Value} (h : (limbsV N)[i]? = some v) : i < nl N ∧ v = .int .u32 (limb N i) := by
  simp only [limbsV, List.getElem?_map] at h
  rw [Option.map_eq_some_iff] at h
  obtain ⟨a, h1, h2⟩ := h
  by_cases hi : i < nl N
  · rw [List.getElem?_range hi] at h1
    simp only [Option.some.injEq] at h1
    subst h1
    exact ⟨hi, h2.symm⟩
  · rw [List.getElem?_eq_none (by simpa using hi)] at h1
    simp at h1
def limbsF (z : Nat → Nat) : Nat → AV := fun i => .int .u32 (z i : Nat)
theorem avLe0_tab_mag {n N : Nat} {f : Nat → AV} (hn : nl N = n) (hf : ∀ i, i < n → f i = .int .u32 (limb N i : Nat)) : avLe0 (.tab 1 n f) (.mag N) := by
  subst hn
  refine ⟨rfl, fun M w cs hc => ?_⟩
  cases hc with
  | tab h1 h2 h3 h4 h5 h6 =>
    rename_i base cap cs cf
    cases h6
    have hcf : ∀ i, i < nl N → cf i = [.int .u32 (limb N i)] := fun i hi => by
      have := h5 i hi
      rw [hf i hi] at this
      revert this
      generalize cf i = l
      intro this
      cases this with
      | int h => cases h; rfl
    refine .mag ?_ h3 .nil
    rcases h1 with h1 | ⟨b, o, rfl, hm⟩
    · refine .inl ?_
      unfold nl at h1
      split at h1
      · assumption
      · omega
    · by_cases h0 : nl N = 0
      · refine .inl ?_
        unfold nl at h0
        split at h0
        · assumption
        · omega
      · refine .inr ⟨b, o, rfl, ?_⟩
        obtain ⟨c, ty, fr, g1, g2, g3⟩ := hm 0 (by omega)
        refine ⟨c, ty, fr, g1, g2, fun i v hv => ?_⟩
        obtain ⟨hi, rfl⟩ := limbsV_inv hv
        obtain ⟨c', ty', fr', g1', g2', g3'⟩ := hm i hi
        rw [g1] at g1'
        simp only [Option.some.injEq, Obj.cells.injEq] at g1'
        obtain ⟨rfl, rfl, rfl⟩ := g1'
        have := g3' 0 _ (by rw [hcf i hi]; rfl)
        simpa using this
theorem avLe0_mag_tab {N n : Nat} {f : Nat → AV} (hn : n = nl N) (hf : ∀ i, i < n → f i = .int .u32 (limb N i : Nat)) : avLe0 (.mag N) (.tab 1 n f) := by
  subst hn
  refine ⟨rfl, fun M w cs hc => ?_⟩
  cases hc with
  | mag h1 h2 h3 =>
    cases h3
    refine .tab (cf := fun i => [.int .u32 (limb N i)]) ?_ (by omega) h2 (fun _ _ => rfl) (fun i hi => by rw [hf i hi]; exact .int .nil) .nil
    rcases h1 with rfl | ⟨b, o, rfl, c, ty, fr, g1, g2, g3⟩
    · exact .inl (by simp [nl])
    · refine .inr ⟨b, o, rfl, fun i hi => ⟨c, ty, fr, g1, g2, fun j v hj => ?_⟩⟩
      cases j with
      | zero =>
        simp only [List.getElem?_cons_zero, Option.some.injEq] at hj
        subst hj
        have := g3 i _ (limbsV_get hi)
        simpa using this
      | succ j => simp at hj
theorem avLe0_nil_tab {es : Nat} {f : Nat → AV} (h : 0 < es) : avLe0 .nil (.tab es 0 f) := by
  refine ⟨rfl, fun M w cs hc => ?_⟩
  cases hc with
  | vnil h1 =>
    cases h1
    exact .tab (cf := fun _ => []) (.inl rfl) h (by omega) (fun i hi => by omega) (fun i hi => by omega) .nil
theorem avLe0_nil_mag : avLe0 .nil (.mag 0) := (avLe0_nil_tab (es := 1) (f := fun _ => .nil) (by omega)).trans (avLe0_tab_mag (by simp [nl]) fun i hi => by omega)
theorem avLe0_rat {b : Bool} {x y : Nat} {q : Rat} {n : Nat} (hs : Sz q n) (hb : b = decide (q < 0)) (hx : x = q.num.natAbs) (hy : y = if q.den = 1 then 0 else q.den) : avLe0 (.agg [.bool b, .mag x, .mag y]) (.rat q n) := by
  subst hb hx
  refine ⟨rfl, fun M w cs hc => ?_⟩
  cases hc with
  | agg h1 h2 =>
    cases h2
    cases h1 with
    | bool h1 =>
      obtain ⟨c1, c2, rfl, h1, h2⟩ := h1.split
      have l1 := h1.length
      have l2 := h2.length
      simp only [sizes, size] at l1 l2
      match c1, c2, l1, l2 with
      | [x], [y], _, _ => exact .rat hs h1 (hy ▸ h2) .nil
theorem avLe0_rat_agg {q : Rat} {n : Nat} : avLe0 (.rat q n) (.agg (AV.kids (.rat q n))) := by
  refine ⟨rfl, fun M w cs hc => ?_⟩
  cases hc with
  | rat hs h1 h2 h3 => cases h3; exact .agg (.bool (h1.cons h2)) .nil
theorem avLe0_rat_more {q : Rat} {n m : Nat} (h : n ≤ m) : avLe0 (.rat q n) (.rat q m) := by
  refine ⟨rfl, fun M w cs hc => ?_⟩
  cases hc with
  | rat hs h1 h2 h3 =>
    cases h3
    exact .rat ⟨Nat.lt_of_lt_of_le hs.1 (Nat.pow_le_pow_right (by omega) h), Nat.lt_of_lt_of_le hs.2 (Nat.pow_le_pow_right (by omega) h)⟩ h1 h2 .nil
def zipL {α : Type} : List Nat → List α → List (Nat × α)
  | k :: ks, a :: l => (k, a) :: zipL ks l
  | _, _ => []
def avLes (ρ : Nat → Option Nat) : List AV → List AV → Prop
  | [], [] => True
  | u :: us, v :: vs => (u.isTuple = false ∧ avLe ρ u v) ∧ avLes ρ us vs
  | _, _ => False
def objLes (ρ : Nat → Option Nat) (os : Store) : Store → Prop
  | [] => True
  | (k2, o2) :: ps => (∃ k1 o1, ρ k2 = some k1 ∧ look k1 os = some o1 ∧ objLe ρ o1 o2) ∧ objLes ρ os ps
theorem slotOf_look {s : AState} {t : Nat} (h : (slotOf s t).isTuple = false) : look t s.slots = some (slotOf s t) := by
  unfold slotOf at h ⊢
  split
  · assumption
  · rename_i hn
    rw [hn] at h
    simp [isTuple] at h
theorem view_slots {s : AState} : ∀ {ls : List Nat} {vs : List AV} {ρ : Nat → Option Nat}, avLes ρ (allSlots s ls) vs → ∀ t v, look t (zipL ls vs) = some v → ∃ u, look t s.slots = some u ∧ u.isTuple = false ∧ avLe ρ u v
  | [], vs, ρ, _, t, v, h => by simp [zipL, look] at h
  | x :: ls, vs, ρ, hle, t, v, h => by
    cases vs with
    | nil => exact hle.elim
    | cons b vs =>
      simp only [zipL, look] at h
      split at h
      · rename_i he
        have : x = t := by simpa using he
        subst this
        simp only [Option.some.injEq] at h
        subst h
        exact ⟨_, slotOf_look hle.1.1, hle.1.1, hle.1.2⟩
      · exact view_slots hle.2 t v h
theorem view_objs {os : Store} : ∀ {ps : Store} {ρ : Nat → Option Nat}, objLes ρ os ps → ∀ k2 o2, look k2 ps = some o2 → ∃ k1 o1, ρ k2 = some k1 ∧ look k1 os = some o1 ∧ objLe ρ o1 o2
  | [], _, _, _, _, h => by simp [look] at h
  | (j, b) :: ps, ρ, hle, t, v, h => by
    simp only [look] at h
    split at h
    · rename_i he
      have : j = t := by simpa using he
      subst this
      simp only [Option.some.injEq] at h
      subst h
      exact hle.1
    · exact view_objs hle.2 t v h
def ren (l : List (Nat × Nat)) : Nat → Option Nat := fun k => look k l
def renOK (nx : Nat) (l : List (Nat × Nat)) : Bool := l.all fun p => decide (p.1 < nx) && l.all fun q => p.2 != q.2 || p.1 == q.1
theorem look_mem {α : Type} {k : Nat} {a : α} : ∀ {l : List (Nat × α)}, look k l = some a → (k, a) ∈ l
  | [], h => by simp [look] at h
  | (j, b) :: l, h => by
    simp only [look] at h
    split at h
    · rename_i he
      have : j = k := by simpa using he
      subst this
      simp only [Option.some.injEq] at h
      subst h
      simp
    · exact List.mem_cons_of_mem _ (look_mem h)
def objLesV (nx : Nat) (ρ : Nat → Option Nat) (os : Store) : Store → Prop
  | [] => True
  | (k2, o2) :: ps => ((∃ k1 o1, ρ k2 = some k1 ∧ look k1 os = some o1 ∧ objLe ρ o1 o2) ∨ (ρ k2 = none ∧ Virt o2 ∧ k2 < nx)) ∧ objLesV nx ρ os ps
theorem objLes.toV {nx : Nat} {ρ : Nat → Option Nat} {os : Store} : ∀ {ps : Store}, objLes ρ os ps → objLesV nx ρ os ps
  | [], _ => trivial
  | (_, _) :: _, h => ⟨.inl h.1, objLes.toV h.2⟩
theorem view_objsV {nx : Nat} {os : Store} : ∀ {ps : Store} {ρ : Nat → Option Nat}, objLesV nx ρ os ps → ∀ k2 o2, look k2 ps = some o2 → (∃ k1 o1, ρ k2 = some k1 ∧ look k1 os = some o1 ∧ objLe ρ o1 o2) ∨ (ρ k2 = none ∧ Virt o2 ∧ k2 < nx)
  | [], _, _, _, _, h => by simp [look] at h
  | (j, b) :: ps, ρ, hle, t, v, h => by
    simp only [look] at h
    split at h
    · rename_i he
      have : j = t := by simpa using he
      subst this
      simp only [Option.some.injEq] at h
      subst h
      exact hle.1
    · exact view_objsV hle.2 t v h
theorem le_viewK {c : Ctx} {s' : AState} {ls : List Nat} {us vs : List AV} {os ps : Store} {nx : Nat} (rl : List (Nat × Nat)) (hv : viewAV ls s' = some (us, os)) (hk0 : ∀ k x, c.k0 k = some x → look k rl = some k) (hr : renOK nx rl = true)
    (hs : avLes (ren rl) us vs) (ho : objLesV nx (ren rl) os ps) : ∃ ρ, Le c ρ s' ⟨zipL ls vs, ps, nx⟩ := by
  unfold viewAV at hv
  · simp only [Option.some.injEq, Prod.mk.injEq] at hv
    obtain ⟨rfl, rfl⟩ := hv
    have hall : ∀ p ∈ rl, p.1 < nx ∧ ∀ q ∈ rl, p.2 = q.2 → p.1 = q.1 := fun p hp => by
      have := List.all_eq_true.1 hr p hp
      simp only [Bool.and_eq_true, decide_eq_true_eq] at this
      refine ⟨this.1, fun q hq he => ?_⟩
      have h3 := List.all_eq_true.1 this.2 q hq
      simpa [he] using h3
    refine ⟨ren rl, ?_, view_slots hs, fun k2 o2 hk => ?_, fun k2 k1 hk => (hall _ (look_mem hk)).1, hk0⟩
    · intro a b k ha hb
      exact (hall _ (look_mem ha)).2 _ (look_mem hb) rfl
    · refine (view_objsV ho k2 o2 hk).imp (fun ⟨k1, o1, g1, g2, g3⟩ => ⟨k1, o1, g1, ?_, g3⟩) id
      rw [look_pick] at g2
      split at g2
      · exact g2
      · simp at g2
theorem le_view {c : Ctx} {s' : AState} {ls : List Nat} {us vs : List AV} {os ps : Store} {nx : Nat} (rl : List (Nat × Nat)) (hv : viewAV ls s' = some (us, os)) (hk0 : c.k0 = noKeys) (hr : renOK nx rl = true)
    (hs : avLes (ren rl) us vs) (ho : objLes (ren rl) os ps) : ∃ ρ, Le c ρ s' ⟨zipL ls vs, ps, nx⟩ :=
  le_viewK rl hv (fun k x hk => by rw [hk0] at hk; simp [noKeys] at hk) hr hs ho.toV
theorem objLe_of {ρ : Nat → Option Nat} {r w : Bool} {es n m : Nat} {f g : Nat → AV} (hn : m = n) (h : ∀ i, i < n → avLe ρ (f i) (g i)) : objLe ρ ⟨r, w, es, n, f⟩ ⟨r, w, es, m, g⟩ := ⟨rfl, rfl, rfl, hn, h⟩
theorem fok_weak {P : Program} {f : FuncId} {K : Nat} {args args' : List AV} {r : CRes} (hf : FOK P f K args' [] r) (hk : keysL args = []) (h : avLes0 args args') (pre : Store) : FOK P f K args pre r := by
  refine FOK.frame (pre := []) ?_ (fun k o hk => by simp [look] at hk)
  intro need
  obtain ⟨h1, h2⟩ := hf need
  refine ⟨h1, fun c D D' β w vs hw0 hMw hrel hD hK hv => h2 c D D' β w vs hw0 hMw hrel hD hK ?_⟩
  have h3 := avLes0_ok h (hv.noKeys hk)
  exact h3.mono (fun b o h1 h2 => ⟨h2, h1⟩) fun k x hx => by simp [noKeys] at hx
def pureSpec (g : List AV → Option CRes) : Spec := fun _ args pre => match frzL pre args with
  | some ar => match g ar with
    | some r => match r.post with
      | [] => some r
      | _ => none
    | none => none
  | none => none
mutual
theorem frz_keys {pre : Store} : ∀ {v u : AV}, frz pre v = some u → keys u = []
  | .bool _, u, h => by simp only [frz, Option.some.injEq] at h; subst h; rfl
  | .int _ _, u, h => by simp only [frz, Option.some.injEq] at h; subst h; rfl
  | .rat _ _, u, h => by simp only [frz, Option.some.injEq] at h; subst h; rfl
  | .mag _, u, h => by simp only [frz, Option.some.injEq] at h; subst h; rfl
  | .tab _ _ _, u, h => by simp only [frz, Option.some.injEq] at h; subst h; rfl
  | .ntab _ _ _ _, u, h => by simp only [frz, Option.some.injEq] at h; subst h; rfl
  | .nil, u, h | .void, u, h | .str _, u, h => by simp only [frz, Option.some.injEq] at h; subst h; rfl
  | .cref _, u, h => by simp only [frz, Option.some.injEq] at h; subst h; rfl
  | .ptr _ _ _ _ _, u, h => by simp [frz] at h
  | .tuple _, u, h => by simp [frz] at h
  | .capd c v, u, h => by
    simp only [frz] at h
    split at h
    · rename_i m hm
      simp only [Option.some.injEq] at h; subst h
      simp only [keys]; exact frz_keys hm
    · simp at h
  | .func f l, u, h => by
    simp only [frz] at h
    split at h
    · rename_i m hm
      split at h
      · simp only [Option.some.injEq] at h; subst h
        simp only [keys]; exact frzL_keys hm
      · simp at h
    · simp at h
  | .own k es s n, u, h => by
    simp only [frz] at h
    split at h
    · split at h
      · simp only [Option.some.injEq] at h; subst h; rfl
      · simp at h
    · simp at h
  | .agg l, u, h => by
    simp only [frz] at h
    split at h
    · rename_i m hm
      simp only [Option.some.injEq] at h; subst h
      simp only [keys]; exact frzL_keys hm
    · simp at h
theorem frzL_keys {pre : Store} : ∀ {l m : List AV}, frzL pre l = some m → keysL m = []
  | [], m, h => by simp only [frzL, Option.some.injEq] at h; subst h; rfl
  | a :: l, m, h => by
    simp only [frzL] at h
    split at h
    · rename_i b m' h1 h2
      simp only [Option.some.injEq] at h; subst h
      simp only [keysL, frz_keys h1, frzL_keys h2, List.append_nil]
    · simp at h
end
theorem pureSpec_ok {P : Program} {f : FuncId} {g : List AV → Option CRes} (h : ∀ K args r, keysL args = [] → g args = some r → r.post = [] → FOK P f K args [] r) :
    ∀ K args pre r, pureSpec g K args pre = some r → FOK P f K args pre r := by
  intro K args pre r hg
  unfold pureSpec at hg
  split at hg
  · rename_i ar has
    split at hg
    · rename_i r' hr'
      split at hg
      · rename_i hp
        simp only [Option.some.injEq] at hg
        subst hg
        have hf := h K ar r' (frzL_keys has) hr' hp
        intro need
        obtain ⟨h1, h2⟩ := hf need
        refine ⟨fun k o ho => by rw [hp] at ho; simp [look] at ho, fun c D D' β w vs hw0 hMw hrel hD hK hv => ?_⟩
        have hv' : VReps (Mset c pre β) w noKeys ar vs := frzL_vreps hrel (fun _ _ h => h) has hv
        exact (hf.frame (pre' := pre) (fun k o hk => by simp [look] at hk)).use need hrel (fun _ _ h => h) hD hK (hv'.mono (fun b o h1 h2 => ⟨h2, h1⟩) fun k x hx => by simp [noKeys] at hx)
      · simp at hg
    · simp at hg
  · simp at hg
end Go.Am

/- Parts of code; a piece of code inside a chain; loops. -/
namespace Go.Am
def part : Code → List Nat → Code
  | c, [] => c
  | .seq x _, 0 :: p => part x p
  | .seq _ y, _ :: p => part y p
  | .cond _ x _, 0 :: p => part x p
  | .cond _ _ y, _ :: p => part y p
  | .block _ x, _ :: p => part x p
  | .loop x, _ :: p => part x p
  | _, _ => .skip
def before : Code → List Nat → List Code
  | .seq x _, 0 :: p => before x p
  | .seq x y, _ :: p => x :: before y p
  | _, _ => []
def behind : Code → List Nat → List Code
  | .seq x y, 0 :: p => behind x p ++ [y]
  | .seq _ y, _ :: p => behind y p
  | _, _ => []
def chain : Code → List Nat → Bool
  | _, [] => true
  | .seq x _, 0 :: p => chain x p
  | .seq _ y, _ :: p => chain y p
  | _, _ => false
def codeOf (fn : Func) : Code := match fn.body with
  | some x => x
  | none => .skip
def thenDo (k : AState → Prop) (Q : AEx → AState → Prop) : AEx → AState → Prop
  | .normal, s => k s
  | e, s => Q e s
def AWpL (P : Program) (c : Ctx) (nt : Nat) : List Code → AState → (AEx → AState → Prop) → Prop
  | [], s, Q => Q .normal s
  | x :: l, s, Q => AWp P c nt x s (thenDo (fun s' => AWpL P c nt l s' Q) Q)
section rules
variable {P : Program} {c : Ctx} {nt : Nat} {s : AState} {Q : AEx → AState → Prop}
theorem AWp.seq2 {x y : Code} (h : AWp P c nt x s (thenDo (fun s' => AWp P c nt y s' Q) Q)) : AWp P c nt (.seq x y) s Q :=
  .seq (h.mono fun e s' h => by cases e <;> exact h)
theorem AWpL.mono {Q Q' : AEx → AState → Prop} (hq : ∀ e s', Q e s' → Q' e s') : ∀ {l : List Code} {s : AState}, AWpL P c nt l s Q → AWpL P c nt l s Q'
  | [], _, h => hq _ _ h
  | x :: l, s, h => AWp.mono h fun e s' h => by
    cases e with
    | normal => exact AWpL.mono hq (l := l) h
    | exit i => exact hq _ _ h
    | ret => exact hq _ _ h
theorem AWpL.append {Q : AEx → AState → Prop} : ∀ {a b : List Code} {s : AState}, AWpL P c nt (a ++ b) s Q → AWpL P c nt a s (thenDo (fun s' => AWpL P c nt b s' Q) Q)
  | [], b, s, h => h
  | x :: a, b, s, h => AWp.mono h fun e s' h => by
    cases e with
    | normal => exact AWpL.append (a := a) h
    | exit i => exact h
    | ret => exact h
theorem AWp.hole : ∀ (p : List Nat) {x : Code} {s : AState} {Q : AEx → AState → Prop}, chain x p = true →
    AWpL P c nt (before x p) s (thenDo (fun s' => AWp P c nt (part x p) s' (thenDo (fun s'' => AWpL P c nt (behind x p) s'' Q) Q)) Q) → AWp P c nt x s Q
  | [], x, s, Q, _, h => by
    have hb : before x [] = [] := by cases x <;> rfl
    have hh : behind x [] = [] := by cases x <;> rfl
    have hp : part x [] = x := by cases x <;> rfl
    rw [hb, hh, hp] at h
    exact AWp.mono h fun e s' h => by cases e <;> exact h
  | 0 :: p, .seq x y, s, Q, hc, h => by
    refine .seq2 (AWp.hole p (x := x) hc ?_)
    refine AWpL.mono ?_ h
    intro e s' h1
    cases e with
    | normal =>
      refine AWp.mono h1 ?_
      intro e s'' h2
      cases e with
      | normal =>
        refine AWpL.mono ?_ (AWpL.append h2)
        intro e s3 h3
        cases e with
        | normal => exact AWp.mono h3 fun e s' h => by cases e <;> exact h
        | exit i => exact h3
        | ret => exact h3
      | exit i => exact h2
      | ret => exact h2
    | exit i => exact h1
    | ret => exact h1
  | (n + 1) :: p, .seq x y, s, Q, hc, h => by
    refine .seq2 (AWp.mono h ?_)
    intro e s' h1
    cases e with
    | normal => exact AWp.hole p (x := y) hc h1
    | exit i => exact h1
    | ret => exact h1
  | _ :: _, .cond _ _ _, _, _, hc, _ => by simp [chain] at hc
  | _ :: _, .block _ _, _, _, hc, _ => by simp [chain] at hc
  | _ :: _, .loop _, _, _, hc, _ => by simp [chain] at hc
  | _ :: _, .region _ _ _, _, _, hc, _ => by simp [chain] at hc
  | _ :: _, .skip, _, _, hc, _ => by simp [chain] at hc
  | _ :: _, .label _, _, _, hc, _ => by simp [chain] at hc
  | _ :: _, .exit _, _, _, hc, _ => by simp [chain] at hc
  | _ :: _, .ret, _, _, hc, _ => by simp [chain] at hc
  | _ :: _, .scope _, _, _, hc, _ => by simp [chain] at hc
  | _ :: _, .goto _, _, _, hc, _ => by simp [chain] at hc
  | _ :: _, .refuse _, _, _, hc, _ => by simp [chain] at hc
  | _ :: _, .rangeFunc _ _ _ _, _, _, hc, _ => by simp [chain] at hc
def inBlock (i : Nat) (Q : AEx → AState → Prop) : AEx → AState → Prop
  | .exit j, s => if j = i then Q .normal s else Q (.exit j) s
  | e, s => Q e s
theorem AWp.block2 {i : Nat} {x : Code} (h : AWp P c nt x s (inBlock i Q)) : AWp P c nt (.block i x) s Q :=
  .block (h.mono fun e s' h => by cases e <;> exact h)
theorem AWp.whileLe {x y : Code} {i : Nat} (hx : x = .block i (.loop y)) {α : Type} (S : α → AState) (I : α → Prop) (μ : α → Nat) (j : α) (hs : ∃ ρ, Le c ρ s (S j)) (h0 : I j)
    (round : ∀ j, I j → AWp P c nt y (S j) (thenDo (fun s' => ∃ k, (∃ ρ, Le c ρ s' (S k)) ∧ I k ∧ μ k < μ j) (inBlock i Q))) : AWp P c nt x s Q := by
  subst hx
  exact .block2 (.loopLe S I μ j hs h0 fun j hj => (round j hj).mono fun e s' h => by cases e <;> exact h)
variable {T : Types} (hT : TOK P T) {Γ : Contracts} (hΓ : GOK P Γ) (hm : P.follows .mixedOrders = true)
def treeL (T : Types) (Γ : Contracts) (forks : List Nat) (n : Nat) : List Code → AState → Option (ATree AState)
  | [], s => some (.leaf .normal s)
  | x :: l, s => match treeAV T Γ forks n x s with
    | some t => t.bind fun e s' => match e with
      | .normal => treeL T Γ forks n l s'
      | .exit i => some (.leaf (.exit i) s')
      | .ret => some (.leaf .ret s')
    | none => none
include hT hΓ hm in
theorem treeL_ok {forks : List Nat} {n : Nat} : ∀ {l : List Code} {s : AState} {t : ATree AState}, (l.all fun x => dstOK nt x) = true → treeL T Γ forks n l s = some t → t.all Q → AWpL P c nt l s Q
  | [], s, t, _, h, ht => by
    simp only [treeL, Option.some.injEq] at h
    subst h
    exact ht
  | x :: l, s, t, hd, h, ht => by
    simp only [List.all_cons, Bool.and_eq_true] at hd
    simp only [treeL] at h
    cases hx : treeAV T Γ forks n x s with
    | none => rw [hx] at h; simp at h
    | some u =>
      rw [hx] at h
      refine treeAV_ok hT hΓ hm n hd.1 hx (ATree.all_mono ?_ (ATree.bind_all h ht))
      rintro e s' ⟨v, h1, h2⟩
      cases e with
      | normal => exact treeL_ok hd.2 h1 h2
      | exit i => simp only [Option.some.injEq] at h1; subst h1; exact h2
      | ret => simp only [Option.some.injEq] at h1; subst h1; exact h2
def seeL (T : Types) (Γ : Contracts) (forks : List Nat) (n : Nat) (ls : List Nat) (l : List Code) (s : AState) : Option (ATree (List AV × Store)) :=
  match treeL T Γ forks n l s with
  | some t => t.bind (viewT ls)
  | none => none
include hT hΓ hm in
theorem AWpL.see {forks : List Nat} (n : Nat) (ls : List Nat) {l : List Code} {s : AState} {t : ATree (List AV × Store)} (hc : seeL T Γ forks n ls l s = some t) (hd : (l.all fun x => dstOK nt x) = true)
    (h : t.all fun e v => ∀ s', viewAV ls s' = some v → Q e s') : AWpL P c nt l s Q := by
  unfold seeL at hc
  split at hc
  · rename_i u hx
    refine treeL_ok hT hΓ hm hd hx (ATree.all_mono ?_ (ATree.bind_all hc h))
    rintro e s' ⟨v, h1, h2⟩
    unfold viewT at h1
    cases hv : viewAV ls s' with
    | none => rw [hv] at h1; simp at h1
    | some z =>
      rw [hv] at h1
      simp only [Option.some.injEq] at h1
      subst h1
      exact h2 s' hv
  · simp at hc
include hT hΓ hm in
theorem AWp.see {x : Code} {forks : List Nat} (n : Nat) (ls : List Nat) {t : ATree (List AV × Store)} (hc : seeL T Γ forks n ls [x] s = some t) (hd : dstOK nt x = true)
    (h : t.all fun e v => ∀ s', viewAV ls s' = some v → Q e s') : AWp P c nt x s Q := by
  have := AWpL.see (P := P) (c := c) (nt := nt) (l := [x]) (Q := Q) hT hΓ hm n ls hc (by simp [hd]) h
  exact AWp.mono this fun e s' h => by cases e <;> exact h
def endL (T : Types) (Γ : Contracts) (forks : List Nat) (n : Nat) (fn : Func) (l : List Code) (s : AState) : Option (ATree (List AV)) :=
  match treeL T Γ forks n l s with
  | some t => t.bind (endT T fn)
  | none => none
def Fin (T : Types) (fn : Func) (res : AV) (e : AEx) (s : AState) : Prop := (e = .normal ∨ e = .ret) ∧ Ends T fn res s
theorem endT_ok {fn : Func} {e : AEx} {s' : AState} {v : ATree (List AV)} {res : AV} (h1 : endT T fn e s' = some v) (h2 : v.all fun _ us => resOK us res) : Fin T fn res e s' := by
  unfold endT at h1
  have key : ∀ {e' : AEx}, (match resultsAV T s' fn.results.toList with
      | some (vs, q) => match frzL (freezeAll (pick s'.store (AV.keysL vs))) vs with
        | some us => some (ATree.need q (.leaf e' us))
        | none => none
      | none => none) = some v → Ends T fn res s' := by
    intro e' h1
    cases hr : resultsAV T s' fn.results.toList with
    | none => rw [hr] at h1; simp at h1
    | some p =>
      obtain ⟨vs, q⟩ := p
      rw [hr] at h1
      simp only at h1
      cases hf : frzL (freezeAll (pick s'.store (AV.keysL vs))) vs with
      | none => rw [hf] at h1; simp at h1
      | some us =>
        rw [hf] at h1
        simp only [Option.some.injEq] at h1
        subst h1
        obtain ⟨g1, g2⟩ := ATree.all_need.1 h2
        exact ⟨vs, q, us, hr, g1, hf, g2⟩
  cases e with
  | normal => exact ⟨.inl rfl, key h1⟩
  | ret => exact ⟨.inr rfl, key h1⟩
  | exit i => simp at h1
include hT hΓ hm in
theorem AWpL.fin {fn : Func} {forks : List Nat} (n : Nat) {l : List Code} {s : AState} {t : ATree (List AV)} (hc : endL T Γ forks n fn l s = some t) (hd : (l.all fun x => dstOK nt x) = true) {res : AV}
    (h : t.all fun _ us => resOK us res) : AWpL P c nt l s (Fin T fn res) := by
  unfold endL at hc
  split at hc
  · rename_i u hx
    refine treeL_ok hT hΓ hm hd hx (ATree.all_mono ?_ (ATree.bind_all hc h))
    rintro e s' ⟨v, h1, h2⟩
    exact endT_ok h1 h2
  · simp at hc
theorem AWpL.weak {l : List Code} {s2 : AState} (hl : l.isEmpty = false) (hle : ∃ ρ, Le c ρ s s2) (h : AWpL P c nt l s2 Q) : AWpL P c nt l s Q := by
  obtain ⟨ρ, hle⟩ := hle
  cases l with
  | nil => simp at hl
  | cons x l => exact AWp.weak hle h
theorem AWp.weakE {x : Code} {s2 : AState} (hle : ∃ ρ, Le c ρ s s2) (h : AWp P c nt x s2 Q) : AWp P c nt x s Q := by
  obtain ⟨ρ, hle⟩ := hle
  exact AWp.weak hle h
end rules
theorem fnIs {P : Program} {f : FuncId} {fn : Func} (h : P.funcs[f]? = some fn) (hb : fn.body.isSome = true) (hn : (fn.name == "runtime.NumGoroutine") = false) (hd : dstOK fn.ntmps (codeOf fn) = true) : FnIs P f fn (codeOf fn) := by
  refine ⟨h, ?_, hn, hd⟩
  unfold codeOf
  cases hbd : fn.body with
  | none => rw [hbd] at hb; simp at hb
  | some x => rfl
end Go.Am

/- Plain laws of limbs. -/
namespace Go.Am
def val : Nat → (Nat → Nat) → Nat
  | 0, _ => 0
  | n + 1, z => val n z + z n * 2 ^ (32 * n)
theorem val_lt {z : Nat → Nat} : ∀ {n : Nat}, (∀ i, i < n → z i < 2 ^ 32) → val n z < 2 ^ (32 * n)
  | 0, _ => by simp [val]
  | n + 1, h => by
    have ih := val_lt (z := z) (n := n) fun i hi => h i (by omega)
    have h1 := h n (by omega)
    have : z n * 2 ^ (32 * n) + 2 ^ (32 * n) ≤ 2 ^ 32 * 2 ^ (32 * n) := by
      rw [← Nat.succ_mul]; exact Nat.mul_le_mul_right _ h1
    have e : 2 ^ (32 * (n + 1)) = 2 ^ 32 * 2 ^ (32 * n) := by rw [← Nat.pow_add]; congr 1; omega
    rw [e, val]; omega
theorem val_congr {z y : Nat → Nat} : ∀ {n : Nat}, (∀ i, i < n → z i = y i) → val n z = val n y
  | 0, _ => rfl
  | n + 1, h => by rw [val, val, val_congr fun i hi => h i (by omega), h n (by omega)]
theorem val_trunc {z : Nat → Nat} {k : Nat} : ∀ {n : Nat}, k ≤ n → (∀ i, k ≤ i → i < n → z i = 0) → val n z = val k z
  | 0, h, _ => by have : k = 0 := by omega
                  subst this; rfl
  | n + 1, h, hz => by
    by_cases hk : k = n + 1
    · subst hk; rfl
    · rw [val, val_trunc (n := n) (by omega) fun i h1 h2 => hz i h1 (by omega), hz n (by omega) (by omega)]
      simp
theorem limb_val {z : Nat → Nat} : ∀ {n i : Nat}, (∀ j, j < n → z j < 2 ^ 32) → i < n → limb (val n z) i = z i
  | 0, i, _, hi => by omega
  | n + 1, i, h, hi => by
    unfold limb
    rw [val]
    by_cases he : i = n
    · subst he
      have := val_lt (z := z) (n := i) fun j hj => h j (by omega)
      rw [Nat.add_mul_div_right _ _ (Nat.two_pow_pos _), Nat.div_eq_of_lt this, Nat.zero_add]
      exact Nat.mod_eq_of_lt (h i (by omega))
    · have ih := limb_val (z := z) (n := n) (i := i) (fun j hj => h j (by omega)) (by omega)
      unfold limb at ih
      have e : 2 ^ (32 * n) = 2 ^ 32 * 2 ^ (32 * (n - i - 1)) * 2 ^ (32 * i) := by
        rw [← Nat.pow_add, ← Nat.pow_add]; congr 1; omega
      rw [e, ← Nat.mul_assoc, Nat.add_mul_div_right _ _ (Nat.two_pow_pos _), ← ih]
      rw [show z n * (2 ^ 32 * 2 ^ (32 * (n - i - 1))) = 2 ^ 32 * (z n * 2 ^ (32 * (n - i - 1))) by
        rw [← Nat.mul_assoc, Nat.mul_comm (z n), Nat.mul_assoc]]
      rw [Nat.add_mul_mod_self_left]
theorem limb_lt {N i : Nat} : limb N i < 2 ^ 32 := Nat.mod_lt _ (by decide)
theorem val_limb_mod {N : Nat} : ∀ {n : Nat}, val n (limb N) = N % 2 ^ (32 * n)
  | 0 => by simp [val, Nat.mod_one]
  | n + 1 => by
    rw [val, val_limb_mod, limb]
    have e : 2 ^ (32 * (n + 1)) = 2 ^ (32 * n) * 2 ^ 32 := by rw [← Nat.pow_add]; congr 1
    rw [e, Nat.mod_mul, Nat.mul_comm (2 ^ (32 * n))]
theorem val_limb {N n : Nat} (h : N < 2 ^ (32 * n)) : val n (limb N) = N := by rw [val_limb_mod, Nat.mod_eq_of_lt h]
theorem nl_spec {N n : Nat} : nl N ≤ n ↔ N < 2 ^ (32 * n) := by
  unfold nl
  by_cases h : N = 0
  · subst h; simp [Nat.two_pow_pos]
  · rw [if_neg h]
    rw [← Nat.log2_lt h]
    omega
theorem lt_nl {N : Nat} : N < 2 ^ (32 * nl N) := nl_spec.1 (Nat.le_refl _)
theorem val_nl {N : Nat} : val (nl N) (limb N) = N := val_limb lt_nl
theorem le_val {z : Nat → Nat} {n : Nat} (h0 : 0 < n) (h : z (n - 1) ≠ 0) : 2 ^ (32 * (n - 1)) ≤ val n z := by
  obtain ⟨m, rfl⟩ : ∃ m, n = m + 1 := ⟨n - 1, by omega⟩
  rw [val]
  simp only [Nat.add_sub_cancel] at h ⊢
  have : 1 * 2 ^ (32 * m) ≤ z m * 2 ^ (32 * m) := Nat.mul_le_mul_right _ (by omega)
  omega
theorem nl_val {z : Nat → Nat} {n : Nat} (hz : ∀ i, i < n → z i < 2 ^ 32) (h : n = 0 ∨ z (n - 1) ≠ 0) : nl (val n z) = n := by
  rcases Nat.eq_zero_or_pos n with rfl | h0
  · simp [val, nl]
  · have h1 : nl (val n z) ≤ n := nl_spec.2 (val_lt hz)
    have h2 : ¬ nl (val n z) ≤ n - 1 := by
      rw [nl_spec]
      have := le_val h0 (h.resolve_left (by omega))
      omega
    omega
theorem limb_top {N : Nat} (h : N ≠ 0) : limb N (nl N - 1) ≠ 0 := by
  intro h0
  have hn : 0 < nl N := by unfold nl; rw [if_neg h]; omega
  have h1 : val (nl N) (limb N) = val (nl N - 1) (limb N) := val_trunc (by omega) fun i h1 h2 => by
    have : i = nl N - 1 := by omega
    rw [this, h0]
  rw [val_nl] at h1
  have h3 : N < 2 ^ (32 * (nl N - 1)) := by
    exact Nat.lt_of_le_of_lt (Nat.le_of_eq h1) (val_lt (z := limb N) (n := nl N - 1) fun i _ => limb_lt)
  have h2 : nl N ≤ nl N - 1 := nl_spec.2 h3
  omega
theorem nl_pos {N : Nat} : 0 < nl N ↔ N ≠ 0 := by
  unfold nl
  split <;> simp_all
theorem nl_mono {a b : Nat} (h : a ≤ b) : nl a ≤ nl b := nl_spec.2 (Nat.lt_of_le_of_lt h lt_nl)
theorem wrap_i64 {x : Int} (h1 : -2 ^ 63 ≤ x) (h2 : x < 2 ^ 63) : IntKind.i64.wrap x = x := by
  simp [IntKind.wrap, IntKind.bits, IntKind.signed]; omega
theorem wrap_u64 {x : Int} (h1 : 0 ≤ x) (h2 : x < 2 ^ 64) : IntKind.u64.wrap x = x := by
  simp [IntKind.wrap, IntKind.bits, IntKind.signed]; omega
theorem wrap_u64_mod {x : Int} : IntKind.u64.wrap x = x % 2 ^ 64 := by
  simp [IntKind.wrap, IntKind.bits, IntKind.signed]
theorem wrap_u32_mod {x : Int} : IntKind.u32.wrap x = x % 2 ^ 32 := by
  simp [IntKind.wrap, IntKind.bits, IntKind.signed]
theorem wrap_u32 {x : Int} (h1 : 0 ≤ x) (h2 : x < 2 ^ 32) : IntKind.u32.wrap x = x := by
  rw [wrap_u32_mod]; omega
theorem wrap_u64_nat {x : Nat} : IntKind.u64.wrap (x : Int) = (x % 2 ^ 64 : Nat) := by
  rw [wrap_u64_mod]; omega
theorem wrap_u32_nat {x : Nat} : IntKind.u32.wrap (x : Int) = (x % 2 ^ 32 : Nat) := by
  rw [wrap_u32_mod]; omega
theorem or_u64 {a b : Nat} (ha : a < 2 ^ 64) (hb : b < 2 ^ 64) :
    IntKind.u64.wrap ((BitVec.ofInt IntKind.u64.bits (a : Int) ||| BitVec.ofInt IntKind.u64.bits (b : Int)).toNat : Int) = ((a ||| b : Nat) : Int) := by
  have e : (BitVec.ofInt IntKind.u64.bits (a : Int) ||| BitVec.ofInt IntKind.u64.bits (b : Int)).toNat = a ||| b := by
    rw [BitVec.toNat_or, BitVec.ofInt_natCast, BitVec.ofInt_natCast, BitVec.toNat_ofNat, BitVec.toNat_ofNat]
    rw [show IntKind.u64.bits = 64 from rfl, Nat.mod_eq_of_lt ha, Nat.mod_eq_of_lt hb]
  rw [e]
  have : a ||| b < 2 ^ 64 := Nat.or_lt_two_pow ha hb
  exact wrap_u64 (by omega) (by omega)
theorem and_u64 {a b : Nat} (ha : a < 2 ^ 64) (hb : b < 2 ^ 64) :
    IntKind.u64.wrap ((BitVec.ofInt IntKind.u64.bits (a : Int) &&& BitVec.ofInt IntKind.u64.bits (b : Int)).toNat : Int) = ((a &&& b : Nat) : Int) := by
  have e : (BitVec.ofInt IntKind.u64.bits (a : Int) &&& BitVec.ofInt IntKind.u64.bits (b : Int)).toNat = a &&& b := by
    rw [BitVec.toNat_and, BitVec.ofInt_natCast, BitVec.ofInt_natCast, BitVec.toNat_ofNat, BitVec.toNat_ofNat]
    rw [show IntKind.u64.bits = 64 from rfl, Nat.mod_eq_of_lt ha, Nat.mod_eq_of_lt hb]
  rw [e]
  have : a &&& b < 2 ^ 64 := Nat.and_lt_two_pow a hb
  exact wrap_u64 (by omega) (by omega)
theorem or_add {a b i : Nat} (h : b < 2 ^ i) : a * 2 ^ i ||| b = a * 2 ^ i + b := by
  rw [← Nat.shiftLeft_eq, ← Nat.shiftLeft_add_eq_or_of_lt h]
theorem fdiv32 {x : Int} : x.fdiv (2 ^ min (Int.toNat 32) IntKind.u64.bits) = x / 4294967296 := by
  have : min (Int.toNat 32) IntKind.u64.bits = 32 := rfl
  rw [this, Int.fdiv_eq_ediv_of_nonneg _ (by decide)]
  rfl
theorem fdiv63 {x : Int} : x.fdiv (2 ^ min (Int.toNat 63) IntKind.u64.bits) = x / 9223372036854775808 := by
  have : min (Int.toNat 63) IntKind.u64.bits = 63 := rfl
  rw [this, Int.fdiv_eq_ediv_of_nonneg _ (by decide)]
  rfl
theorem shl32 {x : Int} : x * 2 ^ min (Int.toNat 32) IntKind.u64.bits = x * 4294967296 := by
  have : min (Int.toNat 32) IntKind.u64.bits = 32 := rfl
  rw [this]; rfl
theorem carry_step {B c z y v t s : Nat} (hs : s = c + z + y) (h : v + c * B = t) : v + s % 4294967296 * B + s / 4294967296 * (4294967296 * B) = t + z * B + y * B := by
  have h1 := Nat.div_add_mod s 4294967296
  generalize s / 4294967296 = q at *
  generalize s % 4294967296 = r at *
  subst h1 h
  have : c * B + z * B + y * B = (4294967296 * q + r) * B := by rw [← Nat.add_mul, ← Nat.add_mul, hs]
  grind
theorem pow_succ32 {i : Nat} : 2 ^ (32 * (i + 1)) = 4294967296 * 2 ^ (32 * i) := by
  rw [show 32 * (i + 1) = 32 + 32 * i by omega, Nat.pow_add]
end Go.Am

/- Contracts over natural numbers. -/
namespace Go.Am
open AV
def numOf (v : AV) : Nat := match v with
  | .int _ z => z.toNat
  | _ => 0
def Limbs (n : Nat) (f : Nat → AV) : Prop := ∀ i, i < n → ∃ z : Nat, z < 2 ^ 32 ∧ f i = .int .u32 z
theorem numOf_limbsF {z : Nat → Nat} {i : Nat} : numOf (limbsF z i) = z i := by simp [numOf, limbsF]
theorem val_numOf {n : Nat} {z : Nat → Nat} : (val n fun i => numOf (limbsF z i)) = val n z := val_congr fun _ _ => numOf_limbsF
theorem limbs_limbsF {n : Nat} {z : Nat → Nat} (h : ∀ i, i < n → z i < 2 ^ 32) : Limbs n (limbsF z) := fun i hi => ⟨z i, h i hi, rfl⟩
def natOf : AV → Option (Nat × Nat × List Prop)
  | .mag N => some (N, nl N, [])
  | .nil => some (0, 0, [])
  | .tab es n f => if es == 1 then some (val n fun i => numOf (f i), n, [Limbs n f]) else none
  | _ => none
theorem natOf_ok {a : AV} {N n : Nat} {q : List Prop} (h : natOf a = some (N, n, q)) (hq : allP q) : ∃ z : Nat → Nat, (∀ i, i < n → z i < 2 ^ 32) ∧ val n z = N ∧ avLe0 a (.tab 1 n (limbsF z)) := by
  cases a <;> simp only [natOf, reduceCtorEq, Option.some.injEq, Prod.mk.injEq] at h
  case mag M =>
    obtain ⟨rfl, rfl, rfl⟩ := h
    exact ⟨limb M, fun i _ => limb_lt, val_nl, avLe0_mag_tab rfl fun i _ => rfl⟩
  case nil =>
    obtain ⟨rfl, rfl, rfl⟩ := h
    exact ⟨fun _ => 0, fun i hi => by omega, rfl, avLe0_nil_tab (by omega)⟩
  case tab es m f =>
    split at h
    · rename_i he
      simp only [Option.some.injEq, Prod.mk.injEq] at h
      obtain ⟨rfl, rfl, rfl⟩ := h
      have hq : Limbs m f := hq
      have he : es = 1 := by simpa using he
      subst he
      refine ⟨fun i => numOf (f i), fun i hi => ?_, rfl, avLe0_tab_eq rfl fun i hi => ?_⟩
      · obtain ⟨z, h1, h2⟩ := hq i hi
        simp only [h2, numOf]; omega
      · obtain ⟨z, h1, h2⟩ := hq i hi
        simp [h2, numOf, limbsF]
    · simp at h
def spec1 (g : Nat → Nat → CRes) : List AV → Option CRes
  | [a] => match natOf a with
    | some (N, n, q) => some ⟨(g N n).res, [], q ++ (g N n).needs⟩
    | none => none
  | _ => none
def spec2 (g : Nat → Nat → Nat → Nat → CRes) : List AV → Option CRes
  | [a, b] => match natOf a, natOf b with
    | some (A, n, p), some (B, m, q) => some ⟨(g A n B m).res, [], p ++ (q ++ (g A n B m).needs)⟩
    | _, _ => none
  | _ => none
def spec1u (g : Nat → Nat → Int → CRes) : List AV → Option CRes
  | [a, .int .u32 k] => match natOf a with
    | some (N, n, q) => some ⟨(g N n k).res, [], q ++ (g N n k).needs⟩
    | none => none
  | _ => none
abbrev pres (v : AV) (l : List Prop) : CRes := ⟨v, [], l⟩
section oks
variable {P : Program} {f : FuncId}
theorem spec1_ok {g : Nat → Nat → CRes} (h : ∀ z n K, (∀ i, i < n → z i < 2 ^ 32) → (g (val n z) n).need → FOK P f K [.tab 1 n (limbsF z)] [] (pres (g (val n z) n).res [])) :
    ∀ K args r, keysL args = [] → spec1 g args = some r → r.post = [] → FOK P f K args [] r := by
  intro K args r hk hs _ need
  match args, hs with
  | [a], hs =>
    simp only [spec1] at hs
    split at hs
    · rename_i N n q hn
      simp only [Option.some.injEq] at hs
      subst hs
      obtain ⟨n1, n2⟩ := allP_append.1 need
      obtain ⟨z, hz, rfl, hle⟩ := natOf_ok hn n1
      exact fok_weak (h z n K hz n2) hk ⟨hle, trivial⟩ [] trivial
    · simp at hs
theorem spec1u_ok {g : Nat → Nat → Int → CRes} (h : ∀ z n i K, (∀ i, i < n → z i < 2 ^ 32) → (g (val n z) n i).need → FOK P f K [.tab 1 n (limbsF z), .int .u32 i] [] (pres (g (val n z) n i).res [])) :
    ∀ K args r, keysL args = [] → spec1u g args = some r → r.post = [] → FOK P f K args [] r := by
  intro K args r hk hs _ need
  unfold spec1u at hs
  split at hs
  · rename_i a i
    split at hs
    · rename_i N n q hn
      simp only [Option.some.injEq] at hs
      subst hs
      obtain ⟨n1, n2⟩ := allP_append.1 need
      obtain ⟨z, hz, rfl, hle⟩ := natOf_ok hn n1
      exact fok_weak (h z n i K hz n2) hk ⟨hle, .refl _, trivial⟩ [] trivial
    · simp at hs
  · simp at hs
theorem spec2_ok {g : Nat → Nat → Nat → Nat → CRes} (h : ∀ z n y m K, (∀ i, i < n → z i < 2 ^ 32) → (∀ i, i < m → y i < 2 ^ 32) → (g (val n z) n (val m y) m).need →
      FOK P f K [.tab 1 n (limbsF z), .tab 1 m (limbsF y)] [] (pres (g (val n z) n (val m y) m).res [])) :
    ∀ K args r, keysL args = [] → spec2 g args = some r → r.post = [] → FOK P f K args [] r := by
  intro K args r hk hs _ need
  match args, hs with
  | [a, b], hs =>
    simp only [spec2] at hs
    split at hs
    · rename_i N n q M m p hn hm
      simp only [Option.some.injEq] at hs
      subst hs
      obtain ⟨n1, n4⟩ := allP_append.1 need
      obtain ⟨n2, n3⟩ := allP_append.1 n4
      obtain ⟨z, hz, rfl, hle⟩ := natOf_ok hn n1
      obtain ⟨y, hy, rfl, hle2⟩ := natOf_ok hm n2
      exact fok_weak (h z n y m K hz hy n3) hk ⟨hle, hle2, trivial⟩ [] trivial
    · simp at hs
theorem gok_nil {P : Program} : GOK P [] := fun f s h => by simp [look] at h
theorem gok_cons {f : FuncId} {s : Spec} {Γ : Contracts} (h : ∀ K args pre r, s K args pre = some r → FOK P f K args pre r) (hΓ : GOK P Γ) : GOK P ((f, s) :: Γ) := by
  intro f' s' hl
  simp only [look] at hl
  split at hl
  · rename_i he
    have : f = f' := by simpa using he
    subst this
    simp only [Option.some.injEq] at hl
    subst hl
    exact h
  · exact hΓ f' s' hl
end oks
def cmpI (a b : Nat) : Int := if a < b then -1 else if b < a then 1 else 0
def bitsN (N : Nat) : Nat := if N = 0 then 0 else N.log2 + 1
end Go.Am

/- Results that are seen; slices that may be nil. -/
namespace Go.Am
open AV
def resV (sl : List (Nat × AV)) : List ResultVar → Option (List AV)
  | [] => some []
  | .tmp t :: l => match look t sl, resV sl l with
    | some v, some m => if v.isTuple then none else some (v :: m)
    | _, _ => none
  | _ => none
def endV (fn : Func) (sl : List (Nat × AV)) : Option (List AV) :=
  match resV sl fn.results.toList with
  | some us => match keysL us with
    | [] => frzL [] us
    | _ => none
  | none => none
theorem look_view {s : AState} {t : Nat} {v : AV} (hv : v.isTuple = false) : ∀ {ls : List Nat}, look t (zipL ls (allSlots s ls)) = some v → look t s.slots = some v
  | [], h => by simp [zipL, look] at h
  | x :: ls, h => by
    simp only [allSlots, zipL, look] at h
    split at h
    · rename_i he
      have : x = t := by simpa using he
      subst this
      simp only [Option.some.injEq] at h
      subst h
      exact slotOf_look hv
    · exact look_view hv h
theorem resV_ok {T : Types} {s : AState} {ls : List Nat} : ∀ {l : List ResultVar} {us : List AV}, resV (zipL ls (allSlots s ls)) l = some us → resultsAV T s l = some (us, [])
  | [], us, h => by simp only [resV, Option.some.injEq] at h; subst h; rfl
  | .tmp t :: l, us, h => by
    simp only [resV] at h
    split at h
    · rename_i v m hv hm
      split at h
      · simp at h
      · rename_i ht
        simp only [Option.some.injEq] at h
        subst h
        simp only [resultsAV, resultAV, look_view (by simpa using ht) hv, resV_ok hm]
        simp [ht]
    · simp at h
  | .cell _ _ :: _, us, h => by simp [resV] at h
theorem fin_view {T : Types} {fn : Func} {ls : List Nat} {vs us : List AV} {os : Store} {e : AEx} {s' : AState} {res : AV} (he : e = .normal ∨ e = .ret) (hv : viewAV ls s' = some (vs, os)) (hr : endV fn (zipL ls vs) = some us) (hres : resOK us res) : Fin T fn res e s' := by
  unfold viewAV at hv
  simp only [Option.some.injEq, Prod.mk.injEq] at hv
  obtain ⟨rfl, _⟩ := hv
  unfold endV at hr
  split at hr
  · rename_i rs hrs
    split at hr
    · rename_i hk
      refine ⟨he, rs, [], us, resV_ok hrs, trivial, ?_, hres⟩
      rw [hk]; exact hr
    · simp at hr
  · simp at hr
theorem fok_nil1 {P : Program} {f : FuncId} {K es n : Nat} {g : Nat → AV} {l : List AV} {r : CRes} (h : ∀ b, (b = true → n = 0) → FOK P f K (.ntab b es n g :: l) [] r) : FOK P f K (.tab es n g :: l) [] r := by
  intro need
  refine ⟨((h false fun h => by simp at h) need).1, fun c D D' β w vs hw0 hMw hrel hD hK hv => ?_⟩
  match vs, hv with
  | x :: xs, hv =>
    obtain ⟨⟨cs, h1, h2⟩, h3⟩ := hv
    have : ∃ b, (b = true → n = 0) ∧ VRep1 (Mset c [] β) w β (.ntab b es n g) x := by
      cases h1 with
      | tab g1 g2 g3 g4 g5 g6 =>
        rename_i base cap cs' cf
        cases g6
        refine ⟨base.isNone, fun hb => ?_, _, .ntab rfl g1 g2 g3 g4 g5 .nil, h2⟩
        rcases g1 with g1 | ⟨b, o, rfl, _⟩
        · exact g1
        · simp at hb
    obtain ⟨b, hb0, hb⟩ := this
    exact ((h b hb0) need).2 c D D' β w (x :: xs) hw0 hMw hrel hD hK ⟨hb, h3⟩
theorem val_lt_of {z y : Nat → Nat} {k : Nat} : ∀ {n : Nat}, k < n → (∀ j, k < j → j < n → z j = y j) → z k < y k → (∀ i, i < n → z i < 2 ^ 32) → val n z < val n y
  | 0, h, _, _, _ => by omega
  | n + 1, h, he, hk, hz => by
    rw [val, val]
    by_cases hn : k = n
    · subst hn
      have h1 := val_lt (z := z) (n := k) fun i hi => hz i (by omega)
      have h2 : (z k + 1) * 2 ^ (32 * k) ≤ y k * 2 ^ (32 * k) := Nat.mul_le_mul_right _ hk
      rw [Nat.add_mul, Nat.one_mul] at h2
      omega
    · have := val_lt_of (n := n) (by omega) (fun j h1 h2 => he j h1 (by omega)) hk fun i hi => hz i (by omega)
      rw [he n (by omega) (by omega)]
      omega
theorem val_eq_of {A B : Nat} (hn : nl A = nl B) (h : ∀ i, i < nl A → limb A i = limb B i) : A = B := by
  rw [← val_nl (N := A), ← val_nl (N := B), ← hn]
  exact val_congr h
theorem limb_cmp {A B k : Nat} (hn : nl A = nl B) (hk : k < nl A) (h : ∀ j, k < j → j < nl A → limb A j = limb B j) (hlt : limb A k < limb B k) : A < B := by
  have := val_lt_of (z := limb A) (y := limb B) hk h hlt fun i _ => limb_lt
  rw [val_nl, hn, val_nl] at this
  exact this
theorem nl_cmp {A B : Nat} (h : nl A < nl B) : A < B := by
  rcases Nat.lt_or_ge A B with h1 | h1
  · exact h1
  · have := nl_mono h1; omega
theorem objLe_limbs {ρ : Nat → Option Nat} {r w : Bool} {n m : Nat} {f : Nat → AV} {o : Nat → Nat} (hn : m = n) (h : ∀ j, j < n → f j = limbsF o j) : objLe ρ ⟨r, w, 1, n, f⟩ ⟨r, w, 1, m, limbsF o⟩ :=
  objLe_of hn fun j hj => by rw [h j hj]; exact avLe_pure rfl
def setL (o : Nat → Nat) (i x : Nat) : Nat → Nat := fun j => if j = i then x else o j
theorem setL_same {o : Nat → Nat} {i x : Nat} : setL o i x i = x := if_pos rfl
theorem setL_ne {o : Nat → Nat} {i x j : Nat} (h : j ≠ i) : setL o i x j = o j := if_neg h
theorem setL_lt {o : Nat → Nat} {i x b : Nat} {n : Nat} (hx : x < b) (ho : ∀ j, j < n → o j < b) : ∀ j, j < n → setL o i x j < b := fun j hj => by
  unfold setL
  split
  · exact hx
  · exact ho j hj
theorem limbs_set {o : Nat → Nat} {i x : Nat} {v : Int} (hv : v = (x : Nat)) (j : Nat) : (if j = i then AV.int .u32 v else limbsF o j) = limbsF (setL o i x) j := by
  unfold limbsF setL
  split
  · rw [hv]
  · rfl
theorem val_setL {o : Nat → Nat} {i x : Nat} : ∀ {n : Nat}, i < n → o i = 0 → val n (setL o i x) = val n o + x * 2 ^ (32 * i)
  | 0, h, _ => by omega
  | n + 1, h, h0 => by
    rw [val, val]
    by_cases hn : i = n
    · subst hn
      rw [setL_same, h0, val_congr (y := o) fun j hj => setL_ne (by omega)]
      omega
    · rw [val_setL (n := n) (by omega) h0, setL_ne (by omega)]
      omega
theorem val_setL_end {o : Nat → Nat} {i x : Nat} : val (i + 1) (setL o i x) = val i o + x * 2 ^ (32 * i) := by
  rw [val, setL_same, val_congr (y := o) fun j hj => setL_ne (by omega)]
theorem bitsN_shift {x k : Nat} (h : 2 ^ k ≤ x) : bitsN x = k + bitsN (x / 2 ^ k) := by
  have hk := Nat.two_pow_pos k
  have h0 : x ≠ 0 := by omega
  have h1 : x / 2 ^ k ≠ 0 := by
    have := (Nat.le_div_iff_mul_le hk (x := 1) (y := x)).2 (by omega)
    omega
  unfold bitsN
  rw [if_neg h0, if_neg h1]
  have : x.log2 = k + (x / 2 ^ k).log2 := by
    obtain ⟨g1, g2⟩ := (Nat.log2_eq_iff h1).1 rfl
    rw [Nat.log2_eq_iff h0]
    refine ⟨?_, ?_⟩
    · rw [Nat.pow_add, Nat.mul_comm]
      exact (Nat.le_div_iff_mul_le hk).1 g1
    · rw [show k + (x / 2 ^ k).log2 + 1 = ((x / 2 ^ k).log2 + 1) + k by omega, Nat.pow_add]
      exact (Nat.div_lt_iff_lt_mul hk).1 g2
  omega
theorem bitsN_le {x k : Nat} : bitsN x ≤ k ↔ x < 2 ^ k := by
  unfold bitsN
  split
  · rename_i h; subst h; simp [Nat.two_pow_pos]
  · rename_i h; rw [← Nat.log2_lt h]; omega
theorem bitsN_limb {N : Nat} (h : N ≠ 0) : bitsN N = 32 * (nl N - 1) + bitsN (limb N (nl N - 1)) := by
  have hp := nl_pos.2 h
  have h1 : 2 ^ (32 * (nl N - 1)) ≤ N := by
    rcases Nat.lt_or_ge N (2 ^ (32 * (nl N - 1))) with h1 | h1
    · have := nl_spec.2 h1; omega
    · exact h1
  have h2 : N / 2 ^ (32 * (nl N - 1)) < 2 ^ 32 := by
    rw [Nat.div_lt_iff_lt_mul (Nat.two_pow_pos _), ← Nat.pow_add]
    have := lt_nl (N := N)
    rw [show 32 + 32 * (nl N - 1) = 32 * nl N by omega]
    exact this
  rw [bitsN_shift h1, limb, Nat.mod_eq_of_lt h2]
theorem val_setL_gen {o : Nat → Nat} {i x : Nat} : ∀ {n : Nat}, i < n → val n (setL o i x) + o i * 2 ^ (32 * i) = val n o + x * 2 ^ (32 * i)
  | 0, h => by omega
  | n + 1, h => by
    rw [val, val]
    by_cases hn : i = n
    · subst hn
      rw [setL_same, val_congr (y := o) fun j hj => setL_ne (by omega)]
      omega
    · have := val_setL_gen (o := o) (x := x) (n := n) (i := i) (by omega)
      rw [setL_ne (show n ≠ i by omega)]
      omega
theorem AWp.blockAt {P : Program} {c : Ctx} {nt : Nat} {s : AState} {Q : AEx → AState → Prop} {x y : Code} {i : Nat} (hx : x = .block i y) (h : AWp P c nt y s (inBlock i Q)) : AWp P c nt x s Q := hx ▸ .block2 h
theorem mac_u64 {c x y o : Nat} (hc : c < 2 ^ 32) (hx : x < 2 ^ 32) (hy : y < 2 ^ 32) (ho : o < 2 ^ 32) :
    IntKind.u64.wrap ((c : Int) + IntKind.u64.wrap (IntKind.u64.wrap (IntKind.u64.wrap (x : Int) * IntKind.u64.wrap (y : Int)) + IntKind.u64.wrap (o : Int))) = ((c + x * y + o : Nat) : Int) ∧
      c + x * y + o < 2 ^ 64 ∧ (c + x * y + o) / 4294967296 < 2 ^ 32 := by
  have h1 : x * y ≤ (2 ^ 32 - 1) * (2 ^ 32 - 1) := Nat.mul_le_mul (by omega) (by omega)
  have e : (x : Int) * (y : Int) = ((x * y : Nat) : Int) := by simp
  rw [wrap_u64 (x := (x : Int)) (by omega) (by omega), wrap_u64 (x := (y : Int)) (by omega) (by omega), wrap_u64 (x := (o : Int)) (by omega) (by omega), e]
  generalize x * y = p at *
  refine ⟨?_, by omega, by omega⟩
  rw [wrap_u64 (x := (p : Int)) (by omega) (by omega), wrap_u64 (x := (p : Int) + o) (by omega) (by omega), wrap_u64 (by omega) (by omega)]
  omega
theorem mac_step {vo vo' oi c x yj B s q r v Bi Bj vy : Nat} (hs : s = c + x * yj + oi) (hq : 4294967296 * q + r = s) (hset : vo' + oi * B = vo + r * B) (hB : B = Bi * Bj) (h : vo + c * B = v + x * vy * Bi) :
    vo' + q * (4294967296 * B) = v + x * (vy + yj * Bj) * Bi := by
  subst hB
  have e : (4294967296 * q + r) * (Bi * Bj) = (c + x * yj + oi) * (Bi * Bj) := by rw [hq, hs]
  grind
theorem fok_res {P : Program} {f : FuncId} {K : Nat} {args : List AV} {u v : AV} {l l' : List Prop} (hf : FOK P f K args [] ⟨u, [], l⟩) (hl : allP l' → allP l) (hk : keys u = []) (ht : u.isTuple = false) (hle : avLe0 u v) : FOK P f K args [] ⟨v, [], l'⟩ := by
  intro need
  obtain ⟨h1, h2⟩ := hf (hl need)
  refine ⟨fun k o ho => by simp [look] at ho, fun c D D' β w vs hw0 hMw hrel hD hK hv => (h2 c D D' β w vs hw0 hMw hrel hD hK hv).mono ?_⟩
  rintro x w' ⟨β', g1, g2, g3⟩
  refine ⟨β', g1, g2, ?_⟩
  have h3 : VReps _ w' β' [u] [x] := ⟨VRep.one g3 ht, trivial⟩
  have h4 := avLes0_ok (us := [u]) (vs := [v]) ⟨hle, trivial⟩ (h3.noKeys (by rw [keysL_single]; exact hk))
  have h5 := h4.mono (fun b o h1 h2 => ⟨h2, h1⟩) (β' := β') fun k x hx => by simp [noKeys] at hx
  exact VRep1.vrep h5.1
theorem inBlock_exit {i : Nat} {Q : AEx → AState → Prop} {s : AState} (h : Q .normal s) : inBlock i Q (.exit i) s := by
  simp only [inBlock, if_true]; exact h
theorem then_exit {i : Nat} {k : AState → Prop} {Q : AEx → AState → Prop} {s : AState} (h : Q .normal s) : thenDo k (inBlock i Q) (.exit i) s := by
  show inBlock i Q (.exit i) s
  exact inBlock_exit h
theorem then_pass {i : Nat} {k : AState → Prop} {Q : AEx → AState → Prop} {s : AState} (h : Q (.exit i) s) : thenDo k Q (.exit i) s := h
theorem loop_ret {i : Nat} {k : AState → Prop} {Q : AEx → AState → Prop} {s : AState} (h : Q .ret s) : thenDo k (inBlock i Q) .ret s := h
theorem then_ret {k : AState → Prop} {Q : AEx → AState → Prop} {s : AState} (h : Q .ret s) : thenDo k Q .ret s := h
theorem allSlots_append {s : AState} : ∀ {a b : List Nat}, allSlots s (a ++ b) = allSlots s a ++ allSlots s b
  | [], _ => rfl
  | x :: a, b => by simp only [List.cons_append, allSlots, allSlots_append]
theorem allSlots_length {s : AState} : ∀ {a : List Nat}, (allSlots s a).length = a.length
  | [] => rfl
  | x :: a => by simp only [allSlots, List.length_cons, allSlots_length]
theorem keysL_append {a b : List AV} : keysL (a ++ b) = keysL a ++ keysL b := by
  induction a with
  | nil => rfl
  | cons x a ih => simp only [List.cons_append, keysL, ih, List.append_assoc]
theorem view_take {s : AState} {ls l : List Nat} {vs us : List AV} {os : Store} (hv : viewAV (ls ++ l) s = some (vs ++ us, os)) (hl : vs.length = ls.length) (hk : keysL us = []) : viewAV ls s = some (vs, os) := by
  unfold viewAV at hv ⊢
  simp only [Option.some.injEq, Prod.mk.injEq, allSlots_append] at hv ⊢
  obtain ⟨h1, h2⟩ := hv
  obtain ⟨h3, h4⟩ := List.append_inj h1 (by rw [allSlots_length, hl])
  subst h3
  refine ⟨rfl, ?_⟩
  rw [← h2, h4, keysL_append, hk, List.append_nil]
end Go.Am

/- Tables of types: what has to be shown of an entry. -/
namespace Go.Am
open AV
mutual
/-- The cells of a zero value. -/
def zeroCells : AV → Option (List Value)
  | .bool b => some [.bool b]
  | .int k n => some [.int k n]
  | .nil => some [.slice none 0 0]
  | .rat q n => if q = 0 ∧ n = 1 then some [.bool false, .slice none 0 0, .slice none 0 0] else none
  | .agg l => zeroCellsL l
  | _ => none
def zeroCellsL : List AV → Option (List Value)
  | [] => some []
  | a :: l => match zeroCells a, zeroCellsL l with
    | some c, some d => some (c ++ d)
    | _, _ => none
end
mutual
theorem zeroCells_ok {M : Nat → Prop} {w : World} {β : KMap} : ∀ {v : AV} {cs : List Value}, zeroCells v = some cs → CReps M w β [v] cs
  | .bool b, cs, h => by simp only [zeroCells, Option.some.injEq] at h; subst h; exact .bool .nil
  | .int k n, cs, h => by simp only [zeroCells, Option.some.injEq] at h; subst h; exact .int .nil
  | .nil, cs, h => by simp only [zeroCells, Option.some.injEq] at h; subst h; exact .vnil .nil
  | .rat q n, cs, h => by
    simp only [zeroCells] at h
    split at h
    · rename_i hq
      obtain ⟨rfl, rfl⟩ := hq
      simp only [Option.some.injEq] at h
      subst h
      have h0 : CReps M w noKeys [.mag 0] [.slice none 0 0] := by
        have := CReps.mag (M := M) (w := w) (β := noKeys) (N := 0) (base := none) (cap := 0) (.inl rfl) (by simp [nl_zero]) .nil
        simpa [nl_zero] using this
      have := CReps.rat (M := M) (w := w) (β := β) (q := 0) (n := 1) (x := .slice none 0 0) (y := .slice none 0 0) (l := []) (cs := []) ⟨by decide, by decide⟩ (by simpa using h0) (by simpa using h0) .nil
      simpa using this
    · simp at h
  | .agg l, cs, h => by
    simp only [zeroCells] at h
    simpa using CReps.agg (zeroCellsL_ok h) .nil
  | .mag _, cs, h => by simp [zeroCells] at h
  | .tab _ _ _, cs, h => by simp [zeroCells] at h
  | .ntab _ _ _ _, cs, h => by simp [zeroCells] at h
  | .cref _, cs, h => by simp [zeroCells] at h
  | .ptr _ _ _ _ _, cs, h => by simp [zeroCells] at h
  | .own _ _ _ _, cs, h => by simp [zeroCells] at h
  | .func _ _, cs, h => by simp [zeroCells] at h
  | .tuple _, cs, h => by simp [zeroCells] at h
  | .capd _ _, cs, h => by simp [zeroCells] at h
theorem zeroCellsL_ok {M : Nat → Prop} {w : World} {β : KMap} : ∀ {l : List AV} {cs : List Value}, zeroCellsL l = some cs → CReps M w β l cs
  | [], cs, h => by simp only [zeroCellsL, Option.some.injEq] at h; subst h; exact .nil
  | a :: l, cs, h => by
    simp only [zeroCellsL] at h
    cases ha : zeroCells a with
    | none => rw [ha] at h; simp at h
    | some c =>
      cases hl : zeroCellsL l with
      | none => rw [ha, hl] at h; simp at h
      | some d =>
        rw [ha, hl] at h
        simp only [Option.some.injEq] at h
        subst h
        exact (zeroCells_ok ha).cons (zeroCellsL_ok hl)
end
def zeroValueOf (v : AV) : Option Value :=
  match zeroCells v with
  | some cs => if v.isAgg then some (.agg cs.toArray) else match cs with
    | [x] => some x
    | _ => none
  | none => none
theorem tyOK {P : Program} {t : TypeId} {ti : TI} (h1 : P.underlying t = some ti.desc) (h2 : (P.info? t).map (fun i => (i.size, i.bytes, i.zero)) = some (ti.size, ti.bytes, zeroValueOf ti.zero))
    (h3 : (zeroValueOf ti.zero).isSome = true) : TyOK P t ti := by
  cases hi : P.info? t with
  | none => rw [hi] at h2; simp at h2
  | some i =>
    rw [hi] at h2
    simp only [Option.map_some, Option.some.injEq, Prod.mk.injEq] at h2
    refine ⟨h1, ⟨i, hi, h2.1, h2.2.1⟩, fun _ => ?_⟩
    obtain ⟨z, hz⟩ := Option.isSome_iff_exists.1 h3
    refine ⟨i, z, hi, by rw [h2.2.2, hz], fun M w β => ?_⟩
    unfold zeroValueOf at hz
    cases hc : zeroCells ti.zero with
    | none => rw [hc] at hz; simp at hz
    | some cs =>
      rw [hc] at hz
      simp only at hz
      split at hz
      · rename_i ha
        simp only [Option.some.injEq] at hz
        subst hz
        exact .of_cells (zeroCells_ok hc) ha
      · rename_i ha
        split at hz
        · simp only [Option.some.injEq] at hz
          subst hz
          exact .of_cell (zeroCells_ok hc) (by simpa using ha)
        · simp at hz
theorem tyOK' {P : Program} {t : TypeId} {ti : TI} (h1 : P.underlying t = some ti.desc) (h2 : (P.info? t).map (fun i => (i.size, i.bytes)) = some (ti.size, ti.bytes)) (h3 : ti.zero = .tuple []) : TyOK P t ti := by
  cases hi : P.info? t with
  | none => rw [hi] at h2; simp at h2
  | some i =>
    rw [hi] at h2
    simp only [Option.map_some, Option.some.injEq, Prod.mk.injEq] at h2
    exact ⟨h1, ⟨i, hi, h2.1, h2.2⟩, fun h => by rw [h3] at h; simp [isTuple] at h⟩
theorem tok_nil {P : Program} : TOK P [] := fun t ti h => by simp [look] at h
theorem tok_cons {P : Program} {t : TypeId} {ti : TI} {T : Types} (h : TyOK P t ti) (hT : TOK P T) : TOK P ((t, ti) :: T) := by
  intro t' ti' ht
  simp only [look] at ht
  split at ht
  · rename_i he
    have : t = t' := by simpa using he
    subst this
    simp only [Option.some.injEq] at ht
    subst ht
    exact h
  · exact hT t' ti' ht
end Go.Am

/- Contracts of functions that are handed objects to write to, or give back such; loops by what is seen. -/
namespace Go.Am
open AV
theorem VReps.length {M : Nat → Prop} {w : World} {β : KMap} : ∀ {us : List AV} {xs : List Value}, VReps M w β us xs → us.length = xs.length
  | [], [], _ => rfl
  | _ :: _, _ :: _, h => by simp [VReps.length h.2]
  | [], _ :: _, h => h.elim
  | _ :: _, [], h => h.elim
theorem VReps.weak {c c' : Ctx} {β β2 : KMap} {w : World} {ρ : Nat → Option Nat} {M M' : Nat → Prop} (hM : ∀ b, M' b → M b) (hβ : ∀ k2 k1, ρ k2 = some k1 → β2 k2 = β k1) : ∀ {us vs : List AV} {xs : List Value}, avLes ρ us vs → VReps M w β us xs → VReps M' w β2 vs xs
  | [], [], [], _, _ => trivial
  | u :: us, v :: vs, x :: xs, h, hv => ⟨hv.1.weak hM hβ h.1.2, VReps.weak (c := c) (c' := c') hM hβ h.2 hv.2⟩
  | [], _ :: _, _, h, _ => h.elim
  | _ :: _, [], _, h, _ => h.elim
  | _ :: _, _ :: _, [], _, h => h.elim
  | [], [], _ :: _, _, h => h.elim
theorem renOK_inj {nx : Nat} {rl : List (Nat × Nat)} (hr : renOK nx rl = true) : ∀ a b k, ren rl a = some k → ren rl b = some k → a = b := by
  intro a b k ha hb
  have := List.all_eq_true.1 hr _ (look_mem ha)
  simp only [Bool.and_eq_true, decide_eq_true_eq] at this
  simpa using List.all_eq_true.1 this.2 _ (look_mem hb)
theorem renOK_lt {nx : Nat} {rl : List (Nat × Nat)} (hr : renOK nx rl = true) {a k : Nat} (ha : ren rl a = some k) : a < nx := by
  have := List.all_eq_true.1 hr _ (look_mem ha)
  simp only [Bool.and_eq_true, decide_eq_true_eq] at this
  exact this.1
theorem oneVal {M : Nat → Prop} {w : World} {β : KMap} {us : List AV} {xs : List Value} (h : VReps M w β us xs) : VRep M w β (oneOr us) (if h : xs.length = 1 then xs.toArray[0]'(by simpa using (show 0 < xs.length by omega)) else .tuple xs.toArray) := by
  have hl := h.length
  match us, xs, h, hl with
  | [], [], _, _ => exact ⟨[], rfl, trivial⟩
  | [u], [x], h, _ => exact h.1.vrep
  | u :: u' :: us, x :: x' :: xs, h, _ => simp only [List.length_cons, Nat.add_eq_right, Nat.add_eq_zero_iff, Nat.succ_ne_zero, and_false, dite_false]; exact ⟨_, rfl, h⟩
section core
variable {P : Program} {T : Types}
structure EndsA (T : Types) (fn : Func) (τ : Nat → Option Nat) (pre : Store) (r : CRes) (s : AState) : Prop where
  ends : Ends T fn r.res s
  objs : ∀ k o, look k (applyEff (toOpts r.post) pre) = some o → ∃ k1 o1, τ k = some k1 ∧ look k1 s.store = some o1 ∧ o1.row = false ∧ objLe τ o1 o
structure EndsB (T : Types) (fn : Func) (τ : Nat → Option Nat) (pre : Store) (r : CRes) (s : AState) : Prop where
  ends : ∃ vs q us, resultsAV T s fn.results.toList = some (vs, q) ∧ allP q ∧ avLes τ vs us ∧ r.res = oneOr us
  objs : ∀ k o, look k (applyEff (toOpts r.post) pre) = some o → ∃ k1 o1, τ k = some k1 ∧ look k1 s.store = some o1 ∧ objLe τ o1 o
structure TauOK (rl : List (Nat × Nat)) (K : Nat) (pre : Store) (τ : Nat → Option Nat) : Prop where
  inj : ∀ a b k, τ a = some k → τ b = some k → a = b
  dom : ∀ k a, τ k = some a → ren rl a = some k ∨ (K ≤ k ∧ k < K + stride)
theorem fok_coreR (hT : TOK P T) {f : FuncId} {fn : Func} {x : Code} (hf : FnIs P f fn x) {args args0 : List AV} {pre pre0 : Store} {r : CRes} {K nx : Nat} (rl : List (Nat × Nat)) (hlen : args0.length ≤ fn.ntmps) (hr : renOK nx rl = true)
    (ha : avLes (ren rl) args args0) (hp : objLes (ren rl) pre pre0) (hrl : ∀ a k, ren rl a = some k → ∃ o, look k pre = some o)
    (hpost : ∀ k o, look k r.post = some o → (∃ o', look k pre = some o') ∨ (K ≤ k ∧ k < K + stride))
    (h : r.need → ∀ c : Ctx, c.ro = none → (∀ k x, c.k0 k = some x → (ren rl k).isSome = true) → AWp P c fn.ntmps x ⟨zipSlots 0 args0, pre0, nx⟩ fun e s' => (e = .normal ∨ e = .ret) ∧ ∃ τ, TauOK rl K pre τ ∧ (EndsA T fn τ pre r s' ∨ EndsB T fn τ pre r s')) : FOK P f K args pre r := by
  intro need
  refine ⟨hpost, fun c D D' β w vs hw0 hMw hrel hD hK hv => .inl ⟨fn, hf.get, hf.name, by simp [hf.body], ?_⟩⟩
  have hobj0 := view_objs hp
  have hβ0 : ∀ k2 k1, ren rl k2 = some k1 → (fun a => (ren rl a).bind β) k2 = β k1 := fun k2 k1 h => by simp [h]
  have hW : WRel { c with k0 := fun a => (ren rl a).bind β, ro := none } pre0 (fun k => k < nx) (fun a => (ren rl a).bind β) w := by
    refine hrel.weak (c' := { c with k0 := fun a => (ren rl a).bind β, ro := none }) (ρ := ren rl) rfl rfl rfl (renOK_inj hr) (fun k o h => .inl (hobj0 k o h)) hβ0 (fun k2 k1 h => renOK_lt hr h) (fun k2 x hk => ?_) (fun k2 b N hk => ?_) (fun k x hk => hk)
    · cases h1 : ren rl k2 with
      | none => simp [h1] at hk
      | some k1 => exact renOK_lt hr h1
    · cases h1 : ren rl k2 with
      | none => simp [h1] at hk
      | some k1 => simp [h1] at hk; exact hrel.lt k1 b N hk
  have hv0 : VReps (Mset { c with k0 := fun a => (ren rl a).bind β, ro := none } pre0 (fun a => (ren rl a).bind β)) w (fun a => (ren rl a).bind β) args0 vs :=
    hv.weak (c := c) (c' := c) (ρ := ren rl) (mset_weak rfl (fun k o h => .inl (hobj0 k o h)) hβ0) hβ0 ha
  have hl0 := hv0.length
  have hstart : Rel { c with k0 := fun a => (ren rl a).bind β, ro := none } fn.ntmps (fun k => k < nx) (zipSlots 0 args0) pre0 { tmps := vs.toArray ++ Array.replicate (fn.ntmps - vs.toArray.size) undef, defers := [] } w := by
    refine ⟨.nil, by simp; omega, _, hW, ?_⟩
    have := zipSlots_ok (pre := #[]) (post := Array.replicate (fn.ntmps - vs.toArray.size) undef) hv0 rfl
    simpa using this
  refine callsIn_wide.1 (callsIn_of_wp_marks (F := Fence.wide) (n := 3) hf.get hf.body trivial (wpIn_mono (h need { c with k0 := fun a => (ren rl a).bind β, ro := none } rfl (fun k x hk => by
    cases h1 : ren rl k with
    | none => simp [h1] at hk
    | some k1 => rfl) _ w hstart) ?_))
  rintro e a' w9 ⟨ae, s', rfl, hr9, hex, τ, hτ, hends⟩
  obtain ⟨w', hr', hleave⟩ := Rel.leave (P := P) (fn := fn) (R := fun e w' => ∃ x, e = .returned x ∧ OpR c pre D' β w (toOpts r.post) r.res x w') hr9
  -- what the end gives, in the function's own keys
  have hfin : ∃ x β1 st1, (results fn a'.tmps).run P w' = .ok x w' ∧ WRel { c with k0 := fun a => (ren rl a).bind β, ro := none } st1 (fun k => k < s'.next) β1 w' ∧
      (∀ k o, look k (applyEff (toOpts r.post) pre) = some o → ∃ k1 o1, τ k = some k1 ∧ look k1 st1 = some o1 ∧ objLe τ o1 o) ∧
      VRep (Mset { c with k0 := fun a => (ren rl a).bind β, ro := none } st1 β1) w' (fun k => (τ k).bind β1) r.res x := by
    rcases hends with hends | hends
    · obtain ⟨hdef, x, β1, st1, hrun, hw1, hvx, hrow⟩ := ends_ok hT hends.ends hr'
      refine ⟨x, β1, st1, hrun, hw1, fun k o hk => ?_, hvx.mono (fun b o h1 h2 => ⟨h2, h1⟩) fun k x hk => by simp [noKeys] at hk⟩
      obtain ⟨k1, o1, g1, g2, g3, g4⟩ := hends.objs k o hk
      exact ⟨k1, o1, g1, hrow k1 o1 g2 g3, g4⟩
    · obtain ⟨a1, a2, β1, a3, a4⟩ := hr'
      obtain ⟨vs1, q, us, h1, hq, h2, h3⟩ := hends.ends
      obtain ⟨xs, hxs, hv, hlen⟩ := results_ok hT a3 a4 (g := fun x => match x with
        | ResultVar.tmp t => pure (a'.tmps.getD t undef)
        | ResultVar.cell r t => do let y ← asAddr (a'.tmps.getD r undef); loadVar t y) (fun _ => rfl) (fun _ _ => rfl) h1 hq
      refine ⟨if h : xs.length = 1 then xs.toArray[0]'(by simpa using (show 0 < xs.length by omega)) else .tuple xs.toArray, β1, s'.store, ?_, a3, hends.objs, ?_⟩
      · have key : results fn a'.tmps = (do
            let vs ← fn.results.mapM fun x => match x with
              | ResultVar.tmp t => pure (a'.tmps.getD t undef)
              | ResultVar.cell r t => do let y ← asAddr (a'.tmps.getD r undef); loadVar t y
            pure (if h : vs.size = 1 then vs[0] else Value.tuple vs)) := rfl
        rw [key, Sem.run_bind, Array.mapM_eq_mapM_toList, Sem.run_map, hxs]
        simp only [Result.andThen_ok, Sem.run_pure]
        congr 1
      · rw [h3]
        exact oneVal (hv.weak (c := c) (c' := c) (ρ := τ) (fun _ h => h) (fun k2 k1 h => by simp [h]) h2)
  obtain ⟨x, β1, st1, hrun, hw1, hobj1, hvx⟩ := hfin
  have hkeep1 : ∀ k a, τ k = some a → ∀ y, β k = some y → β1 a = some y := by
    intro k a hka y hy
    rcases hτ.dom k a hka with h1 | ⟨h1, h2⟩
    · exact hw1.keep a y (by simp only [h1, Option.bind_some]; exact hy)
    · exact absurd (hrel.dom k y hy) (hK k h1 h2).1
  have hβ2 : ∀ k2 k1, τ k2 = some k1 → (fun k => match τ k with
      | some a => β1 a
      | none => β k) k2 = β1 k1 := fun k2 k1 h => by simp [h]
  have hW2 : WRel c (applyEff (toOpts r.post) pre) D' (fun k => match τ k with
      | some a => β1 a
      | none => β k) w' := by
    have hd2 : ∀ k2 a, τ k2 = some a → D' k2 := fun k2 a ha => by
      rcases hτ.dom k2 a ha with h1 | ⟨h1, h2⟩
      · obtain ⟨o, ho⟩ := hrl a k2 h1
        cases hb : β k2 with
        | some x => exact hD _ (hrel.dom k2 _ hb)
        | none => exact hD _ (hrel.nob k2 o ho hb).2
      · exact (hK k2 h1 h2).2
    refine hw1.weak (c' := c) (ρ := τ) rfl rfl rfl hτ.inj (fun k o h => .inl (hobj1 k o h)) hβ2 hd2 (fun k2 y hk => ?_) (fun k2 b N hk => ?_) (fun k y hk => ?_)
    · split at hk
      · rename_i a ha
        exact hd2 k2 a ha
      · exact hD _ (hrel.dom k2 y hk)
    · split at hk
      · exact hw1.lt _ b N hk
      · exact Nat.lt_of_lt_of_le (hrel.lt k2 b N hk) (by have := hw1.size; rw [← hw0]; exact this)
    · have hy := hrel.keep k y hk
      split
      · rename_i a ha
        exact hkeep1 k a ha y hy
      · exact hy
  have hO : OpR c pre D' β w (toOpts r.post) r.res x w' := by
    refine ⟨_, hW2, ⟨fun b o hb ho => ?_, fun k y hk => ?_⟩, ?_⟩
    · have hlt : b < c.w0.heap.size := by rw [hw0]; exact heap_lt ho
      have hmw : ¬ c.Mw b := fun hm => hb (hMw b hm)
      refine ⟨?_, ?_⟩
      · rw [hw1.block b hlt hmw]
        show c.w0.heap[b]? = _
        rw [hw0]; exact ho
      · rintro (hm | ⟨k, o', N, h1, h2, h3⟩)
        · exact hb (.inl hm)
        · rcases hW2.new k o' b N h1 h2 h3 with h4 | h4
          · omega
          · exact hmw h4
    · split
      · rename_i a ha
        exact hkeep1 k a ha y hk
      · exact hk
    · refine hvx.mono (fun b o h1 h2 => ⟨h2, fun h3 => h1 (mset_weak (c := { c with k0 := fun a => (ren rl a).bind β, ro := none }) rfl (fun k o h => .inl (hobj1 k o h)) hβ2 b h3)⟩) (fun k y hk => ?_)
      cases h1 : τ k with
      | none => simp [h1] at hk
      | some a => simpa [h1] using hk
  rcases hex with rfl | rfl
  · exact hleave x hrun ⟨x, rfl, hO⟩
  · exact hleave x hrun ⟨x, rfl, hO⟩
theorem fok_core (hT : TOK P T) {f : FuncId} {fn : Func} {x : Code} (hf : FnIs P f fn x) {args args0 : List AV} {pre pre0 : Store} {r : CRes} {K nx : Nat} (rl : List (Nat × Nat)) (hlen : args0.length ≤ fn.ntmps) (hr : renOK nx rl = true)
    (ha : avLes (ren rl) args args0) (hp : objLes (ren rl) pre pre0) (hrl : ∀ a k, ren rl a = some k → ∃ o, look k pre = some o)
    (hpost : ∀ k o, look k r.post = some o → (∃ o', look k pre = some o') ∨ (K ≤ k ∧ k < K + stride))
    (h : r.need → ∀ c : Ctx, (∀ k x, c.k0 k = some x → (ren rl k).isSome = true) → AWp P c fn.ntmps x ⟨zipSlots 0 args0, pre0, nx⟩ fun e s' => (e = .normal ∨ e = .ret) ∧ ∃ τ, TauOK rl K pre τ ∧ (EndsA T fn τ pre r s' ∨ EndsB T fn τ pre r s')) : FOK P f K args pre r :=
  fok_coreR hT hf rl hlen hr ha hp hrl hpost fun need c _ => h need c
end core
def okV (nx : Nat) (vs : List AV) : Bool := (vs.all fun v => !v.isTuple) && (keysL vs).all fun k => decide (k < nx)
def okO (nx : Nat) : Store → Prop
  | [] => True
  | (k, o) :: l => (k < nx ∧ ∀ i, i < o.len → keys (o.f i) = []) ∧ okO nx l
theorem okO_look {nx : Nat} : ∀ {os : Store}, okO nx os → ∀ {k : Nat} {o : AObj}, look k os = some o → k < nx ∧ ∀ i, i < o.len → keys (o.f i) = []
  | [], _, k, o, h => by simp [look] at h
  | (j, b) :: l, h, k, o, hk => by
    simp only [look] at hk
    split at hk
    · rename_i he
      have : j = k := by simpa using he
      subst this
      simp only [Option.some.injEq] at hk
      subst hk
      exact h.1
    · exact okO_look h.2 hk
theorem avLe_below {nx : Nat} {u : AV} (hk : ∀ k ∈ keys u, k < nx) : avLe (fun k => if k < nx then some k else none) u u := by
  refine ⟨rfl, fun M w β cs hc => ?_⟩
  have gen : ∀ {l : List AV} {cs : List Value}, CReps M w β l cs → (∀ k ∈ keysL l, k < nx) → CReps M w (fun k => (if k < nx then some k else none).bind β) l cs := by
    intro l cs h
    generalize hβ : β = β' at h
    induction h with
    | nil => exact fun _ => .nil
    | bool _ ih => exact fun h => .bool (ih hβ (by simpa [keysL, keys] using h))
    | int _ ih => exact fun h => .int (ih hβ (by simpa [keysL, keys] using h))
    | rat hs h1 h2 _ _ _ ih => exact fun h => .rat hs h1 h2 (ih hβ (by simpa [keysL, keys] using h))
    | mag h1 h2 _ ih => exact fun h => .mag h1 h2 (ih hβ (by simpa [keysL, keys] using h))
    | agg _ _ ih1 ih2 => exact fun h => .agg (ih1 hβ fun k hk => h k (by simp only [keysL, keys]; exact List.mem_append_left _ hk)) (ih2 hβ fun k hk => h k (by simp only [keysL]; exact List.mem_append_right _ hk))
    | tab h1 h2 h3 h4 h5 _ _ ih => exact fun h => .tab h1 h2 h3 h4 h5 (ih hβ (by simpa [keysL, keys] using h))
    | ntab hq h1 h2 h3 h4 h5 _ _ ih => exact fun h => .ntab hq h1 h2 h3 h4 h5 (ih hβ (by simpa [keysL, keys] using h))
    | vnil _ ih => exact fun h => .vnil (ih hβ (by simpa [keysL, keys] using h))
    | void hx _ ih => exact fun h => .void hx (ih hβ (by simpa [keysL, keys] using h))
    | str _ ih => exact fun h => .str (ih hβ (by simpa [keysL, keys] using h))
    | cref h1 h2 _ _ ih => exact fun h => .cref h1 h2 (ih hβ (by simpa [keysL, keys] using h))
    | @ptr _ k _ _ _ _ _ _ _ _ hk _ ih =>
      intro h
      have : k < nx := h k (by simp [keysL, keys])
      exact .ptr (by simp only [this, if_true, Option.bind_some]; rw [← hβ] at hk ⊢; exact hk) (ih hβ fun k hk => h k (by simp only [keysL]; exact List.mem_append_right _ hk))
    | @own _ k _ _ _ _ _ _ _ _ _ hk h1 h2 h4 h3 _ ih =>
      intro h
      have : k < nx := h k (by simp [keysL, keys])
      exact .own (by simp only [this, if_true, Option.bind_some]; rw [← hβ] at hk ⊢; exact hk) h1 h2 h4 h3 (ih hβ fun k hk => h k (by simp only [keysL]; exact List.mem_append_right _ hk))
    | own0 h3 _ ih => exact fun h => .own0 h3 (ih hβ fun k hk => h k (by simp only [keysL]; exact List.mem_append_right _ hk))
    | capd ha _ _ ih1 ih2 => exact fun h => .capd ha (ih1 hβ fun k hk => h k (by simp only [keysL, keys, List.append_nil] at hk ⊢; exact List.mem_append_left _ hk)) (ih2 hβ fun k hk => h k (by simp only [keysL]; exact List.mem_append_right _ hk))
    | func _ hc _ ih1 ih2 => exact fun h => .func (ih1 hβ fun k hk => h k (by simp only [keysL, keys]; exact List.mem_append_left _ hk)) hc (ih2 hβ fun k hk => h k (by simp only [keysL]; exact List.mem_append_right _ hk))
  exact gen hc fun k h => hk k (by rw [keysL_single] at h; exact h)
theorem avLes_below {nx : Nat} : ∀ {vs : List AV}, okV nx vs = true → avLes (fun k => if k < nx then some k else none) vs vs
  | [], _ => trivial
  | v :: vs, h => by
    simp only [okV, List.all_cons, keysL, List.all_append, Bool.and_eq_true, Bool.not_eq_true'] at h
    obtain ⟨⟨h1, h2⟩, h3, h4⟩ := h
    refine ⟨⟨h1, avLe_below fun k hk => by simpa using List.all_eq_true.1 h3 k hk⟩, avLes_below ?_⟩
    simp only [okV, Bool.and_eq_true]
    exact ⟨h2, h4⟩
theorem le_same {c : Ctx} {s' : AState} {ls : List Nat} {vs : List AV} {os : Store} {nx : Nat} (hv : viewAV ls s' = some (vs, os)) (h0 : ∀ k x, c.k0 k = some x → k < nx) (hok : okV nx vs = true) (ho : okO nx os) : ∃ ρ, Le c ρ s' ⟨zipL ls vs, os, nx⟩ := by
  unfold viewAV at hv
  simp only [Option.some.injEq, Prod.mk.injEq] at hv
  obtain ⟨rfl, rfl⟩ := hv
  refine ⟨fun k => if k < nx then some k else none, ?_, view_slots (avLes_below hok), fun k2 o2 hk => ?_, fun k2 k1 hk => ?_, fun k x hk => by simp [h0 k x hk]⟩
  · intro a b k ha hb
    split at ha <;> split at hb <;> simp_all
  · obtain ⟨h1, h2⟩ := okO_look ho hk
    refine .inl ⟨k2, o2, by simp [h1], ?_, ⟨rfl, rfl, rfl, rfl, fun i hi => avLe_below fun k hk => by rw [h2 i hi] at hk; simp at hk⟩⟩
    rw [look_pick] at hk
    split at hk
    · exact hk
    · simp at hk
  · split at hk
    · assumption
    · simp at hk
section rules
variable {P : Program} {c : Ctx} {nt : Nat} {s : AState} {Q : AEx → AState → Prop} {T : Types} {Γ : Contracts}
theorem AWp.whileV {x y : Code} {i : Nat} (hx : x = .block i (.loop y)) (ls : List Nat) (nx : Nat) (h0 : ∀ k x, c.k0 k = some x → k < nx) {α : Type} (vs : α → List AV) (os : α → Store) (hok : ∀ a, okV nx (vs a) = true) (ho : ∀ a, okO nx (os a)) (I : α → Prop) (μ : α → Nat) (j : α)
    (hv : viewAV ls s = some (vs j, os j)) (hI : I j)
    (round : ∀ j, I j → AWp P c nt y ⟨zipL ls (vs j), os j, nx⟩ (thenDo (fun s' => ∃ k, viewAV ls s' = some (vs k, os k) ∧ I k ∧ μ k < μ j) (inBlock i Q))) : AWp P c nt x s Q :=
  AWp.whileLe hx (fun a => ⟨zipL ls (vs a), os a, nx⟩) I μ j (le_same hv h0 (hok j) (ho j)) hI fun j hj => (round j hj).mono fun e s' h => by
    cases e with
    | normal =>
      obtain ⟨k, h1, h2, h3⟩ := h
      exact ⟨k, le_same h1 h0 (hok k) (ho k), h2, h3⟩
    | exit i => exact h
    | ret => exact h
theorem AWp.fromV {x : Code} {ls : List Nat} {nx : Nat} {vs : List AV} {os : Store} (hv : viewAV ls s = some (vs, os)) (h0 : ∀ k x, c.k0 k = some x → k < nx) (hok : okV nx vs = true) (ho : okO nx os) (h : AWp P c nt x ⟨zipL ls vs, os, nx⟩ Q) : AWp P c nt x s Q :=
  .weakE (le_same hv h0 hok ho) h
theorem AWpL.fromV {l : List Code} {ls : List Nat} {nx : Nat} {vs : List AV} {os : Store} (hv : viewAV ls s = some (vs, os)) (h0 : ∀ k x, c.k0 k = some x → k < nx) (hl : l.isEmpty = false) (hok : okV nx vs = true) (ho : okO nx os) (h : AWpL P c nt l ⟨zipL ls vs, os, nx⟩ Q) : AWpL P c nt l s Q :=
  .weak hl (le_same hv h0 hok ho) h
theorem AWpL.finV (hT : TOK P T) (hΓ : GOK P Γ) (hm : P.follows .mixedOrders = true) {fn : Func} {forks : List Nat} (n : Nat) {l : List Code} {ls : List Nat} {nx : Nat} {vs : List AV} {os : Store} (hv : viewAV ls s = some (vs, os)) (h0 : ∀ k x, c.k0 k = some x → k < nx)
    (hok : okV nx vs = true) (ho : okO nx os) {t : ATree (List AV)} (hc : endL T Γ forks n fn l ⟨zipL ls vs, os, nx⟩ = some t) (hd : (l.all fun x => dstOK nt x) = true) (hl : l.isEmpty = false) {res : AV} (h : t.all fun _ us => resOK us res) : AWpL P c nt l s (Fin T fn res) :=
  .fromV hv h0 hl hok ho (.fin hT hΓ hm n hc hd h)
theorem AWpL.seeV (hT : TOK P T) (hΓ : GOK P Γ) (hm : P.follows .mixedOrders = true) {forks : List Nat} (n : Nat) {l : List Code} {ls : List Nat} {nx : Nat} {vs : List AV} {os : Store} (hv : viewAV ls s = some (vs, os)) (h0 : ∀ k x, c.k0 k = some x → k < nx)
    (hok : okV nx vs = true) (ho : okO nx os) (ls2 : List Nat) {t : ATree (List AV × Store)} (hc : seeL T Γ forks n ls2 l ⟨zipL ls vs, os, nx⟩ = some t) (hd : (l.all fun x => dstOK nt x) = true) (hl : l.isEmpty = false) (h : t.all fun e v => ∀ s', viewAV ls2 s' = some v → Q e s') : AWpL P c nt l s Q :=
  .fromV hv h0 hl hok ho (.see hT hΓ hm n ls2 hc hd h)
theorem AWp.seeV (hT : TOK P T) (hΓ : GOK P Γ) (hm : P.follows .mixedOrders = true) {x : Code} {forks : List Nat} (n : Nat) {ls : List Nat} {nx : Nat} {vs : List AV} {os : Store} (hv : viewAV ls s = some (vs, os)) (h0 : ∀ k x, c.k0 k = some x → k < nx)
    (hok : okV nx vs = true) (ho : okO nx os) (ls2 : List Nat) {t : ATree (List AV × Store)} (hc : seeL T Γ forks n ls2 [x] ⟨zipL ls vs, os, nx⟩ = some t) (hd : dstOK nt x = true) (h : t.all fun e v => ∀ s', viewAV ls2 s' = some v → Q e s') : AWp P c nt x s Q :=
  .fromV hv h0 hok ho (.see hT hΓ hm n ls2 hc hd h)
end rules
theorem endsB_view {T : Types} {fn : Func} {ls : List Nat} {vs us ws : List AV} {os ps pre : Store} {s' : AState} {τ : Nat → Option Nat} {r : CRes} (hv : viewAV ls s' = some (vs, os)) (hr : resV (zipL ls vs) fn.results.toList = some us) (hle : avLes τ us ws) (hres : r.res = oneOr ws)
    (he : applyEff (toOpts r.post) pre = ps) (ho : objLes τ os ps) : EndsB T fn τ pre r s' := by
  unfold viewAV at hv
  simp only [Option.some.injEq, Prod.mk.injEq] at hv
  obtain ⟨rfl, rfl⟩ := hv
  refine ⟨⟨us, [], ws, resV_ok hr, trivial, hle, hres⟩, fun k o hk => ?_⟩
  rw [he] at hk
  obtain ⟨k1, o1, g1, g2, g3⟩ := view_objs ho k o hk
  refine ⟨k1, o1, g1, ?_, g3⟩
  rw [look_pick] at g2
  split at g2
  · exact g2
  · simp at g2
def frzSpec (g : Nat → List AV → Option CRes) : Spec := fun K args pre => match frzL pre args with
  | some as => g K as
  | none => none
theorem frzSpec_ok {P : Program} {f : FuncId} {g : Nat → List AV → Option CRes} (h : ∀ K args r, keysL args = [] → g K args = some r → FOK P f K args [] r) :
    ∀ K args pre r, frzSpec g K args pre = some r → FOK P f K args pre r := by
  intro K args pre r hg
  unfold frzSpec at hg
  split at hg
  · rename_i as has
    have hf := h K as r (frzL_keys has) hg
    intro need
    obtain ⟨h1, h2⟩ := hf need
    refine ⟨fun k o ho => .inr ((h1 k o ho).resolve_left fun ⟨o', h⟩ => by simp [look] at h), fun c D D' β w vs hw0 hMw hrel hD hK hv => ?_⟩
    have hv' : VReps (Mset c pre β) w noKeys as vs := frzL_vreps hrel (fun _ _ h => h) has hv
    exact (hf.frame (pre' := pre) (fun k o hk => by simp [look] at hk)).use need hrel (fun _ _ h => h) hD hK (hv'.mono (fun b o h1 h2 => ⟨h2, h1⟩) fun k x hx => by simp [noKeys] at hx)
  · simp at hg
theorem tauOK_one {K k a : Nat} {pre : Store} (h : K ≤ k ∧ k < K + stride) : TauOK [] K pre (ren [(k, a)]) :=
  ⟨fun x y z hx hy => by
    simp only [ren, look] at hx hy
    split at hx <;> split at hy <;> simp_all, fun x y hx => by
    simp only [ren, look] at hx
    split at hx
    · rename_i he
      have : k = x := by simpa using he
      subst this
      exact .inr h
    · simp at hx⟩
theorem tauOK_pre {K k a : Nat} {pre : Store} : TauOK [(a, k)] K pre (ren [(k, a)]) :=
  ⟨fun x y z hx hy => by
    simp only [ren, look] at hx hy
    split at hx <;> split at hy <;> simp_all, fun x y hx => by
    simp only [ren, look] at hx ⊢
    split at hx
    · rename_i he
      have : k = x := by simpa using he
      subst this
      simp only [Option.some.injEq] at hx
      subst hx
      exact .inl (by simp)
    · simp at hx⟩
theorem k0_none {c : Ctx} (h : c.k0 = noKeys) {nx : Nat} : ∀ k x, c.k0 k = some x → k < nx := fun k x hk => by rw [h] at hk; simp [noKeys] at hk
theorem view_eq {ls : List Nat} {s' : AState} {vs us : List AV} {os ps : Store} (hv : viewAV ls s' = some (vs, os)) (h1 : vs = us) (h2 : os = ps) : viewAV ls s' = some (us, ps) := by rw [hv, h1, h2]
end Go.Am

/- Rational numbers: signs, sizes, quotients of natural numbers. -/
namespace Go.Am
open AV
def sgn (b : Bool) (n : Nat) : Int := if b then -(n : Int) else n
def sQ (b : Bool) (n d : Nat) : Rat := mkRat (sgn b n) d
def rsz (q : Rat) : Nat := max (bitsN q.num.natAbs) (bitsN q.den)
theorem sgn_natAbs {b : Bool} {n : Nat} : (sgn b n).natAbs = n := by unfold sgn; split <;> simp
theorem sgn_zero {b : Bool} : sgn b 0 = 0 := by unfold sgn; split <;> simp
theorem sgn_div {b : Bool} {n g : Nat} (h : g ∣ n) : sgn b n / (g : Int) = sgn b (n / g) := by
  unfold sgn
  split
  · rw [Int.neg_ediv_of_dvd (Int.natCast_dvd_natCast.2 h)]; simp
  · simp
theorem rat_lt_zero {q : Rat} : q < 0 ↔ q.num < 0 := by rw [Rat.lt_iff]; simp
theorem sQ_num {b : Bool} {n d : Nat} (hd : d ≠ 0) : (sQ b n d).num = sgn b (n / Nat.gcd n d) := by
  unfold sQ
  rw [Rat.num_mkRat, if_neg hd, sgn_natAbs, Nat.gcd_comm, sgn_div (Nat.gcd_dvd_left n d)]
theorem sQ_den {b : Bool} {n d : Nat} (hd : d ≠ 0) : (sQ b n d).den = d / Nat.gcd n d := by
  unfold sQ
  rw [Rat.den_mkRat, if_neg hd, sgn_natAbs, Nat.gcd_comm]
theorem sQ_zero {b : Bool} {d : Nat} : sQ b 0 d = 0 := by unfold sQ; rw [sgn_zero]; simp
theorem sQ_neg {b : Bool} {n d : Nat} (hn : n ≠ 0) (hd : d ≠ 0) : decide (sQ b n d < 0) = b := by
  have h1 : 0 < n / Nat.gcd n d := Nat.div_pos (Nat.le_of_dvd (by omega) (Nat.gcd_dvd_left n d)) (Nat.gcd_pos_of_pos_left _ (by omega))
  cases b
  · simp only [decide_eq_false_iff_not, rat_lt_zero, sQ_num hd, sgn]; simp; omega
  · simp only [decide_eq_true_eq, rat_lt_zero, sQ_num hd, sgn]; simp; omega
theorem Sz_rsz {q : Rat} : Sz q (rsz q) :=
  ⟨Nat.lt_of_lt_of_le (bitsN_le.1 (Nat.le_refl _)) (Nat.pow_le_pow_right (by omega) (Nat.le_max_left _ _)), Nat.lt_of_lt_of_le (bitsN_le.1 (Nat.le_refl _)) (Nat.pow_le_pow_right (by omega) (Nat.le_max_right _ _))⟩
theorem avLe0_rat_eq {q r : Rat} {n k : Nat} (h : q = r) (hs : Sz r k) : avLe0 (.rat q n) (.rat r k) := by
  subst h
  refine ⟨rfl, fun M w cs hc => ?_⟩
  cases hc with
  | rat _ h1 h2 h3 => cases h3; exact .rat hs h1 h2 .nil
theorem Sz_sQ {b : Bool} {n d k : Nat} (hd : d ≠ 0) (hn : n < 2 ^ k) (hdk : d < 2 ^ k) : Sz (sQ b n d) k := by
  refine ⟨?_, ?_⟩
  · rw [sQ_num hd, sgn_natAbs]; exact Nat.lt_of_le_of_lt (Nat.div_le_self _ _) hn
  · rw [sQ_den hd]; exact Nat.lt_of_le_of_lt (Nat.div_le_self _ _) hdk
theorem rat_sQ (q : Rat) : sQ (decide (q < 0)) q.num.natAbs q.den = q := by
  unfold sQ
  have : sgn (decide (q < 0)) q.num.natAbs = q.num := by
    unfold sgn
    by_cases h : q < 0
    · have := rat_lt_zero.1 h; simp [h]; omega
    · have : ¬ q.num < 0 := fun h' => h (rat_lt_zero.2 h')
      simp [h]; omega
  rw [this, Rat.mkRat_self]
theorem avLe0_sQ {b : Bool} {x y n d k : Nat} (hn : n ≠ 0) (hd : d ≠ 0) (hx : x = n / Nat.gcd n d) (hy : y = if d / Nat.gcd n d = 1 then 0 else d / Nat.gcd n d) (hs : Sz (sQ b n d) k) : avLe0 (.agg [.bool b, .mag x, .mag y]) (.rat (sQ b n d) k) :=
  avLe0_rat hs (sQ_neg hn hd).symm (by rw [sQ_num hd, sgn_natAbs, hx]) (by rw [sQ_den hd, hy])
theorem avLe0_zero {k : Nat} : avLe0 (.agg [.bool false, .mag 0, .mag 0]) (.rat 0 (k + 1)) :=
  avLe0_rat ⟨by simp [Nat.two_pow_pos], by simp⟩ (by decide) rfl rfl
section down
variable {P : Program} {c : Ctx} {nt : Nat} {s : AState} {Q : AEx → AState → Prop} {T : Types}
def Lower (c : Ctx) (Q : AEx → AState → Prop) (e : AEx) (s' : AState) : Prop := Q e s' ∨ ∃ s2 ρ, Le c ρ s' s2 ∧ Q e s2
theorem AWp.down {x : Code} (h : AWp P c nt x s (Lower c Q)) : AWp P c nt x s Q := by
  intro a w hr
  refine wpIn_mono (h a w hr) ?_
  rintro e a' w' ⟨ae, s', h1, h2, hq | ⟨s2, ρ, hle, hq⟩⟩
  · exact ⟨ae, s', h1, h2, hq⟩
  · exact ⟨ae, s2, h1, hle.rel h2, hq⟩
theorem finD {fn : Func} {ls : List Nat} {vs : List AV} {os : Store} {nx : Nat} {s' : AState} {e : AEx} {t : ATree (List AV)} {res : AV} (he : endT T fn e ⟨zipL ls vs, os, nx⟩ = some t) (hv : viewAV ls s' = some (vs, os)) (h0 : ∀ k x, c.k0 k = some x → k < nx) (hok : okV nx vs = true) (ho : okO nx os)
    (h : t.all fun _ us => resOK us res) : Lower c (Fin T fn res) e s' := by
  obtain ⟨ρ, hle⟩ := le_same hv h0 hok ho
  exact .inr ⟨_, ρ, hle, endT_ok he h⟩
theorem AWpL.finDV (hT : TOK P T) {Γ : Contracts} (hΓ : GOK P Γ) (hm : P.follows .mixedOrders = true) {fn : Func} {forks : List Nat} (n : Nat) {l : List Code} {ls : List Nat} {nx : Nat} {vs : List AV} {os : Store} (hv : viewAV ls s = some (vs, os)) (h0 : ∀ k x, c.k0 k = some x → k < nx)
    (hok : okV nx vs = true) (ho : okO nx os) {t : ATree (List AV)} (hc : endL T Γ forks n fn l ⟨zipL ls vs, os, nx⟩ = some t) (hd : (l.all fun x => dstOK nt x) = true) (hl : l.isEmpty = false) {res : AV} (h : t.all fun _ us => resOK us res) : AWpL P c nt l s (Lower c (Fin T fn res)) :=
  (AWpL.finV hT hΓ hm n hv h0 hok ho hc hd hl h).mono fun _ _ h => .inl h
end down
theorem fok_down {P : Program} {T : Types} (hT : TOK P T) {f : FuncId} {fn : Func} {x : Code} (hf : FnIs P f fn x) {args : List AV} {r : CRes} (hk : keysL args = []) (hlen : args.length ≤ fn.ntmps) (hpost : r.post = [])
    (h : r.need → ∀ c : Ctx, (∀ nx k x, c.k0 k = some x → k < nx) → AWp P c fn.ntmps x ⟨zipSlots 0 args, [], 0⟩ (Lower c (Fin T fn r.res))) (K : Nat) (pre : Store) : FOK P f K args pre r :=
  fok_pure hT hf hk hlen hpost (fun need c h0 => .down (h need c fun _ => k0_none h0)) K pre
mutual
/-- What is known of the sizes of numbers in values. -/
def szA : AV → Prop
  | .rat q n => Sz q n
  | .agg l => szL l
  | _ => True
def szL : List AV → Prop
  | [] => True
  | a :: l => szA a ∧ szL l
end
theorem CReps.sz {M : Nat → Prop} {w : World} {β : KMap} {l : List AV} {cs : List Value} (h : CReps M w β l cs) : szL l := by
  induction h with
  | nil => trivial
  | rat hs _ _ _ _ _ ih => exact ⟨hs, ih⟩
  | agg _ _ ih1 ih2 => exact ⟨ih1, ih2⟩
  | tab _ _ _ _ _ _ _ ih => exact ⟨trivial, ih⟩
  | ntab _ _ _ _ _ _ _ _ ih => exact ⟨trivial, ih⟩
  | cref _ _ _ _ ih => exact ⟨trivial, ih⟩
  | func _ _ _ _ ih => exact ⟨trivial, ih⟩
  | capd _ _ _ _ ih => exact ⟨trivial, ih⟩
  | _ => rename_i ih; exact ⟨trivial, ih⟩
theorem VReps.sz {M : Nat → Prop} {w : World} {β : KMap} : ∀ {l : List AV} {xs : List Value}, VReps M w β l xs → szL l
  | [], [], _ => trivial
  | a :: l, x :: xs, h => by
    obtain ⟨⟨cs, h1, _⟩, h2⟩ := h
    exact ⟨h1.sz.1, h2.sz⟩
  | [], _ :: _, h => h.elim
  | _ :: _, [], h => h.elim
theorem fok_sz {P : Program} {f : FuncId} {K : Nat} {args : List AV} {pre : Store} {r : CRes} (hp : ∀ k o, look k r.post = some o → (∃ o', look k pre = some o') ∨ (K ≤ k ∧ k < K + stride)) (h : szL args → FOK P f K args pre r) : FOK P f K args pre r :=
  fun need => ⟨hp, fun c D D' β w vs h1 h2 h3 h4 h5 hv => (h hv.sz need).2 c D D' β w vs h1 h2 h3 h4 h5 hv⟩
theorem fok_szp {P : Program} {f : FuncId} {K : Nat} {args : List AV} {pre : Store} {v : AV} {l : List Prop} (h : szL args → FOK P f K args pre ⟨v, [], l⟩) : FOK P f K args pre ⟨v, [], l⟩ :=
  fok_sz (fun k o hk => by simp [look] at hk) h
theorem nl_lt_of {N n : Nat} (h : N < 2 ^ n) (hn : n < 2 ^ 44) : nl N < 2 ^ 40 := by
  have h1 : N < 2 ^ (32 * (n / 32 + 1)) := Nat.lt_of_lt_of_le h (Nat.pow_le_pow_right (by omega) (by omega))
  have := nl_spec.2 h1
  omega
theorem denN_le {q : Rat} : (if q.den = 1 then 0 else q.den) ≤ q.den := by split <;> omega
theorem Sz.nls {q : Rat} {n : Nat} (h : Sz q n) (hn : n < 2 ^ 44) : nl q.num.natAbs < 2 ^ 40 ∧ nl q.den < 2 ^ 40 ∧ nl (if q.den = 1 then 0 else q.den) < 2 ^ 40 :=
  ⟨nl_lt_of h.1 hn, nl_lt_of h.2 hn, Nat.lt_of_le_of_lt (nl_mono denN_le) (nl_lt_of h.2 hn)⟩
theorem Sz.pos {q : Rat} {n : Nat} (h : Sz q n) : 0 < n := by
  rcases Nat.eq_zero_or_pos n with h1 | h1
  · subst h1; have := h.2; have := q.den_nz; omega
  · exact h1
theorem Sz.more {q : Rat} {n m : Nat} (h : Sz q n) (hm : n ≤ m) : Sz q m :=
  ⟨Nat.lt_of_lt_of_le h.1 (Nat.pow_le_pow_right (by omega) hm), Nat.lt_of_lt_of_le h.2 (Nat.pow_le_pow_right (by omega) hm)⟩
theorem mkRat_natAbs {a : Int} {d : Nat} : (mkRat a d).num.natAbs ≤ a.natAbs := by
  rw [Rat.num_mkRat]
  split
  · simp
  · rw [Int.natAbs_ediv_of_dvd]
    · exact Nat.div_le_self _ _
    · exact Int.ofNat_dvd_left.2 (Nat.gcd_dvd_right _ _)
theorem mkRat_den_le {a : Int} {d : Nat} (h : d ≠ 0) : (mkRat a d).den ≤ d := by
  rw [Rat.den_mkRat, if_neg h]
  exact Nat.div_le_self _ _
theorem Sz.add {q r : Rat} {n m : Nat} (h : Sz q n) (h' : Sz r m) : Sz (q + r) (n + m + 1) := by
  rw [Rat.add_def']
  have d0 : q.den * r.den ≠ 0 := Nat.mul_ne_zero q.den_nz r.den_nz
  have e : 2 ^ (n + m + 1) = 2 ^ n * 2 ^ m + 2 ^ n * 2 ^ m := by rw [Nat.pow_succ, Nat.pow_add]; omega
  have b1 : q.num.natAbs * r.den ≤ 2 ^ n * 2 ^ m := Nat.mul_le_mul (Nat.le_of_lt h.1) (Nat.le_of_lt h'.2)
  have b2 : r.num.natAbs * q.den < 2 ^ m * 2 ^ n := Nat.mul_lt_mul'' h'.1 h.2
  have b3 : q.den * r.den ≤ 2 ^ n * 2 ^ m := Nat.mul_le_mul (Nat.le_of_lt h.2) (Nat.le_of_lt h'.2)
  have b4 : 0 < 2 ^ n * 2 ^ m := Nat.mul_pos (Nat.two_pow_pos _) (Nat.two_pow_pos _)
  rw [Nat.mul_comm (2 ^ m)] at b2
  refine ⟨Nat.lt_of_le_of_lt mkRat_natAbs ?_, Nat.lt_of_le_of_lt (mkRat_den_le d0) (by omega)⟩
  have b5 := Int.natAbs_add_le (q.num * r.den) (r.num * q.den)
  rw [Int.natAbs_mul, Int.natAbs_mul, Int.natAbs_natCast, Int.natAbs_natCast] at b5
  omega
theorem Sz.neg {q : Rat} {n : Nat} (h : Sz q n) : Sz (-q) n := by
  refine ⟨?_, ?_⟩
  · rw [Rat.neg_num, Int.natAbs_neg]; exact h.1
  · rw [Rat.neg_den]; exact h.2
theorem Sz.sub {q r : Rat} {n m : Nat} (h : Sz q n) (h' : Sz r m) : Sz (q - r) (n + m + 1) := by
  rw [Rat.sub_eq_add_neg]; exact h.add h'.neg
theorem Sz.mul {q r : Rat} {n m : Nat} (h : Sz q n) (h' : Sz r m) : Sz (q * r) (n + m) := by
  rw [Rat.mul_def']
  have d0 : q.den * r.den ≠ 0 := Nat.mul_ne_zero q.den_nz r.den_nz
  refine ⟨Nat.lt_of_le_of_lt mkRat_natAbs ?_, Nat.lt_of_le_of_lt (mkRat_den_le d0) ?_⟩
  · rw [Int.natAbs_mul, Nat.pow_add]; exact Nat.mul_lt_mul'' h.1 h'.1
  · rw [Nat.pow_add]; exact Nat.mul_lt_mul'' h.2 h'.2
theorem Sz.inv {q : Rat} {n : Nat} (h : Sz q n) : Sz q⁻¹ n := by
  by_cases h0 : q = 0
  · subst h0
    rw [Rat.inv_zero]
    exact h
  · have hn : q.num ≠ 0 := fun h => h0 (Rat.num_eq_zero.1 h)
    refine ⟨?_, ?_⟩
    · rw [Rat.num_inv, Int.natAbs_mul, Int.natAbs_natCast, Int.natAbs_sign_of_ne_zero hn, Nat.one_mul]; exact h.2
    · rw [Rat.den_inv, if_neg hn]; exact h.1
theorem Sz.div {q r : Rat} {n m : Nat} (h : Sz q n) (h' : Sz r m) : Sz (q / r) (n + m) := by
  rw [Rat.div_def]; exact h.mul h'.inv
def sgnR (q : Rat) : Int := if q < 0 then -1 else if 0 < q then 1 else 0
def cmpR (q r : Rat) : Int := if q < r then -1 else if r < q then 1 else 0
end Go.Am

/- Contracts of functions that are handed a pointer to an object and leave it changed. -/
namespace Go.Am
open AV
def endO (T : Types) (fn : Func) (e : AEx) (s : AState) : Option (ATree (List AV × Option AObj)) :=
  match endT T fn e s with
  | some t => t.bind fun e us => some (.leaf e (us, look 0 s.store))
  | none => none
def funO (T : Types) (Γ : Contracts) (forks : List Nat) (n : Nat) (fn : Func) (x : Code) (s : AState) : Option (ATree (List AV × Option AObj)) :=
  match treeAV T Γ forks n x s with
  | some t => t.bind (endO T fn)
  | none => none
theorem fok_obj {P : Program} {T : Types} (hT : TOK P T) {Γ : Contracts} (hΓ : GOK P Γ) (hm : P.follows .mixedOrders = true) {f : FuncId} {fn : Func} {x : Code} (hf : FnIs P f fn x) {k idx es off : Nat} {p : List Nat} {rest : List AV} {o2 o o' : AObj} {res : AV} {l : List Prop}
    (hkr : keysL rest = []) (hrt : (rest.all fun v => !v.isTuple) = true) (hlen : rest.length + 1 ≤ fn.ntmps) (ho : ∀ ρ, objLe ρ o2 o) {forks : List Nat} (n : Nat) {t : ATree (List AV × Option AObj)}
    (hc : funO T Γ forks n fn x ⟨zipSlots 0 (.ptr 0 idx es off p :: rest), [(0, o)], 1⟩ = some t)
    (h : allP l → t.all fun _ v => resOK v.1 res ∧ ∃ o1, v.2 = some o1 ∧ o1.row = false ∧ objLe (ren [(k, 0)]) o1 o') (K : Nat) :
    FOK P f K (.ptr k idx es off p :: rest) [(k, o2)] ⟨res, [(k, o')], l⟩ := by
  have hrest : ∀ {rest : List AV}, keysL rest = [] → (rest.all fun v => !v.isTuple) = true → avLes (ren [(0, k)]) rest rest := by
    intro rest
    induction rest with
    | nil => intro _ _; trivial
    | cons v r ih =>
      intro h1 h2
      simp only [keysL, List.append_eq_nil_iff] at h1
      simp only [List.all_cons, Bool.and_eq_true, Bool.not_eq_true'] at h2
      exact ⟨⟨h2.1, avLe_pure h1.1⟩, ih h1.2 h2.2⟩
  refine fok_core hT hf (args0 := .ptr 0 idx es off p :: rest) (pre0 := [(0, o)]) (nx := 1) [(0, k)] (by simpa using hlen) (by simp [renOK]) ⟨⟨rfl, avLe_ptr rfl⟩, hrest hkr hrt⟩ ⟨⟨k, o2, rfl, by simp [look], ho _⟩, trivial⟩
    (fun a x h => ?_) (fun x o h => .inl ?_) (fun need c h0 => ?_)
  · simp only [ren, look] at h
    split at h
    · simp only [Option.some.injEq] at h; subst h; exact ⟨_, by simp [look]; rfl⟩
    · simp at h
  · simp only [look] at h
    split at h
    · rename_i he
      exact ⟨_, by simp only [look, he, if_true]; rfl⟩
    · simp at h
  have h := h need
  unfold funO at hc
  cases hx : treeAV T Γ forks n x ⟨zipSlots 0 (.ptr 0 idx es off p :: rest), [(0, o)], 1⟩ with
  | none => rw [hx] at hc; simp at hc
  | some u =>
    rw [hx] at hc
    refine treeAV_ok hT hΓ hm n hf.dst hx (ATree.all_mono ?_ (ATree.bind_all hc h))
    rintro e s' ⟨v, h1, h2⟩
    unfold endO at h1
    split at h1
    · rename_i v' hv'
      have h3 := ATree.bind_all h1 h2
      have h4 : v'.all fun _ us => resOK us res ∧ ∃ o1, look 0 s'.store = some o1 ∧ o1.row = false ∧ objLe (ren [(k, 0)]) o1 o' := by
        refine ATree.all_mono ?_ h3
        rintro e us ⟨w, g1, g2⟩
        simp only [Option.some.injEq] at g1
        subst g1
        exact g2
      have h5 : Fin T fn res e s' := endT_ok hv' (ATree.all_mono (fun _ _ h => h.1) h4)
      have h6 : ∃ o1, look 0 s'.store = some o1 ∧ o1.row = false ∧ objLe (ren [(k, 0)]) o1 o' := by
        have : ∀ {t : ATree (List AV)}, (t.all fun _ us => resOK us res ∧ ∃ o1, look 0 s'.store = some o1 ∧ o1.row = false ∧ objLe (ren [(k, 0)]) o1 o') → ∃ o1, look 0 s'.store = some o1 ∧ o1.row = false ∧ objLe (ren [(k, 0)]) o1 o' := by
          intro t
          induction t with
          | leaf e us => exact fun h => h.2
          | must ps t ih => exact fun h => ih h.2
          | fork b t1 t2 ih1 ih2 =>
            intro h
            cases b with
            | true => exact ih1 (h.1 rfl)
            | false => exact ih2 (h.2 rfl)
        exact this h4
      refine ⟨h5.1, ren [(k, 0)], tauOK_pre, .inl ⟨h5.2, fun x ox hx => ?_⟩⟩
      obtain ⟨o1, g1, g2, g3⟩ := h6
      have he : applyEff (toOpts [(k, o')]) [(k, o2)] = [(k, o')] := by simp [applyEff, toOpts, put]
      rw [he] at hx
      simp only [look] at hx
      split at hx
      · rename_i hk
        have : k = x := by simpa using hk
        subst this
        simp only [Option.some.injEq] at hx
        subst hx
        exact ⟨0, o1, by simp [ren, look], g1, g2, g3⟩
      · simp at hx
    · simp at h1
theorem fok_new {P : Program} {T : Types} (hT : TOK P T) {Γ : Contracts} (hΓ : GOK P Γ) (hm : P.follows .mixedOrders = true) {f : FuncId} {fn : Func} {x : Code} (hf : FnIs P f fn x) {args : List AV} {o o' : AObj} {a idx es off ls : Nat} {p : List Nat} {l : List Prop}
    (hka : keysL args = []) (hrt : (args.all fun v => !v.isTuple) = true) (hlen : args.length ≤ fn.ntmps) (hres : fn.results.toList = [.tmp ls]) {forks : List Nat} (n : Nat) {e : AEx} {q : List Prop}
    (hc : seeL T Γ forks n [ls] [x] ⟨zipSlots 0 args, [], 0⟩ = some (.leaf e ([.ptr a idx es off p], [(a, o)])))
    (he : e = .normal ∨ e = .ret) (h : ∀ ρ, objLe ρ o o') (K : Nat) : FOK P f K args [] ⟨.ptr K idx es off p, [(K, o')], l⟩ := by
  have hrest : ∀ {rest : List AV}, keysL rest = [] → (rest.all fun v => !v.isTuple) = true → avLes (ren []) rest rest := by
    intro rest
    induction rest with
    | nil => intro _ _; trivial
    | cons v r ih =>
      intro h1 h2
      simp only [keysL, List.append_eq_nil_iff] at h1
      simp only [List.all_cons, Bool.and_eq_true, Bool.not_eq_true'] at h2
      exact ⟨⟨h2.1, avLe_pure h1.1⟩, ih h1.2 h2.2⟩
  refine fok_core hT hf (args0 := args) (pre0 := []) (nx := 0) [] hlen rfl (hrest hka hrt) trivial (fun a k h => by simp [ren, look] at h) (fun k o h => ?_) (fun _ c h0 => ?_)
  · simp only [look] at h
    split at h
    · rename_i he
      have : K = k := by simpa using he
      subst this
      exact .inr ⟨Nat.le_refl _, by unfold stride; omega⟩
    · simp at h
  refine AWp.see hT hΓ hm n [ls] hc hf.dst fun s' hv => ⟨he, ren [(K, a)], tauOK_one ⟨Nat.le_refl _, by unfold stride; omega⟩, .inr ?_⟩
  refine endsB_view (us := [.ptr a idx es off p]) (ws := [.ptr K idx es off p]) (ps := [(K, o')]) hv ?_ ⟨⟨rfl, avLe_ptr (by simp [ren, look])⟩, trivial⟩ rfl rfl ⟨⟨a, _, by simp [ren, look], by simp [look], h _⟩, trivial⟩
  rw [hres]
  simp only [resV, zipL, look, beq_self_eq_true, if_true]
  rfl
end Go.Am

/- Contracts that the evaluator itself writes: of functions that only read, without a loop of unknown length. -/
namespace Go.Am
open AV
mutual
/-- One of two values, by a condition that is not known. -/
def mrg (b : Bool) : AV → AV → Option AV
  | .rat q n, .rat r m => some (.rat (cond b q r) (max n m))
  | .int k x, .int j y => match isKind k j with
    | true => some (.int k (cond b x y))
    | false => none
  | .bool x, .bool y => some (.bool (cond b x y))
  | .tab e n f, .tab e' m g => match e == e' with
    | true => some (.tab e (cond b n m) fun i => cond b (f i) (g i))
    | false => none
  | .nil, .nil => some .nil
  | .nil, .tab e n f => match Nat.blt 0 e with
    | true => some (.tab e (cond b 0 n) f)
    | false => none
  | .tab e n f, .nil => match Nat.blt 0 e with
    | true => some (.tab e (cond b n 0) f)
    | false => none
  | .agg l, .agg m => match mrgL b l m with
    | some x => some (.agg x)
    | none => none
  | _, _ => none
def mrgL (b : Bool) : List AV → List AV → Option (List AV)
  | [], [] => some []
  | u :: l, v :: m => match mrg b u v, mrgL b l m with
    | some x, some y => some (x :: y)
    | _, _ => none
  | _, _ => none
end
mutual
theorem mrg_true : ∀ {u v x : AV}, mrg true u v = some x → avLe0 u x
  | .rat q n, v, x, h => by
    cases v <;> simp only [mrg, Option.some.injEq, reduceCtorEq] at h
    subst h; exact avLe0_rat_more (Nat.le_max_left ..)
  | .int k a, v, x, h => by
    cases v <;> simp only [mrg, reduceCtorEq] at h
    split at h
    · simp only [Option.some.injEq] at h; subst h; exact .refl _
    · simp at h
  | .bool a, v, x, h => by
    cases v <;> simp only [mrg, Option.some.injEq, reduceCtorEq] at h
    subst h; exact .refl _
  | .tab e n f, v, x, h => by
    cases v <;> simp only [mrg, reduceCtorEq] at h
    · split at h
      · simp only [Option.some.injEq] at h; subst h; exact .refl _
      · simp at h
    · split at h
      · simp only [Option.some.injEq] at h; subst h; exact .refl _
      · simp at h
  | .nil, v, x, h => by
    cases v <;> simp only [mrg, Option.some.injEq, reduceCtorEq] at h
    · split at h
      · rename_i he
        simp only [Option.some.injEq] at h; subst h
        exact avLe0_nil_tab (by rw [Nat.blt_eq] at he; exact he)
      · simp at h
    · subst h; exact .refl _
  | .agg l, v, x, h => by
    cases v <;> simp only [mrg, reduceCtorEq] at h
    split at h
    · rename_i hl
      simp only [Option.some.injEq] at h; subst h; exact avLe0_agg (mrgL_true hl)
    · simp at h
  | .mag _, v, x, h => by simp [mrg] at h
  | .ntab _ _ _ _, v, x, h => by simp [mrg] at h
  | .void, v, x, h => by simp [mrg] at h
  | .str _, v, x, h => by simp [mrg] at h
  | .cref _, v, x, h => by simp [mrg] at h
  | .ptr _ _ _ _ _, v, x, h => by simp [mrg] at h
  | .own _ _ _ _, v, x, h => by simp [mrg] at h
  | .func _ _, v, x, h => by simp [mrg] at h
  | .tuple _, v, x, h => by simp [mrg] at h
  | .capd _ _, v, x, h => by simp [mrg] at h
theorem mrgL_true : ∀ {u v x : List AV}, mrgL true u v = some x → avLes0 u x
  | [], v, x, h => by
    cases v <;> simp only [mrgL, Option.some.injEq, reduceCtorEq] at h
    subst h; trivial
  | a :: l, v, x, h => by
    cases v <;> simp only [mrgL, reduceCtorEq] at h
    split at h
    · rename_i h1 h2
      simp only [Option.some.injEq] at h; subst h; exact ⟨mrg_true h1, mrgL_true h2⟩
    · simp at h
end
mutual
theorem mrg_false : ∀ {u v x : AV}, mrg false u v = some x → avLe0 v x
  | .rat q n, v, x, h => by
    cases v <;> simp only [mrg, Option.some.injEq, reduceCtorEq] at h
    subst h; exact avLe0_rat_more (Nat.le_max_right ..)
  | .int k a, v, x, h => by
    cases v <;> simp only [mrg, reduceCtorEq] at h
    split at h
    · rename_i hk
      have := isKind_eq hk
      subst this
      simp only [Option.some.injEq] at h; subst h; exact .refl _
    · simp at h
  | .bool a, v, x, h => by
    cases v <;> simp only [mrg, Option.some.injEq, reduceCtorEq] at h
    subst h; exact .refl _
  | .tab e n f, v, x, h => by
    cases v <;> simp only [mrg, reduceCtorEq] at h
    · split at h
      · rename_i hk
        have := eq_of_beq hk
        subst this
        simp only [Option.some.injEq] at h; subst h; exact .refl _
      · simp at h
    · split at h
      · rename_i he
        simp only [Option.some.injEq] at h; subst h
        exact avLe0_nil_tab (by rw [Nat.blt_eq] at he; exact he)
      · simp at h
  | .nil, v, x, h => by
    cases v <;> simp only [mrg, Option.some.injEq, reduceCtorEq] at h
    · split at h
      · simp only [Option.some.injEq] at h; subst h; exact .refl _
      · simp at h
    · subst h; exact .refl _
  | .agg l, v, x, h => by
    cases v <;> simp only [mrg, reduceCtorEq] at h
    split at h
    · rename_i hl
      simp only [Option.some.injEq] at h; subst h; exact avLe0_agg (mrgL_false hl)
    · simp at h
  | .mag _, v, x, h => by simp [mrg] at h
  | .ntab _ _ _ _, v, x, h => by simp [mrg] at h
  | .void, v, x, h => by simp [mrg] at h
  | .str _, v, x, h => by simp [mrg] at h
  | .cref _, v, x, h => by simp [mrg] at h
  | .ptr _ _ _ _ _, v, x, h => by simp [mrg] at h
  | .own _ _ _ _, v, x, h => by simp [mrg] at h
  | .func _ _, v, x, h => by simp [mrg] at h
  | .tuple _, v, x, h => by simp [mrg] at h
  | .capd _ _, v, x, h => by simp [mrg] at h
theorem mrgL_false : ∀ {u v x : List AV}, mrgL false u v = some x → avLes0 v x
  | [], v, x, h => by
    cases v <;> simp only [mrgL, Option.some.injEq, reduceCtorEq] at h
    subst h; trivial
  | a :: l, v, x, h => by
    cases v <;> simp only [mrgL, reduceCtorEq] at h
    split at h
    · rename_i h1 h2
      simp only [Option.some.injEq] at h; subst h; exact ⟨mrg_false h1, mrgL_false h2⟩
    · simp at h
end
theorem avLes0.trans : ∀ {a b c : List AV}, avLes0 a b → avLes0 b c → avLes0 a c
  | [], [], [], _, _ => trivial
  | _ :: _, _ :: _, _ :: _, h, h' => ⟨h.1.trans h'.1, h.2.trans h'.2⟩
  | [], [], _ :: _, _, h => h.elim
  | [], _ :: _, _, h, _ => h.elim
  | _ :: _, [], _, h, _ => h.elim
  | _ :: _, _ :: _, [], _, h => h.elim
def treeC : ATree (List AV) → Option (List AV × List Prop)
  | .leaf _ us => some (us, [])
  | .must ps t => match treeC t with
    | some (us, qs) => some (us, ps ++ qs)
    | none => none
  | .fork b t u => match treeC t, treeC u with
    | some (x, p), some (y, q) => match mrgL b x y with
      | some z => match p, q with
        | [], [] => some (z, [])
        | p, q => some (z, [b = true → allP p, b = false → allP q])
      | none => none
    | _, _ => none
theorem treeC_ok : ∀ {t : ATree (List AV)} {us : List AV} {ps : List Prop}, treeC t = some (us, ps) → allP ps → t.all fun _ vs => avLes0 vs us
  | .leaf e vs, us, ps, h, _ => by
    simp only [treeC, Option.some.injEq, Prod.mk.injEq] at h
    obtain ⟨rfl, rfl⟩ := h
    exact .refl _
  | .must l t, us, ps, h, hp => by
    simp only [treeC] at h
    split at h
    · rename_i h1
      simp only [Option.some.injEq, Prod.mk.injEq] at h
      obtain ⟨rfl, rfl⟩ := h
      obtain ⟨p1, p2⟩ := allP_append.1 hp
      exact ⟨p1, treeC_ok h1 p2⟩
    · simp at h
  | .fork b t u, us, ps, h, hp => by
    simp only [treeC] at h
    split at h
    · rename_i x p y q h1 h2
      split at h
      · rename_i z hz
        have key : us = z ∧ (b = true → allP p) ∧ (b = false → allP q) := by
          split at h
          · simp only [Option.some.injEq, Prod.mk.injEq] at h
            exact ⟨h.1.symm, fun _ => trivial, fun _ => trivial⟩
          · simp only [Option.some.injEq, Prod.mk.injEq] at h
            obtain ⟨rfl, rfl⟩ := h
            exact ⟨rfl, hp⟩
        obtain ⟨rfl, p1, p2⟩ := key
        refine ⟨fun hb => ?_, fun hb => ?_⟩
        · subst hb
          exact ATree.all_mono (fun _ vs hv => hv.trans (mrgL_true hz)) (treeC_ok h1 (p1 rfl))
        · subst hb
          exact ATree.all_mono (fun _ vs hv => hv.trans (mrgL_false hz)) (treeC_ok h2 (p2 rfl))
      · simp at h
    · simp at h
def aSpec (T : Types) (Γ : Contracts) (forks : List Nat) (fuel : Nat) (fn : Func) : Spec := pureSpec fun args =>
  match Nat.ble args.length fn.ntmps with
  | true => match funT T Γ forks fuel fn (codeOf fn) ⟨zipSlots 0 args, [], 0⟩ with
    | some t => match treeC t with
      | some (us, ps) => match us with
        | [u] => some ⟨u, [], ps⟩
        | us => some ⟨.tuple us, [], ps⟩
      | none => none
    | none => none
  | false => none
theorem resOK_one {us : List AV} {v : AV} (h : avLes0 us [v]) : resOK us v := by
  match us, h with
  | [u], h => exact h.1
theorem resOK_tuple {us vs : List AV} (hv : ∀ u, vs ≠ [u]) (h : avLes0 us vs) : resOK us (.tuple vs) := by
  match us, vs, h with
  | [], [], h => exact h
  | [u], [v], h => exact absurd rfl (hv v)
  | a :: b :: l, _ :: _ :: _, h => exact h
  | [u], _ :: _ :: _, h => exact absurd h.2 (by simp [avLes0])
  | a :: b :: l, [v], h => exact absurd h.2 (by simp [avLes0])
  | [], _ :: _, h => exact h.elim
  | _ :: _, [], h => exact h.elim
theorem aSpec_ok {P : Program} {T : Types} (hT : TOK P T) {Γ : Contracts} (hΓ : GOK P Γ) (hm : P.follows .mixedOrders = true) {f : FuncId} {fn : Func} (hf : FnIs P f fn (codeOf fn)) (forks : List Nat) (fuel : Nat) :
    ∀ K args pre r, aSpec T Γ forks fuel fn K args pre = some r → FOK P f K args pre r := by
  refine pureSpec_ok fun K args r hk hs hp => ?_
  split at hs
  · rename_i hlen
    have hlen := Nat.le_of_ble_eq_true hlen
    split at hs
    · rename_i t ht
      split at hs
      · rename_i us ps hc
        split at hs
        · simp only [Option.some.injEq] at hs
          subst hs
          exact fok_tree (r := ⟨_, [], ps⟩) hT hΓ hm hf hk hlen rfl fuel ht (fun hn => ATree.all_mono (fun _ vs hv => resOK_one hv) (treeC_ok hc hn)) K []
        · rename_i hne
          simp only [Option.some.injEq] at hs
          subst hs
          exact fok_tree (r := ⟨_, [], ps⟩) hT hΓ hm hf hk hlen rfl fuel ht (fun hn => ATree.all_mono (fun _ vs hv => resOK_tuple hne hv) (treeC_ok hc hn)) K []
      · simp at hs
    · simp at hs
  · simp at hs
theorem gok_strict {P : Program} {Γ : Contracts} (h : GOK P Γ) : GOK P (sG :: Γ) := gok_cons (fun K args pre r hs => by simp at hs) h
theorem gok_plain {P : Program} {Γ : Contracts} (h : GOK P Γ) : GOK P (nG :: Γ) := gok_cons (fun K args pre r hs => by simp at hs) h
end Go.Am

/- Loops whose objects get other keys in each round: states up to the names of objects. -/
namespace Go.Am
open AV
def renV (rl : List (Nat × Nat)) : AV → AV
  | .ptr k i e o p => match look k rl with
    | some j => .ptr j i e o p
    | none => .void
  | .own k e s n => match look k rl with
    | some j => .own j e s n
    | none => match s, n, e with
      | 0, 0, _ + 1 => .nil
      | _, _, _ => .void
  | .capd c (.own k e s n) => match look k rl with
    | some j => .capd c (.own j e s n)
    | none => .void
  | v => v
def okR (rl : List (Nat × Nat)) : AV → Bool
  | .ptr k _ _ _ _ => (look k rl).isSome
  | .own k e s n => (look k rl).isSome || match s, n, e with
    | 0, 0, _ + 1 => true
    | _, _, _ => false
  | .tuple _ => false
  | .capd _ (.own k _ _ _) => (look k rl).isSome
  | v => (keys v).isEmpty
theorem avLe_capd {ρ : Nat → Option Nat} {c c2 : Nat} {u v : AV} (hc : c = c2) (hv : v.isAgg = false) (h : avLe ρ u v) : avLe ρ (.capd c u) (.capd c2 v) := by
  subst hc
  refine ⟨rfl, fun M w β cs hcs => ?_⟩
  cases hcs with
  | capd _ h1 h2 => cases h2; exact .capd hv (h.2 _ _ _ _ h1) .nil
theorem avLe_ren {rl : List (Nat × Nat)} {u v : AV} (hu : u = renV rl v) (hv : okR rl v = true) : u.isTuple = false ∧ avLe (ren rl) u v := by
  subst hu
  cases v with
  | ptr k i e o p =>
    simp only [okR, Option.isSome_iff_exists] at hv
    obtain ⟨j, hj⟩ := hv
    simp only [renV, hj]
    exact ⟨rfl, avLe_ptr hj⟩
  | own k e s n =>
    simp only [okR] at hv
    cases hj : look k rl with
    | some j =>
      simp only [renV, hj]
      exact ⟨rfl, avLe_own hj rfl rfl⟩
    | none =>
      rw [hj] at hv
      simp only [Option.isSome_none, Bool.false_or] at hv
      split at hv
      · simp only [renV, hj]
        exact ⟨rfl, avLe_nil (by omega)⟩
      · simp at hv
  | tuple l => simp [okR] at hv
  | capd c v =>
    cases v with
    | own k e s n =>
      simp only [okR, Option.isSome_iff_exists] at hv
      obtain ⟨j, hj⟩ := hv
      simp only [renV, hj]
      exact ⟨rfl, avLe_capd rfl rfl (avLe_own hj rfl rfl)⟩
    | _ =>
      simp only [okR, List.isEmpty_iff] at hv
      exact ⟨rfl, avLe_pure hv⟩
  | _ =>
    simp only [okR, List.isEmpty_iff] at hv
    exact ⟨rfl, avLe_pure hv⟩
theorem avLes_ren {rl : List (Nat × Nat)} : ∀ {vs us : List AV}, us = vs.map (renV rl) → vs.all (okR rl) = true → avLes (ren rl) us vs
  | [], _, h, _ => by subst h; trivial
  | v :: vs, _, h, hv => by
    subst h
    simp only [List.all_cons, Bool.and_eq_true] at hv
    exact ⟨avLe_ren rfl hv.1, avLes_ren rfl hv.2⟩
def okP : AV → Bool
  | .tuple _ => false
  | v => (keys v).isEmpty
theorem renV_pure {rl : List (Nat × Nat)} {v : AV} (h : okP v = true) : renV rl v = v := by
  cases v with
  | capd c v => cases v <;> first | rfl | simp [okP, keys] at h
  | _ => first | rfl | simp [okP, keys] at h
theorem okR_pure {rl : List (Nat × Nat)} {v : AV} (h : okP v = true) : okR rl v = true := by
  cases v with
  | capd c v => cases v <;> first | exact h | simp [okP, keys] at h
  | _ => first | exact h | simp [okP, keys] at h
end Go.Am

/- Functions with one loop, by what the evaluator says of its parts. -/
namespace Go.Am
open AV
def avQ (rl : List (Nat × Nat)) (u v : AV) : Prop := ((okR rl v = true ∧ u = renV rl v) ∨ ∃ us vs, u = .agg us ∧ v = .agg vs ∧ avLes (ren rl) us vs) ∨ (keys u = [] ∧ avLe0 u v)
theorem avLes_cells {ρ : Nat → Option Nat} {M : Nat → Prop} {w : World} {β : KMap} : ∀ {us vs : List AV} {cs : List Value}, avLes ρ us vs → CReps M w β us cs → CReps M w (fun k => (ρ k).bind β) vs cs
  | [], [], _, _, h => by cases h; exact .nil
  | u :: us, v :: vs, cs, hl, h => by
    obtain ⟨c1, c2, rfl, h1, h2⟩ := h.split
    exact (hl.1.2.2 M w β c1 h1).cons (avLes_cells hl.2 h2)
  | [], _ :: _, _, h, _ => h.elim
  | _ :: _, [], _, h, _ => h.elim
theorem avLe_agg {ρ : Nat → Option Nat} {us vs : List AV} (h : avLes ρ us vs) : avLe ρ (.agg us) (.agg vs) := by
  refine ⟨rfl, fun M w β cs hc => ?_⟩
  cases hc with
  | agg h1 h2 => cases h2; exact .agg (avLes_cells h h1) .nil
theorem avQ.le {rl : List (Nat × Nat)} {u v : AV} (h : avQ rl u v) : avLe (ren rl) u v := by
  rcases h with (h | ⟨us, vs, rfl, rfl, h⟩) | h
  · exact (avLe_ren h.2 h.1).2
  · exact avLe_agg h
  · exact avLe_of0 h.1 h.2
def objsQ (nx : Nat) (rl : List (Nat × Nat)) (os : Store) : Store → Prop
  | [] => True
  | (k2, o2) :: ps => ((look k2 rl = none ∧ Virt o2 ∧ k2 < nx) ∨ ∃ k1 o1, look k2 rl = some k1 ∧ look k1 os = some o1 ∧ o1.row = o2.row ∧ o1.wr = o2.wr ∧ o1.es = o2.es ∧ o1.len = o2.len ∧ ∀ i, i < o2.len → avQ rl (o1.f i) (o2.f i)) ∧ objsQ nx rl os ps
theorem objLes_Q {nx : Nat} {rl : List (Nat × Nat)} {os : Store} : ∀ {ps : Store}, objsQ nx rl os ps → objLesV nx (ren rl) os ps
  | [], _ => trivial
  | (k2, o2) :: ps, h => by
    obtain ⟨h | ⟨k1, o1, h1, h2, h3, h4, h5, h6, h7⟩, h8⟩ := h
    · exact ⟨.inr h, objLes_Q h8⟩
    · exact ⟨.inl ⟨k1, o1, h1, h2, ⟨h3.symm ▸ rfl, h4.symm ▸ rfl, h5.symm ▸ rfl, h6.symm ▸ rfl, fun i hi => (h7 i (h6 ▸ hi)).le⟩⟩, objLes_Q h8⟩
theorem avQ_eq {rl : List (Nat × Nat)} {u v : AV} (hk : keys u = []) (h : u = v) : avQ rl u v := .inr ⟨hk, h ▸ .refl _⟩
theorem objsQ_cons {nx : Nat} {rl : List (Nat × Nat)} {os ps : Store} {k2 k1 : Nat} {r w : Bool} {es n m : Nat} {f g : Nat → AV} (hk : look k2 rl = some k1) (ho : look k1 os = some ⟨r, w, es, n, f⟩) (hn : n = m) (h : ∀ i, i < m → avQ rl (f i) (g i))
    (hs : objsQ nx rl os ps) : objsQ nx rl os ((k2, ⟨r, w, es, m, g⟩) :: ps) := ⟨.inr ⟨k1, _, hk, ho, rfl, rfl, rfl, hn, h⟩, hs⟩
theorem objsQ_one {nx : Nat} {rl : List (Nat × Nat)} {os ps : Store} {k2 k1 : Nat} {r w : Bool} {es : Nat} {f g : Nat → AV} (hk : look k2 rl = some k1) (ho : look k1 os = some ⟨r, w, es, 1, f⟩) (h : avQ rl (f 0) (g 0))
    (hs : objsQ nx rl os ps) : objsQ nx rl os ((k2, ⟨r, w, es, 1, g⟩) :: ps) := objsQ_cons hk ho rfl (fun i hi => by rw [Nat.lt_one_iff.1 hi]; exact h) hs
theorem objsQ_new {nx : Nat} {rl : List (Nat × Nat)} {os ps : Store} {k2 es : Nat} {w : Bool} {f : Nat → AV} (hk : look k2 rl = none) (hes : 0 < es) (hn : k2 < nx) (hs : objsQ nx rl os ps) : objsQ nx rl os ((k2, ⟨true, w, es, 0, f⟩) :: ps) := ⟨.inl ⟨hk, ⟨rfl, rfl, hes⟩, hn⟩, hs⟩
theorem look_head {α : Type} {k : Nat} {a : α} {l : List (Nat × α)} : look k ((k, a) :: l) = some a := by simp [look]
theorem look_tail {α : Type} {j k : Nat} {b : α} {l : List (Nat × α)} (h : (j == k) = false) : look k ((j, b) :: l) = look k l := by simp [look, h]
theorem look_app {α : Type} {k : Nat} {b : List (Nat × α)} : ∀ {a : List (Nat × α)}, look k (a ++ b) = match look k a with
    | some x => some x
    | none => look k b
  | [] => rfl
  | (j, x) :: a => by
    simp only [List.cons_append, look]
    split
    · rfl
    · exact look_app
theorem gok_app {P : Program} {a b : Contracts} (ha : GOK P a) (hb : GOK P b) : GOK P (a ++ b) := by
  intro f s hl
  have hl : look f (a ++ b) = some s := hl
  rw [look_app] at hl
  split at hl
  · rename_i h
    simp only [Option.some.injEq] at hl
    subst hl
    exact ha f _ h
  · exact hb f s hl
def Kept (kp : List Nat) (c : Ctx) : Prop := ∀ k x, c.k0 k = some x → k ∈ kp
theorem kept_nil {c : Ctx} (h0 : ∀ nx k x, c.k0 k = some x → k < nx) : Kept [] c := fun k x hk => absurd (h0 0 k x hk) (by omega)
def ReOK (kp : List Nat) (v : List AV × Store) (vs : List AV) (os : Store) (nx : Nat) : Prop :=
  ∃ rl, (renOK nx rl && kp.all fun k => look k rl == some k) = true ∧ v.1 = vs.map (renV rl) ∧ vs.all (okR rl) = true ∧ objsQ nx rl v.2 os
theorem ReOK.le {kp : List Nat} {c : Ctx} {s' : AState} {ls : List Nat} {v : List AV × Store} {vs : List AV} {os : Store} {nx : Nat} (h : ReOK kp v vs os nx) (hv : viewAV ls s' = some v) (h0 : Kept kp c) : ∃ ρ, Le c ρ s' ⟨zipL ls vs, os, nx⟩ := by
  obtain ⟨rl, h1, h2, h3, h4⟩ := h
  simp only [Bool.and_eq_true] at h1
  exact le_viewK rl hv (fun k x hk => by simpa using List.all_eq_true.1 h1.2 k (h0 k x hk)) h1.1 (avLes_ren h2 h3) (objLes_Q h4)
theorem ReOK.vals {vs : List AV} {nx : Nat} (h : vs.all okP = true) : ReOK [] (vs, []) vs [] nx := by
  simp only [List.all_eq_true] at h
  refine ⟨[], rfl, ?_, List.all_eq_true.2 fun v hv => okR_pure (h v hv), trivial⟩
  have : vs.map (renV []) = vs.map id := List.map_congr_left fun v hv => renV_pure (h v hv)
  rw [this, List.map_id]
theorem dst_before {nt : Nat} : ∀ {x : Code} {p : List Nat}, dstOK nt x = true → (before x p).all (fun x => dstOK nt x) = true
  | .seq x y, 0 :: p, h => by
    simp only [dstOK, Bool.and_eq_true] at h
    exact dst_before (x := x) h.1
  | .seq x y, (n + 1) :: p, h => by
    simp only [dstOK, Bool.and_eq_true] at h
    simp only [before, List.all_cons, Bool.and_eq_true]
    exact ⟨h.1, dst_before (x := y) h.2⟩
  | .seq _ _, [], _ | .cond _ _ _, _, _ | .block _ _, _, _ | .loop _, _, _ | .region _ _ _, _, _ | .skip, _, _ | .label _, _, _ | .exit _, _, _ | .ret, _, _ | .scope _, _, _ | .goto _, _, _ | .refuse _, _, _ | .rangeFunc _ _ _ _, _, _ => by simp [before]
theorem dst_behind {nt : Nat} : ∀ {x : Code} {p : List Nat}, dstOK nt x = true → (behind x p).all (fun x => dstOK nt x) = true
  | .seq x y, 0 :: p, h => by
    simp only [dstOK, Bool.and_eq_true] at h
    simp only [behind, List.all_append, List.all_cons, List.all_nil, Bool.and_true, Bool.and_eq_true]
    exact ⟨dst_behind (x := x) h.1, h.2⟩
  | .seq x y, (n + 1) :: p, h => by
    simp only [dstOK, Bool.and_eq_true] at h
    exact dst_behind (x := y) (p := p) h.2
  | .seq _ _, [], _ | .cond _ _ _, _, _ | .block _ _, _, _ | .loop _, _, _ | .region _ _ _, _, _ | .skip, _, _ | .label _, _, _ | .exit _, _, _ | .ret, _, _ | .scope _, _, _ | .goto _, _, _ | .refuse _, _, _ | .rangeFunc _ _ _ _, _, _ => by simp [behind]
theorem dst_part {nt : Nat} : ∀ {x : Code} {p : List Nat}, chain x p = true → dstOK nt x = true → dstOK nt (part x p) = true
  | x, [], _, h => by cases x <;> exact h
  | .seq x y, 0 :: p, hc, h => by
    simp only [dstOK, Bool.and_eq_true] at h
    exact dst_part (x := x) hc h.1
  | .seq x y, (n + 1) :: p, hc, h => by
    simp only [dstOK, Bool.and_eq_true] at h
    exact dst_part (x := y) hc h.2
  | .cond _ _ _, _ :: _, hc, _ | .block _ _, _ :: _, hc, _ | .loop _, _ :: _, hc, _ | .region _ _ _, _ :: _, hc, _ | .skip, _ :: _, hc, _ | .label _, _ :: _, hc, _ | .exit _, _ :: _, hc, _ | .ret, _ :: _, hc, _ | .scope _, _ :: _, hc, _ | .goto _, _ :: _, hc, _ | .refuse _, _ :: _, hc, _ | .rangeFunc _ _ _ _, _ :: _, hc, _ => by simp [chain] at hc
section rules
variable {P : Program} {c : Ctx} {nt : Nat} {s : AState} {Q : AEx → AState → Prop} {T : Types} (hT : TOK P T) {Γ : Contracts} (hΓ : GOK P Γ) (hm : P.follows .mixedOrders = true)
def Round (kp : List Nat) {α : Type} (V : α → List AV) (O : α → Store) (nx : Nat) (I D : α → Prop) (μ : α → Nat) (i : Nat) (R : List AV × Store → Prop) (a : α) : AEx → List AV × Store → Prop
  | .normal, v => ∃ b, I b ∧ μ b < μ a ∧ ReOK kp v (V b) (O b) nx
  | .exit k, v => k = i ∧ ∃ b, D b ∧ ReOK kp v (V b) (O b) nx
  | .ret, v => R v
include hT hΓ hm in
theorem AWp.loopT {x y : Code} {i : Nat} (hx : x = .block i (.loop y)) {kp : List Nat} (h0 : Kept kp c) {forks : List Nat} (n : Nat) (L : List Nat) (nx : Nat) {α : Type} (V : α → List AV) (O : α → Store) (I D : α → Prop) (μ : α → Nat) (R : List AV × Store → Prop)
    (a0 : α) (hI : I a0) (hs : ∃ ρ, Le c ρ s ⟨zipL L (V a0), O a0, nx⟩) (hd : dstOK nt y = true)
    (hb : ∀ a, I a → ∃ t, seeL T Γ forks n L [y] ⟨zipL L (V a), O a, nx⟩ = some t ∧ t.all (Round kp V O nx I D μ i R a))
    (hD : ∀ b s', D b → (∃ ρ, Le c ρ s' ⟨zipL L (V b), O b, nx⟩) → Q .normal s') (hR : ∀ v s', R v → viewAV L s' = some v → Q .ret s') : AWp P c nt x s Q := by
  refine AWp.whileLe hx (fun a => ⟨zipL L (V a), O a, nx⟩) I μ a0 hs hI fun a ha => ?_
  obtain ⟨t, h1, h2⟩ := hb a ha
  refine AWp.see hT hΓ hm n L h1 hd (ATree.all_mono ?_ h2)
  rintro e v hv s' hs'
  cases e with
  | normal =>
    obtain ⟨b, g1, g2, g3⟩ := hv
    exact ⟨b, g3.le hs' h0, g1, g2⟩
  | exit k =>
    obtain ⟨rfl, b, g1, g2⟩ := hv
    exact inBlock_exit (hD b s' g1 (g2.le hs' h0))
  | ret => exact hR v s' hv hs'
theorem AWpL.one {x : Code} (h : AWp P c nt x s Q) : AWpL P c nt [x] s Q := h.mono fun e s' h => by cases e <;> exact h
theorem AWp.ofL {x : Code} (h : AWpL P c nt [x] s Q) : AWp P c nt x s Q := AWp.mono h fun e s' h => by cases e <;> exact h
def Start (kp : List Nat) {α : Type} (V : α → List AV) (O : α → Store) (nx : Nat) (I : α → Prop) (R : List AV × Store → Prop) : AEx → List AV × Store → Prop
  | .normal, v => ∃ a, I a ∧ ReOK kp v (V a) (O a) nx
  | .ret, v => R v
  | .exit _, _ => False
include hT hΓ hm in
theorem AWp.hloop0 {x y : Code} (p : List Nat) {i : Nat} (hc : chain x p = true) (hx : part x p = .block i (.loop y)) (hd : dstOK nt x = true) {kp : List Nat} (h0 : Kept kp c) {f1 f2 : List Nat} (n : Nat) (L : List Nat) (nx : Nat) {α : Type} (V : α → List AV) (O : α → Store) (I D : α → Prop) (μ : α → Nat) (R : List AV × Store → Prop)
    (hp : ∃ t, seeL T Γ f1 n L (before x p) s = some t ∧ t.all (Start kp V O nx I R))
    (hb : ∀ a, I a → ∃ t, seeL T Γ f2 n L [y] ⟨zipL L (V a), O a, nx⟩ = some t ∧ t.all (Round kp V O nx I D μ i R a))
    (hD : ∀ b s', D b → (∃ ρ, Le c ρ s' ⟨zipL L (V b), O b, nx⟩) → AWpL P c nt (behind x p) s' Q) (hR : ∀ v s', R v → viewAV L s' = some v → Q .ret s') : AWp P c nt x s Q := by
  obtain ⟨t, h1, h2⟩ := hp
  refine AWp.hole p hc (AWpL.see hT hΓ hm n L h1 (dst_before hd) (ATree.all_mono ?_ h2))
  rintro e v hv s' hs'
  cases e with
  | normal =>
    obtain ⟨a, hI, hre⟩ := hv
    refine (show AWp P c nt (part x p) s' _ from AWp.loopT hT hΓ hm hx h0 n L nx V O I D μ R a hI (hre.le hs' h0) ?_ hb (fun b s' hD' hle => hD b s' hD' hle) fun v s' hv hs' => hR v s' hv hs')
    have := dst_part (nt := nt) hc hd
    rw [hx] at this
    exact this
  | ret => exact hR v s' hv hs'
  | exit k => exact hv.elim
include hT hΓ hm in
theorem AWp.hloop {x y z : Code} (p : List Nat) {i : Nat} (hc : chain x p = true) (hx : part x p = .block i (.loop y)) (hz : behind x p = [z]) (hd : dstOK nt x = true) {kp : List Nat} (h0 : Kept kp c) {f1 f2 : List Nat} (n : Nat) (L : List Nat) (nx : Nat) {α : Type} (V : α → List AV) (O : α → Store) (I D : α → Prop) (μ : α → Nat) (R : List AV × Store → Prop)
    (hp : ∃ t, seeL T Γ f1 n L (before x p) s = some t ∧ t.all (Start kp V O nx I R))
    (hb : ∀ a, I a → ∃ t, seeL T Γ f2 n L [y] ⟨zipL L (V a), O a, nx⟩ = some t ∧ t.all (Round kp V O nx I D μ i R a))
    (hD : ∀ b, D b → AWp P c nt z ⟨zipL L (V b), O b, nx⟩ Q) (hR : ∀ v s', R v → viewAV L s' = some v → Q .ret s') : AWp P c nt x s Q :=
  AWp.hloop0 hT hΓ hm p hc hx hd h0 n L nx V O I D μ R hp hb (fun b s' hD' hle => by rw [hz]; exact AWpL.weak rfl hle (AWpL.one (hD b hD'))) hR
def RoundS (c : Ctx) (L : List Nat) {α : Type} (V : α → List AV) (O : α → Store) (nx : Nat) (I D : α → Prop) (μ : α → Nat) (i : Nat) (R : AState → Prop) (a : α) : AEx → AState → Prop
  | .normal, s' => ∃ b, I b ∧ μ b < μ a ∧ ∃ ρ, Le c ρ s' ⟨zipL L (V b), O b, nx⟩
  | .exit k, s' => k = i ∧ ∃ b, D b ∧ ∃ ρ, Le c ρ s' ⟨zipL L (V b), O b, nx⟩
  | .ret, s' => R s'
include hT hΓ hm in
theorem AWp.hloopW {x y z : Code} (p : List Nat) {i : Nat} (hc : chain x p = true) (hx : part x p = .block i (.loop y)) (hz : behind x p = [z]) (hd : dstOK nt x = true) {kp : List Nat} (h0 : Kept kp c) {f1 : List Nat} (n : Nat) (L : List Nat) (nx : Nat) {α : Type} (V : α → List AV) (O : α → Store) (I D : α → Prop) (μ : α → Nat) (R : List AV × Store → Prop)
    (hp : ∃ t, seeL T Γ f1 n L (before x p) s = some t ∧ t.all (Start kp V O nx I R))
    (hb : ∀ a, I a → AWp P c nt y ⟨zipL L (V a), O a, nx⟩ (RoundS c L V O nx I D μ i (fun s' => ∃ v, R v ∧ viewAV L s' = some v) a))
    (hD : ∀ b, D b → AWp P c nt z ⟨zipL L (V b), O b, nx⟩ Q) (hR : ∀ v s', R v → viewAV L s' = some v → Q .ret s') : AWp P c nt x s Q := by
  obtain ⟨t, h1, h2⟩ := hp
  refine AWp.hole p hc (AWpL.see hT hΓ hm n L h1 (dst_before hd) (ATree.all_mono ?_ h2))
  rintro e v hv s' hs'
  cases e with
  | normal =>
    obtain ⟨a, hI, hre⟩ := hv
    refine AWp.whileLe hx (fun a => ⟨zipL L (V a), O a, nx⟩) I μ a (hre.le hs' h0) hI fun a ha => (hb a ha).mono fun e s' h => ?_
    cases e with
    | normal =>
      obtain ⟨b, g1, g2, g3⟩ := h
      exact ⟨b, g3, g1, g2⟩
    | exit k =>
      obtain ⟨rfl, b, g1, g2⟩ := h
      refine inBlock_exit ?_
      show AWpL P c nt (behind x p) s' _
      rw [hz]
      exact AWpL.weak rfl g2 (AWpL.one (hD b g1))
    | ret =>
      obtain ⟨v, g1, g2⟩ := h
      exact hR v s' g1 g2
  | ret => exact hR v s' hv hs'
  | exit k => exact hv.elim
include hT hΓ hm in
theorem AWp.into {y x1 zb : Code} (p : List Nat) {j : Nat} (hc : chain y p = true) (hx : part y p = .block j x1) (hz : behind y p = [zb]) (hd : dstOK nt y = true) {kp : List Nat} (h0 : Kept kp c) {f1 : List Nat} (n : Nat) (L : List Nat) (nx : Nat) {α : Type} (V : α → List AV) (O : α → Store) (I : α → Prop)
    (hp : ∃ t, seeL T Γ f1 n L (before y p) s = some t ∧ t.all fun e v => match e with
      | .normal => ∃ a, I a ∧ ReOK kp v (V a) (O a) nx
      | e => ∀ s', viewAV L s' = some v → Q e s')
    (hb : ∀ a, I a → AWp P c nt x1 ⟨zipL L (V a), O a, nx⟩ (inBlock j (thenDo (fun s' => AWp P c nt zb s' Q) Q))) : AWp P c nt y s Q := by
  obtain ⟨t, h1, h2⟩ := hp
  refine AWp.hole p hc (AWpL.see hT hΓ hm n L h1 (dst_before hd) (ATree.all_mono ?_ h2))
  rintro e v hv s' hs'
  cases e with
  | normal =>
    obtain ⟨a, hI, hre⟩ := hv
    refine AWp.weakE (hre.le hs' h0) (AWp.blockAt hx ((hb a hI).mono fun e s' h => ?_))
    have key : ∀ {e s'}, thenDo (fun s' => AWp P c nt zb s' Q) Q e s' → thenDo (fun s'' => AWpL P c nt (behind y p) s'' Q) Q e s' := fun {e s'} h => by
      cases e with
      | normal => show AWpL P c nt (behind y p) s' Q; rw [hz]; exact AWpL.one h
      | exit k => exact h
      | ret => exact h
    cases e with
    | normal => exact key (e := .normal) h
    | exit k =>
      simp only [inBlock] at h ⊢
      split
      · rename_i hk; rw [if_pos hk] at h; exact key (e := .normal) h
      · rename_i hk; rw [if_neg hk] at h; exact key (e := .exit k) h
    | ret => exact key (e := .ret) h
  | ret => exact hv s' hs'
  | exit k => exact hv s' hs'
theorem AWp.tail {z zb : Code} {j : Nat} (hne : ∀ s', Q (.exit j) s' → False) (h : AWpL P c nt [z, zb] s Q) : AWp P c nt z s (inBlock j (thenDo (fun s' => AWp P c nt zb s' Q) Q)) :=
  AWp.mono h fun e s' h => by
    cases e with
    | normal => exact AWp.mono h fun e s' h => by cases e <;> exact h
    | exit k =>
      simp only [inBlock]
      split
      · rename_i hk; subst hk; exact (hne _ h).elim
      · exact h
    | ret => exact h
def RetV (fn : Func) (L : List Nat) (res : AV) (v : List AV × Store) : Prop := ∃ us, endV fn (zipL L v.1) = some us ∧ resOK us res
theorem RetV.fin {fn : Func} {L : List Nat} {res : AV} {v : List AV × Store} {s' : AState} (h : RetV fn L res v) (hs' : viewAV L s' = some v) : Lower c (Fin T fn res) .ret s' := by
  obtain ⟨us, g1, g2⟩ := h
  exact .inl (fin_view (.inr rfl) hs' g1 g2)
theorem keys_ite {c : Prop} [Decidable c] {u v : AV} (hu : keys u = []) (hv : keys v = []) : keys (if c then u else v) = [] := by split <;> assumption
def RetT (T : Types) (fn : Func) (L : List Nat) (res : AV) (v : List AV × Store) : Prop :=
  ∃ vs us nx t, v.1 = vs ++ us ∧ vs.length = L.length ∧ keysL us = [] ∧ endT T fn .ret ⟨zipL L vs, v.2, nx⟩ = some t ∧ okV nx vs = true ∧ okO nx v.2 ∧ t.all fun _ us => resOK us res
theorem RetT.fin {fn : Func} {L L1 : List Nat} {res : AV} {v : List AV × Store} {s' : AState} (h0 : Kept [] c) (h : RetT T fn L res v) (hs' : viewAV (L ++ L1) s' = some v) : Lower c (Fin T fn res) .ret s' := by
  obtain ⟨vs, us, nx, t, h1, h2, h3, h4, h5, h6, h7⟩ := h
  obtain ⟨v1, v2⟩ := v
  simp only at h1
  subst h1
  exact finD h4 (view_take hs' h2 h3) (fun k x hk => by simpa using h0 k x hk) h5 h6 h7
include hT hΓ hm in
theorem fok_loop {f : FuncId} {fn : Func} (hf : FnIs P f fn (codeOf fn)) {args : List AV} {r : CRes} (hk : keysL args = []) (hlen : args.length ≤ fn.ntmps) (hpost : r.post = []) (p : List Nat) {i : Nat} {y z : Code} (hc : chain (codeOf fn) p = true) (hx : part (codeOf fn) p = .block i (.loop y)) (hz : behind (codeOf fn) p = [z])
    {f1 f2 f3 : List Nat} (n : Nat) (L : List Nat) (nx : Nat) {α : Type} (V : α → List AV) (O : α → Store) (I D : α → Prop) (μ : α → Nat)
    (h : r.need → (∃ t, seeL T Γ f1 n L (before (codeOf fn) p) ⟨zipSlots 0 args, [], 0⟩ = some t ∧ t.all (Start [] V O nx I (RetV fn L r.res))) ∧
      (∀ a, I a → ∃ t, seeL T Γ f2 n L [y] ⟨zipL L (V a), O a, nx⟩ = some t ∧ t.all (Round [] V O nx I D μ i (RetV fn L r.res) a)) ∧
      ∀ a, D a → ∃ t, endL T Γ f3 n fn [z] ⟨zipL L (V a), O a, nx⟩ = some t ∧ t.all fun _ us => resOK us r.res) (K : Nat) (pre : Store) : FOK P f K args pre r := by
  refine fok_down hT hf hk hlen hpost (fun need c h0 => ?_) K pre
  obtain ⟨hp, hb, he⟩ := h need
  refine AWp.hloop hT hΓ hm p hc hx hz hf.dst (kept_nil h0) n L nx V O I D μ (RetV fn L r.res) hp hb (fun a ha => ?_) fun v s' hv hs' => hv.fin hs'
  obtain ⟨t, g1, g2⟩ := he a ha
  have := dst_behind (x := codeOf fn) (p := p) hf.dst
  rw [hz] at this
  exact AWp.ofL ((AWpL.fin hT hΓ hm n g1 this g2).mono fun _ _ h => .inl h)
def EndO (T : Types) (fn : Func) (k : Nat) (res : AV) (o' : AObj) (e : AEx) (s' : AState) : Prop :=
  (e = .normal ∨ e = .ret) ∧ Ends T fn res s' ∧ ∃ o1, look 0 s'.store = some o1 ∧ o1.row = false ∧ objLe (ren [(k, 0)]) o1 o'
def endOL (T : Types) (Γ : Contracts) (forks : List Nat) (n : Nat) (fn : Func) (l : List Code) (s : AState) : Option (ATree (List AV × Option AObj)) :=
  match treeL T Γ forks n l s with
  | some t => t.bind (endO T fn)
  | none => none
include hT hΓ hm in
theorem AWpL.finO {fn : Func} {forks : List Nat} (n : Nat) {l : List Code} {s : AState} {t : ATree (List AV × Option AObj)} (hc : endOL T Γ forks n fn l s = some t) (hd : (l.all fun x => dstOK nt x) = true) {k : Nat} {res : AV} {o' : AObj}
    (h : t.all fun _ v => resOK v.1 res ∧ ∃ o1, v.2 = some o1 ∧ o1.row = false ∧ objLe (ren [(k, 0)]) o1 o') : AWpL P c nt l s (EndO T fn k res o') := by
  unfold endOL at hc
  split at hc
  · rename_i u hx
    refine treeL_ok hT hΓ hm hd hx (ATree.all_mono ?_ (ATree.bind_all hc h))
    rintro e s' ⟨v, h1, h2⟩
    unfold endO at h1
    split at h1
    · rename_i v' hv'
      have h4 : v'.all fun _ us => resOK us res ∧ ∃ o1, look 0 s'.store = some o1 ∧ o1.row = false ∧ objLe (ren [(k, 0)]) o1 o' := by
        refine ATree.all_mono ?_ (ATree.bind_all h1 h2)
        rintro e us ⟨w, g1, g2⟩
        simp only [Option.some.injEq] at g1
        subst g1
        exact g2
      have h5 : Fin T fn res e s' := endT_ok hv' (ATree.all_mono (fun _ _ h => h.1) h4)
      refine ⟨h5.1, h5.2, ?_⟩
      have : ∀ {t : ATree (List AV)}, (t.all fun _ us => resOK us res ∧ ∃ o1, look 0 s'.store = some o1 ∧ o1.row = false ∧ objLe (ren [(k, 0)]) o1 o') → ∃ o1, look 0 s'.store = some o1 ∧ o1.row = false ∧ objLe (ren [(k, 0)]) o1 o' := by
        intro t
        induction t with
        | leaf e us => exact fun h => h.2
        | must ps t ih => exact fun h => ih h.2
        | fork b t1 t2 ih1 ih2 =>
          intro h
          cases b with
          | true => exact ih1 (h.1 rfl)
          | false => exact ih2 (h.2 rfl)
      exact this h4
    · simp at h1
  · simp at hc
theorem avLes_same {rl : List (Nat × Nat)} : ∀ {rest : List AV}, keysL rest = [] → (rest.all fun v => !v.isTuple) = true → avLes (ren rl) rest rest
  | [], _, _ => trivial
  | v :: r, h1, h2 => by
    simp only [keysL, List.append_eq_nil_iff] at h1
    simp only [List.all_cons, Bool.and_eq_true, Bool.not_eq_true'] at h2
    exact ⟨⟨h2.1, avLe_pure h1.1⟩, avLes_same h1.2 h2.2⟩
include hT in
theorem fok_objW {f : FuncId} {fn : Func} {x : Code} (hf : FnIs P f fn x) {k idx es off : Nat} {p : List Nat} {rest : List AV} {o2 o o' : AObj} {res : AV} {l : List Prop}
    (hkr : keysL rest = []) (hrt : (rest.all fun v => !v.isTuple) = true) (hlen : rest.length + 1 ≤ fn.ntmps) (ho : ∀ ρ, objLe ρ o2 o)
    (h : allP l → ∀ c : Ctx, Kept [0] c → AWp P c fn.ntmps x ⟨zipSlots 0 (.ptr 0 idx es off p :: rest), [(0, o)], 1⟩ (EndO T fn k res o')) (K : Nat) :
    FOK P f K (.ptr k idx es off p :: rest) [(k, o2)] ⟨res, [(k, o')], l⟩ := by
  refine fok_core hT hf (args0 := .ptr 0 idx es off p :: rest) (pre0 := [(0, o)]) (nx := 1) [(0, k)] (by simpa using hlen) (by simp [renOK]) ⟨⟨rfl, avLe_ptr rfl⟩, avLes_same hkr hrt⟩ ⟨⟨k, o2, rfl, by simp [look], ho _⟩, trivial⟩
    (fun a x h => ?_) (fun x o h => .inl ?_) (fun need c h0 => ?_)
  · simp only [ren, look] at h
    split at h
    · simp only [Option.some.injEq] at h; subst h; exact ⟨_, by simp [look]; rfl⟩
    · simp at h
  · simp only [look] at h
    split at h
    · rename_i he
      exact ⟨_, by simp only [look, he, if_true]; rfl⟩
    · simp at h
  have hk : Kept [0] c := fun a y hy => by
    have := h0 a y hy
    simp only [ren, look] at this
    split at this
    · rename_i he; have := eq_of_beq he; subst this; exact List.mem_singleton_self _
    · simp at this
  refine (h need c hk).mono fun e s' ⟨h1, h2, o1, g1, g2, g3⟩ => ⟨h1, ren [(k, 0)], tauOK_pre, .inl ⟨h2, fun x ox hx => ?_⟩⟩
  have he : applyEff (toOpts [(k, o')]) [(k, o2)] = [(k, o')] := by simp [applyEff, toOpts, put]
  rw [he] at hx
  simp only [look] at hx
  split at hx
  · rename_i hk
    have : k = x := by simpa using hk
    subst this
    simp only [Option.some.injEq] at hx
    subst hx
    exact ⟨0, o1, by simp [ren, look], g1, g2, g3⟩
  · simp at hx
end rules
end Go.Am

/- Functions that are handed two lists that may still be written to, and leave them as they are. -/
namespace Go.Am
open AV
theorem avLes_of0 {ρ : Nat → Option Nat} : ∀ {us vs : List AV}, keysL us = [] → (us.all fun v => !v.isTuple) = true → avLes0 us vs → avLes ρ us vs
  | [], [], _, _, _ => trivial
  | u :: us, v :: vs, h1, h2, h => by
    simp only [keysL, List.append_eq_nil_iff] at h1
    simp only [List.all_cons, Bool.and_eq_true, Bool.not_eq_true'] at h2
    exact ⟨⟨h2.1, avLe_of0 h1.1 h.1⟩, avLes_of0 h1.2 h2.2 h.2⟩
  | [], _ :: _, _, _, h => h.elim
  | _ :: _, [], _, _, h => h.elim
def endQ (T : Types) (fn : Func) (e : AEx) (s : AState) : Option (ATree (List AV × Option AObj × Option AObj)) := match e with
  | .exit _ => none
  | e => match resultsAV T s fn.results.toList with
    | some (vs, q) => some (.need q (.leaf e (vs, look 0 s.store, look 1 s.store)))
    | none => none
def OutQ (us : List AV) (o p : AObj) (v : List AV × Option AObj × Option AObj) : Prop :=
  keysL v.1 = [] ∧ (v.1.all fun v => !v.isTuple) = true ∧ avLes0 v.1 us ∧ (∃ o1, v.2.1 = some o1 ∧ ∀ ρ, objLe ρ o1 o) ∧ ∃ p1, v.2.2 = some p1 ∧ ∀ ρ, objLe ρ p1 p
def EndQ (T : Types) (fn : Func) (us : List AV) (o p : AObj) (e : AEx) (s : AState) : Prop :=
  (e = .normal ∨ e = .ret) ∧ (∃ vs q, resultsAV T s fn.results.toList = some (vs, q) ∧ allP q ∧ keysL vs = [] ∧ (vs.all fun v => !v.isTuple) = true ∧ avLes0 vs us) ∧ (∃ o1, look 0 s.store = some o1 ∧ ∀ ρ, objLe ρ o1 o) ∧ ∃ p1, look 1 s.store = some p1 ∧ ∀ ρ, objLe ρ p1 p
theorem endQ_ok {T : Types} {fn : Func} {e : AEx} {s : AState} {t : ATree (List AV × Option AObj × Option AObj)} {us : List AV} {o p : AObj} (h1 : endQ T fn e s = some t) (h2 : t.all fun _ v => OutQ us o p v) : EndQ T fn us o p e s := by
  unfold endQ at h1
  have key : ∀ {e' : AEx}, (match resultsAV T s fn.results.toList with
      | some (vs, q) => some (ATree.need q (.leaf e' (vs, look 0 s.store, look 1 s.store)))
      | none => none) = some t → (∃ vs q, resultsAV T s fn.results.toList = some (vs, q) ∧ allP q ∧ keysL vs = [] ∧ (vs.all fun v => !v.isTuple) = true ∧ avLes0 vs us) ∧ (∃ o1, look 0 s.store = some o1 ∧ ∀ ρ, objLe ρ o1 o) ∧ ∃ p1, look 1 s.store = some p1 ∧ ∀ ρ, objLe ρ p1 p := by
    intro e' h1
    cases hr : resultsAV T s fn.results.toList with
    | none => rw [hr] at h1; simp at h1
    | some r =>
      obtain ⟨vs, q⟩ := r
      rw [hr] at h1
      simp only [Option.some.injEq] at h1
      subst h1
      obtain ⟨g1, g2, g3, g4, g5, g6⟩ := ATree.all_need.1 h2
      exact ⟨⟨vs, q, rfl, g1, g2, g3, g4⟩, g5, g6⟩
  cases e with
  | normal => exact ⟨.inl rfl, key h1⟩
  | ret => exact ⟨.inr rfl, key h1⟩
  | exit i => simp at h1
section rules
variable {P : Program} {c : Ctx} {nt : Nat} {s : AState} {Q : AEx → AState → Prop} {T : Types} (hT : TOK P T) {Γ : Contracts} (hΓ : GOK P Γ) (hm : P.follows .mixedOrders = true)
def RetQ (T : Types) (fn : Func) (L : List Nat) (us : List AV) (o p : AObj) (v : List AV × Store) : Prop :=
  ∃ vs ws nx t, v.1 = vs ++ ws ∧ vs.length = L.length ∧ keysL ws = [] ∧ endQ T fn .ret ⟨zipL L vs, v.2, nx⟩ = some t ∧ okV nx vs = true ∧ okO nx v.2 ∧ 2 ≤ nx ∧ t.all fun _ v => OutQ us o p v
theorem RetQ.fin {fn : Func} {L L1 : List Nat} {us : List AV} {o p : AObj} {v : List AV × Store} {s' : AState} (h0 : Kept [0, 1] c) (h : RetQ T fn L us o p v) (hs' : viewAV (L ++ L1) s' = some v) : Lower c (EndQ T fn us o p) .ret s' := by
  obtain ⟨vs, ws, nx, t, h1, h2, h3, h4, h5, h6, hn, h7⟩ := h
  obtain ⟨v1, v2⟩ := v
  simp only at h1
  subst h1
  obtain ⟨ρ, hle⟩ := le_same (view_take hs' h2 h3) (fun k x hk => by
    have := h0 k x hk
    simp only [List.mem_cons, List.not_mem_nil, or_false] at this
    omega) h5 h6
  exact .inr ⟨_, ρ, hle, endQ_ok h4 h7⟩
end rules
end Go.Am

/- Functions that are handed a list to write to, and give back a part of it. -/
namespace Go.Am
open AV
def EndW (fn : Func) (k : Nat) (ws : List AV) (o' : AObj) (e : AEx) (s' : AState) : Prop :=
  (e = .normal ∨ e = .ret) ∧ ∃ ls vs us os o1, viewAV ls s' = some (vs, os) ∧ resV (zipL ls vs) fn.results.toList = some us ∧ avLes (ren [(k, 0)]) us ws ∧ look 0 os = some o1 ∧ objLe (ren [(k, 0)]) o1 o'
def RetW (fn : Func) (k : Nat) (ws : List AV) (o' : AObj) (L : List Nat) (v : List AV × Store) : Prop := ∃ us o1, resV (zipL L v.1) fn.results.toList = some us ∧ avLes (ren [(k, 0)]) us ws ∧ look 0 v.2 = some o1 ∧ objLe (ren [(k, 0)]) o1 o'
theorem RetW.fin {fn : Func} {k : Nat} {ws : List AV} {o' : AObj} {L : List Nat} {v : List AV × Store} {s' : AState} (h : RetW fn k ws o' L v) (hs' : viewAV L s' = some v) : EndW fn k ws o' .ret s' := by
  obtain ⟨us, o1, h1, h2, h3, h4⟩ := h
  exact ⟨.inr rfl, L, v.1, us, v.2, o1, hs', h1, h2, h3, h4⟩
section rules
variable {P : Program} {c : Ctx} {nt : Nat} {s : AState} {Q : AEx → AState → Prop} {T : Types} (hT : TOK P T) {Γ : Contracts} (hΓ : GOK P Γ) (hm : P.follows .mixedOrders = true)
include hT hΓ hm in
theorem AWp.branch {x u v : Code} {b : Operand} (p : List Nat) (hc : chain x p = true) (hx : part x p = .cond b u v) (hz : behind x p = []) (hd : dstOK nt x = true) {kp : List Nat} (h0 : Kept kp c) {f1 : List Nat} (n : Nat) (L : List Nat) (nx : Nat) {α : Type} (V : α → List AV) (O : α → Store) (I : α → Prop)
    (hp : ∃ t, seeL T Γ f1 n L (before x p) s = some t ∧ t.all fun e v => match e with
      | .normal => ∃ a, I a ∧ ReOK kp v (V a) (O a) nx
      | e => ∀ s', viewAV L s' = some v → Q e s')
    (hb : ∀ a, I a → ∃ t, (⟨zipL L (V a), O a, nx⟩ : AState).rho b = some (.bool t) ∧ (t = true → AWp P c nt u ⟨zipL L (V a), O a, nx⟩ Q) ∧ (t = false → AWp P c nt v ⟨zipL L (V a), O a, nx⟩ Q)) : AWp P c nt x s Q := by
  obtain ⟨t, h1, h2⟩ := hp
  refine AWp.hole p hc (AWpL.see hT hΓ hm n L h1 (dst_before hd) (ATree.all_mono ?_ h2))
  rintro e v hv s' hs'
  cases e with
  | normal =>
    obtain ⟨a, hI, hre⟩ := hv
    obtain ⟨t, g1, g2, g3⟩ := hb a hI
    show AWp P c nt (part x p) s' _
    rw [hx, hz]
    have key : ∀ {y : Code} {s : AState}, AWp P c nt y s Q → AWp P c nt y s (thenDo (fun s'' => AWpL P c nt [] s'' Q) Q) := fun h => h.mono fun e s' h => by cases e <;> exact h
    exact AWp.weakE (hre.le hs' h0) (AWp.cond g1 (fun ht => key (g2 ht)) fun ht => key (g3 ht))
  | ret => exact hv s' hs'
  | exit k => exact hv s' hs'
include hT in
theorem fok_listW {f : FuncId} {fn : Func} {x : Code} (hf : FnIs P f fn x) {k es st n : Nat} {rest ws : List AV} {o2 o o' : AObj} {l : List Prop}
    (hkr : keysL rest = []) (hrt : (rest.all fun v => !v.isTuple) = true) (hlen : rest.length + 1 ≤ fn.ntmps) (ho : ∀ ρ, objLe ρ o2 o)
    (h : allP l → ∀ c : Ctx, Kept [0] c → AWp P c fn.ntmps x ⟨zipSlots 0 (.own 0 es st n :: rest), [(0, o)], 1⟩ (EndW fn k ws o')) (K : Nat) :
    FOK P f K (.own k es st n :: rest) [(k, o2)] ⟨oneOr ws, [(k, o')], l⟩ := by
  refine fok_core hT hf (args0 := .own 0 es st n :: rest) (pre0 := [(0, o)]) (nx := 1) [(0, k)] (by simpa using hlen) (by simp [renOK]) ⟨⟨rfl, avLe_own rfl rfl rfl⟩, avLes_same hkr hrt⟩ ⟨⟨k, o2, rfl, by simp [look], ho _⟩, trivial⟩
    (fun a x h => ?_) (fun x o h => .inl ?_) (fun need c h0 => ?_)
  · simp only [ren, look] at h
    split at h
    · simp only [Option.some.injEq] at h; subst h; exact ⟨_, by simp [look]; rfl⟩
    · simp at h
  · simp only [look] at h
    split at h
    · rename_i he
      exact ⟨_, by simp only [look, he, if_true]; rfl⟩
    · simp at h
  have hk : Kept [0] c := fun a y hy => by
    have := h0 a y hy
    simp only [ren, look] at this
    split at this
    · rename_i he; have := eq_of_beq he; subst this; exact List.mem_singleton_self _
    · simp at this
  refine (h need c hk).mono fun e s' ⟨h1, ls, vs, us, os, o1, g1, g2, g3, g4, g5⟩ => ⟨h1, ren [(k, 0)], tauOK_pre, .inr (endsB_view (ws := ws) (ps := [(k, o')]) g1 g2 g3 rfl (by simp [applyEff, toOpts, put]) ⟨⟨0, o1, by simp [ren, look], g4, g5⟩, trivial⟩)⟩
include hT in
theorem fok_newA {f : FuncId} {fn : Func} {x : Code} (hf : FnIs P f fn x) {args args0 ws : List AV} {o' : AObj} {K : Nat} {l : List Prop} (ha : allP l → avLes (ren []) args args0) (hlen : args0.length ≤ fn.ntmps)
    (h : allP l → ∀ c : Ctx, Kept [] c → AWp P c fn.ntmps x ⟨zipSlots 0 args0, [], 0⟩ fun e s' => (e = .normal ∨ e = .ret) ∧ ∃ ls vs us os a o, viewAV ls s' = some (vs, os) ∧ resV (zipL ls vs) fn.results.toList = some us ∧ avLes (ren [(K, a)]) us ws ∧ look a os = some o ∧ objLe (ren [(K, a)]) o o') :
    FOK P f K args [] ⟨oneOr ws, [(K, o')], l⟩ := by
  intro need
  refine (fok_core hT hf (args0 := args0) (pre0 := []) (nx := 0) [] hlen rfl (ha need) trivial (fun a k h => by simp [ren, look] at h) (fun k o h => ?_) (fun need c h0 => ?_) : FOK P f K args [] ⟨oneOr ws, [(K, o')], l⟩) need
  · simp only [look] at h
    split at h
    · rename_i he
      have : K = k := by simpa using he
      subst this
      exact .inr ⟨Nat.le_refl _, by unfold stride; omega⟩
    · simp at h
  · refine (h need c fun k x hk => by simpa [ren, look] using h0 k x hk).mono ?_
    rintro e s' ⟨h1, ls, vs, us, os, a, o, h2, h3, h4, h5, h6⟩
    exact ⟨h1, ren [(K, a)], tauOK_one ⟨Nat.le_refl _, by unfold stride; omega⟩, .inr (endsB_view (ws := ws) (ps := [(K, o')]) h2 h3 h4 rfl rfl ⟨⟨a, o, by simp [ren, look], h5, h6⟩, trivial⟩)⟩
end rules
end Go.Am

/- A loop in a loop. -/
namespace Go.Am
open AV
section rules
variable {P : Program} {c : Ctx} {nt : Nat} {s : AState} {Q : AEx → AState → Prop} {T : Types} (hT : TOK P T) {Γ : Contracts} (hΓ : GOK P Γ) (hm : P.follows .mixedOrders = true)
def Head (kp : List Nat) {α : Type} (V : α → List AV) (O : α → Store) (nx : Nat) (D : α → Prop) (i : Nat) (R : List AV × Store → Prop) (G : α → Prop) (a : α) : AEx → List AV × Store → Prop
  | .normal, v => G a ∧ ReOK kp v (V a) (O a) nx
  | .exit k, v => k = i ∧ ∃ b, D b ∧ ReOK kp v (V b) (O b) nx
  | .ret, v => R v
def Tail (kp : List Nat) {α : Type} (V : α → List AV) (O : α → Store) (nx : Nat) (I : α → Prop) (μ : α → Nat) (a : α) : AEx → List AV × Store → Prop
  | .normal, v => ∃ b, I b ∧ μ b < μ a ∧ ReOK kp v (V b) (O b) nx
  | _, _ => False
theorem dst_blockloop {i : Nat} {y : Code} (h : dstOK nt (.block i (.loop y)) = true) : dstOK nt y = true := by simpa [dstOK] using h
theorem dst_block {i : Nat} {y : Code} (h : dstOK nt (.block i y) = true) : dstOK nt y = true := by simpa [dstOK] using h
include hT hΓ hm in
theorem AWp.loop20 {x y x1 zb y2 : Code} (p : List Nat) {i : Nat} (hc : chain x p = true) (hx : part x p = .block i (.loop y)) (hd : dstOK nt x = true)
    (q : List Nat) {j : Nat} (hcq : chain y q = true) (hxq : part y q = .block j x1) (hzq : behind y q = [zb]) (r : List Nat) {i2 : Nat} (hcr : chain x1 r = true) (hxr : part x1 r = .block i2 (.loop y2)) (hij : (i == j) = false)
    {kp : List Nat} (h0 : Kept kp c) {f1 f2 f3 f4 f5 : List Nat} (n : Nat) (L1 L2 : List Nat) (nx1 nx2 : Nat) {α β : Type} (V1 : α → List AV) (O1 : α → Store) (I1 D1 : α → Prop) (μ1 : α → Nat) (G : α → Prop) (R1 R2 : List AV × Store → Prop)
    (V2 : α → β → List AV) (O2 : α → β → Store) (I2 D2 : α → β → Prop) (μ2 : α → β → Nat)
    (hp : ∃ t, seeL T Γ f1 n L1 (before x p) s = some t ∧ t.all (Start kp V1 O1 nx1 I1 R1))
    (ho : ∀ a, I1 a → ∃ t, seeL T Γ f2 n L1 (before y q) ⟨zipL L1 (V1 a), O1 a, nx1⟩ = some t ∧ t.all (Head kp V1 O1 nx1 D1 i R1 G a))
    (hi : ∀ a, I1 a → G a → ∃ t, seeL T Γ f3 n L2 (before x1 r) ⟨zipL L1 (V1 a), O1 a, nx1⟩ = some t ∧ t.all (Start kp (V2 a) (O2 a) nx2 (I2 a) R2))
    (hb : ∀ a, I1 a → G a → ∀ b, I2 a b → ∃ t, seeL T Γ f4 n L2 [y2] ⟨zipL L2 (V2 a b), O2 a b, nx2⟩ = some t ∧ t.all (Round kp (V2 a) (O2 a) nx2 (I2 a) (D2 a) (μ2 a) i2 R2 b))
    (ht : ∀ a, I1 a → G a → ∀ b, D2 a b → ∃ t, seeL T Γ f5 n L1 (behind x1 r ++ [zb]) ⟨zipL L2 (V2 a b), O2 a b, nx2⟩ = some t ∧ t.all (Tail kp V1 O1 nx1 I1 μ1 a))
    (hD : ∀ b s', D1 b → (∃ ρ, Le c ρ s' ⟨zipL L1 (V1 b), O1 b, nx1⟩) → AWpL P c nt (behind x p) s' Q) (hR1 : ∀ v s', R1 v → viewAV L1 s' = some v → Q .ret s') (hR2 : ∀ v s', R2 v → viewAV L2 s' = some v → Q .ret s') : AWp P c nt x s Q := by
  have hdy : dstOK nt y = true := by
    have := dst_part (nt := nt) hc hd
    rw [hx] at this
    exact dst_blockloop this
  have hdx1 : dstOK nt x1 = true := by
    have := dst_part (nt := nt) hcq hdy
    rw [hxq] at this
    exact dst_block this
  have hdz : ((behind x1 r ++ [zb]).all fun x => dstOK nt x) = true := by
    have h1 := dst_behind (nt := nt) (p := r) hdx1
    have h2 := dst_behind (nt := nt) (p := q) hdy
    rw [hzq] at h2
    rw [List.all_append, h1, h2]; rfl
  obtain ⟨t, h1, h2⟩ := hp
  refine AWp.hole p hc (AWpL.see hT hΓ hm n L1 h1 (dst_before hd) (ATree.all_mono ?_ h2))
  rintro e v hv s' hs'
  cases e with
  | ret => exact hR1 v s' hv hs'
  | exit k => exact hv.elim
  | normal =>
    obtain ⟨a, hI, hre⟩ := hv
    refine (show AWp P c nt (part x p) s' _ from AWp.whileLe hx (fun a => ⟨zipL L1 (V1 a), O1 a, nx1⟩) I1 μ1 a (hre.le hs' h0) hI fun a ha => ?_)
    refine AWp.mono (Q := RoundS c L1 V1 O1 nx1 I1 D1 μ1 i (fun s' => Q .ret s') a) ?_ fun e s' h => ?_
    · refine AWp.into hT hΓ hm q hcq hxq hzq hdy h0 (f1 := f2) n L1 nx1 (fun _ : Unit => V1 a) (fun _ => O1 a) (fun _ => G a) ?_ (fun _ hG => ?_)
      · obtain ⟨t, g1, g2⟩ := ho a ha
        refine ⟨t, g1, ATree.all_mono ?_ g2⟩
        rintro e v hv
        cases e with
        | normal => exact ⟨(), hv.1, hv.2⟩
        | exit k => exact fun s' hs' => ⟨hv.1, hv.2.imp fun b hb => ⟨hb.1, hb.2.le hs' h0⟩⟩
        | ret => exact fun s' hs' => hR1 v s' hv hs'
      · refine AWp.hloop0 hT hΓ hm r hcr hxr hdx1 h0 (f1 := f3) (f2 := f4) n L2 nx2 (V2 a) (O2 a) (I2 a) (D2 a) (μ2 a) R2 (hi a ha hG) (hb a ha hG) (fun b s' hb hle => ?_) (fun v s' hv hs' => hR2 v s' hv hs')
        obtain ⟨t, g1, g2⟩ := ht a ha hG b hb
        have key : AWpL P c nt (behind x1 r ++ [zb]) s' (RoundS c L1 V1 O1 nx1 I1 D1 μ1 i (fun s' => Q .ret s') a) := by
          refine AWpL.weak (by cases behind x1 r <;> rfl) hle (AWpL.see hT hΓ hm n L1 g1 hdz (ATree.all_mono ?_ g2))
          rintro e v hv s' hs'
          cases e with
          | normal =>
            obtain ⟨b, k1, k2, k3⟩ := hv
            exact ⟨b, k1, k2, k3.le hs' h0⟩
          | exit k => exact hv.elim
          | ret => exact hv.elim
        refine AWpL.mono ?_ (AWpL.append key)
        rintro e s' h
        cases e with
        | normal => exact AWp.ofL h
        | exit k =>
          simp only [inBlock]
          have hk : k = i := h.1
          rw [if_neg (by rw [hk]; simpa using hij)]
          exact h
        | ret => exact h
    · cases e with
      | normal =>
        obtain ⟨b, g1, g2, g3⟩ := h
        exact ⟨b, g3, g1, g2⟩
      | exit k =>
        obtain ⟨rfl, b, g1, g2⟩ := h
        refine inBlock_exit ?_
        show AWpL P c nt (behind x p) s' _
        exact hD b s' g1 g2
      | ret => exact h
include hT hΓ hm in
theorem AWp.loop2 {x y z x1 zb y2 : Code} (p : List Nat) {i : Nat} (hc : chain x p = true) (hx : part x p = .block i (.loop y)) (hz : behind x p = [z]) (hd : dstOK nt x = true)
    (q : List Nat) {j : Nat} (hcq : chain y q = true) (hxq : part y q = .block j x1) (hzq : behind y q = [zb]) (r : List Nat) {i2 : Nat} (hcr : chain x1 r = true) (hxr : part x1 r = .block i2 (.loop y2)) (hij : (i == j) = false)
    {kp : List Nat} (h0 : Kept kp c) {f1 f2 f3 f4 f5 : List Nat} (n : Nat) (L1 L2 : List Nat) (nx1 nx2 : Nat) {α β : Type} (V1 : α → List AV) (O1 : α → Store) (I1 D1 : α → Prop) (μ1 : α → Nat) (G : α → Prop) (R1 R2 : List AV × Store → Prop)
    (V2 : α → β → List AV) (O2 : α → β → Store) (I2 D2 : α → β → Prop) (μ2 : α → β → Nat)
    (hp : ∃ t, seeL T Γ f1 n L1 (before x p) s = some t ∧ t.all (Start kp V1 O1 nx1 I1 R1))
    (ho : ∀ a, I1 a → ∃ t, seeL T Γ f2 n L1 (before y q) ⟨zipL L1 (V1 a), O1 a, nx1⟩ = some t ∧ t.all (Head kp V1 O1 nx1 D1 i R1 G a))
    (hi : ∀ a, I1 a → G a → ∃ t, seeL T Γ f3 n L2 (before x1 r) ⟨zipL L1 (V1 a), O1 a, nx1⟩ = some t ∧ t.all (Start kp (V2 a) (O2 a) nx2 (I2 a) R2))
    (hb : ∀ a, I1 a → G a → ∀ b, I2 a b → ∃ t, seeL T Γ f4 n L2 [y2] ⟨zipL L2 (V2 a b), O2 a b, nx2⟩ = some t ∧ t.all (Round kp (V2 a) (O2 a) nx2 (I2 a) (D2 a) (μ2 a) i2 R2 b))
    (ht : ∀ a, I1 a → G a → ∀ b, D2 a b → ∃ t, seeL T Γ f5 n L1 (behind x1 r ++ [zb]) ⟨zipL L2 (V2 a b), O2 a b, nx2⟩ = some t ∧ t.all (Tail kp V1 O1 nx1 I1 μ1 a))
    (hD : ∀ b, D1 b → AWp P c nt z ⟨zipL L1 (V1 b), O1 b, nx1⟩ Q) (hR1 : ∀ v s', R1 v → viewAV L1 s' = some v → Q .ret s') (hR2 : ∀ v s', R2 v → viewAV L2 s' = some v → Q .ret s') : AWp P c nt x s Q :=
  AWp.loop20 hT hΓ hm p hc hx hd q hcq hxq hzq r hcr hxr hij h0 n L1 L2 nx1 nx2 V1 O1 I1 D1 μ1 G R1 R2 V2 O2 I2 D2 μ2 hp ho hi hb ht (fun b s' hb hle => by rw [hz]; exact AWpL.weak rfl hle (AWpL.one (hD b hb))) hR1 hR2
end rules
end Go.Am

/- A range over a function. -/
namespace Go.Am
open AV
theorem wpIn_any {ro : Option Nat} {n m : Nat} {P : Program} {x : Code} {Q : Exit → Act → World → Prop} {a : Act} {w : World} (h : x.wpIn (fen ro) n P Q a w) : x.wpIn (fen ro) m P Q a w :=
  fun b k cs h1 h2 _ => h b k cs h1 h2 fun d hd => by simp [fen] at hd
def wrOf (st : Store) (β : KMap) : Nat → Prop := fun b => ∃ k o, ∃ N : Nat × Nat, look k st = some o ∧ o.wr = true ∧ β k = some (b, N)
section base
variable {c c1 : Ctx} {st st' : Store} {D D' : Nat → Prop} {β β' : KMap} {w w' : World}
theorem WRel.wr_cells (h : WRel c st D β w) {b : Nat} (hb : wrOf st β b) : ∃ cs ty, w.heap[b]? = some (.cells cs ty (0, 0)) := by
  obtain ⟨k, o, N, h1, _, h3⟩ := hb
  obtain ⟨b', N', cs, ty, q1, q2, _⟩ := h.obj k o h1 _ h3
  rw [h3] at q1
  cases q1
  exact ⟨cs, ty, q2⟩
theorem WRel.base (h : WRel c st D β w) (k0 : KMap) (ro : Option Nat) (hk : ∀ k x, k0 k = some x → β k = some x) : WRel { c with w0 := w, Mw := wrOf st β, k0 := k0, ro := ro } st D β w :=
  { obj := h.obj, nob := h.nob, inj := h.inj, dom := h.dom, keep := hk, lt := h.lt, os := rfl, tape := rfl, output := rfl, size := Nat.le_refl _, block := fun _ _ _ => rfl
    mflt := fun b hb => ⟨Nat.lt_of_lt_of_le (h.mflt b hb).1 h.size, fun ⟨k, o, N, h1, h2, h3⟩ => (h.new k o b N h1 h2 h3).elim (fun h4 => Nat.not_lt.2 h4 (h.mflt b hb).1) (h.mflt b hb).2⟩
    new := fun k o b N h1 h2 h3 => .inr ⟨k, o, N, h1, h2, h3⟩ }
theorem WRel.back {k0 : KMap} {ro : Option Nat} (h0 : WRel c st D β w) (hk : ∀ k x, c.k0 k = some x → k0 k = some x) (h : WRel { c with w0 := w, Mw := wrOf st β, k0 := k0, ro := ro } st' D' β' w') : WRel c st' D' β' w' := by
  have hnw : ∀ b, b < c.w0.heap.size → ¬ c.Mw b → ¬ wrOf st β b := fun b hb hm ⟨k, o, N, h1, h2, h3⟩ => (h0.new k o b N h1 h2 h3).elim (fun h4 => by omega) hm
  exact { obj := h.obj, nob := h.nob, inj := h.inj, dom := h.dom, keep := fun k x hx => h.keep k x (hk k x hx), lt := h.lt, os := h.os.trans h0.os, tape := h.tape.trans h0.tape, output := h.output.trans h0.output, size := Nat.le_trans h0.size h.size
          block := fun b hb hm => (h.block b (Nat.lt_of_lt_of_le hb h0.size) (hnw b hb hm)).trans (h0.block b hb hm)
          mflt := h0.mflt
          new := fun k o b N h1 h2 h3 => (h.new k o b N h1 h2 h3).elim (fun h4 => .inl (Nat.le_trans h0.size h4)) fun ⟨k', o', N', g1, g2, g3⟩ => h0.new k' o' b N' g1 g2 g3 }
theorem WRel.hc {k0 : KMap} {ro : Option Nat} {c' : Ctx} (hMf : c'.Mf = c.Mf) (h : WRel { c with w0 := w, Mw := wrOf st β, k0 := k0, ro := ro } st' D' β' w') : HC (Mset c st β) w (Mset c' st' β') w' := by
  intro b x ty fr hm hb
  have hlt := heap_lt hb
  refine ⟨(h.block b hlt fun hw => hm (.inr hw)).trans hb, ?_⟩
  rintro (hf | ⟨k, o, N, g1, g2, g3⟩)
  · exact hm (.inl (hMf ▸ hf))
  · rcases h.new k o b N g1 g2 g3 with g | g
    · exact absurd hlt (Nat.not_lt.2 g)
    · exact hm (.inr g)
end base
def IterOK (P : Program) (gf : FuncId) (lb : Array Value) (n : Nat) (encs : Nat → Array Value) (I : World → Prop) : Prop :=
  ∀ (l : Nat) (J : Nat → World → Prop), (∀ i W, J i W → I W) → (∀ i W, i < n → J i W → YieldAt Fence.wide 1 P l (encs i) W fun e W' => e = .returned (.bool true) ∧ J (i + 1) W') →
    ∀ W, J 0 W → CallsIn Fence.wide 2 P gf (#[.func (.yield l) #[] #[]] ++ lb) W fun e W' => (∃ v, e = .returned v) ∧ J n W'
def Iter2 (P : Program) (gf : FuncId) (caps : List AV) (n : Nat) (u v : Nat → AV) : Prop :=
  ∀ (M : Nat → Prop) (w : World) (β : KMap) (lb : List Value), CReps M w β caps lb → ∃ x y : Nat → Value, (∀ i, i < n → VRep M w noKeys (u i) (x i) ∧ VRep M w noKeys (v i) (y i)) ∧
    IterOK P gf lb.toArray n (fun i => #[x i, y i]) fun W => ∀ b cs ty fr, ¬ M b → w.heap[b]? = some (.cells cs ty fr) → W.heap[b]? = some (.cells cs ty fr)
section rule
variable {P : Program} {c : Ctx} {nt : Nat} {s : AState} {Q : AEx → AState → Prop}
theorem AWp.rangeIter {g : Operand} {p0 p1 : Tmp} {assign body : Code} {gf : FuncId} {caps : List AV} {n : Nat} {u v : Nat → AV} {sl : List (Nat × AV)} {st : Nat → Store} {nx : Nat → Nat} {ρ : Nat → Option Nat} (hro : c.ro = none) (h0 : Le c ρ s ⟨sl, st 0, nx 0⟩)
    (hg : AState.rho ⟨sl, st 0, nx 0⟩ g = some (.func gf caps)) (heg : ∀ args w, (callFunc gf args).run P w = .ok (.enter gf args) w) (hit : Iter2 P gf caps n u v) (hp0 : p0 < nt) (hp1 : p1 < nt) (hne : p0 ≠ p1)
    (hround : ∀ c' : Ctx, (∀ k x, c'.k0 k = some x → (ρ k).isSome = true) → ∀ i, i < n → AWp P c' nt assign ⟨put p1 (v i) (put p0 (u i) sl), st i, nx i⟩ fun e s' => e = .normal ∧
      ∀ c' : Ctx, (∀ k x, c'.k0 k = some x → (ρ k).isSome = true) → AWp P c' nt body s' fun e s' => e = .normal ∧ ∃ ρ', Le c' ρ' ⟨[], s'.store, s'.next⟩ ⟨[], st (i + 1), nx (i + 1)⟩)
    (hend : Q .normal ⟨sl, st n, nx n⟩) : AWp P c nt (.rangeFunc g #[p0, p1] assign body) s Q := by
  intro a w hr
  obtain ⟨hdf, hsz, β', hW', hs'⟩ := id hr
  have hr1 := h0.rel hr
  -- the keys at the start
  obtain ⟨β0, hβk, hW, hs⟩ : ∃ β0 : KMap, (∀ k x, β0 k = some x → (ρ k).isSome = true) ∧ WRel c (st 0) (fun k => k < nx 0) β0 w ∧ SlRel (Mset c (st 0) β0) w β0 sl a.tmps := by
    exact ⟨_, fun k x hk => by cases h : ρ k <;> simp [h] at hk ⊢, h0.wrel hW' hs'⟩
  obtain ⟨lb, hev, hcaps, -⟩ := (rho_ok hs g _ hg).func
  obtain ⟨x, y, hxy, hiter⟩ := hit _ _ _ _ hcaps
  have hro' : fen c.ro = Fence.wide := by rw [hro]; rfl
  rw [hro']
  refine wpIn_rangeFunc ?_
  intro fn _
  let rec' : LoopState → Loop := fun q => { state := q, pending := none, fn, tmps := a.tmps, params := #[p0, p1], assign, body, defers := w.heap.size }
  let W1 := (w.alloc (.deferred (some []))).alloc (.loop (rec' .ready))
  let c1 : Ctx := { c with w0 := w, Mw := wrOf (st 0) β0, k0 := β0, ro := none }
  have hc1 : WRel c1 (st 0) (fun k => k < nx 0) β0 w := hW.base β0 none fun _ _ h => h
  let J : Nat → World → Prop := fun i W => ∃ β, WRel c1 (st i) (fun k => k < nx i) β W ∧ W.heap[w.heap.size + 1]? = some (.loop (rec' .ready)) ∧ W.heap[w.heap.size]? = some (.deferred (some []))
  have hcells : ∀ {W W' : World} {l : Nat} {o o' : Obj}, W.heap[l]? = some o → o.isCells = false → ∀ (b : Nat) x ty fr, W.heap[b]? = some (Obj.cells x ty fr) → (W.putObj l o').heap[b]? = some (Obj.cells x ty fr) := by
    intro W W' l o o' h1 h2 b x ty fr h3
    rw [World.putObj_heap_other (fun e => by subst e; rw [h1] at h3; cases h3; cases h2)]; exact h3
  have hJ0 : J 0 W1 := by
    refine ⟨β0, hc1.turn (fun b x ty fr hb => ?_) rfl rfl rfl (by simp [W1]; omega) (fun b hb => ?_), ?_, ?_⟩
    · have hlt := heap_lt hb
      rw [show W1.heap[b]? = w.heap[b]? from (alloc_old (by simp; omega)).trans (alloc_old hlt)]; exact hb
    · exact (alloc_old (by simp; exact Nat.lt_succ_of_lt hb)).trans (alloc_old hb)
    · have := World.alloc_heap_new (w.alloc (.deferred (some []))) (.loop (rec' .ready)); rwa [World.size_alloc] at this
    · exact (alloc_old (by simp)).trans (World.alloc_heap_new w _)
  refine ⟨w.heap.size + 1, [markOf w.heap.size], W1, { target := .fn (.func gf) lb.toArray, args := #[.func (.yield (w.heap.size + 1)) #[] #[]] }, W1, gf, #[.func (.yield (w.heap.size + 1)) #[] #[]] ++ lb.toArray, W1, ?_, ?_, fun _ _ => trivial, ?_, fun _ => by decide, ?_⟩
  · exact run_enterLoop_outer _ _ _ _ _
  · simp only [resolve, hev]
    simp [go_sem]
  · simp [invoke, go_sem, heg]
  have hnl : ∀ {st : Store} {β : KMap} {D : Nat → Prop} {W : World} {c : Ctx} {r : Loop} {l : Nat}, WRel c st D β W → W.heap[l]? = some (.loop r) → ¬ wrOf st β l := by
    intro st β D W c r l h h1 h2
    obtain ⟨cs, ty, h3⟩ := h.wr_cells h2
    rw [h1] at h3
    cases h3
  have hnd : ∀ {st : Store} {β : KMap} {D : Nat → Prop} {W : World} {c : Ctx} {l : Nat}, WRel c st D β W → W.heap[l]? = some (.deferred (some [])) → ¬ wrOf st β l := by
    intro st β D W c l h h1 h2
    obtain ⟨cs, ty, h3⟩ := h.wr_cells h2
    rw [h1] at h3
    cases h3
  have hsl : ∀ {i : Nat} {β : KMap} {W W' : World}, WRel c1 (st i) (fun k => k < nx i) β W → (∀ (b : Nat) x ty fr, W.heap[b]? = some (Obj.cells x ty fr) → W'.heap[b]? = some (Obj.cells x ty fr)) → SlRel (Mset c (st i) β) W' β sl a.tmps := by
    intro i β W W' h hh t v ht
    obtain ⟨z, hz, hv⟩ := hs t v ht
    exact ⟨z, hz, hv.monoC (fun b x ty fr m g => let ⟨g1, g2⟩ := WRel.hc (c' := c) rfl h b x ty fr m g; ⟨hh _ _ _ _ g1, g2⟩) fun k x hk => h.keep k x hk⟩
  refine CallsIn.mono (hiter (w.heap.size + 1) J ?_ ?_ W1 hJ0) ?_
  · rintro i W ⟨β, h, _, _⟩ b cs ty fr hm hb
    exact (WRel.hc (c' := c) rfl h b cs ty fr hm hb).1
  · rintro i W hi ⟨β, h, hl, hk⟩
    refine ⟨fn, _, assign, body, run_yield (P := P) (args := #[x i, y i]) hl rfl, roundIn_of_wpIn trivial ?_⟩
    have hwl := heap_lt hl
    refine wpIn_any (ro := some (w.heap.size + 1)) (wpIn_mono (hround { c1 with w0 := W, Mw := wrOf (st i) β, k0 := β0, ro := some (w.heap.size + 1) } hβk i hi _ W ⟨.nil, ?_, β, h.base β0 _ fun k x hx => h.keep k x hx, ?_⟩) ?_)
    · simp [rec', hsz]
    · intro t z ht
      have hsl1 := hsl h (fun _ _ _ _ h => h)
      have hxy1 := hxy i hi
      have hmono : ∀ {v : AV} {z : Value}, VRep (Mset c (st 0) β0) w noKeys v z → VRep (Mset c (st i) β) W β v z := fun hv =>
        hv.monoC (WRel.hc (c' := c) rfl h) fun k x hk => by simp [noKeys] at hk
      simp only [look_put] at ht
      split at ht
      · rename_i e
        subst e
        simp only [Option.some.injEq] at ht
        subst ht
        exact ⟨y i, by simp [rec', hsz, hp1], hmono hxy1.2⟩
      · rename_i e1
        split at ht
        · rename_i e2
          subst e2
          simp only [Option.some.injEq] at ht
          subst ht
          exact ⟨x i, by simp [rec', hsz, hp0, Ne.symm hne], hmono hxy1.1⟩
        · rename_i e2
          obtain ⟨q, hq, hv⟩ := hsl1 t z ht
          exact ⟨q, by simp [rec', Ne.symm e1, Ne.symm e2, hq], hv⟩
    · rintro e a1 Wa ⟨ae, s1, rfl, hr2, rfl, hB⟩
      obtain ⟨hd1, hsz1, β1, h3, hs1⟩ := hr2
      have hl1 : Wa.heap[w.heap.size + 1]? = some (.loop (rec' .ready)) := (h3.block _ hwl (hnl h hl)).trans hl
      have hk1 : Wa.heap[w.heap.size]? = some (.deferred (some [])) := (h3.block _ (heap_lt hk) (hnd h hk)).trans hk
      refine ⟨_, run_beginRound hl1 rfl, ?_⟩
      have h3' : WRel c1 s1.store (fun k => k < s1.next) β1 Wa := h.back (fun _ _ h => h) h3
      obtain ⟨Wb, hWb⟩ : ∃ Wb, Wa.putObj (w.heap.size + 1) (.loop { rec' .ready with state := .busy }) = Wb := ⟨_, rfl⟩
      have hcb : ∀ (b : Nat) x ty fr, Wa.heap[b]? = some (Obj.cells x ty fr) → Wb.heap[b]? = some (Obj.cells x ty fr) := by
        rw [← hWb]; exact hcells (W' := w) hl1 rfl
      have h4 : WRel c1 s1.store (fun k => k < s1.next) β1 Wb := h3'.turn hcb (by rw [← hWb]; rfl) (by rw [← hWb]; rfl) (by rw [← hWb]; rfl) (by rw [← hWb]; simp) (fun b hb => by rw [← hWb]; exact World.putObj_heap_other (by have : b < w.heap.size := hb; omega))
      have hlb : Wb.heap[w.heap.size + 1]? = some (.loop { rec' .ready with state := .busy }) := by rw [← hWb]; exact World.putObj_heap_same (heap_lt hl1)
      have hkb : Wb.heap[w.heap.size]? = some (.deferred (some [])) := by rw [← hWb]; exact (World.putObj_heap_other (by omega)).trans hk1
      rw [hWb]
      refine wpIn_any (ro := some (w.heap.size + 1)) (wpIn_mono (hB { c1 with w0 := Wb, Mw := wrOf s1.store β1, k0 := β0, ro := some (w.heap.size + 1) } hβk a1 Wb ⟨?_, hsz1, β1, h4.base β0 _ fun k x hx => h4.keep k x hx, ?_⟩) ?_)
      · rw [hd1.1 rfl]; exact .nil
      · intro t z ht
        obtain ⟨q, hq, hv⟩ := hs1 t z ht
        exact ⟨q, hq, hv.monoC (fun b x ty fr m g => ⟨hcb _ _ _ _ g, m⟩) fun _ _ h => h⟩
      · rintro e a3 W3 ⟨ae, s2, rfl, hr3, rfl, ρ', hle⟩
        obtain ⟨_, _, β2, h6, _⟩ := hr3
        have hl3 : W3.heap[w.heap.size + 1]? = some (.loop { rec' .ready with state := .busy }) := (h6.block _ (heap_lt hlb) (hnl h4 hlb)).trans hlb
        have hk3 : W3.heap[w.heap.size]? = some (.deferred (some [])) := (h6.block _ (heap_lt hkb) (hnd h4 hkb)).trans hkb
        have h7 := (hle.wrel (tmps := #[]) h6 fun t v ht => by simp [look] at ht).1
        have h8 := h4.back (fun _ _ h => h) h7
        refine ⟨_, _, run_endRound none hl3, rfl, _, h8.turn (hcells (W' := w) hl3 rfl) rfl rfl rfl (by simp) (fun b hb => World.putObj_heap_other (by have : b < w.heap.size := hb; omega)), World.putObj_heap_same (heap_lt hl3), (World.putObj_heap_other (by omega)).trans hk3⟩
  · rintro e W2 ⟨⟨v, rfl⟩, β, h, hl, hk⟩
    refine ⟨none, _, run_endLoop hl (by simp [rec']), .normal, _, rfl, ⟨⟨fun h => by rw [hro] at h; simp at h, ?_⟩, hsz, β, (hW.back (fun k x hk => hW.keep k x hk) h).turn (hcells (W' := w) hl rfl) rfl rfl rfl (by simp) (fun b hb => World.putObj_heap_other (by have := hW.size; omega)), hsl h (hcells (W' := w) hl rfl)⟩, hend⟩
    obtain ⟨_, Ds, e1, e2, e3⟩ := hdf
    refine ⟨w.heap.size :: Ds, by simp [e1], List.nodup_cons.2 ⟨fun hm => ?_, e2⟩, fun D hD => ?_⟩
    · have := heap_lt (e3 _ hm).1
      omega
    · rcases List.mem_cons.1 hD with rfl | hD
      · exact ⟨(World.putObj_heap_other (by omega)).trans hk, hW.size⟩
      · have hlt := heap_lt (e3 D hD).1
        refine ⟨(World.putObj_heap_other (by omega)).trans ((h.block D hlt (hnd hW (e3 D hD).1)).trans (e3 D hD).1), (e3 D hD).2⟩
end rule
end Go.Am

/- slices.Backward: what its iterator does. -/
namespace Go.Am
open AV
def opsAt (c : Code) (p : List Nat) : Array Oper := match part c p with
  | .region _ ops _ => ops
  | _ => #[]
def idAt (c : Code) (p : List Nat) : Nat := match part c p with
  | .region i _ _ => i
  | _ => 0
def oper0 : Oper := { dst := none, op := .move (.const undef), type := 0, pos := "", after := #[], guard := none }
def opAt (c : Code) (p : List Nat) (i : Nat) : Oper := match (opsAt c p).toList[i]? with
  | some o => o
  | none => oper0
def OpIs (o : Oper) (d : Tmp) (op : Op) : Prop := o.dst = some d ∧ o.op = op ∧ o.guard = none
structure BackCode (x : Code) (tS tE tI : TypeId) : Prop where
  shape : x = .seq (.region (idAt x [0]) #[opAt x [0] 0, opAt x [0] 1, opAt x [0] 2, opAt x [0] 3] false) (.block 0 (.loop (.seq
    (.seq (.region (idAt x [1,0,0,0,0]) #[opAt x [1,0,0,0,0] 0, opAt x [1,0,0,0,0] 1] false) (.cond (.tmp 8) .skip (.exit 0)))
    (.seq (.block 1 (.seq (.region (idAt x [1,0,0,1,0,0,0]) #[opAt x [1,0,0,1,0,0,0] 0, opAt x [1,0,0,1,0,0,0] 1, opAt x [1,0,0,1,0,0,0] 2, opAt x [1,0,0,1,0,0,0] 3, opAt x [1,0,0,1,0,0,0] 4, opAt x [1,0,0,1,0,0,0] 5, opAt x [1,0,0,1,0,0,0] 6, opAt x [1,0,0,1,0,0,0] 7] false) (.cond (.tmp 18) .ret .skip)))
      (.region (idAt x [1,0,0,1,1]) #[opAt x [1,0,0,1,1] 0, opAt x [1,0,0,1,1] 1, opAt x [1,0,0,1,1] 2] false)))))
  o0 : OpIs (opAt x [0] 0) 4 (.load tS (.tmp 1))
  o1 : OpIs (opAt x [0] 1) 5 (.call ⟨.builtin .len, #[.tmp 4], #[tS]⟩)
  o2 : OpIs (opAt x [0] 2) 6 (.binOp .sub tI (.tmp 5) (.const (.int .i64 1)) tI)
  o3 : OpIs (opAt x [0] 3) 3 (.assign (.tmp 6))
  p0 : OpIs (opAt x [1,0,0,0,0] 0) 7 (.move (.tmp 3))
  p1 : OpIs (opAt x [1,0,0,0,0] 1) 8 (.binOp .geq tI (.tmp 7) (.const (.int .i64 0)) tI)
  q0 : OpIs (opAt x [1,0,0,1,0,0,0] 0) 11 (.move (.tmp 0))
  q1 : OpIs (opAt x [1,0,0,1,0,0,0] 1) 12 (.move (.tmp 3))
  q2 : OpIs (opAt x [1,0,0,1,0,0,0] 2) 13 (.load tS (.tmp 1))
  q3 : OpIs (opAt x [1,0,0,1,0,0,0] 3) 14 (.move (.tmp 3))
  q4 : OpIs (opAt x [1,0,0,1,0,0,0] 4) 15 (.indexAddr tS (.tmp 13) (.tmp 14))
  q5 : OpIs (opAt x [1,0,0,1,0,0,0] 5) 16 (.load tE (.tmp 15))
  q6 : ∃ ts, OpIs (opAt x [1,0,0,1,0,0,0] 6) 17 (.call ⟨.value (.tmp 11), #[.tmp 12, .tmp 16], ts⟩)
  q7 : ∃ t, OpIs (opAt x [1,0,0,1,0,0,0] 7) 18 (.unOp .not t (.tmp 17))
  s0 : OpIs (opAt x [1,0,0,1,1] 0) 9 (.move (.tmp 3))
  s1 : OpIs (opAt x [1,0,0,1,1] 1) 10 (.binOp .sub tI (.tmp 9) (.const (.int .i64 1)) tI)
  s2 : OpIs (opAt x [1,0,0,1,1] 2) 3 (.assign (.tmp 10))
section steps
variable {P : Program} {n : Nat} {ops : Array Oper} {Q : Exit → Act → World → Prop} {a : Act} {w : World} {rest : List Oper}
theorem opStep {o : Oper} {d : Tmp} {op : Op} (h : OpIs o d op) (hd : ∀ c, op ≠ .defer c) {v : Value} (hrun : (execOp a.eval o).run P w = .ok (.value v) w)
    (hn : wpListIn Fence.wide n P ops Q rest (a.put (some d) v) w) : wpListIn Fence.wide n P ops Q (o :: rest) a w := by
  refine wpListIn_plain h.2.2 fun K hK => ⟨fun _ _ => trivial, ?_⟩
  rw [Oper.semAt_eq _ _ _ (by rw [h.2.1]; exact hd), hrun]
  show K (a.put o.dst v) w
  rw [h.1]; exact hK _ _ hn
theorem put_get {d t : Tmp} {v : Value} : (a.put (some d) v).tmps[t]? = if t = d then (if d < a.tmps.size then some v else none) else a.tmps[t]? := by
  simp only [Act.put, Array.getElem?_setIfInBounds]
  by_cases h : d = t
  · subst h; simp
  · have : ¬ t = d := fun e => h e.symm
    simp [h, this]
theorem put_size {d : Tmp} {v : Value} : (a.put (some d) v).tmps.size = a.tmps.size := by simp [Act.put]
theorem put_defers {d : Tmp} {v : Value} : (a.put (some d) v).defers = a.defers := rfl
theorem eval_of {t : Tmp} {v : Value} (h : a.tmps[t]? = some v) : a.eval (.tmp t) = v := by simp [Act.eval, Array.getD_eq_getD_getElem?, h]
theorem run_move {o : Oper} {d : Tmp} {x : Operand} (h : OpIs o d (.move x)) : (execOp a.eval o).run P w = .ok (.value (a.eval x)) w := by
  simp [execOp, h.2.1]
theorem run_assign {o : Oper} {d : Tmp} {x : Operand} (h : OpIs o d (.assign x)) : (execOp a.eval o).run P w = .ok (.value (a.eval x)) w := by
  simp [execOp, h.2.1]
theorem run_bin {T : Types} (hT : TOK P T) {o : Oper} {d : Tmp} {b : BinOp} {t u : TypeId} {x y : Operand} (h : OpIs o d (.binOp b t x y u)) {m k : Int} (hx : a.eval x = .int .i64 m) (hy : a.eval y = .int .i64 k) {r : ORes} (hr : binAV T t b (.int .i64 m) (.int .i64 k) = some r) (need : r.need)
    {v : Value} (hv : ∀ z, VRep1 (fun _ => False) w noKeys r.val z → z = v) : (execOp a.eval o).run P w = .ok (.value v) w := by
  have hint : ∀ k, VRep (Mset { Mf := fun _ => False, w0 := w, Mw := fun _ => False, k0 := noKeys } [] noKeys) w noKeys (.int .i64 k) (.int .i64 k) := fun k => VRep1.vrep (.of_cell (.int .nil) rfl)
  have hM : Mset { Mf := fun _ => False, w0 := w, Mw := fun _ => False, k0 := noKeys } [] noKeys = fun _ => False := by
    funext b; simp [Mset, look]
  obtain ⟨_, z, hz, hz2⟩ := bin_ok (P := P) hT (t' := t) (x := x) (y := y) (hint m) (hint k) hr need
  rw [hM] at hz2
  have := hv z hz2
  subst this
  simp only [execOp, h.2.1, hx, hy]
  simp only [Sem.run_bind] at hz ⊢
  revert hz
  cases (eqGuard b t x y (.int .i64 m) (.int .i64 k)).run P w with
  | ok u w' =>
    simp only [Result.andThen_ok]
    intro hz
    rw [hz]; rfl
  | _ => intro hz; simp [Result.andThen] at hz
theorem run_load {o : Oper} {d : Tmp} {t : TypeId} {x : Operand} (h : OpIs o d (.load t x)) {v : Value} (hv : (Instr.loadAt t (a.eval x)).run P w = .ok v w) : (execOp a.eval o).run P w = .ok (.value v) w := by
  simp only [execOp, h.2.1, Sem.run_bind, hv, Result.andThen_ok, Sem.run_pure]
theorem run_index {o : Oper} {d : Tmp} {t : TypeId} {x y : Operand} (h : OpIs o d (.indexAddr t x y)) {v : Value} (hv : (Instr.indexAt t (a.eval x) (a.eval y)).run P w = .ok v w) : (execOp a.eval o).run P w = .ok (.value v) w := by
  simp only [execOp, h.2.1, Sem.run_bind, hv, Result.andThen_ok, Sem.run_pure]
theorem run_not {o : Oper} {d : Tmp} {t : TypeId} {x : Operand} (h : OpIs o d (.unOp .not t x)) {b : Bool} (hv : a.eval x = .bool b) : (execOp a.eval o).run P w = .ok (.value (.bool !b)) w := by
  simp [execOp, h.2.1, hv, Op.unary]
theorem run_len {o : Oper} {d : Tmp} {t e : TypeId} {x : Operand} (h : OpIs o d (.call ⟨.builtin .len, #[x], #[t]⟩)) (hu : P.underlying t = some (.slice e)) {base : Option Addr} {m cap : Nat} (hv : a.eval x = .slice base m cap) :
    (execOp a.eval o).run P w = .ok (.value (.int .i64 m)) w := by
  have hres : (execOp a.eval o : Sem Next) = builtin .len #[t] o.type (#[x].map fun | .const _ => true | _ => false) (Array.map a.eval #[x]) := by
    simp only [execOp, h.2.1]; rfl
  rw [hres]
  simp [builtin, Builtin.len_, run_underlying hu, goInt, hv]
theorem yieldStep {o : Oper} {d : Tmp} {f : Operand} {xs : Array Operand} {ts : Array TypeId} (h : OpIs o d (.call ⟨.value f, xs, ts⟩)) {l : Nat} (hf : a.eval f = .func (.yield l) #[] #[]) {vs : Array Value} (hvs : xs.map a.eval = vs)
    {R : Ending → World → Prop} (hy : YieldAt Fence.wide n P l vs w R) (hR : ∀ e w', R e w' → ∃ v, e = .returned v ∧ wpListIn Fence.wide (n + 1) P ops Q rest (a.put (some d) v) w') : wpListIn Fence.wide (n + 1) P ops Q (o :: rest) a w := by
  refine wpListIn_plain h.2.2 fun K hK => ⟨fun _ _ => trivial, ?_⟩
  rw [Oper.semAt_eq _ _ _ (by rw [h.2.1]; intro c hc; cases hc)]
  obtain ⟨fn, tmps, assign, body, h1, h2⟩ := hy
  have hrun : (execOp a.eval o).run P w = .ok (.round l fn tmps assign body) w := by
    have : (execOp a.eval o : Sem Next) = Instr.yield l vs := by
      simp only [execOp, h.2.1, resolve, hf, Deferred.ofValue, hvs]
      simp [invoke]
    rw [this]; exact h1
  rw [hrun]
  refine ⟨fun _ => by omega, RoundIn.mono h2 ?_⟩
  intro e w' he
  obtain ⟨v, rfl, hv⟩ := hR e w' he
  show K (a.put o.dst v) w'
  rw [h.1]; exact hK _ _ hv
end steps
theorem load_agg {P : Program} {T : Types} (hT : TOK P T) {t : TypeId} {ti : TI} (ht : look t T = some ti) (ha : aggDesc ti.desc = true) {w : World} {b o : Nat} {ps : List Value} (hr : w.rangeAt b o ps) (hl : ps.length = ti.size) :
    (Instr.loadAt t (.pointer (some ⟨b, o, none⟩))).run P w = .ok (.agg ps.toArray) w := by
  obtain ⟨i, hi, his, _⟩ := (hT t ti ht).info
  refine run_loadAt_mid (P := P) w b o t ps ti.desc hr (hT t ti ht).und ?_ (by rw [hi]; simp [his, hl])
  cases hd : ti.desc <;> simp_all [aggDesc, TypeDesc.isRow]
theorem load_slice {P : Program} {T : Types} (hT : TOK P T) {t : TypeId} {ti : TI} (ht : look t T = some ti) {e : TypeId} (hd : ti.desc = .slice e) {w : World} {b o : Nat} {x : Value} (hr : w.rangeAt b o [x]) :
    (Instr.loadAt t (.pointer (some ⟨b, o, none⟩))).run P w = .ok x w := by
  have hc : w.cell? ⟨b, o, none⟩ = some x := by simpa using hr 0 x (by simp)
  have hg : (isAgg t).run P w = .ok false w := by
    unfold Go.isAgg
    rw [Sem.run_bind, run_underlying (hT t ti ht).und w, hd]; simp
  simp [Instr.loadAt, Instr.sureAddr, loadVar, Sem.run_bind, hg, hc]
def BackI (n l b0 off0 : Nat) (J : Nat → World → Prop) (i : Nat) (a : Act) (W : World) : Prop :=
  i ≤ n ∧ a.tmps.size = 19 ∧ a.tmps[0]? = some (.func (.yield l) #[] #[]) ∧ a.tmps[1]? = some (.pointer (some ⟨b0, off0, none⟩)) ∧ a.tmps[3]? = some (.int .i64 ((n : Int) - 1 - i)) ∧ a.defers = [] ∧ J i W
set_option maxHeartbeats 400000 in
theorem back_iter {P : Program} {T : Types} (hT : TOK P T) {tS tE tI : TypeId} {tiS tiE : TI} (hS : look tS T = some tiS) (hdS : tiS.desc = .slice tE) (hE : look tE T = some tiE) (hA : aggDesc tiE.desc = true) {gf : FuncId} {fn : Func} {x : Code}
    (hf : P.funcs[gf]? = some fn) (hb : fn.body = some x) (hnt : fn.ntmps = 19) (hres : fn.results = #[]) (hx : BackCode x tS tE tI) {n es : Nat} {f : Nat → AV} (hn : n < 2 ^ 62) (hes : tiE.size = es) (hag : ∀ i, i < n → (f i).isAgg = true ∧ (f i).isTuple = false) :
    Iter2 P gf [.cref (.tab es n f)] n (fun i => .int .i64 ((n : Int) - 1 - i)) (fun i => f (n - 1 - i)) := by
  intro M w β lb hlb
  obtain ⟨b0, off0, ps0, hlb0, hps, hmem⟩ : ∃ b o ps, lb = [.pointer (some ⟨b, o, none⟩)] ∧ CReps M w noKeys [.tab es n f] ps ∧ InMem M w b o ps := by
    cases hlb with
    | cref h1 h2 h3 => cases h3; exact ⟨_, _, _, rfl, h1, h2⟩
  subst hlb0
  obtain ⟨base, cap, cf, hps0, g1, g2, g3, g4, g5⟩ : ∃ base cap, ∃ cf : Nat → List Value, ps0 = [.slice base n cap] ∧ (n = 0 ∨ ∃ b o, base = some ⟨b, o, none⟩ ∧ ∀ i, i < n → InMem M w b (o + i * es) (cf i)) ∧ 0 < es ∧ n ≤ cap ∧
      (∀ i, i < n → (cf i).length = es) ∧ ∀ i, i < n → CReps M w noKeys [f i] (cf i) := by
    cases hps with
    | tab h1 h2 h3 h4 h5 h6 => cases h6; exact ⟨_, _, _, rfl, h1, h2, h3, h4, h5⟩
  subst hps0
  refine ⟨fun i => .int .i64 ((n : Int) - 1 - i), fun i => .agg (cf (n - 1 - i)).toArray, fun i hi => ⟨VRep1.vrep (.of_cell (.int .nil) rfl), ?_⟩, ?_⟩
  · exact VRep1.vrep (VRep1.of_cells (g5 _ (by omega)) (hag _ (by omega)).1)
  intro l J hJ hY W0 hW0
  have hu := hdS ▸ (hT tS tiS hS).und
  have hls : ∀ i W, J i W → (Instr.loadAt tS (.pointer (some ⟨b0, off0, none⟩))).run P W = .ok (.slice base n cap) W := fun i W hj => by
    obtain ⟨c, ty, fr, h1, h2, h3⟩ := hmem
    refine load_slice hT hS hdS ?_
    intro j v hv
    rw [cell_of_heap (hJ i W hj _ _ _ _ h2 h1)]
    exact h3 j v hv
  refine callsIn_of_wp hf hb trivial ?_ rfl
  generalize ha0 : ({ tmps := (#[Value.func (.yield l) #[] #[]] ++ [Value.pointer (some ⟨b0, off0, none⟩)].toArray) ++ Array.replicate (fn.ntmps - (#[Value.func (.yield l) #[] #[]] ++ [Value.pointer (some ⟨b0, off0, none⟩)].toArray).size) undef, defers := [] } : Act) = a0
  have hB : a0.tmps.size = 19 ∧ a0.tmps[0]? = some (.func (.yield l) #[] #[]) ∧ a0.tmps[1]? = some (.pointer (some ⟨b0, off0, none⟩)) ∧ a0.defers = [] := by
    subst ha0; rw [hnt]; exact ⟨by simp, by simp, by simp, rfl⟩
  clear ha0
  rw [hx.shape]
  have key : ∀ {F : Fence} {n : Nat} {Q : Exit → Act → World → Prop} {a : Act} {w : World} {i : Nat} {l : List Oper}, wpListIn F n P l.toArray Q l a w → (Code.region i l.toArray false).wpIn F n P Q a w := fun h => wpIn_region_lit h
  have sb : ∀ {a : Act} {w : World} {o : Oper} {d t s : Tmp} {m : Int}, OpIs o d (.binOp .sub tI (.tmp t) (.const (.int .i64 1)) tI) → a.tmps[t]? = some (.int .i64 m) → -2 ^ 62 ≤ m → m ≤ 2 ^ 62 → (execOp a.eval o).run P w = .ok (.value (.int .i64 (m - 1))) w := by
    intro a w o d t s m ho ht h1 h2
    refine run_bin hT ho (eval_of ht) rfl (r := ⟨.int .i64 (IntKind.i64.wrap (m - 1)), [], []⟩) rfl trivial fun z hz => ?_
    rw [wrap64 (n := m - 1) (by omega)] at hz
    exact hz.vrep.int
  have ge : ∀ {a : Act} {w : World} {o : Oper} {d t s : Tmp} {m : Int}, OpIs o d (.binOp .geq tI (.tmp t) (.const (.int .i64 0)) tI) → a.tmps[t]? = some (.int .i64 m) → (execOp a.eval o).run P w = .ok (.value (.bool (decide (m ≥ 0)))) w := by
    intro a w o d t s m ho ht
    exact run_bin hT ho (eval_of ht) rfl (r := ⟨.bool (decide (m ≥ 0)), [], []⟩) rfl trivial fun z hz => hz.vrep.bool
  refine wpIn_seq (wpIn_mono (Q := fun e a w => e = .normal ∧ w = W0 ∧ a.tmps.size = 19 ∧ a.tmps[0]? = some (.func (.yield l) #[] #[]) ∧ a.tmps[1]? = some (.pointer (some ⟨b0, off0, none⟩)) ∧ a.tmps[3]? = some (.int .i64 ((n : Int) - 1)) ∧ a.defers = []) (key (l := [_, _, _, _]) ?_) ?_)
  · obtain ⟨z1, z2, z3, z4⟩ := hB
    refine opStep hx.o0 (fun _ h => by cases h) (run_load hx.o0 (by rw [eval_of z3]; exact hls 0 W0 hW0)) ?_
    refine opStep hx.o1 (fun _ h => by cases h) (run_len hx.o1 hu (base := base) (m := n) (cap := cap) (eval_of (by simp only [put_get, z1, Nat.reduceLT, if_true]))) ?_
    refine opStep hx.o2 (fun _ h => by cases h) (sb (s := 0) (m := n) hx.o2 (by simp only [put_get, put_size, z1, Nat.reduceEqDiff, Nat.reduceLT, if_true, if_false]) (by omega) (by omega)) ?_
    refine opStep hx.o3 (fun _ h => by cases h) (run_assign hx.o3) (wpListIn_nil ?_)
    rw [eval_of (v := .int .i64 ((n : Int) - 1)) (by simp only [put_get, put_size, z1, Nat.reduceEqDiff, Nat.reduceLT, if_true, if_false])]
    refine ⟨rfl, rfl, by simp only [put_size]; exact z1, ?_, ?_, ?_, by simp only [put_defers]; exact z4⟩
    · simp only [put_get, put_size, z1, z2, Nat.reduceEqDiff, Nat.reduceLT, if_true, if_false]
    · simp only [put_get, put_size, z1, z3, Nat.reduceEqDiff, Nat.reduceLT, if_true, if_false]
    · simp only [put_get, put_size, z1, Nat.reduceEqDiff, Nat.reduceLT, if_true, if_false]
  rintro e a1 W1 ⟨rfl, rfl, z1, z2, z3, z4, z5⟩
  show (Code.block 0 _).wpIn Fence.wide 2 P (bodyPost P fn _) a1 W1
  refine wpIn_block (wp_loop_with (P := P) (BackI n l b0 off0 J) (fun i => n - i) (s := 0) ?_ ⟨by omega, z1, z2, z3, by rw [z4]; congr 2; omega, z5, hW0⟩)
  rintro i a W ⟨hi, y1, y2, y3, y4, y5, hj⟩
  refine wpIn_seq (wpIn_mono (Q := fun e a' w' => (e = .normal ∧ i < n ∧ W = w' ∧ a'.tmps.size = 19 ∧ a'.tmps[0]? = some (.func (.yield l) #[] #[]) ∧ a'.tmps[1]? = some (.pointer (some ⟨b0, off0, none⟩)) ∧ a'.tmps[3]? = some (.int .i64 ((n : Int) - 1 - i)) ∧ a'.defers = []) ∨ (e = .exit 0 ∧ i = n ∧ W = w' ∧ a'.defers = [])) ?_ ?_)
  · refine wpIn_seq (key (l := [_, _]) ?_)
    refine opStep hx.p0 (fun _ h => by cases h) (run_move hx.p0) ?_
    rw [eval_of y4]
    refine opStep hx.p1 (fun _ h => by cases h) (ge (s := 0) (m := (n : Int) - 1 - i) hx.p1 (by simp only [put_get, y1, Nat.reduceLT, if_true])) (wpListIn_nil ?_)
    have q8 : ((a.put (some 7) (Value.int .i64 ((n : Int) - 1 - i))).put (some 8) (.bool (decide ((n : Int) - 1 - i ≥ 0)))).eval (.tmp 8) = .bool (decide ((n : Int) - 1 - i ≥ 0)) := eval_of (by simp only [put_get, put_size, y1, Nat.reduceEqDiff, Nat.reduceLT, if_true, if_false])
    by_cases hlt : i < n
    · rw [show decide ((n : Int) - 1 - i ≥ 0) = true by simp; omega] at q8 ⊢
      refine wpIn_cond_true q8 (wpIn_skip (.inl ⟨rfl, hlt, rfl, by simp only [put_size]; exact y1, ?_, ?_, ?_, by simp only [put_defers]; exact y5⟩))
      · simp only [put_get, put_size, y1, y2, Nat.reduceEqDiff, Nat.reduceLT, if_true, if_false]
      · simp only [put_get, put_size, y1, y3, Nat.reduceEqDiff, Nat.reduceLT, if_true, if_false]
      · simp only [put_get, put_size, y1, y4, Nat.reduceEqDiff, Nat.reduceLT, if_true, if_false]
    · rw [show decide ((n : Int) - 1 - i ≥ 0) = false by simp; omega] at q8 ⊢
      exact wpIn_cond_false q8 (wpIn_exit (.inr ⟨rfl, by omega, rfl, by simp only [put_defers]; exact y5⟩))
  rintro e a2 W2 (⟨rfl, hlt, rfl, y1, y2, y3, y4, y5⟩ | ⟨rfl, rfl, rfl, y5⟩)
  rotate_left
  · exact ⟨y5, .tuple #[], results_none hres _ _ _, ⟨_, rfl⟩, hj⟩
  obtain ⟨b, off, rfl, g1'⟩ := g1.resolve_left (by omega)
  have hle : (Instr.loadAt tE (.pointer (some ⟨b, off + (n - 1 - i) * es, none⟩))).run P W = .ok (.agg (cf (n - 1 - i)).toArray) W := by
    refine load_agg hT hE hA ?_ (by rw [g4 _ (by omega), hes])
    obtain ⟨c, ty, fr, h1, h2, h3⟩ := g1' (n - 1 - i) (by omega)
    intro j v hv
    rw [cell_of_heap (hJ i W hj _ _ _ _ h2 h1)]
    exact h3 j v hv
  have hix : (Instr.indexAt tS (.slice (some ⟨b, off, none⟩) n cap) (.int .i64 ((n : Int) - 1 - i))).run P W = .ok (.pointer (some ⟨b, off + (n - 1 - i) * es, none⟩)) W := by
    have := indexAt_slice_ok (P := P) (w := W) hT hS hdS hE (b := b) (o := off) (n := n) (cap := cap) (kd := .i64) (i := (n : Int) - 1 - i) (by omega) (by omega)
    rw [this, hes, show ((n : Int) - 1 - i).toNat = n - 1 - i by omega]
  obtain ⟨ts, hq6⟩ := hx.q6
  obtain ⟨tn, hq7⟩ := hx.q7
  show (Code.seq _ _).wpIn Fence.wide 2 P _ a2 W
  refine wpIn_seq (wpIn_block (wpIn_seq (key (l := [_, _, _, _, _, _, _, _]) ?_)))
  refine opStep hx.q0 (fun _ h => by cases h) (run_move hx.q0) ?_
  rw [eval_of y2]
  refine opStep hx.q1 (fun _ h => by cases h) (run_move hx.q1) ?_
  rw [eval_of (v := .int .i64 ((n : Int) - 1 - i)) (by simp only [put_get, y1, y4, Nat.reduceEqDiff, Nat.reduceLT, if_true, if_false])]
  refine opStep hx.q2 (fun _ h => by cases h) (run_load hx.q2 (by rw [eval_of (v := .pointer (some ⟨b0, off0, none⟩)) (by simp only [put_get, put_size, y1, y3, Nat.reduceEqDiff, Nat.reduceLT, if_true, if_false])]; exact hls i W hj)) ?_
  refine opStep hx.q3 (fun _ h => by cases h) (run_move hx.q3) ?_
  rw [eval_of (v := .int .i64 ((n : Int) - 1 - i)) (by simp only [put_get, put_size, y1, y4, Nat.reduceEqDiff, Nat.reduceLT, if_true, if_false])]
  refine opStep hx.q4 (fun _ h => by cases h) (run_index hx.q4 (v := .pointer (some ⟨b, off + (n - 1 - i) * es, none⟩)) ?_) ?_
  · rw [eval_of (v := .slice (some ⟨b, off, none⟩) n cap) (by simp only [put_get, put_size, y1, Nat.reduceEqDiff, Nat.reduceLT, if_true, if_false]), eval_of (v := .int .i64 ((n : Int) - 1 - i)) (by simp only [put_get, put_size, y1, Nat.reduceEqDiff, Nat.reduceLT, if_true, if_false])]
    exact hix
  refine opStep hx.q5 (fun _ h => by cases h) (run_load hx.q5 (by rw [eval_of (v := .pointer (some ⟨b, off + (n - 1 - i) * es, none⟩)) (by simp only [put_get, put_size, y1, Nat.reduceEqDiff, Nat.reduceLT, if_true, if_false])]; exact hle)) ?_
  refine yieldStep hq6 (l := l) (eval_of (by simp only [put_get, put_size, y1, Nat.reduceEqDiff, Nat.reduceLT, if_true, if_false])) (vs := #[.int .i64 ((n : Int) - 1 - i), .agg (cf (n - 1 - i)).toArray]) ?_ (hY i W hlt hj) ?_
  · simp only [List.map_toArray, List.map_cons, List.map_nil]
    rw [eval_of (v := .int .i64 ((n : Int) - 1 - i)) (by simp only [put_get, put_size, y1, Nat.reduceEqDiff, Nat.reduceLT, if_true, if_false]), eval_of (v := .agg (cf (n - 1 - i)).toArray) (by simp only [put_get, put_size, y1, Nat.reduceEqDiff, Nat.reduceLT, if_true, if_false])]
  rintro e W3 ⟨rfl, hj3⟩
  refine ⟨_, rfl, ?_⟩
  refine opStep hq7 (fun _ h => by cases h) (run_not hq7 (b := true) (eval_of (by simp only [put_get, put_size, y1, Nat.reduceEqDiff, Nat.reduceLT, if_true, if_false]))) (wpListIn_nil ?_)
  refine wpIn_cond_false (eval_of (by simp only [put_get, put_size, y1, Nat.reduceEqDiff, Nat.reduceLT, if_true, if_false, Bool.not_true])) (wpIn_skip ?_)
  refine key (l := [_, _, _]) ?_
  refine opStep hx.s0 (fun _ h => by cases h) (run_move hx.s0) ?_
  rw [eval_of (v := .int .i64 ((n : Int) - 1 - i)) (by simp only [put_get, put_size, y1, y4, Nat.reduceEqDiff, Nat.reduceLT, if_true, if_false])]
  refine opStep hx.s1 (fun _ h => by cases h) (sb (s := 0) (m := (n : Int) - 1 - i) hx.s1 (by simp only [put_get, put_size, y1, Nat.reduceEqDiff, Nat.reduceLT, if_true, if_false]) (by omega) (by omega)) ?_
  refine opStep hx.s2 (fun _ h => by cases h) (run_assign hx.s2) (wpListIn_nil ?_)
  rw [eval_of (v := .int .i64 ((n : Int) - 1 - i - 1)) (by simp only [put_get, put_size, y1, Nat.reduceEqDiff, Nat.reduceLT, if_true, if_false])]
  have hI : BackI n l b0 off0 J (i + 1) ((((a2.put (some 11) (.func (.yield l) #[] #[])).put (some 12) (.int .i64 ((n : Int) - 1 - i))).put (some 13) (.slice (some ⟨b, off, none⟩) n cap) |>.put (some 14) (.int .i64 ((n : Int) - 1 - i)) |>.put (some 15) (.pointer (some ⟨b, off + (n - 1 - i) * es, none⟩)) |>.put (some 16) (.agg (cf (n - 1 - i)).toArray) |>.put (some 17) (.bool true) |>.put (some 18) (.bool !true) |>.put (some 9) (.int .i64 ((n : Int) - 1 - i)) |>.put (some 10) (.int .i64 ((n : Int) - 1 - i - 1)) |>.put (some 3) (.int .i64 ((n : Int) - 1 - i - 1)))) W3 := by
    refine ⟨by omega, by simp only [put_size]; exact y1, ?_, ?_, ?_, by simp only [put_defers]; exact y5, hj3⟩
    · simp only [put_get, put_size, y1, y2, Nat.reduceEqDiff, Nat.reduceLT, if_true, if_false]
    · simp only [put_get, put_size, y1, y3, Nat.reduceEqDiff, Nat.reduceLT, if_true, if_false]
    · simp only [put_get, put_size, y1, y4, Nat.reduceEqDiff, Nat.reduceLT, if_true, if_false]; congr 2; omega
  have hμ : n - (i + 1) < n - i := by omega
  exact ⟨i + 1, hI, hμ⟩
section funcs
variable {P : Program} {T : Types} (hT : TOK P T)
include hT in
theorem fok_downR {f : FuncId} {fn : Func} {x : Code} (hf : FnIs P f fn x) {args : List AV} {r : CRes} (hk : keysL args = []) (hlen : args.length ≤ fn.ntmps) (hpost : r.post = [])
    (h : r.need → ∀ c : Ctx, c.ro = none → Kept [] c → AWp P c fn.ntmps x ⟨zipSlots 0 args, [], 0⟩ (Lower c (Fin T fn r.res))) (K : Nat) (pre : Store) : FOK P f K args pre r :=
  fok_pureR hT hf hk hlen hpost (fun need c h0 hro => .down (h need c hro (kept_nil fun _ => k0_none h0))) K pre
end funcs
theorem Le.bare {c : Ctx} {ρ : Nat → Option Nat} {s s2 : AState} (h : Le c ρ s s2) : Le c ρ ⟨[], s.store, s.next⟩ ⟨[], s2.store, s2.next⟩ :=
  ⟨h.inj, fun t v ht => by simp [look] at ht, h.store, h.dom, h.keep⟩
theorem le_viewR {c : Ctx} {s' : AState} {ls : List Nat} {us vs : List AV} {os ps : Store} {nx : Nat} (rl : List (Nat × Nat)) (hv : viewAV ls s' = some (us, os)) (hk0 : ∀ k x, c.k0 k = some x → look k rl = some k) (hr : renOK nx rl = true)
    (hs : avLes (ren rl) us vs) (ho : objLesV nx (ren rl) os ps) : Le c (ren rl) s' ⟨zipL ls vs, ps, nx⟩ := by
  unfold viewAV at hv
  simp only [Option.some.injEq, Prod.mk.injEq] at hv
  obtain ⟨rfl, rfl⟩ := hv
  have hall : ∀ p ∈ rl, p.1 < nx ∧ ∀ q ∈ rl, p.2 = q.2 → p.1 = q.1 := fun p hp => by
    have := List.all_eq_true.1 hr p hp
    simp only [Bool.and_eq_true, decide_eq_true_eq] at this
    refine ⟨this.1, fun q hq he => ?_⟩
    have h3 := List.all_eq_true.1 this.2 q hq
    simpa [he] using h3
  refine ⟨?_, view_slots hs, fun k2 o2 hk => ?_, fun k2 k1 hk => (hall _ (look_mem hk)).1, hk0⟩
  · intro a b k ha hb
    exact (hall _ (look_mem ha)).2 _ (look_mem hb) rfl
  · refine (view_objsV ho k2 o2 hk).imp (fun ⟨k1, o1, g1, g2, g3⟩ => ⟨k1, o1, g1, ?_, g3⟩) id
    rw [look_pick] at g2
    split at g2
    · exact g2
    · simp at g2
theorem FnIs.enters {P : Program} {f : FuncId} {fn : Func} {x : Code} (h : FnIs P f fn x) : ∀ args w, (callFunc f args).run P w = .ok (.enter f args) w := fun args w => by
  have hb : fn.body.isNone = false := by rw [h.body]; rfl
  simp only [callFunc, Sem.run_bind, run_program, Result.andThen_ok, h.get, h.name, hb, Bool.false_eq_true, if_false, Sem.run_pure]
section rule
variable {P : Program} {c : Ctx} {nt : Nat} {s : AState} {Q : AEx → AState → Prop} {T : Types} (hT : TOK P T) {Γ : Contracts} (hΓ : GOK P Γ) (hm : P.follows .mixedOrders = true)
include hT hΓ hm in
theorem AWp.rangeL {x assign body : Code} {g p0 p1 : Tmp} (p : List Nat) {i : Nat} (hc : chain x p = true) (hx : part x p = .block i (.rangeFunc (.tmp g) #[p0, p1] assign body)) (hd : dstOK nt x = true) (hro : c.ro = none) (h0 : Kept [] c)
    {gf : FuncId} {caps : List AV} {n : Nat} {u v : Nat → AV} (heg : ∀ args w, (callFunc gf args).run P w = .ok (.enter gf args) w) (hit : Iter2 P gf caps n u v) (hp0 : p0 < nt) (hp1 : p1 < nt) (hne : p0 ≠ p1)
    {f1 f2 f3 : List Nat} (N : Nat) (L LA : List Nat) (V : List AV) (hL : ∀ i, put p1 (v i) (put p0 (u i) (zipL L V)) = zipL (L ++ [p0, p1]) (V ++ [u i, v i])) (hg : look g (zipL L V) = some (.func gf caps)) (st : Nat → Store) (nx nA : Nat) (VA : Nat → List AV) (OA : Nat → Store) (kp : List Nat)
    (hp : ∃ t, seeL T Γ f1 N L (before x p) s = some t ∧ t.all fun e w => e = .normal ∧ ∃ rl, (renOK nx rl && rl.all fun q => kp.contains q.1) = true ∧ w.1 = V.map (renV rl) ∧ V.all (okR rl) = true ∧ objsQ nx rl w.2 (st 0))
    (ha : ∀ i, i < n → ∃ t, seeL T Γ f2 N LA [assign] ⟨zipL (L ++ [p0, p1]) (V ++ [u i, v i]), st i, nx⟩ = some t ∧ t.all fun e w => e = .normal ∧ ReOK kp w (VA i) (OA i) nA)
    (hb : ∀ i, i < n → ∃ t, seeL T Γ f3 N L [body] ⟨zipL LA (VA i), OA i, nA⟩ = some t ∧ t.all fun e w => e = .normal ∧ ReOK kp w V (st (i + 1)) nx)
    (hend : AWpL P c nt (behind x p) ⟨zipL L V, st n, nx⟩ Q) : AWp P c nt x s Q := by
  obtain ⟨t, h1, h2⟩ := hp
  have hdb := dst_part (p := p) hc hd
  rw [hx] at hdb
  simp only [dstOK, Bool.and_eq_true] at hdb
  refine AWp.hole p hc (AWpL.see hT hΓ hm N L h1 (dst_before hd) (ATree.all_mono ?_ h2))
  rintro e w ⟨rfl, rl, g1, g2, g3, g4⟩ s' hs'
  simp only [Bool.and_eq_true] at g1
  show AWp P c nt (part x p) s' _
  rw [hx]
  refine AWp.block2 (AWp.rangeIter (gf := gf) (caps := caps) (n := n) (u := u) (v := v) (sl := zipL L V) (st := st) (nx := fun _ => nx) hro (le_viewR rl hs' (fun k y hk => absurd (h0 k y hk) (by simp)) g1.1 (avLes_ren g2 g3) (objLes_Q g4)) hg heg hit hp0 hp1 hne ?_ ?_)
  · intro c' hk' i hi
    have hkp : ∀ {c' : Ctx}, (∀ k y, c'.k0 k = some y → (ren rl k).isSome = true) → Kept kp c' := fun {c'} hk' k y hk => by
      obtain ⟨j, hj⟩ := Option.isSome_iff_exists.1 (hk' k y hk)
      have := List.all_eq_true.1 g1.2 _ (look_mem hj)
      simpa using this
    rw [hL]
    obtain ⟨t, a1, a2⟩ := ha i hi
    refine AWp.see hT hΓ hm N LA a1 hdb.1 (ATree.all_mono ?_ a2)
    rintro e w ⟨rfl, hre⟩ s2 hs2
    refine ⟨rfl, fun c2 hk2 => AWp.weakE (hre.le hs2 (hkp hk2)) ?_⟩
    obtain ⟨t, b1, b2⟩ := hb i hi
    refine AWp.see hT hΓ hm N L b1 hdb.2 (ATree.all_mono ?_ b2)
    rintro e w ⟨rfl, hre⟩ s3 hs3
    obtain ⟨ρ', hle⟩ := hre.le hs3 (hkp hk2)
    exact ⟨rfl, ρ', hle.bare⟩
  · show AWpL P c nt (behind x p) _ Q
    exact hend
end rule
end Go.Am

/- The call of a law, from its contract: whatever the arguments. -/
namespace Go.Am
open Go Go.ChangeShapes Go.WideShapes Go.ChangeAt Go.RowKit AV
inductive PK where
  | list
  | int (k : IntKind)
  | bool
def pkOK (P : Program) : PK → TypeId → Prop
  | .list, t => ∃ e, P.underlying t = some (.slice e) ∧ P.underlying e = some (.int .i64) ∧ P.cellsOf e = 1
  | .int k, t => P.underlying t = some (.int k)
  | .bool, t => P.underlying t = some .bool
def pkOKs (P : Program) : List PK → List TypeId → Prop
  | [], [] => True
  | k :: ks, t :: ts => (pkOK P k t ∧ P.readableRec t = true ∧ t < P.types.size) ∧ pkOKs P ks ts
  | _, _ => False
def pkA : PK → AV → Prop
  | .list, a => ∃ (n : Nat) (z : Nat → Int), a = .tab 1 n (fun i => .int .i64 (z i))
  | .int k, a => ∃ n, a = .int k n
  | .bool, a => ∃ b, a = .bool b
def pkAs : List PK → List AV → Prop
  | [], as => as = []
  | k :: ks, as => ∃ a l, as = a :: l ∧ pkA k a ∧ pkAs ks l
section
variable {P : Program} {H : Type} {enc : TypeId × Value → H} {W : World} {base : Nat}
theorem pk_rep {k : PK} {t : TypeId} {v : Value} {d : DataW H} {p : List MemPlace} (hk : pkOK P k t) (h : DataW.Trod enc P W 0 (fun _ => true) true t v d p) (hv : Value.okWide P W .any base t v) : ∃ a, pkA k a ∧ VRep1 (fun _ => False) W noKeys a v := by
  cases k with
  | int k =>
    obtain ⟨n, rfl⟩ := okWide_int hk hv
    exact ⟨_, ⟨n, rfl⟩, .of_cell (.int .nil) rfl⟩
  | bool =>
    obtain ⟨b, rfl⟩ := okWide_bool hk hv
    exact ⟨_, ⟨b, rfl⟩, .of_cell (.bool .nil) rfl⟩
  | list =>
    obtain ⟨e, h1, h2, h3⟩ := hk
    obtain ⟨a0, len, cap, rfl⟩ := okWide_slice h1 hv
    obtain ⟨fuel, hf⟩ := h
    have key : ∀ {z : Nat → Int}, len ≤ cap → (len = 0 ∨ ∃ b o, a0 = some ⟨b, o, none⟩ ∧ ∀ i, i < len → W.cell? ⟨b, o + i, none⟩ = some (.int .i64 (z i))) → VRep1 (fun _ => False) W noKeys (.tab 1 len (fun i => .int .i64 (z i))) (.slice a0 len cap) := fun {z} hcap hr => by
      refine .of_cell (.tab (cf := fun i => [.int .i64 (z i)]) ?_ (by omega) hcap (fun _ _ => rfl) (fun _ _ => .int .nil) .nil) rfl
      rcases hr with hr | ⟨b, o, rfl, hr⟩
      · exact .inl hr
      · refine .inr ⟨b, o, rfl, fun i hi => ?_⟩
        have hc := hr i hi
        simp only [World.cell?] at hc
        split at hc
        · rename_i cs ty fr hh
          simp only [Option.isSome_none, Bool.false_eq_true, if_false] at hc
          refine ⟨cs, ty, fr, hh, id, fun j v hj => ?_⟩
          have hj0 : j = 0 := by have := (List.getElem?_eq_some_iff.1 hj).1; simp at this; exact this
          subst hj0
          simp only [List.getElem?_cons_zero, Option.some.injEq] at hj
          subst hj
          simpa using hc
        · simp at hc
    rcases open_ints h1 h2 h3 hf with ⟨hcs, hx⟩ | ⟨a, len', cap', zs, hcs, _, hl, hm, hz, hx, hcell, hwz⟩
    · simp only [Value.cells, List.cons.injEq, Value.slice.injEq, and_true] at hcs
      obtain ⟨rfl, rfl, rfl⟩ := hcs
      exact ⟨_, ⟨0, fun _ => 0, rfl⟩, key (z := fun _ => 0) (Nat.le_refl _) (.inl rfl)⟩
    · simp only [Value.cells, List.cons.injEq, Value.slice.injEq, and_true] at hcs
      obtain ⟨rfl, rfl, rfl⟩ := hcs
      simp only [if_true] at hz
      refine ⟨_, ⟨len, fun i => zs.getD i 0, rfl⟩, key hl ?_⟩
      rcases Nat.eq_zero_or_pos len with h0 | h0
      · exact .inl h0
      · obtain ⟨b, o, m⟩ := a
        have h1 := hcell 0 (by omega)
        have : m = none := by
          cases m with
          | none => rfl
          | some y => exfalso; simp only [Addr.add, World.cell?] at h1; split at h1 <;> simp at h1
        subst this
        exact .inr ⟨b, o, rfl, fun i hi => by
          have h2 := hcell i (by omega)
          rcases Nat.eq_zero_or_pos i with hi | hi
          · subst hi; simpa [Addr.add] using h2
          · simpa [Addr.add, Nat.pos_iff_ne_zero.1 hi] using h2⟩
theorem pks_rep : ∀ {ks : List PK} {ts : List TypeId} {vs : List Value} {ds : List (DataW H)} {p : List MemPlace}, pkOKs P ks ts → DataW.TrodAll enc P W 0 (fun _ => true) true ts vs ds p → (∀ (j : Nat) t v, ts[j]? = some t → vs[j]? = some v → Value.okWide P W .any base t v) →
    ∃ as, pkAs ks as ∧ VReps (fun _ => False) W noKeys as vs
  | [], [], vs, ds, p, _, h, _ => by
    obtain ⟨rfl, _, _⟩ := trodAll_nil h
    exact ⟨[], rfl, trivial⟩
  | k :: ks, t :: ts, vs, ds, p, hk, h, hv => by
    obtain ⟨v, vs', d, ds', p1, q, rfl, rfl, rfl, hd, hrest⟩ := trodAll_cons h
    obtain ⟨a, h1, h2⟩ := pk_rep hk.1.1 hd (hv 0 t v rfl rfl)
    obtain ⟨as, h3, h4⟩ := pks_rep hk.2 hrest fun j t v h1 h2 => hv (j + 1) t v h1 h2
    exact ⟨a :: as, ⟨a, as, rfl, h1, h3⟩, h2, h4⟩
  | [], _ :: _, _, _, _, h, _, _ => h.elim
  | _ :: _, [], _, _, _, h, _, _ => h.elim
theorem trod_len {b : Nat} {sp : Nat → Bool} {held : Bool} : ∀ {ts : List TypeId} {vs : List Value} {ds : List (DataW H)} {p : List MemPlace}, DataW.TrodAll enc P W b sp held ts vs ds p → ds.length = ts.length
  | [], vs, ds, p, h => by
    obtain ⟨_, rfl, _⟩ := trodAll_nil h
    rfl
  | t :: ts, vs, ds, p, h => by
    obtain ⟨v, vs', d, ds', p1, q, rfl, rfl, rfl, hd, hrest⟩ := trodAll_cons h
    simp [trod_len hrest]
theorem pks_below (hl : laidOutB P = true) {W' : World} (hb : Below W.heap.size W W') : ∀ {ks : List PK} {ts : List TypeId} {vs : List Value} {ds : List (DataW H)} {p : List MemPlace}, pkOKs P ks ts → DataW.TrodAll enc P W 0 (fun _ => true) true ts vs ds p → (∀ x ∈ p, x.block < W.heap.size) →
    DataW.TrodAll enc P W' 0 (fun b => decide (b < W.heap.size)) true ts vs ds p
  | [], [], vs, ds, p, _, h, _ => by
    obtain ⟨rfl, rfl, rfl⟩ := trodAll_nil h
    exact trodAll_mk0
  | k :: ks, t :: ts, vs, ds, p, hk, h, hlt => by
    obtain ⟨v, vs', d, ds', p1, q, rfl, rfl, rfl, hd, hrest⟩ := trodAll_cons h
    exact ⟨_, _, Below.trod hl hk.1.2.1 hk.1.2.2 hd hb fun x hx => hlt x (List.mem_append_left _ hx), pks_below hl hb hk.2 hrest fun x hx => hlt x (List.mem_append_right _ hx), rfl⟩
  | [], _ :: _, _, _, _, h, _, _ => h.elim
  | _ :: _, [], _, _, _, h, _, _ => h.elim
theorem law_all (hl : laidOutB P = true) {f : FuncId} {fn : Func} (hf : P.funcs[f]? = some fn) (hb : fn.body.isNone = false) {ks : List PK} {ts : List TypeId} (hk : pkOKs P ks ts) {args : Array Value} {ds : List (DataW H)} {p : List MemPlace}
    (hA : DataW.TrodAll enc P W 0 (fun _ => true) true ts args.toList ds p) (hv : ∀ (j : Nat) t v, ts[j]? = some t → args[j]? = some v → Value.okWide P W .any base t v) (hlt : ∀ x ∈ p, x.block < W.heap.size) (hF : ∀ as, pkAs ks as → FOK P f 0 as [] ⟨.bool true, [], []⟩) :
    Calls P f args W fun e W' => e = .returned (.bool true) ∧ Below W.heap.size W W' ∧ DataW.TrodAll enc P W' 0 (fun b => decide (b < W.heap.size)) true ts args.toList ds p := by
  obtain ⟨as, h1, h2⟩ := pks_rep hk hA fun j t v h1 h2 => hv j t v h1 (by simpa using h2)
  obtain ⟨_, hF⟩ := hF as h1 trivial
  have hrel : WRel ⟨fun _ => False, W, fun _ => False, noKeys, none⟩ [] (fun _ => False) noKeys W :=
    { obj := fun k o h => by simp [look] at h, nob := fun k o h => by simp [look] at h, inj := fun k k' o o' b N N' h => by simp [look] at h, dom := fun k x h => by simp [noKeys] at h, keep := fun k x h => h, lt := fun k b N h => by simp [noKeys] at h, os := rfl, tape := rfl, output := rfl, size := Nat.le_refl _, block := fun _ _ _ => rfl, mflt := fun b h => h.elim, new := fun k o b N h => by simp [look] at h }
  have hM : Mset ⟨fun _ => False, W, fun _ => False, noKeys, none⟩ [] noKeys = fun _ => False := by
    funext b
    simp [Mset, look]
  have hinv := hF ⟨fun _ => False, W, fun _ => False, noKeys, none⟩ (fun _ => False) (fun _ => True) noKeys W _ rfl (fun b h => h.elim) hrel (fun k h => h.elim) (fun k _ _ => ⟨id, trivial⟩) (by rw [hM]; exact h2)
  rcases hinv with ⟨fn', g1, g2, g3, g4⟩ | ⟨x, g1, _⟩
  · have g5 := g4
    rw [show args.toList.toArray = args from by simp] at g5
    refine g5.mono fun e W' ⟨x, he, hx⟩ => ?_
    obtain ⟨β', q1, q2, q3⟩ := hx
    have := q3.bool
    subst this
    have hbl : Below W.heap.size W W' := ⟨q1.os, q1.tape, q1.output, q1.size, fun k hk => q1.block k hk id⟩
    exact ⟨he, hbl, pks_below hl hbl hk hA hlt⟩
  · exfalso
    simp only [callFunc, Sem.run_bind, run_program, Result.andThen_ok, hf, hb, Bool.false_eq_true, if_false] at g1
    split at g1 <;> simp at g1
end
end Go.Am
