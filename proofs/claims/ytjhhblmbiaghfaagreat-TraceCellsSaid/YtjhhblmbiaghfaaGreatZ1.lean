/- 'opAV' is right, for every operation. -/
import Derived.Test.YtjhhblmbiaghfaaGreatZ0
import Derived.Laws.Cover3
import Derived.Laws.Strings
import Derived.Laws.BytesString
import Derived.Laws.Concat
import Derived.Below
set_option linter.unusedVariables false
namespace Go.Am
open AV
section ops
variable {P : Program} {T : Types} (hT : dn P T) {Γ : aW} (hΓ : br P Γ)
variable {c : Ctx} {st pre : aB} {D D' : Nat → Prop} {β : aL} {w : World}
include hT hΓ in
theorem Y7 (h : bg c st D β w) (hpre : ∀ k o, look k pre = some o → look k st = some o) (hD : ∀ k, D k → D' k) {K : Nat} (hK : ∀ k, K ≤ k → k < K + bY → ¬ D k ∧ D' k)
  {ρ : Operand → Option AV} {ev : Operand → Value} (hρ : ∀ x v, ρ x = some v → bn (aI c st β) w β v (ev x)) {o : Oper} {cl : Call} (ho : o.op = .call cl) {r : dG}
  (hr : lW T Γ K ρ pre cl = some r) (need : r.need) : iu P (execOp ev o) w (ee c st D' β w r.bM r.val) := by
 have hK0 : ¬ D K ∧ D' K := hK K (Nat.le_refl _) (by simp [bY])
 obtain ⟨callee, args, argTypes⟩ := cl
 simp only [execOp, ho]
 cases callee with
 | value f =>
  simp only [lW] at hr
  cases hf : ρ f with
  | none => rw [hf] at hr; simp at hr
  | some fv =>
   cases ha : dN ρ args.toList with
   | none => rw [hf, ha] at hr; cases fv <;> simp at hr
   | some as' =>
    rw [hf, ha] at hr
    cases fv <;> simp only [reduceCtorEq] at hr
    case func g caps =>
     cases hs : look g Γ with
     | none => rw [hs] at hr; simp at hr
     | some s =>
      rw [hs] at hr
      simp only at hr
      cases hq : s K (as' ++ caps) pre with
      | none => rw [hq] at hr; simp at hr
      | some q =>
       rw [hq] at hr
       simp only [Option.some.injEq] at hr
       subst hr
       obtain ⟨vs, hev, h1, h2⟩ := (hρ f _ hf).func
       have hargs := bP.append (jR hρ ha) (EO h1 h2)
       have hinv := (hΓ g s hs K _ pre q hq).use need h hpre hD hK hargs
       refine iu.mono ?_ fun x w' hx => hx
       have hd := hinv.ES
       have e1 : (Array.map ev args) ++ vs.toArray = (List.map ev args.toList ++ vs).toArray := by
        apply Array.ext'; simp
       have : (do let d ← resolve ev { callee := Callee.value f, args := args, argTypes := argTypes } o.type; invoke d.target d.args : Sem Next) = callFunc g (List.map ev args.toList ++ vs).toArray := by
        rw [← e1]
        simp only [resolve, hev, Deferred.ofValue]
        show callFunc g ((#[] ++ Array.map ev args) ++ vs.toArray) = _
        rw [Array.empty_append]
       rw [this]
       exact hd
 | invoke r m => simp [lW] at hr
 | builtin bi =>
  have hint : ∀ k n, bn (aI c st β) w β (.int k n) (.int k n) := fun k n => aV.bz (.bV (.int .nil) rfl)
  have hres : (do let d ← resolve ev { callee := Callee.builtin bi, args := args, argTypes := argTypes } o.type; invoke d.target d.args : Sem Next) =
    builtin bi argTypes o.type (args.map fun | .const _ => true | _ => false) (Array.map ev args) := rfl
  rw [hres]
  cases bi <;> simp only [lW, reduceCtorEq] at hr
  case len =>
   cases ht : argTypes[0]? with
   | none => rw [ht] at hr; simp at hr
   | some t =>
    cases ha : dN ρ args.toList with
    | none => rw [ht, ha] at hr; simp at hr
    | some as' =>
     rw [ht, ha] at hr
     match as', ha, hr with
     | [x], ha, hr =>
      simp only at hr
      have hv := jR hρ ha
      obtain ⟨xv, hxs, hx⟩ := hv.single
      have hargs : Array.map ev args = #[xv] := by apply Array.ext'; simpa using hxs
      rw [hargs]
      cases htl : look t T with
      | none => rw [htl] at hr; simp at hr
      | some ti =>
       rw [htl] at hr
       obtain ⟨d, sz, by', z⟩ := ti
       have hu := (hT t _ htl).cM
       cases d <;> simp only [reduceCtorEq] at hr
       case slice e =>
        cases hn : lenOf x with
        | none => rw [hn] at hr; simp at hr
        | some n =>
         rw [hn] at hr
         simp only [bB, Option.some.injEq] at hr
         subst hr
         obtain ⟨base, cap, rfl⟩ := Ts hx hn
         refine b7 (x := .int .i64 n) (w' := w) ?_ (dc h hD (hint _ _))
         simp [builtin, Builtin.len_, ht, run_underlying hu, goInt]
       case array n e =>
        simp only [bB, Option.some.injEq] at hr
        subst hr
        refine b7 (x := .int .i64 n) (w' := w) ?_ (dc h hD (hint _ _))
        simp [builtin, Builtin.len_, ht, run_underlying hu, goInt]
     | [], ha, hr => simp at hr
     | _ :: _ :: _, ha, hr => simp at hr
  case cap =>
   cases ht : argTypes[0]? with
   | none => rw [ht] at hr; simp at hr
   | some t =>
    cases ha : dN ρ args.toList with
    | none => rw [ht, ha] at hr; simp at hr
    | some as' =>
     rw [ht, ha] at hr
     match as', ha, hr with
     | [x], ha, hr =>
      cases x <;> simp only [reduceCtorEq] at hr
      case nil =>
       have hv := jR hρ ha
       obtain ⟨xv, hxs, hx⟩ := hv.single
       have hargs : Array.map ev args = #[xv] := by apply Array.ext'; simpa using hxs
       rw [hargs]
       cases htl : look t T with
       | none => rw [htl] at hr; simp at hr
       | some ti =>
        rw [htl] at hr
        obtain ⟨d, sz, by', z⟩ := ti
        have hu := (hT t _ htl).cM
        cases d <;> simp only [reduceCtorEq] at hr
        case slice e =>
         simp only [bB, Option.some.injEq] at hr
         subst hr
         have hxn := hx.bz.nil
         subst hxn
         refine b7 (x := .int .i64 0) (w' := w) ?_ (dc h hD (hint _ _))
         simp [builtin, Builtin.cap_, ht, run_underlying hu, goInt]
     | [], ha, hr => simp at hr
     | _ :: _ :: _, ha, hr => simp at hr
  case append =>
   cases ht : argTypes[0]? with
   | none => rw [ht] at hr; simp at hr
   | some t =>
    cases ht2 : argTypes[1]? with
    | none => rw [ht, ht2] at hr; simp at hr
    | some t' =>
     cases ha : dN ρ args.toList with
     | none => rw [ht, ht2, ha] at hr; simp at hr
     | some as' =>
      rw [ht, ht2, ha] at hr
      match as', ha, hr with
      | [x, y], ha, hr =>
       simp only at hr
       have hv := jR hρ ha
       obtain ⟨xv, yv, hxs, hx, hy⟩ := hv.two
       have hargs : Array.map ev args = #[xv, yv] := by apply Array.ext'; simpa using hxs
       rw [hargs]
       have hat : ∀ s, (Builtin.append_ argTypes o.type #[s, yv]).run P w = (Builtin.append_ #[t, t'] o.type #[s, yv]).run P w := fun s => by
        simp only [Builtin.append_, ht, ht2]
        rfl
       cases htl : look t T with
       | none => rw [htl] at hr; simp at hr
       | some ti =>
        cases htl2 : look t' T with
        | none => rw [htl, htl2] at hr; obtain ⟨d, _, _, _⟩ := ti; cases d <;> simp at hr
        | some ti' =>
         rw [htl, htl2] at hr
         obtain ⟨d, sz, by', z⟩ := ti
         obtain ⟨d', sz', by'', z'⟩ := ti'
         cases d <;> cases d' <;> simp only [reduceCtorEq] at hr
         case slice.int e k' =>
          cases x <;> try (simp only [reduceCtorEq] at hr)
          case nil =>
           cases y <;> try (simp only [reduceCtorEq] at hr)
           case int ky n =>
            cases ky <;> try (simp only [reduceCtorEq] at hr)
            case i64 =>
             cases he : look e T with
             | none => rw [he] at hr; simp at hr
             | some ei =>
              rw [he] at hr
              simp only at hr
              split at hr
              ·simp at hr
              ·rename_i hc
               simp only [Bool.or_eq_true, beq_iff_eq, bne_iff_ne, ne_eq, not_or, Bool.not_eq_true, Decidable.not_not] at hc
               simp only [Option.some.injEq] at hr
               subst hr
               obtain ⟨⟨⟨c1, c2⟩, c3⟩, c4⟩ := hc
               subst c1
               have hxn := hx.bz.nil
               subst hxn
               have hyn := hy.bz.int
               subst hyn
               obtain ⟨zv, w', hrun, hR⟩ := Ku w hT (ty := o.type) h hD hK0.1 hK0.2 htl htl2 rfl rfl he c2 c3 c4 need.1 need.2
               refine b7 ?_ hR
               simp only [builtin, Sem.run_bind, hat, hrun, Result.andThen_ok, Sem.run_pure]
         case slice.slice e e' =>
          cases he : look e T with
          | none => rw [he] at hr; simp at hr
          | some ei =>
           rw [he] at hr
           simp only at hr
           cases hra : readAll pre ei.size y with
           | none => rw [hra] at hr; cases x <;> simp at hr
           | some mg =>
            obtain ⟨m, g⟩ := mg
            rw [hra] at hr
            cases x <;> try (simp only [reduceCtorEq] at hr)
            case nil =>
             split at hr
             ·simp at hr
             ·rename_i hc
              simp only [Bool.or_eq_true, beq_iff_eq, bne_iff_ne, ne_eq, not_or, Bool.not_eq_true, Decidable.not_not] at hc
              simp only [Option.some.injEq] at hr
              subst hr
              have := hx.bz.nil
              subst this
              have hb : (0 < m ∨ m = 0) ∧ m * (ei.bytes + 1) * 2 ≤ 2 ^ 47 := by
               refine ⟨by omega, ?_⟩
               unfold dG.need at need
               cases hz : Cw Γ with
               | true => rw [hz] at need; exact need
               | false => rw [hz] at need; exact need.2
              obtain ⟨hb1, hb2⟩ := hb
              rcases hb1 with hb1 | hb1
              ·obtain ⟨zv, w', hrun, hR⟩ := Y2 hT (ty := o.type) h hpre hD hK0.1 hK0.2 htl htl2 rfl rfl he hc.1.1 hc.1.2 hc.2 hy.bz hra hb1 hb2
               refine b7 ?_ hR
               simp only [builtin, Sem.run_bind, hat, hrun, Result.andThen_ok, Sem.run_pure]
              ·subst hb1
               obtain ⟨zv, w', hrun, hR⟩ := J0 hT (ty := o.type) h hpre hD hK0.1 hK0.2 htl htl2 rfl rfl he hc.1.1 hc.2 hy.bz hra
               refine b7 ?_ hR
               simp only [builtin, Sem.run_bind, hat, hrun, Result.andThen_ok, Sem.run_pure]
            case own k es s n =>
             cases s with
             | succ s => exact absurd (show (none : Option dG) = some r from hr) (by simp)
             | zero =>
              simp only at hr
              cases hk : look k pre with
              | none => rw [hk] at hr; simp at hr
              | some ob =>
               rw [hk] at hr
               simp only at hr
               split at hr
               ·rename_i hc
                simp only [Bool.and_eq_true, beq_iff_eq, bne_iff_ne, ne_eq, Bool.not_eq_true'] at hc
                obtain ⟨⟨⟨⟨⟨⟨⟨c1, c2⟩, c3⟩, c4⟩, c5⟩, c6⟩, c7⟩, c8⟩ := hc
                simp only [Option.some.injEq] at hr
                subst hr
                subst c4
                obtain ⟨zv, w', hrun, hR⟩ := Om hT (ty := o.type) h hpre hD hK0.1 hK0.2 htl htl2 rfl rfl he c5 c6 c7 hy.bz hra hx.bz (hpre k ob hk) c1 c2 c3 need
                refine b7 ?_ hR
                simp only [builtin, Sem.run_bind, hat, hrun, Result.andThen_ok, Sem.run_pure]
               ·simp at hr
      | [], ha, hr => simp at hr
      | [_], ha, hr => simp at hr
      | _ :: _ :: _ :: _, ha, hr => simp at hr
  case copy =>
   cases ht : argTypes[0]? with
   | none => rw [ht] at hr; simp at hr
   | some t =>
    cases ht2 : argTypes[1]? with
    | none => rw [ht, ht2] at hr; simp at hr
    | some t' =>
     cases ha : dN ρ args.toList with
     | none => rw [ht, ht2, ha] at hr; simp at hr
     | some as' =>
      rw [ht, ht2, ha] at hr
      match as', ha, hr with
      | [x, y], ha, hr =>
       simp only at hr
       have hv := jR hρ ha
       obtain ⟨xv, yv, hxs, hx, hy⟩ := hv.two
       have hargs : Array.map ev args = #[xv, yv] := by apply Array.ext'; simpa using hxs
       rw [hargs]
       have hat : ∀ s, (Builtin.copy_ argTypes o.type #[s, yv]).run P w = (Builtin.copy_ #[t, t'] o.type #[s, yv]).run P w := fun s => by
        simp only [Builtin.copy_, ht]
        rfl
       cases htl : look t T with
       | none => rw [htl] at hr; simp at hr
       | some ti =>
        cases htl2 : look t' T with
        | none => rw [htl, htl2] at hr; obtain ⟨d, _, _, _⟩ := ti; cases d <;> simp at hr
        | some ti' =>
         rw [htl, htl2] at hr
         obtain ⟨d, sz, by', z⟩ := ti
         obtain ⟨d', sz', by'', z'⟩ := ti'
         cases d <;> cases d' <;> simp only [reduceCtorEq] at hr
         case slice.slice e e' =>
          cases he : look e T with
          | none => rw [he] at hr; simp at hr
          | some ei =>
           rw [he] at hr
           simp only at hr
           cases hra : readAll pre ei.size y with
           | none => rw [hra] at hr; cases x <;> simp at hr
           | some mg =>
            obtain ⟨m, g⟩ := mg
            rw [hra] at hr
            cases x <;> simp only [reduceCtorEq] at hr
            case own k es s n =>
             cases hk : look k pre with
             | none => rw [hk] at hr; simp at hr
             | some ob =>
              rw [hk] at hr
              simp only at hr
              split at hr
              ·rename_i hc
               simp only [Bool.and_eq_true, beq_iff_eq, Bool.not_eq_true'] at hc
               obtain ⟨⟨⟨⟨c1, c2⟩, c3⟩, c4⟩, c5⟩ := hc
               simp only [Option.some.injEq] at hr
               subst hr
               subst c4
               obtain ⟨zv, w', hrun, hR⟩ := Ph hT (t' := t') (ty := o.type) h hpre hD htl rfl he hy.bz hra hx.bz (hpre k ob hk) c1 c2 c3
               refine b7 ?_ hR
               simp only [builtin, Sem.run_bind, hat, hrun, Result.andThen_ok, Sem.run_pure]
              ·simp at hr
      | [], ha, hr => simp at hr
      | [_], ha, hr => simp at hr
      | _ :: _ :: _ :: _, ha, hr => simp at hr
  case clear =>
   cases ht : argTypes[0]? with
   | none => rw [ht] at hr; simp at hr
   | some t =>
    cases ha : dN ρ args.toList with
    | none => rw [ht, ha] at hr; simp at hr
    | some as' =>
     rw [ht, ha] at hr
     match as', ha, hr with
     | [x], ha, hr =>
      cases x <;> simp only [reduceCtorEq] at hr
      case own k es s n =>
       have hv := jR hρ ha
       obtain ⟨xv, hxs, hx⟩ := hv.single
       have hargs : Array.map ev args = #[xv] := by apply Array.ext'; simpa using hxs
       rw [hargs]
       have hat : ∀ s, (Builtin.clear_ argTypes o.type #[s]).run P w = (Builtin.clear_ #[t] o.type #[s]).run P w := fun s => by
        simp only [Builtin.clear_, ht]
        rfl
       cases htl : look t T with
       | none => rw [htl] at hr; simp at hr
       | some ti =>
        rw [htl] at hr
        obtain ⟨d, sz, by', z⟩ := ti
        cases d <;> simp only [reduceCtorEq] at hr
        case slice e =>
         cases he : look e T with
         | none => rw [he] at hr; simp at hr
         | some ei =>
          cases hk : look k pre with
          | none => rw [he, hk] at hr; simp at hr
          | some ob =>
           rw [he, hk] at hr
           simp only at hr
           split at hr
           ·rename_i hc
            simp only [Bool.and_eq_true, beq_iff_eq, Bool.not_eq_true'] at hc
            obtain ⟨⟨⟨⟨⟨c1, c2⟩, c3⟩, c4⟩, c5⟩, c6⟩ := hc
            simp only [Option.some.injEq] at hr
            subst hr
            subst c4
            obtain ⟨zv, w', hrun, hR⟩ := YU hT (ty := o.type) h hD htl rfl he c5 c6 hx.bz (hpre k ob hk) c1 c2 c3
            refine b7 ?_ hR
            simp only [builtin, Sem.run_bind, hat, hrun, Result.andThen_ok, Sem.run_pure]
           ·simp at hr
     | [], ha, hr => simp at hr
     | _ :: _ :: _, ha, hr => simp at hr
  case min =>
   cases ha : dN ρ args.toList with
   | none => rw [ha] at hr; simp at hr
   | some as' =>
    rw [ha] at hr
    match as', ha, hr with
    | [.int k a, .int j b], ha, hr =>
     simp only at hr
     split at hr
     ·rename_i hk
      have := xu hk
      subst this
      simp only [bB, Option.some.injEq] at hr
      subst hr
      obtain ⟨xv, yv, hxs, hx, hy⟩ := (jR hρ ha).two
      have hargs : Array.map ev args = #[xv, yv] := by apply Array.ext'; simpa using hxs
      rw [hargs, hx.yq, hy.yq]
      refine b7 (x := .int k (if b < a then b else a)) (w' := w) ?_ (dc h hD (hint _ _))
      simp [builtin, Builtin.min_, Builtin.min2]
     ·simp at hr
  case max =>
   cases ha : dN ρ args.toList with
   | none => rw [ha] at hr; simp at hr
   | some as' =>
    rw [ha] at hr
    match as', ha, hr with
    | [.int k a, .int j b], ha, hr =>
     simp only at hr
     split at hr
     ·rename_i hk
      have := xu hk
      subst this
      simp only [bB, Option.some.injEq] at hr
      subst hr
      obtain ⟨xv, yv, hxs, hx, hy⟩ := (jR hρ ha).two
      have hargs : Array.map ev args = #[xv, yv] := by apply Array.ext'; simpa using hxs
      rw [hargs, hx.yq, hy.yq]
      refine b7 (x := .int k (if a < b then b else a)) (w' := w) ?_ (dc h hD (hint _ _))
      simp [builtin, Builtin.max_, Builtin.max2]
     ·simp at hr
end ops
end Go.Am

/- 'opAV' is right: all operations. -/
namespace Go.Am
open AV
section ops
variable {P : Program} {T : Types} (hT : dn P T) {Γ : aW} (hΓ : br P Γ)
variable {c : Ctx} {st pre : aB} {D D' : Nat → Prop} {β : aL} {w : World}
omit hT hΓ in
theorem Rq {v : AV} {k : Nat} {o : aD} (h : uD pre v = some (k, o)) : v = .ptr k 0 o.es 0 [] ∧ look k pre = some o ∧ o.row = false ∧ o.len = 1 ∧ (o.f 0).keys = [] := by
 unfold uD at h
 split at h
 ·split at h
  ·split at h
   ·rename_i hc
    simp only [Option.some.injEq, Prod.mk.injEq] at h
    obtain ⟨rfl, rfl⟩ := h
    simp only [Bool.and_eq_true, Bool.not_eq_true', beq_iff_eq, List.isEmpty_iff] at hc
    obtain ⟨⟨⟨h1, h2⟩, h3⟩, h4⟩ := hc
    subst h2
    exact ⟨rfl, ‹_›, h1, h3, h4⟩
   ·simp at h
  ·simp at h
 ·simp at h
omit hT hΓ in
theorem Yb {st : aB} (h : bg c st D β w) (hpre : ∀ k o, look k pre = some o → ∃ o', look k st = some o' ∧ (o' = o ∨ o' = { o with wr := false })) :
  ∀ {l : List AV} {cs : List Value}, aH (aI c st β) w β l cs → bg c (bT (n9 pre l) st) D β w ∧ cj (aI c st β) w β (aI c (bT (n9 pre l) st) β) w β ∧ aH (aI c (bT (n9 pre l) st) β) w β (oE pre l) cs := by
 intro l
 induction l generalizing st with
 | nil => exact fun hc => ⟨h, cj.refl _ _ _, hc⟩
 | cons v l ih =>
  intro cs hc
  obtain ⟨c1, c2, rfl, h1, h2⟩ := hc.split
  unfold n9 oE
  cases hv : uD pre v with
  | none =>
   obtain ⟨q1, q2, q3⟩ := ih h hpre h2
   exact ⟨q1, q2, (h1.gy q2).cons q3⟩
  | some p =>
   obtain ⟨k, o⟩ := p
   obtain ⟨rfl, a2, a3, a4, a5⟩ := Rq hv
   obtain ⟨o', b1, b2⟩ := hpre k o a2
   have b3 : ({ o' with wr := false } : aD) = { o with wr := false } := by rcases b2 with rfl | rfl <;> rfl
   obtain ⟨f1, f2⟩ := h.freeze b1
   rw [b3] at f1 f2
   have hpre' : ∀ k' o1, look k' pre = some o1 → ∃ o2, look k' (put k { o with wr := false } st) = some o2 ∧ (o2 = o1 ∨ o2 = { o1 with wr := false }) := fun k' o1 hk' => by
    by_cases hkk : k' = k
    ·subst hkk
     rw [a2] at hk'
     simp only [Option.some.injEq] at hk'
     subst hk'
     exact ⟨_, fy, .inr rfl⟩
    ·rw [dQ hkk]; exact hpre k' o1 hk'
   obtain ⟨q1, q2, q3⟩ := ih f1 hpre' (h2.gy f2)
   simp only [bT]
   refine ⟨q1, f2.trans q2, ?_⟩
   cases h1 with
   | ptr hb hn =>
    cases hn
    rename_i b N
    obtain ⟨b', N', cells, ty, e1, e2, e3, e4, e5, e6, e7, e8⟩ := f1.obj k _ fy _ hb
    rw [hb] at e1
    simp only [Option.some.injEq, Prod.mk.injEq] at e1
    obtain ⟨rfl, rfl⟩ := e1
    obtain ⟨ps, g1, g2, g3⟩ := e8 0 (by simp only [a4]; omega)
    have g2 : aH _ w (if o.row = true then aR else β) [o.f 0] ps := g2
    have g4 : aH (aI c (put k { o with wr := false } st) β) w aR [o.f 0] ps := yG g2 (by simp [aX, a5])
    have hin : fF (aI c (put k { o with wr := false } st) β) w b 0 ps := ⟨cells, ty, _, e2, e7 rfl, fun i u hu => by have := g3 i u hu; rw [Nat.zero_mul, Nat.zero_add] at this; rw [Nat.zero_add]; exact this⟩
    have hz : 0 * o.es + 0 = 0 := by omega
    rw [hz]
    exact (aH.bp (g4.oU q2) (hin.mono q2.heap) .nil).cons q3
include hT hΓ in
theorem o3 (h : bg c st D β w) (hpre : ∀ k o, look k pre = some o → look k st = some o) (hD : ∀ k, D k → D' k) {K : Nat} (hK : ∀ k, K ≤ k → k < K + bY → ¬ D k ∧ D' k)
  {ρ : Operand → Option AV} {ev : Operand → Value} (hρ : ∀ x v, ρ x = some v → bn (aI c st β) w β v (ev x)) {o : Oper} {r : dG}
  (hr : dS T Γ K ρ pre o.op = some r) (need : r.need) : iu P (execOp ev o) w (ee c st D' β w r.bM r.val) := by
 have hK0 : ¬ D K ∧ D' K := hK K (Nat.le_refl _) (by simp [bY])
 have hint : ∀ k n, bn (aI c st β) w β (.int k n) (.int k n) := fun k n => aV.bz (.bV (.int .nil) rfl)
 have hbool : ∀ t, bn (aI c st β) w β (.bool t) (.bool t) := fun t => aV.bz (.bV (.bool .nil) rfl)
 obtain ⟨dst, op, type, pos, after, guard⟩ := o
 cases op
 case call cl => exact Y7 hT hΓ h hpre hD hK hρ rfl (by simpa [dS] using hr) need
 all_goals simp only [dS, reduceCtorEq] at hr
 case move x =>
  cases hx : ρ x with
  | none => rw [hx] at hr; simp at hr
  | some v =>
   rw [hx] at hr
   simp only [bB, Option.some.injEq] at hr
   subst hr
   exact b7 (x := ev x) (w' := w) rfl (dc h hD (hρ x v hx))
 case assign x =>
  cases hx : ρ x with
  | none => rw [hx] at hr; simp at hr
  | some v =>
   rw [hx] at hr
   simp only [bB, Option.some.injEq] at hr
   subst hr
   exact b7 (x := ev x) (w' := w) rfl (dc h hD (hρ x v hx))
 case pick cnd a b =>
  cases hc : ρ cnd with
  | none => rw [hc] at hr; simp at hr
  | some cv =>
   rw [hc] at hr
   cases cv <;> simp only [reduceCtorEq] at hr
   case bool t =>
    have hev := (hρ cnd _ hc).bool
    cases ha : ρ a with
    | none => rw [ha] at hr; simp at hr
    | some av =>
     cases hb : ρ b with
     | none => rw [ha, hb] at hr; cases av <;> simp at hr
     | some bv =>
      rw [ha, hb] at hr
      have hrun : (execOp ev { dst := dst, op := Op.pick cnd a b, type := type, pos := pos, after := after, guard := guard }).run P w = .ok (.value (if t then ev a else ev b)) w := by
       simp [execOp, hev, asBool]
      cases t with
      | true =>
       have hr' : r = ⟨av, [], []⟩ := by cases av <;> cases bv <;> simp [bB] at hr <;> exact hr.symm
       subst hr'
       exact b7 hrun (dc h hD (by simpa using hρ a av ha))
      | false =>
       have hr' : r = ⟨bv, [], []⟩ := by cases av <;> cases bv <;> simp [bB] at hr <;> exact hr.symm
       subst hr'
       exact b7 hrun (dc h hD (by simpa using hρ b bv hb))
 case alloc t =>
  cases ht : look t T with
  | none => rw [ht] at hr; simp at hr
  | some ti =>
   rw [ht] at hr
   simp only at hr
   split at hr
   ·simp at hr
   ·rename_i hc
    simp only [Bool.or_eq_true, beq_iff_eq, bne_iff_ne, ne_eq, not_or, Bool.not_eq_true, Decidable.not_not] at hc
    simp only [Option.some.injEq] at hr
    subst hr
    obtain ⟨x, w', hrun, hR⟩ := O5 hT h hD hK0.1 hK0.2 ht hc.1.1 hc.1.2 hc.2
    refine b7 ?_ hR
    simp only [execOp, Sem.run_bind, hrun, Result.andThen_ok, Sem.run_pure]
 case box t x =>
  cases hx : ρ x with
  | none => rw [hx] at hr; simp at hr
  | some v =>
   rw [hx] at hr
   simp only at hr
   split at hr
   ·simp at hr
   ·rename_i hc
    simp only [Bool.or_eq_true, beq_iff_eq, not_or, Bool.not_eq_true] at hc
    simp only [Option.some.injEq] at hr
    subst hr
    obtain ⟨y, w', hrun, hR⟩ := ZS (P := P) (t := t) h hD hK0.1 hK0.2 ((hρ x v hx).one hc.2) hc.1
    refine b7 ?_ hR
    simp only [execOp, Sem.run_bind, hrun, Result.andThen_ok, Sem.run_pure]
 case build t ps =>
  cases ht : look t T with
  | none => rw [ht] at hr; simp at hr
  | some ti =>
   cases hp : gG ρ ps.toList with
   | none => rw [ht, hp] at hr; simp at hr
   | some l =>
    rw [ht, hp] at hr
    simp only at hr
    split at hr
    ·simp at hr
    ·rename_i hc
     simp only [Bool.or_eq_true, Bool.not_eq_true', not_or, Bool.not_eq_false] at hc
     cases hs : ow T ti.desc ti.zero.kids l with
     | none => rw [hs] at hr; simp at hr
     | some m =>
      rw [hs] at hr
      simp only [bB, Option.some.injEq] at hr
      subst hr
      obtain ⟨y, hrun, hR⟩ := L8 hT (w := w) ht (bP.parts hρ hp) hc.2 hs hc.1
      refine b7 (x := y) (w' := w) ?_ (dc h hD hR.bz)
      have e1 : (Array.map (fun x : Nat × Operand => match x with | (i, x) => (i, ev x)) ps) = (List.map (fun p : Nat × Operand => (p.1, ev p.2)) ps.toList).toArray := by
       apply Array.ext'; simp
      simp only [execOp, Sem.run_bind, e1, hrun, Result.andThen_ok, Sem.run_pure]
 case buildSlice t n ps =>
  cases ht : look t T with
  | none => rw [ht] at hr; simp at hr
  | some ti =>
   cases hp : gG ρ ps.toList with
   | none => rw [ht, hp] at hr; obtain ⟨d, _, _, _⟩ := ti; cases d <;> simp at hr
   | some l =>
    rw [ht, hp] at hr
    obtain ⟨d, sz, by', z⟩ := ti
    cases d <;> simp only [reduceCtorEq] at hr
    case slice e =>
     cases he : look e T with
     | none => rw [he] at hr; simp at hr
     | some ei =>
      rw [he] at hr
      simp only at hr
      split at hr
      ·simp at hr
      ·rename_i hc
       simp only [Bool.or_eq_true, beq_iff_eq, bne_iff_ne, ne_eq, not_or, Bool.not_eq_true, Decidable.not_not] at hc
       cases hs : mS ei.size (List.replicate n ei.zero) l with
       | none => rw [hs] at hr; simp at hr
       | some m =>
        rw [hs] at hr
        simp only at hr
        cases hf : dj pre m with
        | none => rw [hf] at hr; simp at hr
        | some m' =>
         rw [hf] at hr
         simp only [Option.some.injEq] at hr
         subst hr
         obtain ⟨y, w', hrun, hR⟩ := XX hT h hpre hD hK0.1 hK0.2 ht rfl he hc.1.1 hc.1.2 hc.2 (bP.parts hρ hp) hs hf need
         refine b7 ?_ hR
         have e1 : (Array.map (fun x : Nat × Operand => match x with | (i, x) => (i, ev x)) ps) = (List.map (fun p : Nat × Operand => (p.1, ev p.2)) ps.toList).toArray := by
          apply Array.ext'; simp
         simp only [execOp, Sem.run_bind, e1, hrun, Result.andThen_ok, Sem.run_pure]
 case load t a =>
  cases ht : look t T with
  | none => rw [ht] at hr; simp at hr
  | some ti =>
   cases ha : ρ a with
   | none => rw [ht, ha] at hr; simp at hr
   | some p =>
    rw [ht, ha] at hr
    simp only at hr
    obtain ⟨e1, y, hrun, hR⟩ := DN hT h hpre ht (hρ a p ha) hr need
    refine b7 (x := y) (w' := w) ?_ (by rw [e1]; exact dc h hD hR.bz)
    simp only [execOp, Sem.run_bind, hrun, Result.andThen_ok, Sem.run_pure]
 case store t a x =>
  cases ht : look t T with
  | none => rw [ht] at hr; simp at hr
  | some ti =>
   cases ha : ρ a with
   | none => rw [ht, ha] at hr; simp at hr
   | some p =>
    cases hx : ρ x with
    | none => rw [ht, ha, hx] at hr; simp at hr
    | some v =>
     rw [ht, ha, hx] at hr
     simp only at hr
     obtain ⟨w', hrun, hR⟩ := Mm hT h hpre hD ht (hρ a p ha) (hρ x v hx) hr need
     refine .inr (.inl ⟨w', ?_, hR⟩)
     simp only [execOp, Sem.run_bind, hrun, Result.andThen_ok, Sem.run_pure]
 case nilCheck x =>
  cases hx : ρ x with
  | none => rw [hx] at hr; simp at hr
  | some v =>
   rw [hx] at hr
   have hv := hρ x v hx
   cases v <;> simp only [bB, Option.some.injEq, reduceCtorEq] at hr
   case ptr =>
    subst hr
    obtain ⟨b, N, _, he⟩ := hv.ptr
    refine b7 (x := ev x) (w' := w) ?_ (dc h hD hv)
    simp [execOp, he]
   case bp =>
    subst hr
    obtain ⟨b, o, ps, he, _⟩ := hv.bp
    refine b7 (x := ev x) (w' := w) ?_ (dc h hD hv)
    simp [execOp, he]
   case func =>
    subst hr
    obtain ⟨vs, he, _⟩ := hv.func
    refine b7 (x := ev x) (w' := w) ?_ (dc h hD hv)
    simp [execOp, he]
 case binOp op t x y ty =>
  cases hx : ρ x with
  | none => rw [hx] at hr; simp at hr
  | some a =>
   cases hy : ρ y with
   | none => rw [hx, hy] at hr; simp at hr
   | some b =>
    rw [hx, hy] at hr
    simp only at hr
    obtain ⟨e1, z, hrun, hR⟩ := ZY hT (op := op) (t := t) (t' := t) (x := x) (y := y) (hρ x a hx) (hρ y b hy) hr need
    refine b7 (x := z) (w' := w) ?_ (by rw [e1]; exact dc h hD hR.bz)
    simp only [execOp]
    rw [Sem.run_bind, hrun]
    rfl
 case unOp op t x =>
  cases hx : ρ x with
  | none => rw [hx] at hr; cases op <;> simp at hr
  | some v =>
   rw [hx] at hr
   have hv := hρ x v hx
   cases op <;> cases v <;> simp only [bB, Option.some.injEq, reduceCtorEq] at hr
   case not.bool b =>
    subst hr
    have := hv.bool
    refine b7 (x := .bool (!b)) (w' := w) ?_ (dc h hD (hbool _))
    simp [execOp, this, Op.unary]
   case neg.int k n =>
    subst hr
    have := hv.int
    refine b7 (x := .int k (k.wrap (0 - n))) (w' := w) ?_ (dc h hD (hint _ _))
    simp [execOp, this, Op.unary, Op.intArith]
   case xor.int k n =>
    subst hr
    have := hv.int
    refine b7 (x := .int k (k.wrap ((BitVec.ofInt k.bits (if k.signed then -1 else k.max) ^^^ BitVec.ofInt k.bits n).toNat : Int))) (w' := w) ?_ (dc h hD (hint _ _))
    simp only [execOp, this, Op.unary, Op.intBits]
    rfl
 case convert s d x =>
  cases hs : look s T with
  | none => rw [hs] at hr; simp at hr
  | some si =>
   cases hd : look d T with
   | none => rw [hs, hd] at hr; obtain ⟨sd, _, _, _⟩ := si; cases sd <;> simp at hr
   | some di =>
    rw [hs, hd] at hr
    obtain ⟨sd, _, _, _⟩ := si
    obtain ⟨dd, _, _, _⟩ := di
    cases sd <;> cases dd <;> try (simp only [reduceCtorEq] at hr; done)
    case int.int k1 k =>
     cases hx : ρ x with
     | none => rw [hx] at hr; simp at hr
     | some v =>
      rw [hx] at hr
      have hv := hρ x v hx
      cases v <;> simp only [bB, Option.some.injEq, reduceCtorEq] at hr
      case int k2 n =>
       subst hr
       have hev := hv.int
       have hus := (hT _ _ hs).cM
       have hud := (hT _ _ hd).cM
       refine b7 (x := .int k (k.wrap n)) (w' := w) ?_ (dc h hD (hint _ _))
       simp [execOp, hev, convert, run_underlying hus, run_underlying hud, Conv.intToInt]
 case sliceToArrayPointer t x =>
  cases ht : look t T with
  | none => rw [ht] at hr; simp at hr
  | some ti =>
   cases hx : ρ x with
   | none => rw [ht, hx] at hr; obtain ⟨d, _, _, _⟩ := ti; cases d <;> simp at hr
   | some v =>
    rw [ht, hx] at hr
    have hv := hρ x v hx
    obtain ⟨d, sz, by', z⟩ := ti
    cases d <;> try (simp only [reduceCtorEq] at hr; done)
    case array m e =>
     cases v <;> try (simp only [reduceCtorEq] at hr; done)
     case ah es n f =>
      simp only at hr
      cases he : look e T with
      | none => rw [he] at hr; simp at hr
      | some ei =>
       rw [he] at hr
       simp only at hr
       split at hr
       ·rename_i hc
        simp only [Bool.and_eq_true, beq_iff_eq, bne_iff_ne, ne_eq] at hc
        simp only [Option.some.injEq] at hr
        subst hr
        obtain ⟨zv, hrun, hR⟩ := Oh hT h hD ht rfl hv hc.2 need
        refine b7 ?_ hR
        simp only [execOp, Sem.run_bind, hrun, Result.andThen_ok, Sem.run_pure]
       ·simp at hr
 case makeSlice t l cp =>
  cases ht : look t T with
  | none => rw [ht] at hr; simp at hr
  | some ti =>
   cases hl : ρ l with
   | none => rw [ht, hl] at hr; obtain ⟨d, _, _, _⟩ := ti; cases d <;> simp at hr
   | some lv =>
    cases hc : ρ cp with
    | none => rw [ht, hl, hc] at hr; obtain ⟨d, _, _, _⟩ := ti; cases d <;> cases lv <;> (try (rename_i k _; cases k)) <;> simp at hr
    | some cv =>
     rw [ht, hl, hc] at hr
     obtain ⟨d, sz, by', z⟩ := ti
     cases d <;> try (simp only [reduceCtorEq] at hr; done)
     case slice e =>
      have hlv := hρ l lv hl
      have hcv := hρ cp cv hc
      cases lv <;> try (simp only [reduceCtorEq] at hr; done)
      case int k n =>
       cases k <;> try (simp only [reduceCtorEq] at hr; done)
       case i64 =>
        cases cv <;> try (simp only [reduceCtorEq] at hr; done)
        case int k m =>
         cases k <;> try (simp only [reduceCtorEq] at hr; done)
         case i64 =>
          simp only at hr
          cases he : look e T with
          | none => rw [he] at hr; simp at hr
          | some ei =>
           rw [he] at hr
           simp only at hr
           split at hr
           ·simp at hr
           ·rename_i hcc
            simp only [Bool.or_eq_true, beq_iff_eq, bne_iff_ne, ne_eq, not_or, Bool.not_eq_true, Decidable.not_not] at hcc
            simp only [Option.some.injEq] at hr
            subst hr
            obtain ⟨x, w', hrun, hR⟩ := R3 hT h hD hK0.1 hK0.2 ht rfl he hcc.1.1 hcc.1.2 hcc.2 need.1 need.2.1 need.2.2.1 need.2.2.2
            refine b7 ?_ hR
            simp only [execOp, Sem.run_bind, hlv.int, hcv.int, hrun, Result.andThen_ok, Sem.run_pure]
 case slice t x lo hi mx =>
  cases ht : look t T with
  | none => rw [ht] at hr; simp at hr
  | some ti =>
   cases hx : ρ x with
   | none => rw [ht, hx] at hr; obtain ⟨d, _, _, _⟩ := ti; cases d <;> simp at hr
   | some v =>
    rw [ht, hx] at hr
    obtain ⟨d, sz, by', z⟩ := ti
    cases d <;> simp only [reduceCtorEq] at hr
    case slice e =>
     cases he : look e T with
     | none => rw [he] at hr; simp at hr
     | some ei =>
      cases hn : lenOf v with
      | none => rw [he, hn] at hr; simp at hr
      | some n =>
       rw [he, hn] at hr
       simp only at hr
       cases hl : cy ρ 0 lo with
       | none => rw [hl] at hr; simp at hr
       | some l =>
        cases hh : cy ρ n hi with
        | none => rw [hl, hh] at hr; simp at hr
        | some hv =>
         rw [hl, hh] at hr
         simp only at hr
         cases hm : cy ρ hv mx with
         | none => rw [hm] at hr; simp at hr
         | some m =>
          rw [hm] at hr
          simp only at hr
          split at hr
          ·simp at hr
          ·rename_i hmx
           simp only [Bool.and_eq_true, not_and, Bool.not_eq_true] at hmx
           cases hs : nS ei.size v l.toNat hv.toNat with
           | none => rw [hs] at hr; simp at hr
           | some u =>
            rw [hs] at hr
            simp only [Option.some.injEq] at hr
            subst hr
            have hvt : v.isTuple = false := by cases v <;> first | rfl | simp [lenOf] at hn
            obtain ⟨y, hrun, hR⟩ := Ny hT ht rfl he ((hρ x v hx).one hvt) hρ hn hl hh hm need.1 need.2.1 need.2.2.1 need.2.2.2 (fun h1 => by
             have := hmx h1
             cases hi <;> simp_all) u hs
            refine b7 (x := y) (w' := w) ?_ (dc h hD hR.bz)
            simp only [execOp, Sem.run_bind, hrun, Result.andThen_ok, Sem.run_pure]
    case array n e =>
     cases mx with
     | some m => simp at hr
     | none =>
      simp only at hr
      cases he : look e T with
      | none => rw [he] at hr; simp at hr
      | some ei =>
       cases hl : cy ρ 0 lo with
       | none => rw [he, hl] at hr; simp at hr
       | some a =>
        cases hh : cy ρ n hi with
        | none => rw [he, hl, hh] at hr; simp at hr
        | some b =>
         rw [he, hl, hh] at hr
         simp only at hr
         obtain ⟨y, hrun, hR⟩ := Sm hT h hpre hD ht rfl he (hρ x v hx) hρ hl hh hr need
         refine b7 (x := y) (w' := w) ?_ hR
         simp only [execOp, Sem.run_bind, Option.map_none, hrun, Result.andThen_ok, Sem.run_pure]
 case fieldAddr s x i =>
  cases hs : look s T with
  | none => rw [hs] at hr; simp at hr
  | some ti =>
   cases hx : ρ x with
   | none => rw [hs, hx] at hr; simp at hr
   | some p =>
    rw [hs, hx] at hr
    simp only at hr
    cases hf : jO ti.desc i with
    | none => rw [hf] at hr; simp at hr
    | some fd =>
     rw [hf] at hr
     simp only at hr
     have hp := hρ x p hx
     cases p <;> simp only [reduceCtorEq] at hr
     case bp v =>
      cases hk : fT T v i fd.offset fd.type with
      | none => rw [hk] at hr; simp at hr
      | some k =>
       rw [hk] at hr
       simp only [bB, Option.some.injEq] at hr
       subst hr
       obtain ⟨b, o, he, hR⟩ := DS hk hp
       obtain ⟨fi, hfi, h0⟩ : ∃ fi, look fd.type T = some fi ∧ fi.size ≠ 0 := by
        obtain ⟨_, _, ps, _, hps, _⟩ := hp.bp
        obtain ⟨fi, _, _, _, q1, _, _, _, _, _, _, _, q2, _⟩ := yl hk hps
        exact ⟨fi, q1, q2⟩
       refine b7 (w' := w) ?_ (dc h hD hR.bz)
       simp only [execOp, Sem.run_bind, he, I5 hT hs hf hfi h0, Result.andThen_ok, Sem.run_pure]
     case ptr k idx es off path =>
      cases hfi : look fd.type T with
      | none => rw [hfi] at hr; simp at hr
      | some fi =>
       rw [hfi] at hr
       simp only at hr
       split at hr
       ·simp at hr
       ·rename_i h0
        simp only [bB, Option.some.injEq] at hr
        subst hr
        obtain ⟨b, N, hb, he⟩ := hp.ptr
        refine b7 (x := .pointer (some ⟨b, idx * es + off + fd.offset, none⟩)) (w' := w) ?_ (dc h hD (aV.bz (.bV ?_ rfl)))
        ·simp only [execOp, Sem.run_bind, he, I5 hT hs hf hfi (by simpa using h0), Result.andThen_ok, Sem.run_pure]
        ·rw [Nat.add_assoc]; exact .ptr hb .nil
 case field s x i =>
  cases hs : look s T with
  | none => rw [hs] at hr; simp at hr
  | some ti =>
   cases hx : ρ x with
   | none => rw [hs, hx] at hr; simp at hr
   | some v =>
    rw [hs, hx] at hr
    simp only at hr
    cases hf : jO ti.desc i with
    | none => rw [hf] at hr; simp at hr
    | some fd =>
     rw [hf] at hr
     simp only at hr
     cases hk : fT T v i fd.offset fd.type with
     | none => rw [hk] at hr; simp at hr
     | some k =>
      rw [hk] at hr
      simp only [bB, Option.some.injEq] at hr
      subst hr
      have hvt : v.isTuple = false := by
       cases v <;> first | rfl | (simp [fT, AV.kids] at hk)
      obtain ⟨y, hrun, hR⟩ := NK hT (w := w) hs ((hρ x v hx).one hvt) hf hk
      refine b7 (x := y) (w' := w) ?_ (dc h hD hR.bz)
      simp only [execOp, Sem.run_bind, hrun, Result.andThen_ok, Sem.run_pure]
 case indexAddr t x ix =>
  cases ht : look t T with
  | none => rw [ht] at hr; simp at hr
  | some ti =>
   cases hx : ρ x with
   | none => rw [ht, hx] at hr; obtain ⟨d, _, _, _⟩ := ti; cases d <;> simp at hr
   | some p =>
    cases hi : ρ ix with
    | none => rw [ht, hx, hi] at hr; obtain ⟨d, _, _, _⟩ := ti; cases d <;> simp at hr
    | some iv =>
     rw [ht, hx, hi] at hr
     obtain ⟨d, sz, by', z⟩ := ti
     have hp := hρ x p hx
     have hiv := hρ ix iv hi
     cases d <;> try (simp only [reduceCtorEq] at hr; done)
     case array n e =>
      cases iv <;> simp only [reduceCtorEq] at hr
      case int kd i =>
       have hie := hiv.int
       cases he : look e T with
       | none => rw [he] at hr; simp at hr
       | some ei =>
        rw [he] at hr
        simp only at hr
        split at hr
        ·simp at hr
        ·rename_i h0
         cases p <;> simp only [reduceCtorEq] at hr
         case bp v =>
          cases hk : fT T v i.toNat (i.toNat * ei.size) e with
          | none => rw [hk] at hr; simp at hr
          | some k =>
           rw [hk] at hr
           simp only [Option.some.injEq] at hr
           subst hr
           obtain ⟨b, o, hev, hR⟩ := DS hk hp
           refine b7 (w' := w) ?_ (dc h hD hR.bz)
           simp only [execOp, Sem.run_bind, hev, hie, HN hT ht rfl he need.1 need.2, Result.andThen_ok, Sem.run_pure]
         case ptr k idx es off path =>
          simp only [Option.some.injEq] at hr
          subst hr
          obtain ⟨b, N, hb, hev⟩ := hp.ptr
          refine b7 (x := .pointer (some ⟨b, idx * es + off + i.toNat * ei.size, none⟩)) (w' := w) ?_ (dc h hD (aV.bz (.bV ?_ rfl)))
          ·simp only [execOp, Sem.run_bind, hev, hie, HN hT ht rfl he need.1 need.2, Result.andThen_ok, Sem.run_pure]
          ·rw [Nat.add_assoc]; exact .ptr hb .nil
     case slice e =>
      cases iv <;> simp only [reduceCtorEq] at hr
      case int kd i =>
       have hie := hiv.int
       cases he : look e T with
       | none => rw [he] at hr; simp at hr
       | some ei =>
        rw [he] at hr
        simp only at hr
        split at hr
        ·simp at hr
        ·rename_i h0
         cases hel : elemAt pre ei.size p i.toNat with
         | none => rw [hel] at hr; simp at hr
         | some q =>
          obtain ⟨q, nd⟩ := q
          rw [hel] at hr
          simp only [Option.some.injEq] at hr
          subst hr
          obtain ⟨y, hrun, hR⟩ := XN hT h hpre (kd := kd) ht rfl he hp need.1 hel need.2
          refine b7 (x := y) (w' := w) ?_ (dc h hD hR.bz)
          simp only [execOp, Sem.run_bind, hie, hrun, Result.andThen_ok, Sem.run_pure]
 case index t x ix =>
  cases ht : look t T with
  | none => rw [ht] at hr; simp at hr
  | some ti =>
   cases hx : ρ x with
   | none => rw [ht, hx] at hr; obtain ⟨d, _, _, _⟩ := ti; cases d <;> simp at hr
   | some v =>
    cases hi : ρ ix with
    | none => rw [ht, hx, hi] at hr; obtain ⟨d, _, _, _⟩ := ti; cases d <;> simp at hr
    | some iv =>
     rw [ht, hx, hi] at hr
     obtain ⟨d, sz, by', z⟩ := ti
     have hiv := hρ ix iv hi
     cases d <;> try (simp only [reduceCtorEq] at hr; done)
     case array n e =>
      cases iv <;> simp only [reduceCtorEq] at hr
      case int kd i =>
       have hie := hiv.int
       cases he : look e T with
       | none => rw [he] at hr; simp at hr
       | some ei =>
        rw [he] at hr
        simp only at hr
        cases hk : fT T v i.toNat (i.toNat * ei.size) e with
        | none => rw [hk] at hr; simp at hr
        | some k =>
         rw [hk] at hr
         simp only [Option.some.injEq] at hr
         subst hr
         have hvt : v.isTuple = false := by
          cases v <;> first | rfl | (simp [fT, AV.kids] at hk)
         obtain ⟨y, hrun, hR⟩ := YI hT (w := w) (kd := kd) ht rfl he ((hρ x v hx).one hvt) hk need.1 need.2
         refine b7 (x := y) (w' := w) ?_ (dc h hD hR.bz)
         simp only [execOp, Sem.run_bind, hie, hrun, Result.andThen_ok, Sem.run_pure]
 case extract x i =>
  cases hx : ρ x with
  | none => rw [hx] at hr; simp at hr
  | some v =>
   rw [hx] at hr
   cases v <;> simp only [reduceCtorEq] at hr
   case tuple l =>
    cases hl : l[i]? with
    | none => rw [hl] at hr; simp at hr
    | some v =>
     rw [hl] at hr
     simp only [bB, Option.some.injEq] at hr
     subst hr
     obtain ⟨vs, hev, hvs⟩ := hρ x _ hx
     obtain ⟨y, hy, hR⟩ := hvs.get i v hl
     refine b7 (x := y) (w' := w) ?_ (dc h hD hR.bz)
     simp [execOp, hev, Instr.extract, hy]
 case makeFunc fn first caps =>
  cases fn <;> simp only [reduceCtorEq] at hr
  case func f =>
   cases hc : dN ρ caps.toList with
   | none => rw [hc] at hr; cases first.toList <;> simp at hr
   | some l =>
    rw [hc] at hr
    cases hf : first.toList with
    | cons a b => rw [hf] at hr; simp at hr
    | nil =>
     rw [hf] at hr
     simp only at hr
     split at hr
     ·rename_i hall
      simp only [Bool.and_eq_true] at hall
      obtain ⟨hall, hall2⟩ := hall
      simp only [Option.some.injEq] at hr
      subst hr
      have hfe : first = #[] := by apply Array.ext'; simpa using hf
      subst hfe
      have hcaps := (jR hρ hc).Ht hall
      obtain ⟨q1, q2, q3⟩ := Yb (pre := pre) h (fun k o hk => ⟨o, hpre k o hk, .inl rfl⟩) hcaps
      refine b7 (x := .func (.func f) #[] (List.map ev caps.toList).toArray) (w' := w) ?_ ⟨β, q1.jG hD, q2, aV.bz (.bV (.func q3 hall2 .nil) rfl)⟩
      have e1 : Array.map ev caps = (List.map ev caps.toList).toArray := by apply Array.ext'; simp
      simp [execOp, Instr.makeFunc, e1]
     ·simp at hr
theorem bn.cJ {M : Nat → Prop} {v : AV} {x : Value} (h : bn M w β v x) : bn M w β (Am.cJ v) x := by
 cases v with
 | cX b es n f =>
  obtain ⟨cs, h1, h2⟩ := bn.one h rfl
  cases h1 with
  | cX g0 g1 g2 g3 g4 g5 g6 =>
   cases g6
   exact aV.bz ⟨_, .ah g1 g2 g3 g4 g5 .nil, h2⟩
 | _ => exact h
theorem LK {ρ : Operand → Option AV} {op : Op} {v : AV} (h : nP T ρ op = some v) : ∃ o t x y u b es n f z, op = .binOp o t x y u ∧ ρ x = some (.cX b es n f) ∧ ρ y = some .nil ∧ isSlice T t = true ∧ v = .bool z ∧ ((o = .eql ∧ z = b) ∨ (o = .neq ∧ z = !b)) := by
 cases op <;> simp only [nP, reduceCtorEq] at h
 case binOp o t x y u =>
  cases hx : ρ x with
  | none => rw [hx] at h; simp at h
  | some a =>
   cases hy : ρ y with
   | none => rw [hx, hy] at h; simp at h
   | some d =>
    rw [hx, hy] at h
    simp only at h
    cases hf : AH a d with
    | none => rw [hf] at h; simp at h
    | some b =>
     cases hs : isSlice T t with
     | false => rw [hf, hs] at h; simp at h
     | true =>
      rw [hf, hs] at h
      have hab : ∃ es n f, a = .cX b es n f ∧ d = .nil := by
       cases a <;> simp only [AH, reduceCtorEq] at hf
       case cX b' es n f =>
        cases d <;> simp only [reduceCtorEq, Option.some.injEq] at hf
        case nil => subst hf; exact ⟨es, n, f, rfl, rfl⟩
      obtain ⟨es, n, f, rfl, rfl⟩ := hab
      cases o <;> simp only [reduceCtorEq, Option.some.injEq] at h
      case eql => exact ⟨_, t, x, y, u, b, es, n, f, b, rfl, hx, hy, hs, h.symm, .inl ⟨rfl, rfl⟩⟩
      case neq => exact ⟨_, t, x, y, u, b, es, n, f, !b, rfl, hx, hy, hs, h.symm, .inr ⟨rfl, rfl⟩⟩
theorem DF {f : Nat → AV} : ∀ {n : Nat} {l : List UInt8}, bytesOf f n = some l → ∃ ns : List Int, ns.length = n ∧ (∀ i, i < n → ∃ b, ns[i]? = some b ∧ f i = .int .u8 b) ∧ (ns.foldl (fun r n => r.push (UInt8.ofNat n.toNat)) ByteArray.empty) = ⟨l.toArray⟩
 | 0, l, h => by
  simp only [bytesOf, Option.some.injEq] at h
  subst h
  exact ⟨[], rfl, fun i hi => by omega, rfl⟩
 | n + 1, l, h => by
  simp only [bytesOf] at h
  split at h
  ·rename_i l' b h1 h2
   simp only [Option.some.injEq] at h
   subst h
   obtain ⟨ns, e1, e2, e3⟩ := DF h1
   refine ⟨ns ++ [b], by simp [e1], fun i hi => ?_, ?_⟩
   ·by_cases hin : i < n
    ·obtain ⟨b', q1, q2⟩ := e2 i hin
     exact ⟨b', by rw [List.getElem?_append_left (by omega)]; exact q1, q2⟩
    ·have : i = n := by omega
     subst this
     exact ⟨b, by rw [List.getElem?_append_right (by omega), e1]; simp, h2⟩
   ·rw [List.foldl_append, e3]
    simp [ByteArray.push]
  ·simp at h
theorem JD {w : World} {M : Nat → Prop} {f : Nat → AV} {n cap : Nat} {l : List UInt8} {base : Option Addr} {cf : Nat → List Value} (hl : bytesOf f n = some l)
  (g1 : n = 0 ∨ ∃ b o, base = some ⟨b, o, none⟩ ∧ ∀ i, i < n → w.rangeAt b (o + i * 1) (cf i)) (g3 : base = none → n = 0) (g4 : ∀ i, i < n → (cf i).length = 1 ∧ aH M w aR [f i] (cf i)) :
  (Conv.bytesToString (.slice base n cap)).run P w = .ok (.string ⟨l.toArray⟩) w := by
 obtain ⟨ns, e1, e2, e3⟩ := DF hl
 cases base with
 | none =>
  have := g3 rfl
  subst this
  simp only [bytesOf, Option.some.injEq] at hl
  subst hl
  rfl
 | some a =>
  rw [run_bytesToString w a n cap ns, e3]
  have hcell : ∀ j v, (ns.map (Value.int .u8))[j]? = some v → w.cell? (a.add j) = some v := by
   intro j v hv
   rw [List.getElem?_map, Option.map_eq_some_iff] at hv
   obtain ⟨b, hb, rfl⟩ := hv
   have hj : j < n := by
    have := (List.getElem?_eq_some_iff.1 hb).1
    omega
   rcases g1 with g1 | ⟨bl, o, hbo, g1⟩
   ·omega
   simp only [Option.some.injEq] at hbo
   subst hbo
   obtain ⟨b', q1, q2⟩ := e2 j hj
   rw [hb] at q1
   simp only [Option.some.injEq] at q1
   subst q1
   obtain ⟨q3, q4⟩ := g4 j hj
   rw [q2] at q4
   have hcf : cf j = [.int .u8 b] := by
    revert q4
    generalize cf j = z
    intro q4
    cases q4 with | int h => cases h; rfl
   have := g1 j hj
   rw [hcf] at this
   have := this 0 _ rfl
   rw [Addr.add_mid]
   simpa using this
  have := run_loadCells_list (P := P) (w := w) a (ns.map (Value.int .u8)) hcell
  rw [List.length_map, e1] at this
  exact this
include hT in
theorem Sd (h : bg c st D β w) (hpre : ∀ k o, look k pre = some o → look k st = some o) (hD : ∀ k, D k → D' k) {ρ : Operand → Option AV} {ev : Operand → Value} (hρ : ∀ x v, ρ x = some v → bn (aI c st β) w β v (ev x)) {o : Oper} {r : dG}
  (hev : ∀ v, ev (.const v) = v) (hr : nF T pre ρ o.op = some r) (need : r.need) : iu P (execOp ev o) w (ee c st D' β w r.bM r.val) := by
 obtain ⟨dst, op, type, pos, after, guard⟩ := o
 cases op <;> simp only [nF, reduceCtorEq] at hr
 case binOp o t x y u =>
  have hbool : ∀ t, bn (aI c st β) w β (.bool t) (.bool t) := fun t => aV.bz (.bV (.bool .nil) rfl)
  split at hr
  ·rename_i a b ha hb
   have ea := (hρ x _ ha).str
   have eb := (hρ y _ hb).str
   split at hr
   ·split at hr
    ·rename_i hl
     have hl := Nat.le_of_ble_eq_true hl
     simp only [bB, Option.some.injEq] at hr
     subst hr
     refine b7 (x := .string ⟨(a ++ b).toArray⟩) (w' := w) ?_ (dc h hD (aV.bz (.bV (.str .nil) rfl)))
     simp only [execOp, ea, eb, eqGuard_at_string, binOp_string_add]
     simp only [Sem.run_bind, Sem.run_pure, Result.andThen_ok, run_string_add_lists w a b (by omega) (by omega)]
    ·simp at hr
   ·simp only [bB, Option.some.injEq] at hr
    subst hr
    refine b7 (x := .bool (a == b)) (w' := w) ?_ (dc h hD (hbool _))
    simp only [execOp, ea, eb, eqGuard_at_string, binOp_string_eql, ByteArray.toList_mk]
    simp
   ·simp only [bB, Option.some.injEq] at hr
    subst hr
    refine b7 (x := .bool (!(a == b))) (w' := w) ?_ (dc h hD (hbool _))
    simp only [execOp, ea, eb, eqGuard_at_string, binOp_string_neq, ByteArray.toList_mk]
    simp
   ·simp at hr
  ·simp at hr
 case convert s d x =>
  split at hr
  ·rename_i e _ _ _ _ _ _ v hs hd hx
   split at hr
   ·rename_i he
    split at hr
    ·rename_i n f hra
     split at hr
     ·rename_i l hl
      simp only [bB, Option.some.injEq] at hr
      subst hr
      obtain ⟨base, cap, cf, hev', g1, g2, g3, g4⟩ := pN h hpre (by omega) (hρ x _ hx) hra
      have hus := (hT _ _ hs).cM
      have hud := (hT _ _ hd).cM
      have hue := (hT _ _ he).cM
      refine b7 (x := .string ⟨l.toArray⟩) (w' := w) ?_ (dc h hD (aV.bz (.bV (.str .nil) rfl)))
      simp only [execOp, hev', Sem.run_bind, run_convert_bytes_string w s d e base n cap hus hue hud]
      rw [JD hl g1 g3 g4]
      rfl
     ·simp at hr
    ·simp at hr
   ·simp at hr
  ·simp at hr
 case index t x ix =>
  cases x <;> (try simp only [reduceCtorEq] at hr)
  case const v =>
   cases v <;> (try simp only [reduceCtorEq] at hr)
   case string s =>
    cases hi : ρ ix with
    | none => rw [hi] at hr; simp at hr
    | some iv =>
     cases ht : look t T with
     | none => rw [hi, ht] at hr; cases iv <;> simp at hr
     | some ti =>
      rw [hi, ht] at hr
      have hiv := hρ ix iv hi
      cases iv <;> simp only [reduceCtorEq] at hr
      case int kd i =>
       have hie := hiv.int
       split at hr
       ·rename_i hs
        simp only [Option.some.injEq] at hr
        subst hr
        have need : 0 ≤ i ∧ i < s.size := need
        have hu : P.underlying t = some .string := by
         have := (hT _ _ ht).cM
         cases hd : ti.desc <;> rw [hd] at hs this <;> simp only [isString, Bool.false_eq_true] at hs
         case string => exact this
        have hb : (jo s i.toNat : Int) = ((s[i.toNat]'(by omega)).toNat : Int) := by
         unfold jo
         have hlt : i.toNat < s.data.size := by have : s.size = s.data.size := rfl; omega
         rw [Array.getElem?_eq_getElem hlt]
         rfl
        refine b7 (x := .int .u8 (jo s i.toNat)) (w' := w) ?_ (dc h hD (aV.bz (.bV (.int .nil) rfl)))
        simp only [execOp, hie, hev]
        rw [Sem.run_bind, run_index_string w t s kd i hu, dif_pos need, hb]
        rfl
       ·simp at hr
theorem UJ {K : Nat} {ρ : Operand → Option AV} {op : Op} {r : dG} (hc : oR T ρ pre op = true) (hr : dS T Γ K ρ pre op = some r) : r.need := by
 cases op <;> simp only [oR, Bool.false_eq_true] at hc
 case load t a =>
  split at hc
  ·rename_i k idx es off path ha
   split at hc
   ·rename_i o ho
    have hlt := Nat.blt_eq.mp hc
    simp only [dS, ha] at hr
    split at hr
    ·rename_i ti p ht hp
     simp only [Option.some.injEq] at hp
     subst hp
     simp only [me, ho] at hr
     split at hr
     ·split at hr
      ·split at hr
       ·simp only [Option.some.injEq] at hr; subst hr; exact hlt
       ·simp at hr
      ·simp at hr
     ·simp at hr
    ·simp at hr
   ·simp at hc
  ·simp at hc
 case store t a x =>
  split at hc
  ·rename_i k idx es off path ha
   split at hc
   ·rename_i o ho
    have hlt := Nat.blt_eq.mp hc
    simp only [dS, ha] at hr
    split at hr
    ·rename_i ti p v ht hp hv
     simp only [Option.some.injEq] at hp
     subst hp
     simp only [sO, ho] at hr
     (repeat' split at hr) <;> first | (simp only [Option.some.injEq] at hr; subst hr; exact hlt) | simp at hr
    ·simp at hr
   ·simp at hc
  ·simp at hc
 case indexAddr t x ix =>
  split at hc
  ·rename_i n e _ _ _ _ i ht hi
   have hlt := of_decide_eq_true hc
   cases hx : ρ x with
   | none => simp only [dS, ht, hi, hx] at hr; simp at hr
   | some p =>
    simp only [dS, ht, hi, hx] at hr
    split at hr
    ·split at hr
     ·simp at hr
     ·split at hr
      ·split at hr
       ·simp only [Option.some.injEq] at hr; subst hr; exact hlt
       ·simp at hr
      ·simp only [Option.some.injEq] at hr; subst hr; exact hlt
      ·simp at hr
    ·simp at hr
  ·rename_i e _ _ _ v _ i ht hv hi
   split at hc
   ·rename_i n hn
    simp only [Bool.and_eq_true, decide_eq_true_eq, Nat.blt_eq] at hc
    simp only [dS, ht, hi, hv] at hr
    split at hr
    ·rename_i ti hti
     split at hr
     ·simp at hr
     ·split at hr
      ·rename_i r' nd hel
       simp only [Option.some.injEq] at hr
       subst hr
       refine ⟨hc.1, ?_⟩
       unfold elemAt at hel
       unfold lenOf at hn
       have hc2 := hc.2
       (repeat' split at hel) <;> simp_all <;> (obtain ⟨_, rfl⟩ := hel; exact hc2)
      ·simp at hr
    ·simp at hr
   ·simp at hc
  ·simp at hc
 case index t x ix =>
  split at hc
  ·rename_i n e _ _ _ _ i ht hi
   have hlt := of_decide_eq_true hc
   cases hx : ρ x with
   | none => simp only [dS, ht, hi, hx] at hr; simp at hr
   | some p =>
    simp only [dS, ht, hi, hx] at hr
    split at hr
    ·split at hr
     ·simp only [Option.some.injEq] at hr; subst hr; exact hlt
     ·simp at hr
    ·simp at hr
  ·simp at hc
 case slice t x lo hi mx =>
  split at hc
  ·rename_i v hv
   split at hc
   ·rename_i len hlen
    split at hc
    ·rename_i l h hl hh
     split at hc
     ·rename_i m hm
      have hlt := of_decide_eq_true hc
      cases ht : look t T with
      | none => simp only [dS, hv, ht] at hr; simp at hr
      | some ti0 =>
       obtain ⟨dd, _, _, _⟩ := ti0
       cases dd <;> try (simp only [dS, hv, ht] at hr; simp at hr; done)
       case array n e =>
        simp only [dS, hv, ht] at hr
        exfalso
        split at hr
        ·split at hr
         ·unfold ym at hr
          cases v <;> simp [lenOf] at hlen <;> simp at hr
         ·simp at hr
        ·simp at hr
       case slice e =>
        cases he : look e T with
        | none => simp only [dS, hv, ht, he] at hr; simp at hr
        | some ti =>
         simp only [dS, hv, ht, he, hlen, hl, hh, hm] at hr
         split at hr
         ·simp at hr
         ·split at hr
          ·simp only [Option.some.injEq] at hr; subst hr; exact hlt
          ·simp at hr
     ·simp at hc
    ·simp at hc
   ·simp at hc
  ·simp at hc
 case buildSlice t n ps =>
  split at hc
  ·rename_i e _ _ _ ht
   split at hc
   ·rename_i ti hti
    have hlt := Nat.le_of_ble_eq_true hc
    cases hp : gG ρ ps.toList with
    | none => simp only [dS, ht, hti, hp] at hr; simp at hr
    | some l =>
     simp only [dS, ht, hti, hp] at hr
     split at hr
     ·simp at hr
     ·split at hr
      ·split at hr
       ·simp only [Option.some.injEq] at hr; subst hr; exact hlt
       ·simp at hr
      ·simp at hr
   ·simp at hc
  ·simp at hc
theorem Bl {k : IntKind} (h : xg k = true) : k = .i64 := by cases k <;> first | rfl | cases h
theorem wrap64 {n : Int} (h : -2 ^ 63 ≤ n ∧ n < 2 ^ 63) : IntKind.i64.wrap n = n := by
 obtain ⟨h1, h2⟩ := h
 simp [IntKind.wrap, IntKind.bits, IntKind.signed]; omega
theorem Ok {K : Nat} {ρ : Operand → Option AV} {op : Op} {n : Int} (hp : qE T ρ op = some n) (hn : -2 ^ 63 ≤ n ∧ n < 2 ^ 63) : dS T Γ K ρ pre op = some ⟨.int .i64 n, [], []⟩ := by
 cases op <;> simp only [qE, reduceCtorEq] at hp
 case binOp o t x y u =>
  split at hp
  ·rename_i k a j b hx hy
   split at hp
   ·rename_i hk hj
    obtain rfl := Bl hk
    obtain rfl := Bl hj
    simp only [dS, hx, hy]
    split at hp <;> simp only [Option.some.injEq, reduceCtorEq] at hp <;> subst hp <;> simp [lz, isKind, Cq, bB, wrap64 hn]
   ·simp at hp
  ·simp at hp
 case convert s d x =>
  split at hp
  ·rename_i k1 _ _ _ k _ _ _ k2 m hs hd hx
   split at hp
   ·rename_i hk
    obtain rfl := Bl hk
    simp only [Option.some.injEq] at hp
    subst hp
    simp only [dS, hs, hd, hx, bB, wrap64 hn]
   ·simp at hp
  ·simp at hp
include hT hΓ in
theorem TT (h : bg c st D β w) (hpre : ∀ k o, look k pre = some o → look k st = some o) (hD : ∀ k, D k → D' k) {K : Nat} (hK : ∀ k, K ≤ k → k < K + bY → ¬ D k ∧ D' k)
  {ρ : Operand → Option AV} {ev : Operand → Value} (hρ : ∀ x v, ρ x = some v → bn (aI c st β) w β v (ev x)) {o : Oper} {r : dG}
  (hr : oH T Γ K ρ pre o.op = some r) (need : r.need) : iu P (execOp ev o) w (ee c st D' β w r.bM r.val) := by
 unfold oH at hr
 split at hr
 ·split at hr
  ·rename_i hc
   split at hr
   ·rename_i r' hr'
    simp only [Option.some.injEq] at hr
    subst hr
    have := o3 hT hΓ h hpre hD hK hρ (r := r') hr' (UJ hc hr')
    exact this
   ·simp at hr
  ·exact o3 hT hΓ h hpre hD hK hρ hr need
 ·split at hr
  ·split at hr
   ·rename_i n hp
    simp only [Option.some.injEq] at hr
    subst hr
    have hn : -2 ^ 63 ≤ n ∧ n < 2 ^ 63 := need
    have := o3 hT hΓ h hpre hD hK hρ (r := ⟨.int .i64 n, [], []⟩) (Ok hp hn) trivial
    exact this
   ·exact o3 hT hΓ h hpre hD hK hρ hr need
  ·exact o3 hT hΓ h hpre hD hK hρ hr need
include hT hΓ in
theorem Is (h : bg c st D β w) (hpre : ∀ k o, look k pre = some o → look k st = some o) (hD : ∀ k, D k → D' k) {K : Nat} (hK : ∀ k, K ≤ k → k < K + bY → ¬ D k ∧ D' k)
  {ρ : Operand → Option AV} {ev : Operand → Value} (hρ : ∀ x v, ρ x = some v → bn (aI c st β) w β v (ev x)) (hev : ∀ v, ev (.const v) = v) {o : Oper} {r : dG}
  (hr : jA T Γ K ρ pre o.op = some r) (need : r.need) : iu P (execOp ev o) w (ee c st D' β w r.bM r.val) := by
 unfold jA at hr
 cases hn : nP T ρ o.op with
 | some v =>
  rw [hn] at hr
  simp only [bB, Option.some.injEq] at hr
  subst hr
  obtain ⟨dst, op, type, pos, after, guard⟩ := o
  obtain ⟨o, t, x, y, u, b, es, n, f, z, h1, hx, hy, hs, h2, h3⟩ := LK hn
  simp only at h1
  subst h1 h2
  obtain ⟨cs, hv, hv2⟩ := bn.one (hρ x _ hx) rfl
  have hnil := (hρ y _ hy).nil
  have hbool : ∀ t, bn (aI c st β) w β (.bool t) (.bool t) := fun t => aV.bz (.bV (.bool .nil) rfl)
  have hsl : ∃ e, P.underlying t = some (.slice e) := by
   unfold isSlice at hs
   cases ht : look t T with
   | none => rw [ht] at hs; simp at hs
   | some ti =>
    rw [ht] at hs
    have hu := (hT _ _ ht).cM
    simp only at hs
    cases hd : ti.desc <;> rw [hd] at hs <;> simp only [CW, Bool.false_eq_true] at hs
    case slice e => exact ⟨e, by rw [hu, hd]⟩
  obtain ⟨e, hu⟩ := hsl
  have hev' : ∃ base cap, ev x = .slice base n cap ∧ base.isNone = b := by
   cases hv with
   | cX g0 g1 g2 g3 g4 g5 g6 =>
    rename_i base cap cs' cf
    cases g6
    exact ⟨base, cap, by simpa [show (cX b es n f).isAgg = false from rfl, eq_comm] using hv2, g0⟩
  obtain ⟨base, cap, hev, hb⟩ := hev'
  refine b7 (x := .bool z) (w' := w) ?_ (dc h hD (hbool _))
  rcases h3 with ⟨rfl, rfl⟩ | ⟨rfl, rfl⟩
  ·simp only [execOp, hev, hnil, eqGuard_at_slice, binOp]
   simp [run_equal_slice_nil w t e base n cap hu, hb]
  ·simp only [execOp, hev, hnil, eqGuard_at_slice, binOp]
   simp [run_equal_slice_nil w t e base n cap hu, hb]
 | none =>
  rw [hn] at hr
  simp only at hr
  cases hstr : nF T pre ρ o.op with
  | some r' =>
   rw [hstr] at hr
   simp only [Option.some.injEq] at hr
   subst hr
   exact Sd hT h hpre hD hρ (o := o) hev hstr need
  | none =>
  rw [hstr] at hr
  simp only at hr
  split at hr
  ·exact o3 hT hΓ h hpre hD hK hρ hr need
  ·refine TT hT hΓ h hpre hD hK (ρ := mo ρ) (fun x v hx => ?_) hr need
   unfold mo at hx
   cases hx' : ρ x with
   | none => rw [hx'] at hx; simp at hx
   | some u =>
    rw [hx'] at hx
    simp only [Option.some.injEq] at hx
    subst hx
    exact (hρ x u hx').cJ
end ops
end Go.Am

/- One operation of a region, in a state. -/
namespace Go.Am
open AV
def qW (M : Nat → Prop) (w : World) (β : aL) (sl : List (Nat × AV)) (tmps : Array Value) : Prop := ∀ t v, look t sl = some v → ∃ x, tmps[t]? = some x ∧ bn M w β v x
def Rel (c : Ctx) (nt : Nat) (D : Nat → Prop) (sl : List (Nat × AV)) (st : aB) (a : Act) (w : World) : Prop :=
 a.defers = [] ∧ a.tmps.size = nt ∧ ∃ β, bg c st D β w ∧ qW (aI c st β) w β sl a.tmps
theorem Ba {dst : Option Tmp} {v : AV} {sl : List (Nat × AV)} {t : Nat} : look t (qa dst v sl) = if dst = some t then some v else look t sl := by
 cases dst with
 | none => simp [qa]
 | some d =>
  simp only [qa, Ar, Option.some.injEq]
  by_cases h : t = d
  ·simp [h]
  ·have : ¬ d = t := fun e => h e.symm
   simp [h, this]
theorem kn {st : aB} {k : Nat} : ∀ {ks : List Nat}, look k (pick st ks) = if k ∈ ks then look k st else none
 | [] => by simp [pick, look]
 | j :: ks => by
  simp only [pick]
  cases hj : look j st with
  | none =>
   simp only [kn (ks := ks), List.mem_cons]
   by_cases h : k = j
   ·subst h; simp [hj]
   ·simp [h]
  | some o =>
   simp only [Ar, kn (ks := ks), List.mem_cons]
   by_cases h : k = j
   ·subst h; simp [hj]
   ·simp [h]
theorem rO {st : aB} : ∀ {ks : List Nat}, ((pick st ks).map (·.1)).Nodup
 | [] => by simp [pick]
 | j :: ks => by
  simp only [pick]
  cases hj : look j st with
  | none => exact rO
  | some o =>
   have := rO (st := st) (ks := ks)
   revert this
   generalize pick st ks = l
   intro hl
   induction l with
   | nil => simp [put]
   | cons p l ih =>
    obtain ⟨i, b⟩ := p
    simp only [List.map_cons, List.nodup_cons] at hl
    simp only [put]
    by_cases h : (i == j) = true
    ·have : i = j := by simpa using h
     subst this
     simp only [BEq.rfl, if_true, List.map_cons, List.nodup_cons]
     exact hl
    ·simp only [h, Bool.false_eq_true, if_false, List.map_cons, List.nodup_cons]
     refine ⟨fun hm => ?_, ih hl.2⟩
     have hmem : ∀ (l : aB), i ∈ (put j o l).map (·.1) → i = j ∨ i ∈ l.map (·.1) := by
      intro l
      induction l with
      | nil => simp [put]
      | cons q l ih2 =>
       obtain ⟨i2, b2⟩ := q
       simp only [put]
       by_cases h2 : (i2 == j) = true
       ·simp only [h2, if_true, List.map_cons, List.mem_cons]
        rintro (h3 | h3)
        ·exact .inl h3
        ·exact .inr (.inr h3)
       ·simp only [h2, Bool.false_eq_true, if_false, List.map_cons, List.mem_cons]
        rintro (h3 | h3)
        ·exact .inr (.inl h3)
        ·exact (ih2 h3).imp id .inr
     rcases hmem l hm with h3 | h3
     ·exact h (by simpa using h3)
     ·exact hl.1 h3
theorem Bf {p : Prop} {l : List Prop} : ay (p :: l) ↔ p ∧ ay l := by
 cases l <;> simp [ay]
theorem ep {a b : List Prop} : ay (a ++ b) ↔ ay a ∧ ay b := by
 induction a with
 | nil => simp [ay]
 | cons p a ih => rw [List.cons_append, Bf, Bf, ih, and_assoc]
theorem Fg {orc : List (Nat × Bool)} {i : Nat} {r : dG} (h : ay (guess orc i r).iH) : ay r.iH ∧ (guess orc i r).val = r.val ∧ (guess orc i r).bM = r.bM := by
 unfold guess at h ⊢
 split
 ·rename_i t ht
  rw [ht] at h
  simp only at h
  split
  ·rename_i b hb
   rw [hb] at h
   simp only at h
   obtain ⟨h1, h2⟩ := Bf.1 h
   exact ⟨h2, by rw [hb, h1], rfl⟩
  ·rename_i hb
   split at h
   ·rename_i b hb2
    exact absurd hb2 (hb b)
   ·exact ⟨h, rfl, rfl⟩
 ·rename_i ht
  rw [ht] at h
  exact ⟨h, rfl, rfl⟩
section one
variable {c : Ctx} {st : aB} {D D' : Nat → Prop} {β : aL} {w : World}
theorem xW : ∀ {l : aB} {st : aB}, bg c st D β w → (∀ k o, look k l = some o → look k st = some o) → (l.map (·.1)).Nodup →
  bg c (bT (dF l) st) D β w ∧ cj (aI c st β) w β (aI c (bT (dF l) st) β) w β ∧
   ∀ k o, look k (gL l) = some o → look k (bT (dF l) st) = some o
 | [], st, h, _, _ => ⟨h, cj.refl _ _ _, fun k o hk => by simp [gL, look] at hk⟩
 | (j, o) :: l, st, h, hl, hn => by
  simp only [List.map_cons, List.nodup_cons] at hn
  have hj : look j st = some o := hl j o (by simp [look])
  have hne : ∀ k o', look k l = some o' → k ≠ j := fun k o' hk e => by
   subst e
   apply hn.1
   have : ∀ l : aB, look k l = some o' → k ∈ l.map (·.1) := by
    intro l
    induction l with
    | nil => simp [look]
    | cons q l ih =>
     obtain ⟨i, b⟩ := q
     simp only [look]
     split
     ·rename_i hh
      intro _
      have : i = k := by simpa using hh
      simp [this]
     ·intro h2
      simp only [List.map_cons, List.mem_cons]
      exact .inr (ih h2)
   exact this l hk
  by_cases hc : (o.row && o.wr) = true
  ·obtain ⟨q1, q2⟩ := h.freeze hj
   have hl' : ∀ k o', look k l = some o' → look k (put j { o with wr := false } st) = some o' := fun k o' hk => by
    rw [dQ (hne k o' hk)]
    refine hl k o' ?_
    have : ¬ j = k := fun e => hne k o' hk e.symm
    simp [look, this, hk]
   obtain ⟨r1, r2, r3⟩ := xW q1 hl' hn.2
   simp only [dF, hc, if_true, bT]
   refine ⟨r1, q2.trans r2, fun k o' hk => ?_⟩
   simp only [gL, List.map_cons, look] at hk
   split at hk
   ·rename_i hjk
    have hjk' : j = k := by simpa using hjk
    subst hjk'
    simp only [Bool.and_eq_true] at hc
    rw [if_pos hc.1] at hk
    simp only [Option.some.injEq] at hk
    subst hk
    rw [ja]
    have : cF (dF l) j = none := by
     cases he : cF (dF l) j with
     | none => rfl
     | some r =>
      exfalso
      have hmem : ∀ l : aB, ∀ r, cF (dF l) j = some r → ∃ o', look j l = some o' := by
       intro l
       induction l with
       | nil => intro r h; simp [dF, cF] at h
       | cons q l ih =>
        obtain ⟨i, b⟩ := q
        intro r h
        by_cases hij : i = j
        ·exact ⟨b, by simp [look, hij]⟩
        ·simp only [dF] at h
         split at h
         ·simp only [cF] at h
          cases h3 : cF (dF l) j with
          | some r' =>
           obtain ⟨o', ho'⟩ := ih r' h3
           exact ⟨o', by simp [look, hij, ho']⟩
          | none => rw [h3] at h; simp [hij] at h
         ·obtain ⟨o', ho'⟩ := ih r h
          exact ⟨o', by simp [look, hij, ho']⟩
      obtain ⟨o', ho'⟩ := hmem l r he
      exact hne j o' ho' rfl
    rw [this]
    simp only [fy]
   ·exact r3 k o' (by simpa [gL] using hk)
  ·have hl' : ∀ k o', look k l = some o' → look k st = some o' := fun k o' hk => by
    refine hl k o' ?_
    have : ¬ j = k := fun e => hne k o' hk e.symm
    simp [look, this, hk]
   obtain ⟨r1, r2, r3⟩ := xW h hl' hn.2
   have hf : dF ((j, o) :: l) = dF l := by simp [dF, hc]
   rw [hf]
   refine ⟨r1, r2, fun k o' hk => ?_⟩
   simp only [gL, List.map_cons, look] at hk
   split at hk
   ·rename_i hjk
    have hjk' : j = k := by simpa using hjk
    subst hjk'
    have ho : (if o.row = true then { o with wr := false } else o) = o := by
     split
     ·rename_i hr
      simp only [hr, Bool.true_and, Bool.not_eq_true] at hc
      cases o; simp_all
     ·rfl
    rw [ho] at hk
    simp only [Option.some.injEq] at hk
    subst hk
    rw [ja]
    have : cF (dF l) j = none := by
     cases he : cF (dF l) j with
     | none => rfl
     | some r =>
      exfalso
      have hmem : ∀ l : aB, ∀ r, cF (dF l) j = some r → ∃ o', look j l = some o' := by
       intro l
       induction l with
       | nil => intro r h; simp [dF, cF] at h
       | cons q l ih =>
        obtain ⟨i, b⟩ := q
        intro r h
        by_cases hij : i = j
        ·exact ⟨b, by simp [look, hij]⟩
        ·simp only [dF] at h
         split at h
         ·simp only [cF] at h
          cases h3 : cF (dF l) j with
          | some r' =>
           obtain ⟨o', ho'⟩ := ih r' h3
           exact ⟨o', by simp [look, hij, ho']⟩
          | none => rw [h3] at h; simp [hij] at h
         ·obtain ⟨o', ho'⟩ := ih r h
          exact ⟨o', by simp [look, hij, ho']⟩
      obtain ⟨o', ho'⟩ := hmem l r he
      exact hne j o' ho' rfl
    rw [this]
    exact hj
   ·exact r3 k o' (by simpa [gL] using hk)
theorem tX : ∀ (e f : List (Nat × Option aD)) (st : aB), bT (e ++ f) st = bT f (bT e st)
 | [], f, st => rfl
 | (k, some o) :: e, f, st => by simp only [List.cons_append, bT, tX e]
 | (k, none) :: e, f, st => by simp only [List.cons_append, bT, tX e]
theorem KS {M : Nat → Prop} {x : Value} {v : AV} (h : ofConst x = some v) : bn M w β v x := by
 unfold ofConst at h
 split at h
 ·simp only [Option.some.injEq] at h; subst h; exact aV.bz (.bV (.bool .nil) rfl)
 ·simp only [Option.some.injEq] at h; subst h; exact aV.bz (.bV (.int .nil) rfl)
 ·simp only [Option.some.injEq] at h; subst h; exact aV.bz (.bV (.vnil .nil) rfl)
 ·simp only [Option.some.injEq] at h; subst h; exact aV.bz (.bV (.void rfl .nil) rfl)
 ·simp only [Option.some.injEq] at h; subst h; exact aV.bz (.bV (.str .nil) rfl)
 ·simp at h
theorem Hq {M : Nat → Prop} {s : aE} {a : Act} (h : qW M w β s.bX a.tmps) : ∀ x v, s.eU x = some v → bn M w β v (a.eval x) := by
 intro x v hx
 cases x with
 | tmp t =>
  obtain ⟨y, hy, hv⟩ := h t v hx
  simp only [Act.eval, Array.getD_eq_getD_getElem?, hy, Option.getD_some]
  exact hv
 | const y => exact KS hx
 | global g => simp [aE.eU] at hx
 | func f =>
  simp only [aE.eU, Option.some.injEq] at hx
  subst hx
  exact aV.bz (.bV (.func (vs := []) .nil rfl .nil) rfl)
theorem Lm {M : Nat → Prop} {ops : Array Oper} {sl : List (Nat × AV)} {a : Act} (h : qW M w β sl a.tmps) {o : Oper} {b : Bool} (hw : lD ops.toList sl o = some b) :
  Region.wanted o (yielded ops a.tmps) = b := by
 unfold lD at hw
 unfold Region.wanted
 cases hg : o.guard with
 | none => rw [hg] at hw; simp only [Option.some.injEq] at hw; simp [hw]
 | some gw =>
  obtain ⟨g, want⟩ := gw
  rw [hg] at hw
  simp only at hw ⊢
  cases hp : ops.toList[g]? with
  | none => rw [hp] at hw; simp at hw
  | some p =>
   rw [hp] at hw
   simp only at hw
   cases hd : p.dst with
   | none => rw [hd] at hw; simp at hw
   | some d =>
    rw [hd] at hw
    simp only at hw
    cases hl : look d sl with
    | none => rw [hl] at hw; simp at hw
    | some v =>
     rw [hl] at hw
     cases v <;> try simp only [reduceCtorEq] at hw
     case tuple l =>
      cases l with
      | cons _ _ => simp at hw
      | nil =>
       simp only [Option.some.injEq] at hw
       subst hw
       obtain ⟨x, hx, hv⟩ := h d _ hl
       obtain ⟨xs, h1, h2⟩ := hv
       subst h1
       have hy : yielded ops a.tmps g = none := by
        have hp' : ops[g]? = some p := by simpa using hp
        simp [yielded, hp', hd, hx]
       rw [hy]
       simp
     case bool t =>
      obtain ⟨x, hx, hv⟩ := h d _ hl
      have := hv.bool
      subst this
      have hy : yielded ops a.tmps g = some t := by
       have hp' : ops[g]? = some p := by simpa using hp
       simp [yielded, hp', hd, hx]
      rw [hy]
      cases t <;> cases want <;> simp_all
variable {P : Program} {T : Types} (hT : dn P T) {Γ : aW} (hΓ : br P Γ) {orc : List (Nat × Bool)}
include hT hΓ in
theorem I0 {ops : Array Oper} {nt N0 i : Nat} {sl : List (Nat × AV)} {a : Act} (hrel : Rel c nt D sl st a w) {o : Oper} {r : Rec} (hr : jW T Γ orc ops.toList ⟨sl, st, N0⟩ i o = some r) (need : r.res.need)
  (hdst : ∀ d, o.dst = some d → d < nt) (hD : ∀ k, D k → D' k) (hK : ∀ k, N0 + bY * i ≤ k → k < N0 + bY * i + bY → ¬ D k ∧ D' k) {K : Act → World → Prop} {Q : Exit → Act → World → Prop}
  (hn : ∀ a' w', Rel c nt D' (qa o.dst r.res.val sl) (bT r.res.bM st) a' w' → K a' w') :
  if Region.wanted o (yielded ops a.tmps) then o.wp P a w K Q else K (a.put o.dst undef) w := by
 obtain ⟨hdef, hsz, β, hw, hs⟩ := hrel
 have hfin : ∀ {bM : List (Nat × Option aD)} {v : AV} {x : Value} {w' : World}, ee c st D' β w bM v x w' → Rel c nt D' (qa o.dst v sl) (bT bM st) (a.put o.dst x) w' := by
  rintro bM v x w' ⟨β', q1, q2, q3⟩
  refine ⟨?_, ?_, β', q1, fun t u ht => ?_⟩
  ·cases o.dst <;> simpa [Act.put] using hdef
  ·cases o.dst <;> simpa [Act.put] using hsz
  ·rw [Ba] at ht
   split at ht
   ·rename_i hd
    simp only [Option.some.injEq] at ht
    subst ht
    have := hdst t hd
    refine ⟨x, ?_, q3⟩
    simp only [hd, Act.put]
    exact Array.getElem?_setIfInBounds_self_of_lt (by rw [hsz]; exact this)
   ·rename_i hd
    obtain ⟨y, hy, hv⟩ := hs t u ht
    refine ⟨y, ?_, hv.gy q2⟩
    cases hdd : o.dst with
    | none => simpa [Act.put] using hy
    | some d =>
     have hne : d ≠ t := fun e => hd (by rw [hdd, e])
     simp only [Act.put]
     rw [Array.getElem?_setIfInBounds_ne hne]; exact hy
 unfold jW at hr
 simp only [force_eq] at hr
 cases hwa : lD ops.toList sl o with
 | none => rw [hwa] at hr; simp at hr
 | some b =>
  rw [hwa] at hr
  rw [Lm hs hwa]
  cases b with
  | false =>
   simp only [Option.some.injEq] at hr
   subst hr
   simp only [Bool.false_eq_true, if_false]
   exact hn _ _ (hfin (dc hw hD ⟨[], by simp [undef], trivial⟩))
  | true =>
   simp only [if_true]
   simp only at hr
   have hρ := Hq (s := ⟨sl, st, N0⟩) hs
   cases hop : jA T Γ (N0 + bY * i) (aE.eU ⟨sl, st, N0⟩) (pick st (ko (aE.eU ⟨sl, st, N0⟩) o.op)) o.op with
   | some q =>
    rw [hop] at hr
    simp only [Option.some.injEq] at hr
    subst hr
    obtain ⟨need, e1, e2⟩ := Fg need
    simp only [e1, e2] at hn
    refine (Is hT hΓ hw (fun k o hk => ?_) hD hK hρ (fun _ => rfl) hop need).wp fun x w' hx => hn _ _ (hfin hx)
    rw [kn] at hk
    split at hk
    ·exact hk
    ·simp at hk
   | none =>
    rw [hop] at hr
    simp only at hr
    cases hfe : dF (pick st (ko (aE.eU ⟨sl, st, N0⟩) o.op)) with
    | nil => rw [hfe] at hr; simp at hr
    | cons e1 e2 =>
     rw [hfe] at hr
     simp only at hr
     cases hop2 : jA T Γ (N0 + bY * i) (aE.eU ⟨sl, st, N0⟩) (gL (pick st (ko (aE.eU ⟨sl, st, N0⟩) o.op))) o.op with
     | none => rw [hop2] at hr; simp at hr
     | some q =>
      rw [hop2] at hr
      simp only [Option.some.injEq] at hr
      subst hr
      obtain ⟨need, e1', _⟩ := Fg need
      simp only [e1'] at hn
      obtain ⟨f1, f2, f3⟩ := xW (l := pick st (ko (aE.eU ⟨sl, st, N0⟩) o.op)) hw (fun k o hk => by
       rw [kn] at hk
       split at hk
       ·exact hk
       ·simp at hk) rO
      refine (Is hT hΓ f1 f3 hD hK (fun x v hx => (hρ x v hx).gy f2) (fun _ => rfl) hop2 need).wp fun x w' hx => hn _ _ (hfin ?_)
      obtain ⟨β', q1, q2, q3⟩ := hx
      rw [← hfe]
      refine ⟨β', ?_, ?_, ?_⟩
      ·rw [tX]; exact q1
      ·rw [tX]; exact f2.trans q2
      ·rw [tX]; exact q3
end one
end Go.Am

/- Regions, in whatever order their edges allow. -/
namespace Go.Am
open AV
section locality
variable {T : Types} {Γ : aW} {orc : List (Nat × Bool)}
theorem yF {ρ ρ' : Operand → Option AV} : ∀ {l : List Operand}, (∀ x ∈ l, ρ x = ρ' x) → dN ρ l = dN ρ' l
 | [], _ => rfl
 | x :: l, h => by
  have e : dN ρ l = dN ρ' l := yF fun y hy => h y (List.mem_cons_of_mem _ hy)
  simp only [dN, h x (by simp), e]
theorem Bu {ρ ρ' : Operand → Option AV} : ∀ {l : List (Nat × Operand)}, (∀ x ∈ l, ρ x.2 = ρ' x.2) → gG ρ l = gG ρ' l
 | [], _ => rfl
 | (i, x) :: l, h => by
  have e : gG ρ l = gG ρ' l := Bu fun y hy => h y (List.mem_cons_of_mem _ hy)
  simp only [gG, h (i, x) (by simp), e]
theorem Gc {ρ ρ' : Operand → Option AV} : ∀ {l : List Operand}, (∀ x ∈ l, ρ x = ρ' x) → kS ρ l = kS ρ' l
 | [], _ => rfl
 | x :: l, h => by
  have e : kS ρ l = kS ρ' l := Gc fun y hy => h y (List.mem_cons_of_mem _ hy)
  simp only [kS, h x (by simp), e]
theorem QI {ρ ρ' : Operand → Option AV} {op : Op} (h : ∀ x ∈ op.operands.toList, ρ x = ρ' x) : ko ρ op = ko ρ' op := by
 have e := Gc h
 unfold ko
 split
 ·rfl
 ·cases op <;> simp only [EZ] <;> try exact e
  case fieldAddr t x i hmv =>
   rw [h x (by simp [Op.operands])]
   split
   ·rfl
   ·exact e
  case indexAddr t x i hmv =>
   rw [h x (by simp [Op.operands])]
   split
   ·rfl
   ·exact e
theorem ED {K : Nat} {ρ ρ' : Operand → Option AV} {st : aB} {op : Op} (h : ∀ x ∈ op.operands.toList, ρ x = ρ' x) : dS T Γ K ρ st op = dS T Γ K ρ' st op := by
 cases op <;> simp only [Op.operands] at h <;> simp only [dS]
 case move x => rw [h x (by simp)]
 case assign x => rw [h x (by simp)]
 case pick a b c => rw [h a (by simp), h b (by simp), h c (by simp)]
 case box t x => rw [h x (by simp)]
 case build t ps => rw [Bu fun p hp => h p.2 (by simp; exact ⟨p.1, by simpa using hp⟩)]
 case buildSlice t n ps => rw [Bu fun p hp => h p.2 (by simp; exact ⟨p.1, by simpa using hp⟩)]
 case load t a => rw [h a (by simp)]
 case store t a x => rw [h a (by simp), h x (by simp)]
 case nilCheck x => rw [h x (by simp)]
 case binOp o t x y u => rw [h x (by simp), h y (by simp)]
 case unOp o t x => rw [h x (by simp)]
 case convert a b x => rw [h x (by simp)]
 case sliceToArrayPointer t x => rw [h x (by simp)]
 case makeFunc f a b =>
  have e : dN ρ b.toList = dN ρ' b.toList := yF fun x hx => h x (by simp at hx ⊢; exact .inr hx)
  cases f <;> simp only [e]
 case makeSlice t a b => rw [h a (by simp), h b (by simp)]
 case slice t x lo hi mx =>
  have e1 : ∀ d, cy ρ d lo = cy ρ' d lo := fun d => by
   cases lo with
   | none => rfl
   | some y => simp only [cy, h y (by simp)]
  have e2 : ∀ d, cy ρ d hi = cy ρ' d hi := fun d => by
   cases hi with
   | none => rfl
   | some y => simp only [cy, h y (by simp)]
  have e3 : ∀ d, cy ρ d mx = cy ρ' d mx := fun d => by
   cases mx with
   | none => rfl
   | some y => simp only [cy, h y (by simp)]
  simp only [h x (by simp), e1, e2, e3]
 case fieldAddr t x i => rw [h x (by simp)]
 case field t x i => rw [h x (by simp)]
 case indexAddr t x i => rw [h x (by simp), h i (by simp)]
 case index t x i => rw [h x (by simp), h i (by simp)]
 case extract x i => rw [h x (by simp)]
 case call c =>
  have ha : ∀ x ∈ c.args.toList, ρ x = ρ' x := fun x hx => h x (by simp [Call.operands]; right; simpa using hx)
  obtain ⟨callee, args, argTypes⟩ := c
  cases callee with
  | value f => simp only [lW, yF ha, h f (by simp [Call.operands])]
  | invoke r m => simp [lW]
  | builtin b => cases b <;> simp only [lW, yF ha]
theorem B4 {ρ ρ' : Operand → Option AV} {d : Int} {x : Option Operand} (h : ∀ y, x = some y → ρ y = ρ' y) : cy ρ d x = cy ρ' d x := by
 cases x with
 | none => rfl
 | some y => simp only [cy, h y rfl]
theorem XU {ρ ρ' : Operand → Option AV} {st : aB} {op : Op} (h : ∀ x ∈ op.operands.toList, ρ x = ρ' x) : oR T ρ st op = oR T ρ' st op := by
 cases op <;> simp only [oR]
 case load t a => rw [h a (by simp [Op.operands])]
 case store t a x => rw [h a (by simp [Op.operands])]
 case indexAddr t x ix => rw [h x (by simp [Op.operands]), h ix (by simp [Op.operands])]
 case index t x ix => rw [h ix (by simp [Op.operands])]
 case slice t x lo hi mx =>
  rw [h x (by simp [Op.operands])]
  have e1 : ∀ d, cy ρ d lo = cy ρ' d lo := fun d => B4 fun y hy => h y (by simp [Op.operands, hy])
  have e2 : ∀ d, cy ρ d hi = cy ρ' d hi := fun d => B4 fun y hy => h y (by simp [Op.operands, hy])
  have e3 : ∀ d, cy ρ d mx = cy ρ' d mx := fun d => B4 fun y hy => h y (by simp [Op.operands, hy])
  simp only [e1, e2, e3]
theorem Vy {ρ ρ' : Operand → Option AV} {op : Op} (h : ∀ x ∈ op.operands.toList, ρ x = ρ' x) : qE T ρ op = qE T ρ' op := by
 cases op <;> simp only [qE]
 case binOp o t x y u => rw [h x (by simp [Op.operands]), h y (by simp [Op.operands])]
 case convert s d x => rw [h x (by simp [Op.operands])]
theorem IQ {K : Nat} {ρ ρ' : Operand → Option AV} {st : aB} {op : Op} (h : ∀ x ∈ op.operands.toList, ρ x = ρ' x) : jA T Γ K ρ st op = jA T Γ K ρ' st op := by
 have h1 : nP T ρ op = nP T ρ' op := by
  cases op <;> simp only [nP]
  case binOp o t x y u => rw [h x (by simp [Op.operands]), h y (by simp [Op.operands])]
 have h2 : oH T Γ K (mo ρ) st op = oH T Γ K (mo ρ') st op := by
  have e : ∀ x ∈ op.operands.toList, mo ρ x = mo ρ' x := fun x hx => by simp only [mo, h x hx]
  simp only [oH, ED e, XU e, Vy e]
 have h3 : nF T st ρ op = nF T st ρ' op := by
  cases op <;> simp only [nF]
  case binOp o t x y u => rw [h x (by simp [Op.operands]), h y (by simp [Op.operands])]
  case convert s d x => rw [h x (by simp [Op.operands])]
  case index t x ix =>
   have e := h ix (by simp [Op.operands])
   cases x <;> (try rfl)
   case const v => cases v <;> (try rfl); simp only [e]
 unfold jA
 rw [h1, h2, h3, ED h]
theorem DO {st st' : aB} : ∀ {ks : List Nat}, (∀ k ∈ ks, look k st = look k st') → pick st ks = pick st' ks
 | [], _ => rfl
 | k :: ks, h => by
  have e : pick st ks = pick st' ks := DO fun j hj => h j (List.mem_cons_of_mem _ hj)
  simp only [pick, h k (by simp), e]
theorem Wv {opsL : List Oper} {s s' : aE} {i : Nat} {o : Oper} {r : Rec} (h : jW T Γ orc opsL s i o = some r) (hsl : ∀ t ∈ yf opsL o, look t s.bX = look t s'.bX)
  (hk : ∀ k ∈ r.asks, look k s.store = look k s'.store) (hn : s.next = s'.next) : jW T Γ orc opsL s' i o = some r := by
 have hw : lD opsL s.bX o = lD opsL s'.bX o := by
  unfold lD
  cases hg : o.guard with
  | none => rfl
  | some gw =>
   obtain ⟨g, want⟩ := gw
   simp only
   cases hp : opsL[g]? with
   | none => rfl
   | some p =>
    simp only
    cases hd : p.dst with
    | none => rfl
    | some d =>
     simp only
     rw [hsl d (by simp [yf, hg, hp, hd])]
 have hρ : ∀ x ∈ o.op.operands.toList, s.eU x = s'.eU x := fun x hx => by
  cases x with
  | tmp t => exact hsl t (by
    simp only [yf, List.mem_append, List.mem_filterMap]
    exact .inl ⟨_, hx, rfl⟩)
  | _ => rfl
 unfold jW at h ⊢
 simp only [force_eq] at h ⊢
 rw [← hw]
 cases hb : lD opsL s.bX o with
 | none => rw [hb] at h; simp at h
 | some b =>
  rw [hb] at h
  cases b with
  | false => exact h
  | true =>
   simp only at h ⊢
   rw [← QI hρ, ← hn]
   have hasks : r.asks = ko s.eU o.op := by
    split at h
    ·simp only [Option.some.injEq] at h; subst h; rfl
    ·split at h
     ·simp at h
     ·split at h
      ·simp only [Option.some.injEq] at h; subst h; rfl
      ·simp at h
   rw [hasks] at hk
   rw [← DO hk, ← IQ hρ]
   have : ∀ st', jA T Γ (s.next + bY * i) s'.eU st' o.op = jA T Γ (s.next + bY * i) s.eU st' o.op := fun st' => (IQ hρ).symm
   simp only [this]
   exact h
end locality
def dA {α : Type} (W : Nat → Option α) (S : Nat → Bool) : Nat → Option α
 | 0 => none
 | n + 1 => if S n then (match W n with
  | some v => some v
  | none => dA W S n) else dA W S n
theorem j3 {α : Type} {W : Nat → Option α} {S S' : Nat → Bool} : ∀ {n : Nat}, (∀ j, j < n → W j ≠ none → S j = S' j) → dA W S n = dA W S' n
 | 0, _ => rfl
 | n + 1, h => by
  have ih := j3 (W := W) (S := S) (S' := S') (n := n) fun j hj => h j (by omega)
  simp only [dA]
  cases hW : W n with
  | none => cases S n <;> cases S' n <;> simp [ih]
  | some v => rw [h n (by omega) (by simp [hW]), ih]
theorem A7 {α : Type} {W : Nat → Option α} {S : Nat → Bool} {i : Nat} (hi : S i = false) : ∀ {n : Nat}, i < n → (∀ j, i < j → j < n → S j = true → W j = none) →
  dA W (fun j => S j || j == i) n = match W i with
   | some v => some v
   | none => dA W S n
 | 0, h, _ => by omega
 | n + 1, h, hl => by
  simp only [dA]
  by_cases hn : n = i
  ·subst hn
   have : dA W (fun j => S j || j == n) n = dA W S n := j3 fun j hj _ => by
    have : (j == n) = false := by simp; omega
    simp [this]
   simp [hi, this]
  ·have ih := A7 (W := W) hi (n := n) (by omega) fun j h1 h2 => hl j h1 (by omega)
   have hni : (n == i) = false := by simpa using hn
   simp only [hni, Bool.or_false]
   cases hS : S n with
   | false => simpa [hS] using ih
   | true =>
    have := hl n (by omega) (by omega) hS
    simp [this, ih]
def gF (S : Nat → Bool) : Nat → Nat
 | 0 => 0
 | n + 1 => gF S n + if S n then 0 else 1
theorem Ho {S : Nat → Bool} : ∀ {n : Nat}, gF S n = 0 → ∀ i, i < n → S i = true
 | 0, _, i, h => by omega
 | n + 1, h, i, hi => by
  simp only [gF] at h
  by_cases hn : i = n
  ·subst hn
   cases hs : S i with
   | true => rfl
   | false => rw [hs] at h; simp at h
  ·exact Ho (n := n) (by omega) i (by omega)
theorem Gn {S : Nat → Bool} {i : Nat} (hi : S i = false) : ∀ {n : Nat}, i < n → gF (fun j => S j || j == i) n + 1 = gF S n
 | 0, h => by omega
 | n + 1, h => by
  simp only [gF]
  by_cases hn : n = i
  ·subst hn
   have : gF (fun j => S j || j == n) n = gF S n := by
    have : ∀ m, m ≤ n → gF (fun j => S j || j == n) m = gF S m := by
     intro m
     induction m with
     | zero => intro _; rfl
     | succ m ih =>
      intro hm
      have h1 : (m == n) = false := by simp; omega
      simp only [gF, h1, Bool.or_false, ih (by omega)]
    exact this n (Nat.le_refl _)
   simp [hi, this]
  ·have ih := Gn (S := S) hi (n := n) (by omega)
   have hni : (n == i) = false := by simpa using hn
   simp only [hni, Bool.or_false]
   omega
theorem Zu {n : Nat} : gF (fun _ => false) n = n := by
 induction n with
 | zero => rfl
 | succ n ih => simp [gF, ih]
theorem qm {a b : List Nat} {x : Nat} (ha : x ∈ a) (hb : x ∈ b) : meet a b = true := by
 simp only [meet, List.any_eq_true]
 exact ⟨x, ha, x, hb, by simp⟩
def Down (opsL : List Oper) (S : Nat → Bool) : Prop := ∀ (i : Nat) (o : Oper), opsL[i]? = some o → S i = true → ∀ e ∈ o.after.toList, Region.binds .any e = true → S e.on = true
theorem Dw {acc : List Nat} {j : Nat} : ∀ (es : List Edge) (m : Nat), (es.foldl (fun m e => if Region.binds .any e then m ||| (1 <<< e.on) ||| acc.getD e.on 0 else m) m).testBit j = true →
  m.testBit j = true ∨ ∃ e ∈ es, Region.binds .any e = true ∧ (j = e.on ∨ (acc.getD e.on 0).testBit j = true)
 | [], m, h => .inl h
 | e :: es, m, h => by
  simp only [List.foldl_cons] at h
  rcases Dw es _ h with h1 | ⟨e', h1, h2, h3⟩
  ·split at h1
   ·rename_i hb
    simp only [Nat.testBit_or, Bool.or_eq_true] at h1
    rcases h1 with (h1 | h1) | h1
    ·exact .inl h1
    ·refine .inr ⟨e, by simp, hb, .inl ?_⟩
     simp only [Nat.one_shiftLeft, Nat.testBit_two_pow, decide_eq_true_eq] at h1
     exact h1.symm
    ·exact .inr ⟨e, by simp, hb, .inr h1⟩
   ·exact .inl h1
  ·exact .inr ⟨e', by simp [h1], h2, h3⟩
theorem EU {opsL : List Oper} {S : Nat → Bool} (hd : Down opsL S) : ∀ (l done : List Oper) (acc : List Nat), opsL = done ++ l → acc.length = done.length →
  (∀ (i m : Nat) (o : Oper), acc[i]? = some m → opsL[i]? = some o → (∀ e ∈ o.after.toList, Region.binds .any e = true → S e.on = true) → ∀ j, m.testBit j = true → S j = true) →
  (mC l acc).length = opsL.length ∧ ∀ (i m : Nat) (o : Oper), (mC l acc)[i]? = some m → opsL[i]? = some o → (∀ e ∈ o.after.toList, Region.binds .any e = true → S e.on = true) → ∀ j, m.testBit j = true → S j = true
 | [], done, acc, he, hl, h => by simp only [mC]; exact ⟨by rw [hl, he]; simp, h⟩
 | o :: l, done, acc, he, hl, h => by
  simp only [mC]
  refine EU hd l (done ++ [o]) _ (by simp [he]) (by simp [hl]) fun i m p hi hp hedge j hj => ?_
  by_cases hlt : i < acc.length
  ·rw [List.getElem?_append_left hlt] at hi
   exact h i m p hi hp hedge j hj
  ·have hil : i < (acc ++ [o.after.toList.foldl (fun m e => if Region.binds .any e then m ||| (1 <<< e.on) ||| acc.getD e.on 0 else m) 0]).length := (List.getElem?_eq_some_iff.1 hi).1
   simp only [List.length_append, List.length_cons, List.length_nil] at hil
   have hi' : i = acc.length := by omega
   subst hi'
   simp only [List.getElem?_concat_length, Option.some.injEq] at hi
   subst hi
   have hpo : p = o := by
    rw [he, hl] at hp
    simpa using hp.symm
   subst hpo
   rcases Dw _ _ hj with h1 | ⟨e, h1, h2, h3⟩
   ·simp at h1
   ·rcases h3 with rfl | h3
    ·exact hedge e h1 h2
    ·rw [List.getD_eq_getElem?_getD] at h3
     cases hm : acc[e.on]? with
     | none => rw [hm] at h3; simp at h3
     | some m' =>
      rw [hm] at h3
      have hlt2 := (List.getElem?_eq_some_iff.1 hm).1
      have ho : ∃ p', opsL[e.on]? = some p' := by
       rw [he]
       exact ⟨_, List.getElem?_eq_getElem (by simp; omega)⟩
      obtain ⟨p', hp'⟩ := ho
      exact h e.on m' p' hm hp' (hd e.on p' hp' (hedge e h1 h2)) j h3
theorem vM {ops : List Oper} : ∀ {l : List Oper} {rs : List Rec} {as' : List Nat} {i : Nat} {o : Oper} {r : Rec} {a : Nat}, l[i]? = some o → rs[i]? = some r → as'[i]? = some a →
  (o4 l rs as' ops)[i]? = some (iE ops o r, a)
 | o' :: l, r' :: rs, a' :: as', 0, o, r, a, h1, h2, h3 => by simp at h1 h2 h3; subst h1; subst h2; subst h3; simp [o4]
 | o' :: l, r' :: rs, a' :: as', i + 1, o, r, a, h1, h2, h3 => by
  simp only [o4, List.getElem?_cons_succ]
  exact vM (by simpa using h1) (by simpa using h2) (by simpa using h3)
 | [], _, _, i, o, r, a, h1, _, _ => by simp at h1
 | _ :: _, [], _, i, o, r, a, _, h2, _ => by simp at h2
 | _ :: _, _ :: _, [], i, o, r, a, _, _, h3 => by simp at h3
theorem Dh {i : Nat} {t : Touch} : ∀ {l : List (Touch × Nat)} {j : Nat} {u : Touch} {a : Nat}, uC i t l = true → l[j]? = some (u, a) → t.ji u = true → a.testBit i = true
 | [], j, u, a, _, h, _ => by simp at h
 | (u', a') :: l, 0, u, a, h, hj, hc => by
  simp at hj
  obtain ⟨rfl, rfl⟩ := hj
  simp only [uC, Bool.and_eq_true, Bool.or_eq_true, Bool.not_eq_true'] at h
  rcases h.1 with h1 | h1
  ·rw [hc] at h1; simp at h1
  ·exact h1
 | (u', a') :: l, j + 1, u, a, h, hj, hc => by
  simp only [uC, Bool.and_eq_true] at h
  exact Dh h.2 (by simpa using hj) hc
theorem CA : ∀ {l : List (Touch × Nat)} {b i j : Nat} {t u : Touch} {a a' : Nat}, qB l b = true → l[i]? = some (t, a) → l[j]? = some (u, a') → i < j → t.ji u = true → a'.testBit (b + i) = true
 | [], b, i, j, t, u, a, a', _, h, _, _, _ => by simp at h
 | (t', x) :: l, b, 0, j, t, u, a, a', h, hi, hj, hij, hc => by
  simp at hi
  obtain ⟨rfl, rfl⟩ := hi
  simp only [qB, Bool.and_eq_true] at h
  cases j with
  | zero => omega
  | succ j => simpa using Dh h.1 (by simpa using hj) hc
 | (t', x) :: l, b, i + 1, j, t, u, a, a', h, hi, hj, hij, hc => by
  simp only [qB, Bool.and_eq_true] at h
  cases j with
  | zero => omega
  | succ j =>
   have := CA h.2 (by simpa using hi) (by simpa using hj) (by omega) hc
   have e : b + 1 + i = b + (i + 1) := by omega
   rwa [e] at this
theorem IU : ∀ {l : List Oper} {b i : Nat} {o : Oper}, ql l b = true → l[i]? = some o → ∀ e ∈ o.after.toList, Region.binds .any e = true → e.on < b + i
 | [], b, i, o, _, h, _, _, _ => by simp at h
 | o' :: l, b, 0, o, h, hi, e, he, hb => by
  simp at hi
  subst hi
  simp only [ql, Bool.and_eq_true, List.all_eq_true, Bool.or_eq_true, Bool.not_eq_true', decide_eq_true_eq] at h
  rcases h.1 e he with h1 | h1
  ·rw [hb] at h1; simp at h1
  ·simpa using h1
 | o' :: l, b, i + 1, o, h, hi, e, he, hb => by
  simp only [ql, Bool.and_eq_true] at h
  have := IU h.2 (by simpa using hi) e he hb
  omega
end Go.Am

/- Regions. -/
namespace Go.Am
open AV
theorem B8 {α : Type} {W : Nat → Option α} : ∀ {n : Nat}, dA W (fun _ => true) (n + 1) = match dA (fun q => W (q + 1)) (fun _ => true) n with
  | some v => some v
  | none => W 0
 | 0 => by simp only [dA, if_true]; cases W 0 <;> rfl
 | n + 1 => by
  have ih := B8 (W := W) (n := n)
  rw [dA, if_pos rfl, ih]
  simp only [dA, if_true]
  cases W (n + 1) <;> rfl
def gz (l : List Oper) (rs : List Rec) (t : Nat) (q : Nat) : Option AV :=
 match l[q]?, rs[q]? with
 | some o, some r => if o.dst = some t then some r.res.val else none
 | _, _ => none
def gm (l : List Oper) (rs : List Rec) (k : Nat) (q : Nat) : Option (Option aD) :=
 match l[q]?, rs[q]? with
 | some _, some r => cF r.res.bM k
 | _, _ => none
def orElse {α : Type} (a : Option α) (b : Option α) : Option α := match a with
 | some v => some v
 | none => b
def p9 (a : Option (Option aD)) (b : Option aD) : Option aD := match a with
 | some r => r
 | none => b
section trace
variable {T : Types} {Γ : aW} {orc : List (Nat × Bool)}
theorem zN {opsL : List Oper} : ∀ (l : List Oper) (i : Nat) (s s' : aE) (need : List Prop) (rs : List Rec), iw T Γ orc opsL l i s = some (s', need, rs) →
  rs.length = l.length ∧ (ay need → ∀ r ∈ rs, r.res.need) ∧ s'.next = s.next ∧
  (∀ t, look t s'.bX = orElse (dA (gz l rs t) (fun _ => true) l.length) (look t s.bX)) ∧ (∀ k, look k s'.store = p9 (dA (gm l rs k) (fun _ => true) l.length) (look k s.store)) ∧
  ∀ (p : Nat) (o : Oper) (r : Rec), l[p]? = some o → rs[p]? = some r → ∃ sp : aE, jW T Γ orc opsL sp (i + p) o = some r ∧ sp.next = s.next ∧
   (∀ t, look t sp.bX = orElse (dA (gz l rs t) (fun _ => true) p) (look t s.bX)) ∧ (∀ k, look k sp.store = p9 (dA (gm l rs k) (fun _ => true) p) (look k s.store))
 | [], i, s, s', need, rs, h => by
  simp only [iw, Option.some.injEq, Prod.mk.injEq] at h
  obtain ⟨rfl, rfl, rfl⟩ := h
  exact ⟨rfl, fun _ r hr => by simp at hr, rfl, fun t => rfl, fun k => rfl, fun p o r hp => by simp at hp⟩
 | o :: l, i, s, s', need, rs, h => by
  simp only [iw] at h
  cases hr : jW T Γ orc opsL s i o with
  | none => rw [hr] at h; simp at h
  | some r =>
   rw [hr] at h
   simp only at h
   cases ht : iw T Γ orc opsL l (i + 1) (kG s o r.res) with
   | none => rw [ht] at h; simp at h
   | some q =>
    obtain ⟨s1, n1, rs1⟩ := q
    rw [ht] at h
    simp only [Option.some.injEq, Prod.mk.injEq] at h
    obtain ⟨rfl, rfl, rfl⟩ := h
    obtain ⟨h1, h2, h3, h4, h5, h6⟩ := zN l (i + 1) (kG s o r.res) s1 n1 rs1 ht
    have eS : ∀ t, (fun q => gz (o :: l) (r :: rs1) t (q + 1)) = gz l rs1 t := fun t => by funext q; simp [gz]
    have eK : ∀ k, (fun q => gm (o :: l) (r :: rs1) k (q + 1)) = gm l rs1 k := fun k => by funext q; simp [gm]
    have gS : ∀ t n, orElse (dA (gz l rs1 t) (fun _ => true) n) (look t (kG s o r.res).bX) = orElse (dA (gz (o :: l) (r :: rs1) t) (fun _ => true) (n + 1)) (look t s.bX) := fun t n => by
     rw [B8, eS]
     cases dA (gz l rs1 t) (fun _ => true) n with
     | some v => rfl
     | none =>
      simp only [orElse, kG, Ba, gz, List.getElem?_cons_zero]
      split <;> rfl
    have gK : ∀ k n, p9 (dA (gm l rs1 k) (fun _ => true) n) (look k (kG s o r.res).store) = p9 (dA (gm (o :: l) (r :: rs1) k) (fun _ => true) (n + 1)) (look k s.store) := fun k n => by
     rw [B8, eK]
     cases dA (gm l rs1 k) (fun _ => true) n with
     | some v => rfl
     | none =>
      simp only [p9, kG, ja, gm, List.getElem?_cons_zero]
      cases cF r.res.bM k <;> rfl
    refine ⟨by simp [h1], fun hn r' hr' => ?_, h3, fun t => ?_, fun k => ?_, fun p o' r' hp hrp => ?_⟩
    ·rcases List.mem_cons.1 hr' with rfl | hr'
     ·exact (ep.1 hn).1
     ·exact h2 (ep.1 hn).2 r' hr'
    ·rw [h4 t, gS]; rfl
    ·rw [h5 k, gK]; rfl
    ·cases p with
     | zero =>
      simp only [List.getElem?_cons_zero, Option.some.injEq] at hp hrp
      subst hp; subst hrp
      exact ⟨s, hr, rfl, fun t => rfl, fun k => rfl⟩
     | succ p =>
      obtain ⟨sp, a1, a2, a3, a4⟩ := h6 p o' r' (by simpa using hp) (by simpa using hrp)
      refine ⟨sp, by rw [← a1]; congr 1; omega, a2, fun t => ?_, fun k => ?_⟩
      ·rw [a3 t, gS]
      ·rw [a4 k, gK]
end trace
section region
variable {c : Ctx} {P : Program} {T : Types} (hT : dn P T) {Γ : aW} (hΓ : br P Γ) {orc : List (Nat × Bool)}
theorem bg.ext {st st' : aB} {D : Nat → Prop} {β : aL} {w : World} (h : bg c st D β w) (he : ∀ k, look k st = look k st') : bg c st' D β w ∧ aI c st' β = aI c st β := by
 have hM : aI c st' β = aI c st β := by
  funext b
  simp only [aI, he]
 refine ⟨?_, hM⟩
 refine { h with obj := fun k o hk x hx => ?_, cO := fun k o hk => h.cO k o (by rw [he]; exact hk), inj := fun k k' o o' b N N' h1 h2 => ?_, new := fun k o b N h1 => ?_ }
 ·rw [hM]; exact h.obj k o (by rw [he]; exact hk) x hx
 ·exact h.inj k k' o o' b N N' (by rw [he]; exact h1) (by rw [he]; exact h2)
 ·exact h.new k o b N (by rw [he]; exact h1)
theorem Rel.ext {nt : Nat} {D D' : Nat → Prop} {sl sl' : List (Nat × AV)} {st st' : aB} {a : Act} {w : World} (h : Rel c nt D sl st a w) (h1 : ∀ t, look t sl = look t sl') (h2 : ∀ k, look k st = look k st')
  (hD : ∀ k, D k → D' k) : Rel c nt D' sl' st' a w := by
 obtain ⟨a1, a2, β, a3, a4⟩ := h
 obtain ⟨b1, b2⟩ := a3.ext h2
 refine ⟨a1, a2, β, b1.jG hD, fun t v ht => ?_⟩
 rw [b2]
 exact a4 t v (by rw [h1]; exact ht)
theorem Fy {ops : Array Oper} {i : Nat} {o : Oper} (ho : ops[i]? = some o) {a : Act} {w : World} {K : Act → World → Prop} {Q : Exit → Act → World → Prop}
  (h : if Region.wanted o (yielded ops a.tmps) then o.wp P a w K Q else K (a.put o.dst undef) w) : wpOp P ops Q i K a w := by
 unfold wpOp
 simp only [ho]
 split
 ·rename_i hw; rw [if_pos hw] at h; exact .inl h
 ·rename_i hw; rw [if_neg hw] at h; exact h
def Df (N0 n : Nat) (S : Nat → Bool) (k : Nat) : Prop := k < N0 ∨ ∃ i, i < n ∧ S i = true ∧ N0 + bY * i ≤ k ∧ k < N0 + bY * i + bY
theorem JG {N0 i j k : Nat} (h1 : N0 + bY * i ≤ k) (h2 : k < N0 + bY * i + bY) (h3 : N0 + bY * j ≤ k) (h4 : k < N0 + bY * j + bY) : i = j := by
 simp only [bY] at *
 omega
include hT hΓ in
theorem IA {ops : Array Oper} {nt N0 : Nat} (hdst : ∀ o ∈ ops.toList, ∀ d, o.dst = some d → d < nt) {Q : Exit → Act → World → Prop} :
  ∀ (l done : List Oper) (s s' : aE) (need : List Prop) (rs : List Rec) (a : Act) (w : World), ops.toList = done ++ l → s.next = N0 → iw T Γ orc ops.toList l done.length s = some (s', need, rs) → ay need →
   Rel c nt (fun k => k < N0 + bY * done.length) s.bX s.store a w →
   (∀ a' w', Rel c nt (fun k => k < N0 + bY * ops.size) s'.bX s'.store a' w' → Q .normal a' w') → wpOps P ops Q (List.range' done.length l.length) a w
 | [], done, s, s', need, rs, a, w, hops, hN, hr, hn, hrel, hQ => by
  simp only [iw, Option.some.injEq, Prod.mk.injEq] at hr
  obtain ⟨rfl, rfl, rfl⟩ := hr
  simp only [List.length_nil, List.range'_zero, wpOps]
  refine hQ a w (hrel.ext (fun _ => rfl) (fun _ => rfl) fun k hk => ?_)
  have : ops.size = done.length := by rw [← Array.length_toList, hops]; simp
  rw [this]; exact hk
 | o :: l, done, s, s', need, rs, a, w, hops, hN, hr, hn, hrel, hQ => by
  simp only [iw] at hr
  cases hrec : jW T Γ orc ops.toList s done.length o with
  | none => rw [hrec] at hr; simp at hr
  | some r =>
   rw [hrec] at hr
   simp only at hr
   cases ht : iw T Γ orc ops.toList l (done.length + 1) (kG s o r.res) with
   | none => rw [ht] at hr; simp at hr
   | some q =>
    obtain ⟨s1, n1, rs1⟩ := q
    rw [ht] at hr
    simp only [Option.some.injEq, Prod.mk.injEq] at hr
    obtain ⟨rfl, rfl, rfl⟩ := hr
    rw [List.length_cons, List.range'_succ, wpOps_cons]
    have ho : ops[done.length]? = some o := by rw [← Array.getElem?_toList, hops]; simp
    refine Fy ho (I0 (D' := fun k => k < N0 + bY * (done ++ [o]).length) hT hΓ (N0 := s.next) (i := done.length) hrel (by cases s; exact hrec) (ep.1 hn).1
     (fun d hd => hdst o (by rw [hops]; simp) d hd) (fun k hk => ?_) (fun k h1 h2 => ?_) fun a' w' hrel' => ?_)
    ·simp only [List.length_append, List.length_cons, List.length_nil, bY] at hk ⊢; omega
    ·simp only [List.length_append, List.length_cons, List.length_nil, bY] at h1 h2 ⊢; omega
    ·have := IA hdst l (done ++ [o]) (kG s o r.res) s1 n1 rs1 a' w' (by simp [hops]) hN (by simpa using ht) (ep.1 hn).2 hrel' hQ
     simpa using this
theorem Cb {α : Type} {W : Nat → Option α} {i : Nat} : ∀ {n : Nat}, i ≤ n → dA W (fun j => decide (j < i)) n = dA W (fun _ => true) i
 | 0, h => by
    have : i = 0 := by omega
    subst this; rfl
 | n + 1, h => by
  by_cases hn : i = n + 1
  ·subst hn
   exact j3 fun j hj _ => by simpa using hj
  ·have ih := Cb (W := W) (i := i) (n := n) (by omega)
   have : decide (n < i) = false := by simp; omega
   simp only [dA, this, Bool.false_eq_true, if_false]
   exact ih
theorem zo {k : Nat} : ∀ {bM : List (Nat × Option aD)} {r : Option aD}, cF bM k = some r → k ∈ bM.map (·.1)
 | [], r, h => by simp [cF] at h
 | (j, o) :: l, r, h => by
  simp only [cF] at h
  cases he : cF l k with
  | some r' => simp only [List.map_cons, List.mem_cons]; exact .inr (zo he)
  | none =>
   rw [he] at h
   simp only at h
   split at h
   ·rename_i hjk
    have : j = k := by simpa using hjk
    simp [this]
   ·simp at h
theorem Lh {l : Array Bool} {i j : Nat} (hi : i < l.size) : (l.setIfInBounds i true).getD j false = (l.getD j false || j == i) := by
 simp only [Array.getD_eq_getD_getElem?, Array.getElem?_setIfInBounds]
 by_cases h : i = j
 ·subst h; simp [hi]
 ·have : (j == i) = false := by simp; omega
  simp [h, this]
include hT hΓ in
theorem Kc {ops : Array Oper} {nt : Nat} (hdst : ∀ o ∈ ops.toList, ∀ d, o.dst = some d → d < nt) {Q : Exit → Act → World → Prop} {s s' : aE} {need : List Prop} {rs : List Rec}
  (hrun : iw T Γ orc ops.toList ops.toList 0 s = some (s', need, rs)) (hneed : ay need) (hE : ql ops.toList 0 = true) (hA : qB (o4 ops.toList rs (mC ops.toList []) ops.toList) 0 = true)
  (hQ : ∀ a' w', Rel c nt (fun k => k < s.next + bY * ops.size) s'.bX s'.store a' w' → Q .normal a' w') {a : Act} {w : World} (hrel : Rel c nt (fun k => k < s.next) s.bX s.store a w) :
  wpAny P .any ops Q ops.size (Array.replicate ops.size false) a w := by
 obtain ⟨t1, t2, t3, t4, t5, t6⟩ := zN ops.toList 0 s s' need rs hrun
 have hsz : ops.toList.length = ops.size := Array.length_toList
 -- the invariant
 let Inv : (Nat → Bool) → Act → World → Prop := fun S a w => ∃ sl st, (∀ t, look t sl = orElse (dA (gz ops.toList rs t) S ops.size) (look t s.bX)) ∧
  (∀ k, look k st = p9 (dA (gm ops.toList rs k) S ops.size) (look k s.store)) ∧ Rel c nt (Df s.next ops.size S) sl st a w
 have hend : ∀ (S : Nat → Bool) (a : Act) (w : World), (∀ i, i < ops.size → S i = true) → Inv S a w → Q .normal a w := by
  rintro S a w hall ⟨sl, st, h1, h2, h3⟩
  refine hQ a w (h3.ext (fun t => ?_) (fun k => ?_) fun k hk => ?_)
  ·rw [h1 t, t4 t, hsz]
   congr 1
   exact j3 fun j hj _ => hall j hj
  ·rw [h2 k, t5 k, hsz]
   congr 1
   exact j3 fun j hj _ => hall j hj
  ·rcases hk with hk | ⟨i, hi, _, _, hk⟩
   ·simp only [bY] at *; omega
   ·simp only [bY] at *; omega
 have main : ∀ (fuel : Nat) (listed : Array Bool) (a : Act) (w : World), listed.size = ops.size → Down ops.toList (fun i => listed.getD i false) → gF (fun i => listed.getD i false) ops.size ≤ fuel →
   Inv (fun i => listed.getD i false) a w → wpAny P .any ops Q fuel listed a w := by
  intro fuel
  induction fuel with
  | zero =>
   intro listed a w hl hd hlk hinv
   have hall := Ho (show gF (fun i => listed.getD i false) ops.size = 0 by omega)
   refine ⟨?_, hend _ a w hall hinv⟩
   simp only [Region.ready, List.filter_eq_nil_iff, List.mem_range, Bool.and_eq_true, Bool.not_eq_true', not_and]
   intro i hi h
   have := hall i hi
   simp only [Array.getD_eq_getD_getElem?] at this h
   rw [Array.getElem?_eq_getElem (by omega)] at this h
   simp at this h
   rw [this] at h; simp at h
  | succ fuel ih =>
   intro listed a w hl hd hlk hinv
   have hgd : ∀ i, i < ops.size → listed.getD i true = listed.getD i false := fun i hi => by
    simp only [Array.getD_eq_getD_getElem?]
    rw [Array.getElem?_eq_getElem (by omega)]; rfl
   have hready : ∀ i, i ∈ Region.ready .any ops listed ↔ i < ops.size ∧ listed.getD i false = false ∧ ∀ o, ops.toList[i]? = some o → ∀ e ∈ o.after.toList, Region.binds .any e = true → listed.getD e.on false = true := fun i => by
    simp only [Region.ready, List.mem_filter, List.mem_range, Bool.and_eq_true, Bool.not_eq_true']
    constructor
    ·rintro ⟨h1, h2, h3⟩
     refine ⟨h1, by rw [← hgd i h1]; exact h2, fun o ho e he hb => ?_⟩
     have ho' : ops[i]? = some o := by simpa using ho
     rw [ho'] at h3
     simp only [Option.map_some, Option.getD_some, Array.all_eq_true_iff_forall_mem, Bool.or_eq_true, Bool.not_eq_true'] at h3
     rcases h3 e (by simpa using he) with h4 | h4
     ·rw [hb] at h4; simp at h4
     ·exact h4
    ·rintro ⟨h1, h2, h3⟩
     refine ⟨h1, by rw [hgd i h1]; exact h2, ?_⟩
     have ho' : ops[i]? = some ops[i] := Array.getElem?_eq_getElem h1
     rw [ho']
     simp only [Option.map_some, Option.getD_some, Array.all_eq_true_iff_forall_mem, Bool.or_eq_true, Bool.not_eq_true']
     intro e he
     cases hb : Region.binds .any e with
     | false => exact .inl rfl
     | true => exact .inr (h3 ops[i] (by simp [h1]) e (by simpa using he) hb)
   refine ⟨fun hnil => ?_, fun i hi => ?_⟩
   ·refine hend _ a w (fun i => ?_) hinv
    induction i using Nat.strongRecOn with
    | _ i ihi =>
     intro hi
     cases hl' : listed.getD i false with
     | true => rfl
     | false =>
      have : i ∈ Region.ready .any ops listed := (hready i).2 ⟨hi, hl', fun o ho e he hb => by
       have hlt := IU hE ho e he hb
       exact ihi e.on (by omega) (by omega)⟩
      rw [hnil] at this
      simp at this
   ·obtain ⟨h1, h2, h3⟩ := (hready i).1 hi
    have ho : ops.toList[i]? = some ops[i] := by simp [h1]
    generalize ops[i] = o at ho
    obtain ⟨r, hr⟩ : ∃ r, rs[i]? = some r := ⟨_, List.getElem?_eq_getElem (by omega)⟩
    obtain ⟨sp, q1, q2, q3, q4⟩ := t6 i o r ho hr
    rw [Nat.zero_add] at q1
    have hi2 : listed.getD i false = false := h2
    have hanc := EU hd ops.toList [] [] rfl rfl (fun i m o h => by simp at h)
    -- order of what clashes
    have hclash : ∀ (j : Nat) (o' : Oper) (r' : Rec), ops.toList[j]? = some o' → rs[j]? = some r' → j ≠ i →
      ((iE ops.toList o' r').ji (iE ops.toList o r) = true ∧ j < i ∨ (iE ops.toList o r).ji (iE ops.toList o' r') = true ∧ i < j) → listed.getD j false = decide (j < i) := by
     intro j o' r' hj hrj hne hc
     have hai : ∀ q (o : Oper), ops.toList[q]? = some o → ∃ m, (mC ops.toList [])[q]? = some m := fun q o hq =>
      ⟨_, List.getElem?_eq_getElem (by rw [hanc.1]; exact (List.getElem?_eq_some_iff.1 hq).1)⟩
     obtain ⟨mi, hmi⟩ := hai i o ho
     obtain ⟨mj, hmj⟩ := hai j o' hj
     rcases hc with ⟨hc, hlt⟩ | ⟨hc, hlt⟩
     ·have hb := CA hA (vM hj hrj hmj) (vM ho hr hmi) hlt hc
      rw [Nat.zero_add] at hb
      have := hanc.2 i mi o hmi ho (h3 o ho) j hb
      simp only [hlt, decide_true]; exact this
     ·have hb := CA hA (vM ho hr hmi) (vM hj hrj hmj) hlt hc
      rw [Nat.zero_add] at hb
      have : decide (j < i) = false := by simp; omega
      rw [this]
      cases hS : listed.getD j false with
      | false => rfl
      | true =>
       have := hanc.2 j mj o' hmj hj (hd j o' hj hS) i hb
       simp only [hi2] at this
       simp at this
    obtain ⟨sl, st, v1, v2, v3⟩ := hinv
    -- the operation ES here what it did in the order of the text
    have hloc : jW T Γ orc ops.toList ⟨sl, st, s.next⟩ i o = some r := by
     refine Wv q1 (fun t ht => ?_) (fun k hk => ?_) q2
     ·rw [q3 t, v1 t]
      congr 1
      rw [← Cb (show i ≤ ops.size by omega)]
      refine j3 fun j hj hW => ?_
      by_cases hji : j = i
      ·subst hji; simp only [hi2]; simp
      ·unfold gz at hW
       cases hoj : ops.toList[j]? with
       | none => simp [hoj] at hW
       | some o' =>
        cases hrj : rs[j]? with
        | none => simp [hoj, hrj] at hW
        | some r' =>
         have hdj : o'.dst = some t := by
          simp only [hoj, hrj] at hW
          by_cases hd : o'.dst = some t
          ·exact hd
          ·simp [hd] at hW
         refine (hclash j o' r' hoj hrj hji ?_).symm
         rcases Nat.lt_or_gt_of_ne hji with hlt | hgt
         ·refine .inl ⟨?_, hlt⟩
          simp only [Touch.ji, iE, Bool.or_eq_true]
          exact .inl (.inl (.inl (.inl (.inl (qm (x := t) (by simp [hdj]) ht)))))
         ·refine .inr ⟨?_, hgt⟩
          simp only [Touch.ji, iE, Bool.or_eq_true]
          exact .inl (.inl (.inl (.inr (qm (x := t) ht (by simp [hdj])))))
     ·rw [q4 k, v2 k]
      congr 1
      rw [← Cb (show i ≤ ops.size by omega)]
      refine j3 fun j hj hW => ?_
      by_cases hji : j = i
      ·subst hji; simp only [hi2]; simp
      ·unfold gm at hW
       cases hoj : ops.toList[j]? with
       | none => simp [hoj] at hW
       | some o' =>
        cases hrj : rs[j]? with
        | none => simp [hoj, hrj] at hW
        | some r' =>
         have hkj : k ∈ r'.res.bM.map (·.1) := by
          simp only [hoj, hrj] at hW
          cases he : cF r'.res.bM k with
          | none => simp [he] at hW
          | some x => exact zo he
         refine (hclash j o' r' hoj hrj hji ?_).symm
         rcases Nat.lt_or_gt_of_ne hji with hlt | hgt
         ·refine .inl ⟨?_, hlt⟩
          simp only [Touch.ji, iE, Bool.or_eq_true]
          exact .inl (.inl (.inr (qm (x := k) hkj hk)))
         ·refine .inr ⟨?_, hgt⟩
          simp only [Touch.ji, iE, Bool.or_eq_true]
          exact .inr (qm (x := k) hk hkj)
    have hmem : r ∈ rs := List.mem_of_getElem? hr
    refine Fy (by simpa using ho) (I0 (D' := Df s.next ops.size (fun j => listed.getD j false || j == i)) hT hΓ v3 hloc (t2 hneed r hmem) (hdst o (List.mem_of_getElem? ho)) (fun k hk => ?_) (fun k k1 k2 => ?_) fun a' w' hrel' => ?_)
    ·rcases hk with hk | ⟨j, g1, g2, g3, g4⟩
     ·exact .inl hk
     ·exact .inr ⟨j, g1, by simp only [g2, Bool.true_or], g3, g4⟩
    ·refine ⟨?_, .inr ⟨i, h1, by simp, k1, k2⟩⟩
     rintro (hk | ⟨j, g1, g2, g3, g4⟩)
     ·omega
     ·have := JG g3 g4 k1 k2
      subst this
      simp only [hi2] at g2
      simp at g2
    ·have hS : (fun j => (listed.setIfInBounds i true).getD j false) = fun j => listed.getD j false || j == i := by
      funext j
      exact Lh (by omega)
     refine ih (listed.setIfInBounds i true) a' w' (by simpa using hl) ?_ ?_ ?_
     ·rw [hS]
      intro j o' hoj hSj e he hb
      by_cases hji : j = i
      ·subst hji
       rw [ho] at hoj
       simp only [Option.some.injEq] at hoj
       subst hoj
       simp only [h3 o ho e he hb, Bool.true_or]
      ·have : (j == i) = false := by simpa using hji
       simp only [this, Bool.or_false] at hSj
       have := hd j o' hoj hSj e he hb
       simp only at this
       simp only [this, Bool.true_or]
     ·rw [hS]
      have := Gn (S := fun j => listed.getD j false) (i := i) hi2 h1
      omega
     ·rw [hS]
      refine ⟨_, _, fun t => ?_, fun k => ?_, hrel'⟩
      ·rw [Ba, v1 t]
       cases hWi : gz ops.toList rs t i with
       | none =>
        have hnd : ¬ o.dst = some t := by
         simp only [gz, ho, hr] at hWi
         intro hd
         simp [hd] at hWi
        rw [if_neg hnd]
        congr 1
        refine j3 fun j hj hW => ?_
        have : (j == i) = false := by
         simp only [beq_eq_false_iff_ne, ne_eq]
         rintro rfl
         exact hW hWi
        simp only [this, Bool.or_false]
       | some v =>
        have hd' : o.dst = some t ∧ r.res.val = v := by
         simp only [gz, ho, hr] at hWi
         by_cases hd : o.dst = some t
         ·simp only [hd, if_true, Option.some.injEq] at hWi; exact ⟨hd, hWi⟩
         ·simp [hd] at hWi
        rw [if_pos hd'.1, A7 hi2 h1 fun j hij hjn hSj => ?_, hWi, hd'.2]
        ·rfl
        ·cases hWj : gz ops.toList rs t j with
         | none => rfl
         | some v' =>
          exfalso
          unfold gz at hWj
          cases hoj : ops.toList[j]? with
          | none => simp [hoj] at hWj
          | some o' =>
           cases hrj : rs[j]? with
           | none => simp [hoj, hrj] at hWj
           | some r' =>
            have hdj : o'.dst = some t := by
             simp only [hoj, hrj] at hWj
             by_cases hd : o'.dst = some t
             ·exact hd
             ·simp [hd] at hWj
            have := hclash j o' r' hoj hrj (by omega) (.inr ⟨by
             simp only [Touch.ji, iE, Bool.or_eq_true]
             exact .inl (.inl (.inl (.inl (.inr (qm (x := t) (by simp [hd'.1]) (by simp [hdj])))))), hij⟩)
            have h5 : decide (j < i) = false := by simp; omega
            rw [h5] at this
            simp only [this] at hSj
            simp at hSj
      ·rw [ja, v2 k]
       cases hWi : gm ops.toList rs k i with
       | none =>
        have hnd : cF r.res.bM k = none := by simpa only [gm, ho, hr] using hWi
        rw [hnd]
        simp only
        congr 1
        refine j3 fun j hj hW => ?_
        have : (j == i) = false := by
         simp only [beq_eq_false_iff_ne, ne_eq]
         rintro rfl
         exact hW hWi
        simp only [this, Bool.or_false]
       | some v =>
        have hd' : cF r.res.bM k = some v := by simpa only [gm, ho, hr] using hWi
        rw [hd', A7 hi2 h1 fun j hij hjn hSj => ?_, hWi]
        ·rfl
        ·cases hWj : gm ops.toList rs k j with
         | none => rfl
         | some v' =>
          exfalso
          unfold gm at hWj
          cases hoj : ops.toList[j]? with
          | none => simp [hoj] at hWj
          | some o' =>
           cases hrj : rs[j]? with
           | none => simp [hoj, hrj] at hWj
           | some r' =>
            simp only [hoj, hrj] at hWj
            have := hclash j o' r' hoj hrj (by omega) (.inr ⟨by
             simp only [Touch.ji, iE, Bool.or_eq_true]
             exact .inl (.inr (qm (x := k) (zo hd') (zo hWj))), hij⟩)
            have h5 : decide (j < i) = false := by simp; omega
            rw [h5] at this
            simp only [this] at hSj
            simp at hSj
 have h0 : (fun i => (Array.replicate ops.size false).getD i false) = fun _ => false := by
  funext i
  simp only [Array.getD_eq_getD_getElem?, Array.getElem?_replicate]
  split <;> rfl
 refine main ops.size _ a w (by simp) ?_ ?_ ?_
 ·rw [h0]; intro i o _ h; simp at h
 ·rw [h0, Zu]; exact Nat.le_refl _
 ·rw [h0]
  have hnone : ∀ {α : Type} (W : Nat → Option α) (n : Nat), dA W (fun _ => false) n = none := fun W n => by
   induction n with
   | zero => rfl
   | succ n ih => simp [dA, ih]
  refine ⟨s.bX, s.store, fun t => by rw [hnone]; rfl, fun k => by rw [hnone]; rfl, hrel.ext (fun _ => rfl) (fun _ => rfl) fun k hk => .inl hk⟩
include hT hΓ in
theorem Yp {id : Nat} {ops : Array Oper} {draws : Bool} {nt : Nat} (hm : P.follows .mixedOrders = true) (hdst : (ops.toList.all fun o => match o.dst with | some d => decide (d < nt) | none => true) = true)
  {Q : Exit → Act → World → Prop} {s s' : aE} {need : List Prop} (hrun : nW T Γ orc ops draws s = some (s', need)) (hneed : ay need) {a : Act} {w : World} (hrel : Rel c nt (fun k => k < s.next) s.bX s.store a w)
  (hQ : ∀ a' w', Rel c nt (fun k => k < s'.next) s'.bX s'.store a' w' → Q .normal a' w') : (Code.region id ops draws).wp P Q a w := by
 have hdst' : ∀ o ∈ ops.toList, ∀ d, o.dst = some d → d < nt := fun o ho d hd => by
  have := (List.all_eq_true.1 hdst) o ho
  simpa [hd] using this
 unfold nW at hrun
 simp only [force_eq] at hrun
 cases hr : iw T Γ orc ops.toList ops.toList 0 s with
 | none => rw [hr] at hrun; simp at hrun
 | some q =>
  obtain ⟨s1, n1, rs⟩ := q
  rw [hr] at hrun
  simp only at hrun
  split at hrun
  ·rename_i hc
   simp only [Option.some.injEq, Prod.mk.injEq] at hrun
   obtain ⟨rfl, rfl⟩ := hrun
   have hnx : s1.next = s.next := (zN ops.toList 0 s s1 n1 rs hr).2.2.1
   cases draws with
   | false =>
    refine wp_region ?_
    have := IA hT hΓ hdst' (Q := Q) ops.toList [] s s1 n1 rs a w rfl rfl hr hneed (by simpa using hrel) (fun a' w' h => hQ a' w' (by simpa [hnx] using h))
    simpa [List.range_eq_range'] using this
   | true =>
    simp only [Bool.not_true, Bool.false_or, Bool.and_eq_true] at hc
    refine wp_region_any hm (Kc hT hΓ hdst' hr hneed hc.1 hc.2 (fun a' w' h => hQ a' w' (by simpa [hnx] using h)) ?_)
    obtain ⟨a1, a2, β, a3, a4⟩ := hrel
    exact ⟨a1, a2, β, a3.drew, fun t v ht => by
     obtain ⟨x, hx, hv⟩ := a4 t v ht
     exact ⟨x, hx, hv.gy cj.drew⟩⟩
  ·simp at hrun
end region
end Go.Am

/- Code: the rules. -/
namespace Go.Am
open AV
def ak.mN : ak → Exit
 | .normal => .normal
 | .exit i => .exit i
 | .ret => .ret
def bE (nt : Nat) : Code → Bool
 | .region _ ops _ => ops.toList.all fun o => match o.dst with
  | some d => decide (d < nt)
  | none => true
 | .seq x y => bE nt x && bE nt y
 | .cond _ x y => bE nt x && bE nt y
 | .block _ x => bE nt x
 | .loop x => bE nt x
 | .scope x => bE nt x
 | .rangeFunc _ _ x y => bE nt x && bE nt y
 | _ => true
def aq (P : Program) (c : Ctx) (nt : Nat) (x : Code) (s : aE) (Q : ak → aE → Prop) : Prop :=
 ∀ a w, Rel c nt (fun k => k < s.next) s.bX s.store a w → x.wp P (fun e a' w' => ∃ ae s', e = ae.mN ∧ Rel c nt (fun k => k < s'.next) s'.bX s'.store a' w' ∧ Q ae s') a w
section rules
variable {P : Program} {c : Ctx} {nt : Nat} {x y : Code} {s : aE} {Q Q' : ak → aE → Prop}
theorem aq.mono (h : aq P c nt x s Q) (hq : ∀ e s', Q e s' → Q' e s') : aq P c nt x s Q' :=
 fun a w hr => wp_mono (h a w hr) fun _ _ _ ⟨ae, s', h1, h2, h3⟩ => ⟨ae, s', h1, h2, hq _ _ h3⟩
theorem aq.skip (h : Q .normal s) : aq P c nt .skip s Q := fun _ _ hr => wp_skip ⟨.normal, s, rfl, hr, h⟩
theorem aq.label {l : Nat} (h : Q .normal s) : aq P c nt (.label l) s Q := fun _ _ hr => wp_label ⟨.normal, s, rfl, hr, h⟩
theorem aq.exit {i : Nat} (h : Q (.exit i) s) : aq P c nt (.exit i) s Q := fun _ _ hr => wp_exit ⟨.exit i, s, rfl, hr, h⟩
theorem aq.ret (h : Q .ret s) : aq P c nt .ret s Q := fun _ _ hr => wp_ret ⟨.ret, s, rfl, hr, h⟩
theorem aq.seq (h : aq P c nt x s fun e s' => match e with
  | .normal => aq P c nt y s' Q
  | e => Q e s') : aq P c nt (.seq x y) s Q := by
 intro a w hr
 refine wp_seq (wp_mono (h a w hr) ?_)
 rintro e a' w' ⟨ae, s', rfl, h2, h3⟩
 cases ae with
 | normal => exact h3 a' w' h2
 | exit i => exact ⟨.exit i, s', rfl, h2, h3⟩
 | ret => exact ⟨.ret, s', rfl, h2, h3⟩
theorem aq.cond {b : Operand} {t : Bool} (hb : s.eU b = some (.bool t)) (h1 : t = true → aq P c nt x s Q) (h2 : t = false → aq P c nt y s Q) : aq P c nt (.cond b x y) s Q := by
 intro a w hr
 obtain ⟨_, _, β, _, hs⟩ := id hr
 have := (Hq hs b _ hb).bool
 cases t
 ·exact wp_cond_false this (h2 rfl a w hr)
 ·exact wp_cond_true this (h1 rfl a w hr)
theorem aq.block {i : Nat} (h : aq P c nt x s fun e s' => match e with
  | .exit j => if j = i then Q .normal s' else Q (.exit j) s'
  | e => Q e s') : aq P c nt (.block i x) s Q := by
 intro a w hr
 refine wp_block (wp_mono (h a w hr) ?_)
 rintro e a' w' ⟨ae, s', rfl, h2, h3⟩
 cases ae with
 | normal => exact ⟨.normal, s', rfl, h2, h3⟩
 | exit j =>
  simp only [ak.mN, Exit.inBlock]
  simp only at h3
  split
  ·rename_i hj; rw [if_pos hj] at h3; exact ⟨.normal, s', rfl, h2, h3⟩
  ·rename_i hj; rw [if_neg hj] at h3; exact ⟨.exit j, s', rfl, h2, h3⟩
 | ret => exact ⟨.ret, s', rfl, h2, h3⟩
theorem Ig {α : Type} {b : Code} {R : Exit → Act → World → Prop} (I : α → Act → World → Prop) (μ : α → Nat)
  (round : ∀ s a w, I s a w → b.wp P (Exit.then (fun a' w' => ∃ s', I s' a' w' ∧ μ s' < μ s) R) a w) {s : α} {a : Act} {w : World} (h0 : I s a w) : (Code.loop b).wp P R a w := by
 intro fr k cs
 have key : ∀ n s a w, μ s = n → I s a w →
   ∃ e a' w', R e a' w' ∧ Arrives P (lone (fr.at a (.code b :: .inLoop b :: k)) cs w) fr k cs e a' w' := by
  intro n
  induction n using Nat.strongRecOn with
  | _ n ih =>
   intro s a w hn hI
   obtain ⟨e, a₁, w₁, hq, harr⟩ := round s a w hI fr (.inLoop b :: k) cs
   cases e with
   | normal =>
    obtain ⟨s', hI₁, hlt⟩ := hq
    obtain ⟨e₂, a₂, w₂, hq₂, harr₂⟩ := ih (μ s') (hn ▸ hlt) s' a₁ w₁ rfl hI₁
    exact ⟨e₂, a₂, w₂, hq₂, .of_steps (Steps.trans harr (.one step_inLoop)) harr₂⟩
   | exit id => exact ⟨_, a₁, w₁, hq, .pass (x := .inLoop b) rfl (fun _ _ => .inl (by simp)) harr⟩
   | goto l => exact ⟨_, a₁, w₁, hq, .pass (x := .inLoop b) rfl (fun _ _ => .inl (by simp)) harr⟩
   | ret => exact ⟨_, a₁, w₁, hq, .pass (x := .inLoop b) rfl (fun _ _ => .inl (by simp)) harr⟩
   | panic ch => exact ⟨_, a₁, w₁, hq, .pass (x := .inLoop b) rfl (fun _ _ => .inl (by simp)) harr⟩
   | outgrown => exact ⟨_, a₁, w₁, hq, .pass (x := .inLoop b) rfl (fun _ _ => .inl (by simp)) harr⟩
 obtain ⟨e, a', w', hq, harr⟩ := key _ s a w rfl h0
 exact ⟨e, a', w', hq, .of_steps (.one step_loop) harr⟩
theorem aq.loop {α : Type} (S : α → aE) (I : α → Prop) (μ : α → Nat) (i : α) (hs : s = S i) (h0 : I i)
  (round : ∀ i, I i → aq P c nt x (S i) fun e s' => match e with
   | .normal => ∃ j, s' = S j ∧ I j ∧ μ j < μ i
   | e => Q e s') : aq P c nt (.loop x) s Q := by
 intro a w hr
 refine Ig (fun i a w => I i ∧ Rel c nt (fun k => k < (S i).next) (S i).bX (S i).store a w) μ (s := i) ?_ ⟨h0, by rw [← hs]; exact hr⟩
 rintro i a w ⟨hi, hr⟩
 refine wp_mono (round i hi a w hr) ?_
 rintro e a' w' ⟨ae, s', rfl, h2, h3⟩
 cases ae with
 | normal =>
  obtain ⟨j, rfl, hj, hlt⟩ := h3
  exact ⟨j, ⟨hj, h2⟩, hlt⟩
 | exit i => exact ⟨.exit i, s', rfl, h2, h3⟩
 | ret => exact ⟨.ret, s', rfl, h2, h3⟩
variable {T : Types} (hT : dn P T) {Γ : aW} (hΓ : br P Γ) (hm : P.follows .mixedOrders = true)
include hT hΓ hm in
theorem aq.region {orc : List (Nat × Bool)} {id : Nat} {ops : Array Oper} {d : Bool} (hd : bE nt (.region id ops d) = true) {s' : aE} {need : List Prop} (hr : nW T Γ orc ops d s = some (s', need)) (hn : ay need) (h : Q .normal s') :
  aq P c nt (.region id ops d) s Q :=
 fun _ _ hrel => Yp hT hΓ hm hd hr hn hrel fun _ _ h' => ⟨.normal, s', rfl, h', h⟩
include hT hΓ hm in
theorem aq.run : ∀ (n : Nat) {x : Code} {s : aE}, bE nt x = true → ∀ {e : ak} {s' : aE} {need : List Prop}, dL T Γ n x s = some (e, s', need) → ay need →
  aq P c nt x s fun e' t => e' = e ∧ t = s'
 | 0, x, s, _, e, s', need, h, _ => by simp [dL] at h
 | n + 1, .skip, s, _, e, s', need, h, hn => by
  simp only [dL, Option.some.injEq, Prod.mk.injEq] at h
  obtain ⟨rfl, rfl, rfl⟩ := h
  exact .skip ⟨rfl, rfl⟩
 | n + 1, .label l, s, _, e, s', need, h, hn => by
  simp only [dL, Option.some.injEq, Prod.mk.injEq] at h
  obtain ⟨rfl, rfl, rfl⟩ := h
  exact .label ⟨rfl, rfl⟩
 | n + 1, .exit i, s, _, e, s', need, h, hn => by
  simp only [dL, Option.some.injEq, Prod.mk.injEq] at h
  obtain ⟨rfl, rfl, rfl⟩ := h
  exact .exit ⟨rfl, rfl⟩
 | n + 1, .ret, s, _, e, s', need, h, hn => by
  simp only [dL, Option.some.injEq, Prod.mk.injEq] at h
  obtain ⟨rfl, rfl, rfl⟩ := h
  exact .ret ⟨rfl, rfl⟩
 | n + 1, .region i ops d, s, hd, e, s', need, h, hn => by
  simp only [dL] at h
  cases hr : nW T Γ [] ops d s with
  | none => rw [hr] at h; simp at h
  | some q =>
   obtain ⟨s1, p⟩ := q
   rw [hr] at h
   simp only [Option.some.injEq, Prod.mk.injEq] at h
   obtain ⟨rfl, rfl, rfl⟩ := h
   exact aq.region hT hΓ hm hd hr hn ⟨rfl, rfl⟩
 | n + 1, .seq x y, s, hd, e, s', need, h, hn => by
  simp only [bE, Bool.and_eq_true] at hd
  simp only [dL] at h
  cases hx : dL T Γ n x s with
  | none => rw [hx] at h; simp at h
  | some q =>
   obtain ⟨e1, s1, p⟩ := q
   rw [hx] at h
   cases e1 with
   | normal =>
    simp only at h
    cases hy : dL T Γ n y s1 with
    | none => rw [hy] at h; simp at h
    | some q2 =>
     obtain ⟨e2, s2, p2⟩ := q2
     rw [hy] at h
     simp only [Option.some.injEq, Prod.mk.injEq] at h
     obtain ⟨rfl, rfl, rfl⟩ := h
     refine .seq ((aq.run n hd.1 hx (ep.1 hn).1).mono ?_)
     rintro e' t ⟨rfl, rfl⟩
     exact aq.run n hd.2 hy (ep.1 hn).2
   | exit i =>
    simp only [Option.some.injEq, Prod.mk.injEq] at h
    obtain ⟨rfl, rfl, rfl⟩ := h
    refine .seq ((aq.run n hd.1 hx hn).mono ?_)
    rintro e' t ⟨rfl, rfl⟩
    exact ⟨rfl, rfl⟩
   | ret =>
    simp only [Option.some.injEq, Prod.mk.injEq] at h
    obtain ⟨rfl, rfl, rfl⟩ := h
    refine .seq ((aq.run n hd.1 hx hn).mono ?_)
    rintro e' t ⟨rfl, rfl⟩
    exact ⟨rfl, rfl⟩
 | n + 1, .cond b x y, s, hd, e, s', need, h, hn => by
  simp only [bE, Bool.and_eq_true] at hd
  simp only [dL] at h
  cases hb : s.eU b with
  | none => rw [hb] at h; simp at h
  | some v =>
   rw [hb] at h
   cases v <;> simp only [reduceCtorEq] at h
   case bool t =>
    cases t with
    | true => exact .cond hb (fun _ => aq.run n hd.1 h hn) (fun h => by simp at h)
    | false => exact .cond hb (fun h => by simp at h) (fun _ => aq.run n hd.2 h hn)
 | n + 1, .block i x, s, hd, e, s', need, h, hn => by
  simp only [bE] at hd
  simp only [dL] at h
  cases hx : dL T Γ n x s with
  | none => rw [hx] at h; simp at h
  | some q =>
   obtain ⟨e1, s1, p⟩ := q
   rw [hx] at h
   cases e1 with
   | normal =>
    simp only [Option.some.injEq, Prod.mk.injEq] at h
    obtain ⟨rfl, rfl, rfl⟩ := h
    refine .block ((aq.run n hd hx hn).mono ?_)
    rintro e' t ⟨rfl, rfl⟩
    exact ⟨rfl, rfl⟩
   | exit j =>
    simp only at h
    split at h
    ·rename_i hj
     have hj' : j = i := by simpa using hj
     simp only [Option.some.injEq, Prod.mk.injEq] at h
     obtain ⟨rfl, rfl, rfl⟩ := h
     refine .block ((aq.run n hd hx hn).mono ?_)
     rintro e' t ⟨rfl, rfl⟩
     simp [hj']
    ·rename_i hj
     have hj' : ¬ j = i := by simpa using hj
     simp only [Option.some.injEq, Prod.mk.injEq] at h
     obtain ⟨rfl, rfl, rfl⟩ := h
     refine .block ((aq.run n hd hx hn).mono ?_)
     rintro e' t ⟨rfl, rfl⟩
     simp [hj']
   | ret =>
    simp only [Option.some.injEq, Prod.mk.injEq] at h
    obtain ⟨rfl, rfl, rfl⟩ := h
    refine .block ((aq.run n hd hx hn).mono ?_)
    rintro e' t ⟨rfl, rfl⟩
    exact ⟨rfl, rfl⟩
 | n + 1, .loop x, s, hd, e, s', need, h, hn => by
  have key : ∀ (m : Nat) (s : aE) (e : ak) (s' : aE) (need : List Prop), m ≤ n + 1 → dL T Γ m (.loop x) s = some (e, s', need) → ay need →
    ∀ (a : Act) (w : World) (fr : Frame) (k : List Item) (cs : List Frame), Rel c nt (fun k => k < s.next) s.bX s.store a w →
     ∃ e' a' w', (∃ ae t, e' = ak.mN ae ∧ Rel c nt (fun k => k < t.next) t.bX t.store a' w' ∧ ae = e ∧ t = s') ∧ Arrives P (lone (fr.at a (.code x :: .inLoop x :: k)) cs w) fr k cs e' a' w' := by
   intro m
   induction m with
   | zero => intro s e s' need _ h; simp [dL] at h
   | succ m ihm =>
    intro s e s' need hmn h hn a w fr k cs hrel
    simp only [dL] at h
    cases hx : dL T Γ m x s with
    | none => rw [hx] at h; simp at h
    | some q =>
     obtain ⟨e1, s1, p⟩ := q
     rw [hx] at h
     have hlen : m ≤ n := by omega
     have hrunx : ay p → aq P c nt x s fun e' t => e' = e1 ∧ t = s1 := fun hp => aq.run m (by simpa [bE] using hd) hx hp
     cases e1 with
     | normal =>
      simp only at h
      cases hy : dL T Γ m (.loop x) s1 with
      | none => rw [hy] at h; simp at h
      | some q2 =>
       obtain ⟨e2, s2, p2⟩ := q2
       rw [hy] at h
       simp only [Option.some.injEq, Prod.mk.injEq] at h
       obtain ⟨rfl, rfl, rfl⟩ := h
       obtain ⟨e', a1, w1, ⟨ae, t, rfl, g1, rfl, rfl⟩, harr⟩ := hrunx (ep.1 hn).1 a w hrel fr (.inLoop x :: k) cs
       obtain ⟨e'', a2, w2, g2, harr2⟩ := ihm t e2 s2 p2 (by omega) hy (ep.1 hn).2 a1 w1 fr k cs g1
       exact ⟨e'', a2, w2, g2, .of_steps (Steps.trans harr (.one step_inLoop)) harr2⟩
     | exit i =>
      simp only [Option.some.injEq, Prod.mk.injEq] at h
      obtain ⟨rfl, rfl, rfl⟩ := h
      obtain ⟨e', a1, w1, ⟨ae, t, rfl, g1, rfl, rfl⟩, harr⟩ := hrunx hn a w hrel fr (.inLoop x :: k) cs
      exact ⟨_, a1, w1, ⟨_, t, rfl, g1, rfl, rfl⟩, .pass (x := .inLoop x) rfl (fun _ _ => .inl (by simp [ak.mN])) harr⟩
     | ret =>
      simp only [Option.some.injEq, Prod.mk.injEq] at h
      obtain ⟨rfl, rfl, rfl⟩ := h
      obtain ⟨e', a1, w1, ⟨ae, t, rfl, g1, rfl, rfl⟩, harr⟩ := hrunx hn a w hrel fr (.inLoop x :: k) cs
      exact ⟨_, a1, w1, ⟨_, t, rfl, g1, rfl, rfl⟩, .pass (x := .inLoop x) rfl (fun _ _ => .inl (by simp [ak.mN])) harr⟩
  intro a w hrel fr k cs
  obtain ⟨e', a', w', g1, harr⟩ := key (n + 1) s e s' need (Nat.le_refl _) h hn a w fr k cs hrel
  exact ⟨e', a', w', g1, .of_steps (.one step_loop) harr⟩
 | n + 1, .scope x, s, _, e, s', need, h, _ => by simp [dL] at h
 | n + 1, .goto l, s, _, e, s', need, h, _ => by simp [dL] at h
 | n + 1, .refuse l, s, _, e, s', need, h, _ => by simp [dL] at h
 | n + 1, .rangeFunc _ _ _ _, s, _, e, s', need, h, _ => by simp [dL] at h
include hT hΓ hm in
theorem aq.step (n : Nat) (hd : bE nt x = true) {e : ak} {s' : aE} {need : List Prop} (hc : dL T Γ n x s = some (e, s', need)) (hn : ay need) (h : Q e s') : aq P c nt x s Q :=
 (aq.run hT hΓ hm n hd hc hn).mono fun _ _ ⟨h1, h2⟩ => by subst h1; subst h2; exact h
end rules
end Go.Am

/- Weaker states; whole functions. -/
namespace Go.Am
open AV
def fG (ρ : Nat → Option Nat) (u v : AV) : Prop := v.isAgg = u.isAgg ∧ ∀ M w β cs, aH M w β [u] cs → aH M w (fun k => (ρ k).bind β) [v] cs
structure ct (ρ : Nat → Option Nat) (o1 o2 : aD) : Prop where
 row : o2.row = o1.row
 wr : o2.wr = o1.wr
 es : o2.es = o1.es
 len : o2.len = o1.len
 f : ∀ i, i < o1.len → fG ρ (o1.f i) (o2.f i)
def qz (o : aD) : Prop := o.row = true ∧ o.len = 0 ∧ 0 < o.es
theorem Ox {ρ : Nat → Option Nat} : (fun k => (ρ k).bind aR) = aR := by
 funext k
 cases ρ k <;> rfl
section weak
variable {c c' : Ctx} {st st2 : aB} {D D2 : Nat → Prop} {β β2 : aL} {w : World} {ρ : Nat → Option Nat}
theorem yO (hMf : c'.Mf = c.Mf) (hst : ∀ k2 o2, look k2 st2 = some o2 → (∃ k1 o1, ρ k2 = some k1 ∧ look k1 st = some o1 ∧ ct ρ o1 o2) ∨ β2 k2 = none) (hβ : ∀ k2 k1, ρ k2 = some k1 → β2 k2 = β k1) :
  ∀ b, aI c' st2 β2 b → aI c st β b := by
 rintro b (hb | ⟨k2, o2, N, h1, h2, h3⟩)
 ·exact .inl (hMf ▸ hb)
 ·rcases hst k2 o2 h1 with ⟨k1, o1, g1, g2, g3⟩ | g
  ·exact .inr ⟨k1, o1, N, g2, by rw [← g3.wr]; exact h2, by rw [← hβ k2 k1 g1]; exact h3⟩
  ·rw [g] at h3; simp at h3
theorem aH.weak {u v : AV} {cs : List Value} {M M' : Nat → Prop} (hM : ∀ b, M' b → M b) (hβ : ∀ k2 k1, ρ k2 = some k1 → β2 k2 = β k1) (hle : fG ρ u v) (h : aH M w β [u] cs) : aH M' w β2 [v] cs := by
 refine (hle.2 M w β cs h).mono (fun b o h1 h2 => ⟨h2, fun h3 => h1 (hM b h3)⟩) β2 fun k x hk => ?_
 cases hr : ρ k with
 | none => rw [hr] at hk; simp at hk
 | some k1 =>
  rw [hr] at hk
  rw [hβ k k1 hr]; exact hk
theorem aV.weak {u v : AV} {x : Value} {M M' : Nat → Prop} (hM : ∀ b, M' b → M b) (hβ : ∀ k2 k1, ρ k2 = some k1 → β2 k2 = β k1) (hle : fG ρ u v) (h : aV M w β u x) : aV M' w β2 v x := by
 obtain ⟨cs, h1, h2⟩ := h
 exact ⟨cs, h1.weak hM hβ hle, by rw [hle.1]; exact h2⟩
theorem bg.weak (h : bg c st D β w) (hMf : c'.Mf = c.Mf) (hw0 : c'.w0 = c.w0) (hMw : c'.Mw = c.Mw) (hinj : ∀ a b k, ρ a = some k → ρ b = some k → a = b)
  (hst : ∀ k2 o2, look k2 st2 = some o2 → (∃ k1 o1, ρ k2 = some k1 ∧ look k1 st = some o1 ∧ ct ρ o1 o2) ∨ (β2 k2 = none ∧ qz o2 ∧ D2 k2)) (hβ : ∀ k2 k1, ρ k2 = some k1 → β2 k2 = β k1) (hd2 : ∀ k2 k1, ρ k2 = some k1 → D2 k2)
  (hdom : ∀ k2 x, β2 k2 = some x → D2 k2) (hlt : ∀ k2 b (N : Nat × Nat), β2 k2 = some (b, N) → b < w.heap.size) (hkeep : ∀ k x, c'.k0 k = some x → β2 k = some x) : bg c' st2 D2 β2 w := by
 have hM := yO hMf (fun k2 o2 h => (hst k2 o2 h).imp id (·.1)) hβ
 have hst' : ∀ k2 o2 x, look k2 st2 = some o2 → β2 k2 = some x → ∃ k1 o1, ρ k2 = some k1 ∧ look k1 st = some o1 ∧ ct ρ o1 o2 := fun k2 o2 x h hb => (hst k2 o2 h).resolve_right fun g => by rw [g.1] at hb; simp at hb
 refine { obj := fun k2 o2 hk x hx => ?_, cO := fun k2 o2 hk hb => ?_, inj := fun k k' o o' b N N' h1 h2 hw hb hb' => ?_, dom := hdom, keep := hkeep, lt := hlt, os := (by rw [hw0]; exact h.os), tape := (by rw [hw0]; exact h.tape), output := (by rw [hw0]; exact h.output), size := (by rw [hw0]; exact h.size), block := fun b => by rw [hw0, hMw]; exact h.block b, fW := fun b => by rw [hw0, hMf, hMw]; exact h.fW b, new := fun k o b N hk hw hb => ?_ }
 ·obtain ⟨k1, o1, g1, g2, g3⟩ := hst' k2 o2 x hk hx
  obtain ⟨b, N, cs, ty, a1, a2, a3, a4, ⟨a5, a5'⟩, a6, a7, a8⟩ := h.obj k1 o1 g2 x (by rw [← hβ k2 k1 g1]; exact hx)
  have e2 : β2 k2 = some (b, N) := by rw [hβ k2 k1 g1]; exact a1
  refine ⟨b, N, cs, ty, e2, a2, by rw [g3.es]; exact a3, by rw [g3.es]; exact a4, ⟨by rw [g3.len]; exact a5, by rw [g3.len]; exact a5'⟩,
   fun hw => .inr ⟨k2, o2, N, hk, hw, e2⟩, fun hw hm => a7 (by rw [← g3.wr]; exact hw) (hM b hm), fun i hi => ?_⟩
  rw [g3.len] at hi
  obtain ⟨ps, p1, p2, p3⟩ := a8 i hi
  refine ⟨ps, by rw [g3.es]; exact p1, ?_, by rw [g3.es]; exact p3⟩
  rw [g3.row]
  cases hr : o1.row with
  | true =>
   rw [hr] at p2
   simp only [if_true] at p2 ⊢
   have := (g3.f i hi).2 _ _ _ _ p2
   rw [Ox] at this
   exact this.mono (fun b o h1 h2 => ⟨h2, fun h3 => h1 (hM b h3)⟩) _ fun _ _ h => h
  | false =>
   rw [hr] at p2
   simp only [Bool.false_eq_true, if_false] at p2 ⊢
   exact p2.weak hM hβ (g3.f i hi)
 ·rcases hst k2 o2 hk with ⟨k1, o1, g1, g2, g3⟩ | ⟨g1, g2, g3⟩
  ·have := (h.cO k1 o1 g2 (by rw [← hβ k2 k1 g1]; exact hb)).1
   exact ⟨by rw [g3.row, g3.len, g3.es]; exact this, hd2 k2 k1 g1⟩
  ·exact ⟨g2, g3⟩
 ·obtain ⟨k1, o1, g1, g2, g3⟩ := hst' k o _ h1 hb
  obtain ⟨k1', o1', g1', g2', g3'⟩ := hst' k' o' _ h2 hb'
  rw [hβ k k1 g1] at hb
  rw [hβ k' k1' g1'] at hb'
  have := h.inj k1 k1' o1 o1' b N N' g2 g2' (by rw [← g3.wr]; exact hw) hb hb'
  subst this
  exact hinj k k' k1 g1 g1'
 ·obtain ⟨k1, o1, g1, g2, g3⟩ := hst' k o _ hk hb
  rw [hw0, hMw]
  exact h.new k1 o1 b N g2 (by rw [← g3.wr]; exact hw) (by rw [← hβ k k1 g1]; exact hb)
structure Le (c : Ctx) (ρ : Nat → Option Nat) (s s2 : aE) : Prop where
 inj : ∀ a b k, ρ a = some k → ρ b = some k → a = b
 bX : ∀ t v, look t s2.bX = some v → ∃ u, look t s.bX = some u ∧ u.isTuple = false ∧ fG ρ u v
 store : ∀ k2 o2, look k2 s2.store = some o2 → (∃ k1 o1, ρ k2 = some k1 ∧ look k1 s.store = some o1 ∧ ct ρ o1 o2) ∨ (ρ k2 = none ∧ qz o2 ∧ k2 < s2.next)
 dom : ∀ k2 k1, ρ k2 = some k1 → k2 < s2.next
 keep : ∀ k x, c.k0 k = some x → ρ k = some k
theorem Le.rel {nt : Nat} {s s2 : aE} (hle : Le c ρ s s2) {a : Act} (h : Rel c nt (fun k => k < s.next) s.bX s.store a w) : Rel c nt (fun k => k < s2.next) s2.bX s2.store a w := by
 obtain ⟨a1, a2, β, a3, a4⟩ := h
 have hβ : ∀ k2 k1, ρ k2 = some k1 → (fun k => (ρ k).bind β) k2 = β k1 := fun k2 k1 h => by simp [h]
 have hst : ∀ k2 o2, look k2 s2.store = some o2 → (∃ k1 o1, ρ k2 = some k1 ∧ look k1 s.store = some o1 ∧ ct ρ o1 o2) ∨ ((ρ k2).bind β = none ∧ qz o2 ∧ k2 < s2.next) := fun k2 o2 h => (hle.store k2 o2 h).imp id fun ⟨g1, g2⟩ => ⟨by rw [g1]; rfl, g2⟩
 refine ⟨a1, a2, fun k => (ρ k).bind β, a3.weak rfl rfl rfl hle.inj hst hβ hle.dom (fun k2 x hk => ?_) (fun k2 b N hk => ?_) (fun k x hk => ?_), fun t v ht => ?_⟩
 ·cases hr : ρ k2 with
  | none => simp [hr] at hk
  | some k1 => exact hle.dom k2 k1 hr
 ·cases hr : ρ k2 with
  | none => simp [hr] at hk
  | some k1 => simp [hr] at hk; exact a3.lt k1 b N hk
 ·simp only [hle.keep k x hk, Option.bind_some]; exact a3.keep k x hk
 ·obtain ⟨u, hu, htu, huv⟩ := hle.bX t v ht
  obtain ⟨x, hx, hv⟩ := a4 t u hu
  exact ⟨x, hx, ((hv.one htu).weak (yO rfl (fun k2 o2 h => (hst k2 o2 h).imp id (·.1)) hβ) hβ huv).bz⟩
theorem aq.weak {P : Program} {nt : Nat} {x : Code} {s s2 : aE} {Q : ak → aE → Prop} (hle : Le c ρ s s2) (h : aq P c nt x s2 Q) : aq P c nt x s Q :=
 fun a w hr => h a w (hle.rel hr)
theorem aq.LW {P : Program} {nt : Nat} {x : Code} {s : aE} {Q : ak → aE → Prop} {α : Type} (S : α → aE) (I : α → Prop) (μ : α → Nat) (i : α) (hs : ∃ ρ, Le c ρ s (S i)) (h0 : I i)
  (round : ∀ i, I i → aq P c nt x (S i) fun e s' => match e with
   | .normal => ∃ j, (∃ ρ, Le c ρ s' (S j)) ∧ I j ∧ μ j < μ i
   | e => Q e s') : aq P c nt (.loop x) s Q := by
 intro a w hr
 obtain ⟨ρ, hle⟩ := hs
 refine Ig (fun i a w => I i ∧ Rel c nt (fun k => k < (S i).next) (S i).bX (S i).store a w) μ (s := i) ?_ ⟨h0, hle.rel hr⟩
 rintro i a w ⟨hi, hr⟩
 refine wp_mono (round i hi a w hr) ?_
 rintro e a' w' ⟨ae, s', rfl, h2, h3⟩
 cases ae with
 | normal =>
  obtain ⟨j, ⟨ρ, hle⟩, hj, hlt⟩ := h3
  exact ⟨j, ⟨hj, hle.rel h2⟩, hlt⟩
 | exit i => exact ⟨.exit i, s', rfl, h2, h3⟩
 | ret => exact ⟨.ret, s', rfl, h2, h3⟩
end weak
theorem bP.aR {M : Nat → Prop} {w : World} {β : aL} : ∀ {l : List AV} {xs : List Value}, bP M w β l xs → aX l = [] → bP M w Am.aR l xs
 | [], [], _, _ => trivial
 | a :: l, x :: xs, h, hk => by
  simp only [aX, List.append_eq_nil_iff] at hk
  obtain ⟨⟨cs, h1, h2⟩, h3⟩ := h
  exact ⟨⟨cs, yG h1 (by simp [aX, hk.1]), h2⟩, bP.aR h3 hk.2⟩
 | [], _ :: _, h, _ => h.elim
 | _ :: _, [], h, _ => h.elim
theorem BS {M : Nat → Prop} {w : World} {β : aL} : ∀ {l : List AV} {xs : List Value} {i : Nat} {pre post : Array Value}, bP M w β l xs → pre.size = i → qW M w β (aN i l) (pre ++ xs.toArray ++ post)
 | [], [], i, pre, post, _, _ => fun t v h => by simp [aN, look] at h
 | a :: l, x :: xs, i, pre, post, h, hp => by
  intro t v ht
  simp only [aN, look] at ht
  split at ht
  ·rename_i hit
   have hit' : i = t := by simpa using hit
   simp only [Option.some.injEq] at ht
   subst ht; subst hit'
   exact ⟨x, by rw [Array.append_assoc, Array.getElem?_append_right (by omega), ← hp, Nat.sub_self, Array.getElem?_append_left (by simp)]; simp, h.1.bz⟩
  ·have := BS (pre := pre.push x) (post := post) h.2 (i := i + 1) (by simp [hp]) t v ht
   have e : pre.push x ++ xs.toArray ++ post = pre ++ (x :: xs).toArray ++ post := by
    apply Array.ext'; simp
   rwa [e] at this
 | [], _ :: _, _, _, _, h, _ => h.elim
 | _ :: _, [], _, _, _, h, _ => h.elim
def bq (u v : AV) : Prop := v.isAgg = u.isAgg ∧ ∀ M w cs, aH M w aR [u] cs → aH M w aR [v] cs
theorem bq.refl (u : AV) : bq u u := ⟨rfl, fun _ _ _ h => h⟩
def dX : List AV → List AV → Prop
 | [], [] => True
 | u :: us, v :: vs => bq u v ∧ dX us vs
 | _, _ => False
theorem dX.refl : ∀ l : List AV, dX l l
 | [] => trivial
 | u :: l => ⟨.refl u, dX.refl l⟩
def ef (us : List AV) (res : AV) : Prop :=
 match us, res with
 | [u], v => bq u v
 | us, .tuple vs => dX us vs
 | _, _ => False
def Ends (T : Types) (fn : Func) (res : AV) (s : aE) : Prop :=
 ∃ vs q us, fC T s fn.results.toList = some (vs, q) ∧ ay q ∧ dj (gL (pick s.store (aX vs))) vs = some us ∧ ef us res
section funcs
variable {P : Program} {T : Types} (hT : dn P T) {c : Ctx} {w : World}
include hT in
theorem BC {D : Nat → Prop} {β : aL} {s : aE} {a : Act} (hw : bg c s.store D β w) (hs : qW (aI c s.store β) w β s.bX a.tmps) {g : ResultVar → Sem Value}
  (hg1 : ∀ t, g (.tmp t) = pure (a.tmps.getD t undef)) (hg2 : ∀ r t, g (.cell r t) = (do let x ← asAddr (a.tmps.getD r undef); loadVar t x)) :
  ∀ {l : List ResultVar} {vs : List AV} {q : List Prop}, fC T s l = some (vs, q) → ay q → ∃ xs, (l.mapM g).run P w = .ok xs w ∧ bP (aI c s.store β) w β vs xs ∧ xs.length = l.length
 | [], vs, q, h, hq => by
  simp only [fC, Option.some.injEq, Prod.mk.injEq] at h
  obtain ⟨rfl, rfl⟩ := h
  exact ⟨[], by simp, trivial, rfl⟩
 | x :: l, vs, q, h, hq => by
  simp only [fC] at h
  cases hx : vB T s x with
  | none => rw [hx] at h; simp at h
  | some p =>
   obtain ⟨v, p1⟩ := p
   cases hl : fC T s l with
   | none => rw [hx, hl] at h; simp at h
   | some p2 =>
    obtain ⟨vs', q'⟩ := p2
    rw [hx, hl] at h
    simp only [Option.some.injEq, Prod.mk.injEq] at h
    obtain ⟨rfl, rfl⟩ := h
    obtain ⟨xs, hxs, hv, hlen⟩ := BC hw hs hg1 hg2 hl (ep.1 hq).2
    have hone : ∃ y, (g x).run P w = .ok y w ∧ aV (aI c s.store β) w β v y := by
     cases x with
     | tmp t =>
      simp only [vB] at hx
      cases ht : look t s.bX with
      | none => rw [ht] at hx; simp at hx
      | some u =>
       rw [ht] at hx
       simp only at hx
       split at hx
       ·simp at hx
       ·rename_i htu
        simp only [Option.some.injEq, Prod.mk.injEq] at hx
        obtain ⟨rfl, _⟩ := hx
        obtain ⟨y, hy, hvy⟩ := hs t u ht
        refine ⟨y, ?_, hvy.one (by simpa using htu)⟩
        rw [hg1]
        simp [Array.getD_eq_getD_getElem?, hy]
     | cell r t =>
      simp only [vB] at hx
      cases ht : look t T with
      | none => rw [ht] at hx; simp at hx
      | some ti =>
       cases hr : look r s.bX with
       | none => rw [ht, hr] at hx; simp at hx
       | some pv =>
        rw [ht, hr] at hx
        simp only at hx
        cases hld : me s.store ti pv with
        | none => rw [hld] at hx; simp at hx
        | some ld =>
         rw [hld] at hx
         simp only [Option.some.injEq, Prod.mk.injEq] at hx
         obtain ⟨rfl, rfl⟩ := hx
         obtain ⟨y, hy, hvy⟩ := hs r pv hr
         obtain ⟨_, z, hz, hvz⟩ := DN hT hw (fun _ _ h => h) ht hvy hld (ep.1 hq).1
         refine ⟨z, ?_, hvz⟩
         rw [hg2]
         simp only [Array.getD_eq_getD_getElem?, hy, Option.getD_some]
         cases y with
         | pointer ad =>
          cases ad with
          | some ad => simpa [Instr.loadAt, Instr.sureAddr, asAddr] using hz
          | none => simp [Instr.loadAt, Instr.sureAddr] at hz
         | _ => simp [Instr.loadAt, Instr.sureAddr] at hz
    obtain ⟨y, hy, hvy⟩ := hone
    exact ⟨y :: xs, by simp [List.mapM_cons, hy, hxs], ⟨hvy, hv⟩, by simp [hlen]⟩
theorem y8 {M : Nat → Prop} : ∀ {us vs : List AV} {xs : List Value}, dX us vs → bP M w aR us xs → bP M w aR vs xs
 | [], [], [], _, _ => trivial
 | u :: us, v :: vs, x :: xs, h, hv => by
  obtain ⟨⟨cs, h1, h2⟩, h3⟩ := hv
  exact ⟨⟨cs, h.1.2 _ _ _ h1, by rw [h.1.1]; exact h2⟩, y8 h.2 h3⟩
 | [], _ :: _, _, h, _ => h.elim
 | _ :: _, [], _, h, _ => h.elim
 | _ :: _, _ :: _, [], _, h => h.elim
 | [], [], _ :: _, _, h => h.elim
theorem yZ {st pre : aB} {D : Nat → Prop} {β : aL} (h : bg c st D β w) (hpre : ∀ k o, look k pre = some o → look k st = some o) : ∀ {l m : List AV} {xs : List Value}, dj pre l = some m → bP (aI c st β) w β l xs →
  bP (aI c st β) w aR m xs
 | [], m, [], hf, _ => by simp only [dj, Option.some.injEq] at hf; subst hf; trivial
 | a :: l, m, x :: xs, hf, hv => by
  simp only [dj] at hf
  cases ha : cD pre a with
  | none => rw [ha] at hf; simp at hf
  | some b =>
   cases hl : dj pre l with
   | none => rw [ha, hl] at hf; simp at hf
   | some m' =>
    rw [ha, hl] at hf
    simp only [Option.some.injEq] at hf
    subst hf
    obtain ⟨⟨cs, h1, h2⟩, h3⟩ := hv
    obtain ⟨g1, g2⟩ := Bc h hpre ha h1
    exact ⟨⟨cs, g1, by rw [g2]; exact h2⟩, yZ h hpre hl h3⟩
 | [], _, _ :: _, _, h => h.elim
 | _ :: _, _, [], _, h => h.elim
include hT in
theorem Gd {fn : Func} {res : AV} {nt : Nat} {s : aE} {a : Act} (he : Ends T fn res s) (hr : Rel c nt (fun k => k < s.next) s.bX s.store a w) :
  a.defers = [] ∧ ∃ x β st', (results fn a.tmps).run P w = .ok x w ∧ bg c st' (fun k => k < s.next) β w ∧ bn (aI c st' β) w aR res x ∧
   ∀ k o, look k s.store = some o → o.row = false → look k st' = some o := by
 obtain ⟨vs, q, us, h1, hq, h2, h3⟩ := he
 obtain ⟨a1, a2, β, a3, a4⟩ := hr
 refine ⟨a1, ?_⟩
 obtain ⟨xs, hxs, hv, hlen⟩ := BC hT a3 a4 (g := fun x => match x with
  | ResultVar.tmp t => pure (a.tmps.getD t undef)
  | ResultVar.cell r t => do let y ← asAddr (a.tmps.getD r undef); loadVar t y) (fun _ => rfl) (fun _ _ => rfl) h1 hq
 obtain ⟨f1, f2, f3⟩ := xW (l := pick s.store (aX vs)) a3 (fun k o hk => by
  rw [kn] at hk
  split at hk
  ·exact hk
  ·simp at hk) rO
 have hvs : bP (aI c (bT (dF (pick s.store (aX vs))) s.store) β) w β vs xs := hv.mono f2.heap f2.keys
 have hus := yZ f1 f3 h2 hvs
 have hx : ∃ x, (results fn a.tmps).run P w = .ok x w ∧ bn (aI c (bT (dF (pick s.store (aX vs))) s.store) β) w aR res x := by
  refine ⟨if h : xs.length = 1 then xs.toArray[0]'(by simpa using (show 0 < xs.length by omega)) else .tuple xs.toArray, ?_, ?_⟩
  ·have key : results fn a.tmps = (do
     let vs ← fn.results.mapM fun x => match x with
      | ResultVar.tmp t => pure (a.tmps.getD t undef)
      | ResultVar.cell r t => do let y ← asAddr (a.tmps.getD r undef); loadVar t y
     pure (if h : vs.size = 1 then vs[0] else Value.tuple vs)) := rfl
   rw [key, Sem.run_bind, Array.mapM_eq_mapM_toList, Sem.run_map, hxs]
   simp only [Result.andThen_ok, Sem.run_pure]
   congr 1
  ·unfold ef at h3
   split at h3
   ·rename_i u
    obtain ⟨x, rfl, hx⟩ := hus.single
    simp only [List.length_cons, List.length_nil, Nat.zero_add, dite_true, List.getElem_toArray, List.getElem_cons_zero]
    obtain ⟨cs, g1, g2⟩ := hx
    exact aV.bz ⟨cs, h3.2 _ _ _ g1, by rw [h3.1]; exact g2⟩
   ·rename_i us' vs' hne
    have hl1 : ¬ xs.length = 1 := by
     intro hl1
     have : ∀ {us : List AV} {xs : List Value}, bP (aI c (bT (dF (pick s.store (aX vs))) s.store) β) w aR us xs → us.length = xs.length := by
      intro us
      induction us with
      | nil => intro xs h; cases xs with
       | nil => rfl
       | cons _ _ => exact h.elim
      | cons u us ih => intro xs h; cases xs with
       | nil => exact h.elim
       | cons x xs => simp [ih h.2]
     have hl2 := this hus
     rw [hl1] at hl2
     match us, hl2, hne with
     | [u], _, hne => exact hne u rfl
    simp only [hl1, dite_false]
    exact ⟨xs, rfl, y8 h3 hus⟩
   ·exact h3.elim
 obtain ⟨x, hx1, hx2⟩ := hx
 refine ⟨x, β, _, hx1, f1, hx2, fun k o hk hrow => ?_⟩
 rw [ja]
 have : cF (dF (pick s.store (aX vs))) k = none := by
  have gen : ∀ l : aB, (∀ o', look k l = some o' → o'.row = false) → (l.map (·.1)).Nodup → cF (dF l) k = none := by
   intro l
   induction l with
   | nil => intros; rfl
   | cons p l ih =>
    obtain ⟨j, oj⟩ := p
    intro h hn
    simp only [List.map_cons, List.nodup_cons] at hn
    by_cases hjk : j = k
    ·subst hjk
     have hrow' := h oj (by simp [look])
     simp only [dF, hrow', Bool.false_and, Bool.false_eq_true, if_false]
     have hnl : look j l = none := by
      cases hl : look j l with
      | none => rfl
      | some o' =>
       exfalso
       apply hn.1
       have : ∀ l : aB, look j l = some o' → j ∈ l.map (·.1) := by
        intro l
        induction l with
        | nil => simp [look]
        | cons q l ih =>
         obtain ⟨i, b⟩ := q
         simp only [look]
         split
         ·rename_i hh
          intro _
          have : i = j := by simpa using hh
          simp [this]
         ·intro h2
          simp only [List.map_cons, List.mem_cons]
          exact .inr (ih h2)
       exact this l hl
     exact ih (fun o' ho' => by rw [hnl] at ho'; simp at ho') hn.2
    ·have ih' := ih (fun o' ho' => h o' (by simp [look, hjk, ho'])) hn.2
     simp only [dF]
     split
     ·simp only [cF, ih']
      simp [hjk]
     ·exact ih'
  refine gen _ (fun o' ho' => ?_) rO
  rw [kn] at ho'
  split at ho'
  ·rw [hk] at ho'; simp only [Option.some.injEq] at ho'; subst ho'; exact hrow
  ·simp at ho'
 rw [this]; exact hk
structure aO (P : Program) (f : FuncId) (fn : Func) (x : Code) : Prop where
 get : P.funcs[f]? = some fn
 body : fn.body = some x
 name : (fn.name == "runtime.NumGoroutine") = false
 dst : bE fn.ntmps x = true
include hT in
theorem gA {f : FuncId} {fn : Func} {x : Code} (hf : aO P f fn x) {args : List AV} {r : cC} (hk : aX args = []) (hlen : args.length ≤ fn.ntmps) (hpost : r.post = [])
  (h : r.need → ∀ c : Ctx, c.k0 = aR → aq P c fn.ntmps x ⟨aN 0 args, [], 0⟩ fun e s' => (e = .normal ∨ e = .ret) ∧ Ends T fn r.res s') (K : Nat) (pre : aB) : aC P f K args pre r := by
 refine aC.frame (pre := []) ?_ (fun k o hk => by simp [look] at hk)
 intro need
 refine ⟨fun k o ho => by rw [hpost] at ho; simp [look] at ho, fun c D D' β w vs hw0 hMw hrel hD hK hv => .inl ⟨fn, hf.get, hf.name, by simp [hf.body], ?_⟩⟩
 have hv0 := hv.aR hk
 have hM0 : aI { c with k0 := aR } [] aR = aI c [] β := by
  funext b
  simp [aI, look]
 have hlv : vs.length = args.length := by
  have : ∀ {l : List AV} {xs : List Value}, bP (aI c [] β) w β l xs → xs.length = l.length := by
   intro l
   induction l with
   | nil => intro xs h; cases xs with
    | nil => rfl
    | cons _ _ => exact h.elim
   | cons u us ih => intro xs h; cases xs with
    | nil => exact h.elim
    | cons x xs => simp [ih h.2]
  exact this hv
 have hstart : Rel { c with k0 := aR } fn.ntmps (fun k => k < 0) (aN 0 args) [] { tmps := vs.toArray ++ Array.replicate (fn.ntmps - vs.toArray.size) undef, defers := [] } w := by
  refine ⟨rfl, by simp; omega, aR, ?_, ?_⟩
  ·exact { obj := fun k o h => by simp [look] at h, cO := fun k o h => by simp [look] at h, inj := fun k k' o o' b N N' h => by simp [look] at h, dom := fun k x h => by simp [aR] at h, keep := fun k x h => h, lt := fun k b N h => by simp [aR] at h, os := hrel.os, tape := hrel.tape, output := hrel.output, size := hrel.size, block := hrel.block, fW := hrel.fW, new := fun k o b N h => by simp [look] at h }
  ·rw [hM0]
   have := BS (pre := #[]) (post := Array.replicate (fn.ntmps - vs.toArray.size) undef) hv0 rfl
   simpa using this
 refine calls_of_wp hf.get hf.body (wp_mono (h need { c with k0 := aR } rfl _ w hstart) ?_)
 rintro e a' w' ⟨ae, s', rfl, hr', hex, hends⟩
 obtain ⟨hdef, x, β', st', hrun, hw', hvx, _⟩ := Gd hT hends hr'
 have hO : ee c [] D' β w (eg r.post) r.res x w' := by
  rw [hpost]
  refine ⟨β, ?_, ?_, ?_⟩
  ·exact { obj := fun k o h => by simp [look, eg, bT] at h, cO := fun k o h => by simp [look, eg, bT] at h, inj := fun k k' o o' b N N' h => by simp [look, eg, bT] at h, dom := fun k x h => hD _ (hrel.dom k x h), keep := hrel.keep, lt := fun k b N h => Nat.lt_of_lt_of_le (hrel.lt k b N h) (by have := hw'.size; rw [← hw0]; exact this), os := hw'.os, tape := hw'.tape, output := hw'.output, size := hw'.size, block := hw'.block, fW := hw'.fW, new := fun k o b N h => by simp [look, eg, bT] at h }
  ·refine ⟨fun b o hb ho => ⟨?_, hb⟩, fun k x hk => hk⟩
   have hlt : b < c.w0.heap.size := by rw [hw0]; exact zx ho
   have := hw'.block b hlt (fun hm => hb (hMw b hm))
   rw [this]
   show c.w0.heap[b]? = _
   rw [hw0]; exact ho
  ·refine hvx.mono (fun b o hb ho => ⟨ho, fun hm => hb ?_⟩) (fun k x hk => by simp [aR] at hk)
   rcases hm with hm | ⟨k, o, N, h1, _⟩
   ·exact .inl hm
   ·simp [look, eg, bT] at h1
 rcases hex with rfl | rfl
 ·exact ⟨hdef, x, hrun, x, rfl, hO⟩
 ·exact ⟨hdef, x, hrun, x, rfl, hO⟩
end funcs
end Go.Am

/- From a law's contract to the call that the row speaks of. -/
namespace Go.Am
open AV
end Go.Am

/- The evaluator with forks: where a condition is not known, both ways. -/
namespace Go.Am
open AV
inductive af (α : Type) where
 | leaf (e : ak) (a : α)
 | ag (l : List Prop) (t : af α)
 | fork (b : Bool) (t u : af α)
namespace af
variable {α β : Type}
def all (Q : ak → α → Prop) : af α → Prop
 | leaf e a => Q e a
 | ag l t => ay l ∧ t.all Q
 | fork b t u => (b = true → t.all Q) ∧ (b = false → u.all Q)
def need (l : List Prop) (t : af α) : af α := match l with
 | [] => t
 | l => ag l t
def bind (f : ak → α → Option (af β)) : af α → Option (af β)
 | leaf e a => f e a
 | ag l t => match t.bind f with
  | some u => some (ag l u)
  | none => none
 | fork b t u => match t.bind f, u.bind f with
  | some t', some u' => some (fork b t' u')
  | _, _ => none
theorem yY {Q : ak → α → Prop} {l : List Prop} {t : af α} : (need l t).all Q ↔ ay l ∧ t.all Q := by
 cases l with
 | nil => simp [need, ay]
 | cons p l => exact Iff.rfl
theorem gV {f : ak → α → Option (af β)} {Q : ak → β → Prop} : ∀ {t : af α} {u : af β}, t.bind f = some u → u.all Q → t.all fun e a => ∃ v, f e a = some v ∧ v.all Q
 | leaf e a, u, h, hu => ⟨u, h, hu⟩
 | ag l t, u, h, hu => by
  simp only [bind] at h
  cases ht : t.bind f with
  | none => rw [ht] at h; simp at h
  | some v =>
   rw [ht] at h
   simp only [Option.some.injEq] at h
   subst h
   exact ⟨hu.1, gV ht hu.2⟩
 | fork b t u, v, h, hv => by
  simp only [bind] at h
  cases ht : t.bind f with
  | none => rw [ht] at h; simp at h
  | some t' =>
   cases hu : u.bind f with
   | none => rw [ht, hu] at h; simp at h
   | some u' =>
    rw [ht, hu] at h
    simp only [Option.some.injEq] at h
    subst h
    exact ⟨fun hb => gV ht (hv.1 hb), fun hb => gV hu (hv.2 hb)⟩
theorem dM {Q Q' : ak → α → Prop} (h : ∀ e a, Q e a → Q' e a) : ∀ {t : af α}, t.all Q → t.all Q'
 | leaf _ _, ht => h _ _ ht
 | ag _ _, ht => ⟨ht.1, dM h ht.2⟩
 | fork _ _ _, ht => ⟨fun hb => dM h (ht.1 hb), fun hb => dM h (ht.2 hb)⟩
end af
def wO (forks : List Nat) (ops : List Oper) : List Oper → Nat → List (Nat × Nat)
 | [], _ => []
 | o :: l, i => match o.dst with
  | some d => if (forks.contains d || (forks.contains (d + 100000) || forks.contains (d + 200000))) && ops.any (fun p => match p.guard with
    | some (g, _) => g == i
    | none => false) then (i, if forks.contains d then d else if forks.contains (d + 100000) then d + 100000 else d + 200000) :: wO forks ops l (i + 1) else wO forks ops l (i + 1)
  | none => wO forks ops l (i + 1)
def kX (T : Types) (Γ : aW) (ops : Array Oper) (d : Bool) (s : aE) : List (Nat × Nat) → List (Nat × Bool) → Option (af aE)
 | [], orc => match nW T Γ orc ops d s with
  | some (s', need) => some (.need need (.leaf .normal s'))
  | none => none
 | (g, t) :: gs, orc => match Nat.blt t 100000 with
  | false => match Nat.blt t 200000 with
   | true => kX T Γ ops d s gs ((g, true) :: orc)
   | false => kX T Γ ops d s gs ((g, false) :: orc)
  | true => match iw T Γ orc ops.toList (ops.toList.take (g + 1)) 0 s with
   | some (s', _, _) => match look t s'.bX with
    | some (.bool b) => match kX T Γ ops d s gs ((g, true) :: orc), kX T Γ ops d s gs ((g, false) :: orc) with
     | some x, some y => some (.fork b x y)
     | _, _ => none
    | _ => kX T Γ ops d s gs orc
   | none => none
def YY (forks : List Nat) : Operand → Nat
 | .tmp t => if forks.contains t then 1 else if forks.contains (t + 100000) then 2 else if forks.contains (t + 200000) then 3 else 0
 | _ => 0
def cU (T : Types) (Γ : aW) (forks : List Nat) : Nat → Code → aE → Option (af aE)
 | 0, _, _ => none
 | n + 1, c, s => match c with
  | .skip => some (.leaf .normal s)
  | .label _ => some (.leaf .normal s)
  | .region _ ops d => kX T Γ ops d s (wO forks ops.toList ops.toList 0) []
  | .seq x y => match cU T Γ forks n x s with
   | some t => t.bind fun e s' => match e with
    | .normal => cU T Γ forks n y s'
    | .exit i => some (.leaf (.exit i) s')
    | .ret => some (.leaf .ret s')
   | none => none
  | .cond b x y => match s.eU b with
   | some (.bool t) => match YY forks b with
    | 1 => match cU T Γ forks n x s, cU T Γ forks n y s with
     | some u, some v => some (.fork t u v)
     | _, _ => none
    | 2 => match cU T Γ forks n x s with
     | some u => some (.ag [t = true] u)
     | none => none
    | 3 => match cU T Γ forks n y s with
     | some u => some (.ag [t = false] u)
     | none => none
    | _ => match t with
     | true => cU T Γ forks n x s
     | false => cU T Γ forks n y s
   | _ => none
  | .block id x => match cU T Γ forks n x s with
   | some t => t.bind fun e s' => match e with
    | .normal => some (.leaf .normal s')
    | .exit j => match j == id with
     | true => some (.leaf .normal s')
     | false => some (.leaf (.exit j) s')
    | .ret => some (.leaf .ret s')
   | none => none
  | .loop x => match cU T Γ forks n x s with
   | some t => t.bind fun e s' => match e with
    | .normal => cU T Γ forks n (.loop x) s'
    | .exit j => some (.leaf (.exit j) s')
    | .ret => some (.leaf .ret s')
   | none => none
  | .exit id => some (.leaf (.exit id) s)
  | .ret => some (.leaf .ret s)
  | _ => none
section rules
variable {P : Program} {c : Ctx} {nt : Nat} {Q : ak → aE → Prop} {T : Types} (hT : dn P T) {Γ : aW} (hΓ : br P Γ) (hm : P.follows .mixedOrders = true)
include hT hΓ hm in
theorem pS {id : Nat} {ops : Array Oper} {d : Bool} (hd : bE nt (.region id ops d) = true) {s : aE} : ∀ (gs : List (Nat × Nat)) (orc : List (Nat × Bool)) {t : af aE}, kX T Γ ops d s gs orc = some t → t.all Q →
  aq P c nt (.region id ops d) s Q
 | [], orc, t, h, ht => by
  simp only [kX] at h
  cases hr : nW T Γ orc ops d s with
  | none => rw [hr] at h; simp at h
  | some q =>
   obtain ⟨s', need⟩ := q
   rw [hr] at h
   simp only [Option.some.injEq] at h
   subst h
   obtain ⟨h1, h2⟩ := af.yY.1 ht
   exact .region hT hΓ hm hd hr h1 h2
 | (g, k) :: gs, orc, t, h, ht => by
  simp only [kX] at h
  split at h
  ·split at h
   ·exact pS hd gs _ h ht
   ·exact pS hd gs _ h ht
  ·split at h
   ·split at h
    ·split at h
     ·rename_i x y hx hy
      simp only [Option.some.injEq] at h
      subst h
      exact (Bool.eq_false_or_eq_true _).elim (fun hb => pS hd gs _ hx (ht.1 hb)) (fun hb => pS hd gs _ hy (ht.2 hb))
     ·simp at h
    ·exact pS hd gs _ h ht
   ·simp at h
def qv (P : Program) (c : Ctx) (nt : Nat) (x : Code) (s : aE) (Q : ak → aE → Prop) : Prop :=
 ∀ a w, Rel c nt (fun k => k < s.next) s.bX s.store a w → ∀ fr k cs, ∃ e a' w', (∃ ae t, e = ak.mN ae ∧ Rel c nt (fun k => k < t.next) t.bX t.store a' w' ∧ Q ae t) ∧
  Arrives P (lone (fr.at a (.code x :: .inLoop x :: k)) cs w) fr k cs e a' w'
theorem qv.loop {x : Code} {s : aE} (h : qv P c nt x s Q) : aq P c nt (.loop x) s Q := by
 intro a w hrel fr k cs
 obtain ⟨e, a', w', g, harr⟩ := h a w hrel fr k cs
 exact ⟨e, a', w', g, .of_steps (.one step_loop) harr⟩
theorem qv.round {x : Code} {s : aE} (h : aq P c nt x s fun e s' => match e with
  | .normal => qv P c nt x s' Q
  | e => Q e s') : qv P c nt x s Q := by
 intro a w hrel fr k cs
 obtain ⟨e, a1, w1, ⟨ae, t, rfl, g1, g2⟩, harr⟩ := h a w hrel fr (.inLoop x :: k) cs
 cases ae with
 | normal =>
  obtain ⟨e2, a2, w2, hq2, harr2⟩ := g2 a1 w1 g1 fr k cs
  exact ⟨e2, a2, w2, hq2, .of_steps (Steps.trans harr (.one step_inLoop)) harr2⟩
 | exit i => exact ⟨_, a1, w1, ⟨.exit i, t, rfl, g1, g2⟩, .pass (x := .inLoop x) rfl (fun _ _ => .inl (by simp [ak.mN])) harr⟩
 | ret => exact ⟨_, a1, w1, ⟨.ret, t, rfl, g1, g2⟩, .pass (x := .inLoop x) rfl (fun _ _ => .inl (by simp [ak.mN])) harr⟩
include hT hΓ hm in
theorem ig {forks : List Nat} : ∀ (n : Nat) {x : Code} {s : aE} {Q : ak → aE → Prop}, bE nt x = true → ∀ {t : af aE}, cU T Γ forks n x s = some t → t.all Q → aq P c nt x s Q
 | 0, x, s, Q, _, t, h, _ => by simp [cU] at h
 | n + 1, .skip, s, Q, _, t, h, ht => by
  simp only [cU, Option.some.injEq] at h
  subst h; exact .skip ht
 | n + 1, .label l, s, Q, _, t, h, ht => by
  simp only [cU, Option.some.injEq] at h
  subst h; exact .label ht
 | n + 1, .exit i, s, Q, _, t, h, ht => by
  simp only [cU, Option.some.injEq] at h
  subst h; exact .exit ht
 | n + 1, .ret, s, Q, _, t, h, ht => by
  simp only [cU, Option.some.injEq] at h
  subst h; exact .ret ht
 | n + 1, .region i ops d, s, Q, hd, t, h, ht => by
  simp only [cU] at h
  exact pS hT hΓ hm hd _ _ h ht
 | n + 1, .seq x y, s, Q, hd, t, h, ht => by
  simp only [bE, Bool.and_eq_true] at hd
  simp only [cU] at h
  cases hx : cU T Γ forks n x s with
  | none => rw [hx] at h; simp at h
  | some u =>
   rw [hx] at h
   refine .seq (ig n hd.1 hx (af.dM ?_ (af.gV h ht)))
   rintro e s' ⟨v, h1, h2⟩
   cases e with
   | normal => exact ig n hd.2 h1 h2
   | exit i => simp only [Option.some.injEq] at h1; subst h1; exact h2
   | ret => simp only [Option.some.injEq] at h1; subst h1; exact h2
 | n + 1, .cond b x y, s, Q, hd, t, h, ht => by
  simp only [bE, Bool.and_eq_true] at hd
  simp only [cU] at h
  split at h
  ·rename_i t' hb
   split at h
   ·split at h
    ·rename_i u v hu hv
     simp only [Option.some.injEq] at h
     subst h
     exact .cond hb (fun h' => ig n hd.1 hu (ht.1 h')) (fun h' => ig n hd.2 hv (ht.2 h'))
    ·simp at h
   ·split at h
    ·rename_i u hu
     simp only [Option.some.injEq] at h
     subst h
     have hb' : t' = true := ht.1
     exact .cond hb (fun _ => ig n hd.1 hu ht.2) (fun h' => by rw [hb'] at h'; simp at h')
    ·simp at h
   ·split at h
    ·rename_i u hu
     simp only [Option.some.injEq] at h
     subst h
     have hb' : t' = false := ht.1
     exact .cond hb (fun h' => by rw [hb'] at h'; simp at h') (fun _ => ig n hd.2 hu ht.2)
    ·simp at h
   ·split at h
    ·exact .cond hb (fun _ => ig n hd.1 h ht) (fun h' => by simp at h')
    ·exact .cond hb (fun h' => by simp at h') (fun _ => ig n hd.2 h ht)
  ·simp at h
 | n + 1, .block id x, s, Q, hd, t, h, ht => by
  simp only [bE] at hd
  simp only [cU] at h
  cases hx : cU T Γ forks n x s with
  | none => rw [hx] at h; simp at h
  | some u =>
   rw [hx] at h
   refine .block (ig n hd hx (af.dM ?_ (af.gV h ht)))
   rintro e s' ⟨v, h1, h2⟩
   cases e with
   | normal => simp only [Option.some.injEq] at h1; subst h1; exact h2
   | exit j =>
    simp only at h1 ⊢
    cases hj : j == id with
    | true =>
     rw [hj] at h1
     simp only [Option.some.injEq] at h1; subst h1
     rw [if_pos (by simpa using hj)]; exact h2
    | false =>
     rw [hj] at h1
     simp only [Option.some.injEq] at h1; subst h1
     rw [if_neg (by simpa using hj)]; exact h2
   | ret => simp only [Option.some.injEq] at h1; subst h1; exact h2
 | n + 1, .loop x, s, Q, hd, t, h, ht => by
  have key : ∀ (m : Nat) (s : aE) (t : af aE), m ≤ n + 1 → cU T Γ forks m (.loop x) s = some t → t.all Q → qv P c nt x s Q := by
   intro m
   induction m with
   | zero => intro s t _ h; simp [cU] at h
   | succ m ihm =>
    intro s t hmn h ht
    simp only [cU] at h
    cases hx : cU T Γ forks m x s with
    | none => rw [hx] at h; simp at h
    | some u =>
     rw [hx] at h
     have hlen : m ≤ n := by omega
     refine .round (ig m (by simpa [bE] using hd) hx (af.dM ?_ (af.gV h ht)))
     rintro e s' ⟨v, h1, h2⟩
     cases e with
     | normal => exact ihm s' v (by omega) h1 h2
     | exit i => simp only [Option.some.injEq] at h1; subst h1; exact h2
     | ret => simp only [Option.some.injEq] at h1; subst h1; exact h2
  exact (key (n + 1) s t (Nat.le_refl _) h ht).loop
 | n + 1, .scope x, s, Q, _, t, h, _ => by simp [cU] at h
 | n + 1, .goto l, s, Q, _, t, h, _ => by simp [cU] at h
 | n + 1, .refuse l, s, Q, _, t, h, _ => by simp [cU] at h
 | n + 1, .rangeFunc _ _ _ _, s, Q, _, t, h, _ => by simp [cU] at h
def zy (s : aE) (t : Nat) : AV := match look t s.bX with
 | some v => v
 | none => .tuple []
def g8 (s : aE) : List Nat → List AV
 | [] => []
 | t :: l => zy s t :: g8 s l
def xk (st : aB) : List Nat → List Nat
 | [] => []
 | k :: l => match look k st with
  | some o => if o.row then xk st l else keys (o.f 0) ++ xk st l
  | none => xk st l
def LX (st : aB) (ks : List Nat) : List Nat := ks ++ xk st ks
def aQ (ls : List Nat) (s : aE) : Option (List AV × aB) :=
 some (g8 s ls, pick s.store (LX s.store (aX (g8 s ls))))
def DQ (ls : List Nat) (e : ak) (s : aE) : Option (af (List AV × aB)) :=
 match aQ ls s with
 | some v => some (.leaf e v)
 | none => none
def iA (T : Types) (fn : Func) (e : ak) (s : aE) : Option (af (List AV)) :=
 match e with
 | .exit _ => none
 | e => match fC T s fn.results.toList with
  | some (vs, q) => match dj (gL (pick s.store (aX vs))) vs with
   | some us => some (.need q (.leaf e us))
   | none => none
  | none => none
def bF (T : Types) (Γ : aW) (forks : List Nat) (n : Nat) (fn : Func) (x : Code) (s : aE) : Option (af (List AV)) :=
 match cU T Γ forks n x s with
 | some t => t.bind (iA T fn)
 | none => none
include hT hΓ hm in
theorem aq.ends {fn : Func} {x : Code} {s : aE} {forks : List Nat} (n : Nat) (hd : bE nt x = true) {t : af (List AV)} (hc : bF T Γ forks n fn x s = some t) {res : AV} (h : t.all fun _ us => ef us res) :
  aq P c nt x s fun e s' => (e = .normal ∨ e = .ret) ∧ Ends T fn res s' := by
 unfold bF at hc
 cases hx : cU T Γ forks n x s with
 | none => rw [hx] at hc; simp at hc
 | some u =>
  rw [hx] at hc
  refine ig hT hΓ hm n hd hx (af.dM ?_ (af.gV hc h))
  rintro e s' ⟨v, h1, h2⟩
  unfold iA at h1
  have key : ∀ {e' : ak}, (match fC T s' fn.results.toList with
    | some (vs, q) => match dj (gL (pick s'.store (aX vs))) vs with
     | some us => some (af.need q (.leaf e' us))
     | none => none
    | none => none) = some v → Ends T fn res s' := by
   intro e' h1
   cases hr : fC T s' fn.results.toList with
   | none => rw [hr] at h1; simp at h1
   | some p =>
    obtain ⟨vs, q⟩ := p
    rw [hr] at h1
    simp only at h1
    cases hf : dj (gL (pick s'.store (aX vs))) vs with
    | none => rw [hf] at h1; simp at h1
    | some us =>
     rw [hf] at h1
     simp only [Option.some.injEq] at h1
     subst h1
     obtain ⟨g1, g2⟩ := af.yY.1 h2
     exact ⟨vs, q, us, hr, g1, hf, g2⟩
  cases e with
  | normal => exact ⟨.inl rfl, key h1⟩
  | ret => exact ⟨.inr rfl, key h1⟩
  | exit i => simp at h1
include hT hΓ hm in
theorem bH {f : FuncId} {fn : Func} {x : Code} (hf : aO P f fn x) {args : List AV} {r : cC} (hk : aX args = []) (hlen : args.length ≤ fn.ntmps) (hpost : r.post = []) {forks : List Nat} (n : Nat) {t : af (List AV)}
  (hc : bF T Γ forks n fn x ⟨aN 0 args, [], 0⟩ = some t) (h : r.need → t.all fun _ us => ef us r.res) (K : Nat) (pre : aB) : aC P f K args pre r :=
 gA hT hf hk hlen hpost (fun hn _ _ => .ends hT hΓ hm n hf.dst hc (h hn)) K pre
end rules
end Go.Am

/- Weaker values; states by what is seen of them; contracts of functions that only read. -/
namespace Go.Am
open AV
theorem AS {v : AV} : aX [v] = keys v := by simp [aX]
theorem rS {ρ : Nat → Option Nat} {u v : AV} (hk : keys u = []) (h : bq u v) : fG ρ u v := by
 refine ⟨h.1, fun M w β cs hc => ?_⟩
 have := h.2 M w cs (yG hc (by rw [AS, hk]))
 exact this.mono (fun b o h1 h2 => ⟨h2, h1⟩) _ fun k x hx => by simp [aR] at hx
theorem aG {ρ : Nat → Option Nat} {u : AV} (hk : keys u = []) : fG ρ u u := rS hk (.refl u)
theorem eB {ρ : Nat → Option Nat} {k : IntKind} {a b : Int} (h : a = b) : fG ρ (.int k a) (.int k b) := h ▸ aG (by simp [keys])
theorem cH {ρ : Nat → Option Nat} {k k2 es s s2 n n2 : Nat} (h : ρ k2 = some k) (hs : s = s2) (hn : n = n2) : fG ρ (.own k es s n) (.own k2 es s2 n2) := by
 subst hs hn
 refine ⟨rfl, fun M w β cs hc => ?_⟩
 cases hc with
 | own h1 h2 h3 h4 h5 h6 =>
  cases h6
  exact .own (by simp [h, h1]) h2 h3 h4 h5 .nil
 | own0 h5 h6 => cases h6; exact .own0 h5 .nil
theorem B3 {ρ : Nat → Option Nat} {k es : Nat} (h : 0 < es) : fG ρ .nil (.own k es 0 0) := by
 refine ⟨rfl, fun M w β cs hc => ?_⟩
 cases hc with
 | vnil h1 => cases h1; exact .own0 h .nil
theorem jF {ρ : Nat → Option Nat} {k k2 idx es off : Nat} {p : List Nat} (h : ρ k2 = some k) : fG ρ (.ptr k idx es off p) (.ptr k2 idx es off p) := by
 refine ⟨rfl, fun M w β cs hc => ?_⟩
 cases hc with
 | ptr h1 h6 =>
  cases h6
  exact .ptr (by simp only [h, Option.bind_some]; exact h1) .nil
theorem bq.trans {a b c : AV} (h : bq a b) (h' : bq b c) : bq a c := ⟨h'.1.trans h.1, fun M w cs hc => h'.2 M w cs (h.2 M w cs hc)⟩
theorem cV {a b : AV} (h : a = b) : bq a b := h ▸ .refl a
theorem bm {k : IntKind} {a b : Int} (h : a = b) : bq (.int k a) (.int k b) := h ▸ .refl _
theorem cZ {a b : Bool} (h : a = b) : bq (.bool a) (.bool b) := h ▸ .refl _
theorem An {M : Nat → Prop} {w : World} : ∀ {us vs : List AV} {cs : List Value}, dX us vs → aH M w aR us cs → aH M w aR vs cs
 | [], [], _, _, h => h
 | u :: us, v :: vs, cs, hl, h => by
  obtain ⟨c1, c2, rfl, h1, h2⟩ := h.split
  exact (hl.1.2 M w c1 h1).cons (An hl.2 h2)
 | [], _ :: _, _, h, _ => h.elim
 | _ :: _, [], _, h, _ => h.elim
theorem eI {us vs : List AV} (h : dX us vs) : bq (.agg us) (.agg vs) := by
 refine ⟨rfl, fun M w cs hc => ?_⟩
 cases hc with
 | agg h1 h2 => cases h2; exact .agg (An h h1) .nil
theorem gj {es n : Nat} {f g : Nat → AV} (h : ∀ i, i < n → bq (f i) (g i)) : bq (.ah es n f) (.ah es n g) := by
 refine ⟨rfl, fun M w cs hc => ?_⟩
 cases hc with
 | ah h1 h2 h3 h4 h5 h6 => cases h6; exact .ah h1 h2 h3 h4 (fun i hi => (h i hi).2 _ _ _ (h5 i hi)) .nil
theorem Jc {es n m : Nat} {f g : Nat → AV} (hn : n = m) (h : ∀ i, i < n → f i = g i) : bq (.ah es n f) (.ah es m g) := hn ▸ gj fun i hi => cV (h i hi)
theorem R9 {N i : Nat} {v : Value} (h : (o8 N)[i]? = some v) : i < nl N ∧ v = .int .u32 (au N i) := by
 simp only [o8, List.getElem?_map] at h
 rw [Option.map_eq_some_iff] at h
 obtain ⟨a, h1, h2⟩ := h
 by_cases hi : i < nl N
 ·rw [List.getElem?_range hi] at h1
  simp only [Option.some.injEq] at h1
  subst h1
  exact ⟨hi, h2.symm⟩
 ·rw [List.getElem?_eq_none (by simpa using hi)] at h1
  simp at h1
def aj (z : Nat → Nat) : Nat → AV := fun i => .int .u32 (z i : Nat)
theorem iM {n N : Nat} {f : Nat → AV} (hn : nl N = n) (hf : ∀ i, i < n → f i = .int .u32 (au N i : Nat)) : bq (.ah 1 n f) (.mag N) := by
 subst hn
 refine ⟨rfl, fun M w cs hc => ?_⟩
 cases hc with
 | ah h1 h2 h3 h4 h5 h6 =>
  rename_i base cap cs cf
  cases h6
  have hcf : ∀ i, i < nl N → cf i = [.int .u32 (au N i)] := fun i hi => by
   have := h5 i hi
   rw [hf i hi] at this
   revert this
   generalize cf i = l
   intro this
   cases this with
   | int h => cases h; rfl
  refine .mag ?_ h3 .nil
  rcases h1 with h1 | ⟨b, o, rfl, hm⟩
  ·refine .inl ?_
   unfold nl at h1
   split at h1
   ·assumption
   ·omega
  ·by_cases h0 : nl N = 0
   ·refine .inl ?_
    unfold nl at h0
    split at h0
    ·assumption
    ·omega
   ·refine .inr ⟨b, o, rfl, ?_⟩
    obtain ⟨c, ty, fr, g1, g2, g3⟩ := hm 0 (by omega)
    refine ⟨c, ty, fr, g1, g2, fun i v hv => ?_⟩
    obtain ⟨hi, rfl⟩ := R9 hv
    obtain ⟨c', ty', fr', g1', g2', g3'⟩ := hm i hi
    rw [g1] at g1'
    simp only [Option.some.injEq, Obj.cells.injEq] at g1'
    obtain ⟨rfl, rfl, rfl⟩ := g1'
    have := g3' 0 _ (by rw [hcf i hi]; rfl)
    simpa using this
theorem II {N n : Nat} {f : Nat → AV} (hn : n = nl N) (hf : ∀ i, i < n → f i = .int .u32 (au N i : Nat)) : bq (.mag N) (.ah 1 n f) := by
 subst hn
 refine ⟨rfl, fun M w cs hc => ?_⟩
 cases hc with
 | mag h1 h2 h3 =>
  cases h3
  refine .ah (cf := fun i => [.int .u32 (au N i)]) ?_ (by omega) h2 (fun _ _ => rfl) (fun i hi => by rw [hf i hi]; exact .int .nil) .nil
  rcases h1 with rfl | ⟨b, o, rfl, c, ty, fr, g1, g2, g3⟩
  ·exact .inl (by simp [nl])
  ·refine .inr ⟨b, o, rfl, fun i hi => ⟨c, ty, fr, g1, g2, fun j v hj => ?_⟩⟩
   cases j with
   | zero =>
    simp only [List.getElem?_cons_zero, Option.some.injEq] at hj
    subst hj
    have := g3 i _ (yS hi)
    simpa using this
   | succ j => simp at hj
theorem fS {es : Nat} {f : Nat → AV} (h : 0 < es) : bq .nil (.ah es 0 f) := by
 refine ⟨rfl, fun M w cs hc => ?_⟩
 cases hc with
 | vnil h1 =>
  cases h1
  exact .ah (cf := fun _ => []) (.inl rfl) h (by omega) (fun i hi => by omega) (fun i hi => by omega) .nil
theorem iB : bq .nil (.mag 0) := (fS (es := 1) (f := fun _ => .nil) (by omega)).trans (iM (by simp [nl]) fun i hi => by omega)
theorem qx {b : Bool} {x y : Nat} {q : Rat} {n : Nat} (hs : Sz q n) (hb : b = decide (q < 0)) (hx : x = q.num.natAbs) (hy : y = if q.den = 1 then 0 else q.den) : bq (.agg [.bool b, .mag x, .mag y]) (.rat q n) := by
 subst hb hx
 refine ⟨rfl, fun M w cs hc => ?_⟩
 cases hc with
 | agg h1 h2 =>
  cases h2
  cases h1 with
  | bool h1 =>
   obtain ⟨c1, c2, rfl, h1, h2⟩ := h1.split
   have l1 := h1.length
   have l2 := h2.length
   simp only [sizes, size] at l1 l2
   match c1, c2, l1, l2 with
   | [x], [y], _, _ => exact .rat hs h1 (hy ▸ h2) .nil
theorem P1 {q : Rat} {n : Nat} : bq (.rat q n) (.agg (AV.kids (.rat q n))) := by
 refine ⟨rfl, fun M w cs hc => ?_⟩
 cases hc with
 | rat hs h1 h2 h3 => cases h3; exact .agg (.bool (h1.cons h2)) .nil
theorem jb {q : Rat} {n m : Nat} (h : n ≤ m) : bq (.rat q n) (.rat q m) := by
 refine ⟨rfl, fun M w cs hc => ?_⟩
 cases hc with
 | rat hs h1 h2 h3 =>
  cases h3
  exact .rat ⟨Nat.lt_of_lt_of_le hs.1 (Nat.pow_le_pow_right (by omega) h), Nat.lt_of_lt_of_le hs.2 (Nat.pow_le_pow_right (by omega) h)⟩ h1 h2 .nil
def az {α : Type} : List Nat → List α → List (Nat × α)
 | k :: ks, a :: l => (k, a) :: az ks l
 | _, _ => []
def eO (ρ : Nat → Option Nat) : List AV → List AV → Prop
 | [], [] => True
 | u :: us, v :: vs => (u.isTuple = false ∧ fG ρ u v) ∧ eO ρ us vs
 | _, _ => False
def mu (ρ : Nat → Option Nat) (os : aB) : aB → Prop
 | [] => True
 | (k2, o2) :: ps => (∃ k1 o1, ρ k2 = some k1 ∧ look k1 os = some o1 ∧ ct ρ o1 o2) ∧ mu ρ os ps
theorem IX {s : aE} {t : Nat} (h : (zy s t).isTuple = false) : look t s.bX = some (zy s t) := by
 unfold zy at h ⊢
 split
 ·assumption
 ·rename_i hn
  rw [hn] at h
  simp [isTuple] at h
theorem B5 {s : aE} : ∀ {ls : List Nat} {vs : List AV} {ρ : Nat → Option Nat}, eO ρ (g8 s ls) vs → ∀ t v, look t (az ls vs) = some v → ∃ u, look t s.bX = some u ∧ u.isTuple = false ∧ fG ρ u v
 | [], vs, ρ, _, t, v, h => by simp [az, look] at h
 | x :: ls, vs, ρ, hle, t, v, h => by
  cases vs with
  | nil => exact hle.elim
  | cons b vs =>
   simp only [az, look] at h
   split at h
   ·rename_i he
    have : x = t := by simpa using he
    subst this
    simp only [Option.some.injEq] at h
    subst h
    exact ⟨_, IX hle.1.1, hle.1.1, hle.1.2⟩
   ·exact B5 hle.2 t v h
theorem zP {os : aB} : ∀ {ps : aB} {ρ : Nat → Option Nat}, mu ρ os ps → ∀ k2 o2, look k2 ps = some o2 → ∃ k1 o1, ρ k2 = some k1 ∧ look k1 os = some o1 ∧ ct ρ o1 o2
 | [], _, _, _, _, h => by simp [look] at h
 | (j, b) :: ps, ρ, hle, t, v, h => by
  simp only [look] at h
  split at h
  ·rename_i he
   have : j = t := by simpa using he
   subst this
   simp only [Option.some.injEq] at h
   subst h
   exact hle.1
  ·exact zP hle.2 t v h
def aU (l : List (Nat × Nat)) : Nat → Option Nat := fun k => look k l
def gU (nx : Nat) (l : List (Nat × Nat)) : Bool := l.all fun p => decide (p.1 < nx) && l.all fun q => p.2 != q.2 || p.1 == q.1
theorem nA {α : Type} {k : Nat} {a : α} : ∀ {l : List (Nat × α)}, look k l = some a → (k, a) ∈ l
 | [], h => by simp [look] at h
 | (j, b) :: l, h => by
  simp only [look] at h
  split at h
  ·rename_i he
   have : j = k := by simpa using he
   subst this
   simp only [Option.some.injEq] at h
   subst h
   simp
  ·exact List.mem_cons_of_mem _ (nA h)
def r6 (nx : Nat) (ρ : Nat → Option Nat) (os : aB) : aB → Prop
 | [] => True
 | (k2, o2) :: ps => ((∃ k1 o1, ρ k2 = some k1 ∧ look k1 os = some o1 ∧ ct ρ o1 o2) ∨ (ρ k2 = none ∧ qz o2 ∧ k2 < nx)) ∧ r6 nx ρ os ps
theorem mu.Fq {nx : Nat} {ρ : Nat → Option Nat} {os : aB} : ∀ {ps : aB}, mu ρ os ps → r6 nx ρ os ps
 | [], _ => trivial
 | (_, _) :: _, h => ⟨.inl h.1, mu.Fq h.2⟩
theorem Er {nx : Nat} {os : aB} : ∀ {ps : aB} {ρ : Nat → Option Nat}, r6 nx ρ os ps → ∀ k2 o2, look k2 ps = some o2 → (∃ k1 o1, ρ k2 = some k1 ∧ look k1 os = some o1 ∧ ct ρ o1 o2) ∨ (ρ k2 = none ∧ qz o2 ∧ k2 < nx)
 | [], _, _, _, _, h => by simp [look] at h
 | (j, b) :: ps, ρ, hle, t, v, h => by
  simp only [look] at h
  split at h
  ·rename_i he
   have : j = t := by simpa using he
   subst this
   simp only [Option.some.injEq] at h
   subst h
   exact hle.1
  ·exact Er hle.2 t v h
theorem Fu {c : Ctx} {s' : aE} {ls : List Nat} {us vs : List AV} {os ps : aB} {nx : Nat} (rl : List (Nat × Nat)) (hv : aQ ls s' = some (us, os)) (hk0 : ∀ k x, c.k0 k = some x → look k rl = some k) (hr : gU nx rl = true)
  (hs : eO (aU rl) us vs) (ho : r6 nx (aU rl) os ps) : ∃ ρ, Le c ρ s' ⟨az ls vs, ps, nx⟩ := by
 unfold aQ at hv
 ·simp only [Option.some.injEq, Prod.mk.injEq] at hv
  obtain ⟨rfl, rfl⟩ := hv
  have hall : ∀ p ∈ rl, p.1 < nx ∧ ∀ q ∈ rl, p.2 = q.2 → p.1 = q.1 := fun p hp => by
   have := List.all_eq_true.1 hr p hp
   simp only [Bool.and_eq_true, decide_eq_true_eq] at this
   refine ⟨this.1, fun q hq he => ?_⟩
   have h3 := List.all_eq_true.1 this.2 q hq
   simpa [he] using h3
  refine ⟨aU rl, ?_, B5 hs, fun k2 o2 hk => ?_, fun k2 k1 hk => (hall _ (nA hk)).1, hk0⟩
  ·intro a b k ha hb
   exact (hall _ (nA ha)).2 _ (nA hb) rfl
  ·refine (Er ho k2 o2 hk).imp (fun ⟨k1, o1, g1, g2, g3⟩ => ⟨k1, o1, g1, ?_, g3⟩) id
   rw [kn] at g2
   split at g2
   ·exact g2
   ·simp at g2
theorem cz {c : Ctx} {s' : aE} {ls : List Nat} {us vs : List AV} {os ps : aB} {nx : Nat} (rl : List (Nat × Nat)) (hv : aQ ls s' = some (us, os)) (hk0 : c.k0 = aR) (hr : gU nx rl = true)
  (hs : eO (aU rl) us vs) (ho : mu (aU rl) os ps) : ∃ ρ, Le c ρ s' ⟨az ls vs, ps, nx⟩ :=
 Fu rl hv (fun k x hk => by rw [hk0] at hk; simp [aR] at hk) hr hs ho.Fq
theorem g7 {ρ : Nat → Option Nat} {r w : Bool} {es n m : Nat} {f g : Nat → AV} (hn : m = n) (h : ∀ i, i < n → fG ρ (f i) (g i)) : ct ρ ⟨r, w, es, n, f⟩ ⟨r, w, es, m, g⟩ := ⟨rfl, rfl, rfl, hn, h⟩
theorem fm {P : Program} {f : FuncId} {K : Nat} {args args' : List AV} {r : cC} (hf : aC P f K args' [] r) (hk : aX args = []) (h : dX args args') (pre : aB) : aC P f K args pre r := by
 refine aC.frame (pre := []) ?_ (fun k o hk => by simp [look] at hk)
 intro need
 obtain ⟨h1, h2⟩ := hf need
 refine ⟨h1, fun c D D' β w vs hw0 hMw hrel hD hK hv => h2 c D D' β w vs hw0 hMw hrel hD hK ?_⟩
 have h3 := y8 h (hv.aR hk)
 exact h3.mono (fun b o h1 h2 => ⟨h2, h1⟩) fun k x hx => by simp [aR] at hx
def bu (g : List AV → Option cC) : Spec := fun _ args pre => match dj pre args with
 | some ar => match g ar with
  | some r => match r.post with
   | [] => some r
   | _ => none
  | none => none
 | none => none
mutual
theorem VL {pre : aB} : ∀ {v u : AV}, cD pre v = some u → keys u = []
 | .bool _, u, h => by simp only [cD, Option.some.injEq] at h; subst h; rfl
 | .int _ _, u, h => by simp only [cD, Option.some.injEq] at h; subst h; rfl
 | .rat _ _, u, h => by simp only [cD, Option.some.injEq] at h; subst h; rfl
 | .mag _, u, h => by simp only [cD, Option.some.injEq] at h; subst h; rfl
 | .ah _ _ _, u, h => by simp only [cD, Option.some.injEq] at h; subst h; rfl
 | .cX _ _ _ _, u, h => by simp only [cD, Option.some.injEq] at h; subst h; rfl
 | .nil, u, h | .void, u, h | .str _, u, h => by simp only [cD, Option.some.injEq] at h; subst h; rfl
 | .bp _, u, h => by simp only [cD, Option.some.injEq] at h; subst h; rfl
 | .ptr _ _ _ _ _, u, h => by simp [cD] at h
 | .tuple _, u, h => by simp [cD] at h
 | .func f l, u, h => by
  simp only [cD] at h
  split at h
  ·rename_i m hm
   split at h
   ·simp only [Option.some.injEq] at h; subst h
    simp only [keys]; exact sj hm
   ·simp at h
  ·simp at h
 | .own k es s n, u, h => by
  simp only [cD] at h
  split at h
  ·split at h
   ·simp only [Option.some.injEq] at h; subst h; rfl
   ·simp at h
  ·simp at h
 | .agg l, u, h => by
  simp only [cD] at h
  split at h
  ·rename_i m hm
   simp only [Option.some.injEq] at h; subst h
   simp only [keys]; exact sj hm
  ·simp at h
theorem sj {pre : aB} : ∀ {l m : List AV}, dj pre l = some m → aX m = []
 | [], m, h => by simp only [dj, Option.some.injEq] at h; subst h; rfl
 | a :: l, m, h => by
  simp only [dj] at h
  split at h
  ·rename_i b m' h1 h2
   simp only [Option.some.injEq] at h; subst h
   simp only [aX, VL h1, sj h2, List.append_nil]
  ·simp at h
end
theorem bQ {P : Program} {f : FuncId} {g : List AV → Option cC} (h : ∀ K args r, aX args = [] → g args = some r → r.post = [] → aC P f K args [] r) :
  ∀ K args pre r, bu g K args pre = some r → aC P f K args pre r := by
 intro K args pre r hg
 unfold bu at hg
 split at hg
 ·rename_i ar has
  split at hg
  ·rename_i r' hr'
   split at hg
   ·rename_i hp
    simp only [Option.some.injEq] at hg
    subst hg
    have hf := h K ar r' (sj has) hr' hp
    intro need
    obtain ⟨h1, h2⟩ := hf need
    refine ⟨fun k o ho => by rw [hp] at ho; simp [look] at ho, fun c D D' β w vs hw0 hMw hrel hD hK hv => ?_⟩
    have hv' : bP (aI c pre β) w aR ar vs := yZ hrel (fun _ _ h => h) has hv
    exact (hf.frame (pre' := pre) (fun k o hk => by simp [look] at hk)).use need hrel (fun _ _ h => h) hD hK (hv'.mono (fun b o h1 h2 => ⟨h2, h1⟩) fun k x hx => by simp [aR] at hx)
   ·simp at hg
  ·simp at hg
 ·simp at hg
end Go.Am

/- Parts of code; a piece of code inside a chain; loops. -/
namespace Go.Am
def part : Code → List Nat → Code
 | c, [] => c
 | .seq x _, 0 :: p => part x p
 | .seq _ y, _ :: p => part y p
 | .cond _ x _, 0 :: p => part x p
 | .cond _ _ y, _ :: p => part y p
 | .block _ x, _ :: p => part x p
 | .loop x, _ :: p => part x p
 | _, _ => .skip
def before : Code → List Nat → List Code
 | .seq x _, 0 :: p => before x p
 | .seq x y, _ :: p => x :: before y p
 | _, _ => []
def behind : Code → List Nat → List Code
 | .seq x y, 0 :: p => behind x p ++ [y]
 | .seq _ y, _ :: p => behind y p
 | _, _ => []
def chain : Code → List Nat → Bool
 | _, [] => true
 | .seq x _, 0 :: p => chain x p
 | .seq _ y, _ :: p => chain y p
 | _, _ => false
def ax (fn : Func) : Code := match fn.body with
 | some x => x
 | none => .skip
def cS (k : aE → Prop) (Q : ak → aE → Prop) : ak → aE → Prop
 | .normal, s => k s
 | e, s => Q e s
def aA (P : Program) (c : Ctx) (nt : Nat) : List Code → aE → (ak → aE → Prop) → Prop
 | [], s, Q => Q .normal s
 | x :: l, s, Q => aq P c nt x s (cS (fun s' => aA P c nt l s' Q) Q)
section rules
variable {P : Program} {c : Ctx} {nt : Nat} {s : aE} {Q : ak → aE → Prop}
theorem aq.Ei {x y : Code} (h : aq P c nt x s (cS (fun s' => aq P c nt y s' Q) Q)) : aq P c nt (.seq x y) s Q :=
 .seq (h.mono fun e s' h => by cases e <;> exact h)
theorem aA.mono {Q Q' : ak → aE → Prop} (hq : ∀ e s', Q e s' → Q' e s') : ∀ {l : List Code} {s : aE}, aA P c nt l s Q → aA P c nt l s Q'
 | [], _, h => hq _ _ h
 | x :: l, s, h => aq.mono h fun e s' h => by
  cases e with
  | normal => exact aA.mono hq (l := l) h
  | exit i => exact hq _ _ h
  | ret => exact hq _ _ h
theorem aA.append {Q : ak → aE → Prop} : ∀ {a b : List Code} {s : aE}, aA P c nt (a ++ b) s Q → aA P c nt a s (cS (fun s' => aA P c nt b s' Q) Q)
 | [], b, s, h => h
 | x :: a, b, s, h => aq.mono h fun e s' h => by
  cases e with
  | normal => exact aA.append (a := a) h
  | exit i => exact h
  | ret => exact h
theorem aq.hole : ∀ (p : List Nat) {x : Code} {s : aE} {Q : ak → aE → Prop}, chain x p = true →
  aA P c nt (before x p) s (cS (fun s' => aq P c nt (part x p) s' (cS (fun s'' => aA P c nt (behind x p) s'' Q) Q)) Q) → aq P c nt x s Q
 | [], x, s, Q, _, h => by
  have hb : before x [] = [] := by cases x <;> rfl
  have hh : behind x [] = [] := by cases x <;> rfl
  have hp : part x [] = x := by cases x <;> rfl
  rw [hb, hh, hp] at h
  exact aq.mono h fun e s' h => by cases e <;> exact h
 | 0 :: p, .seq x y, s, Q, hc, h => by
  refine .Ei (aq.hole p (x := x) hc ?_)
  refine aA.mono ?_ h
  intro e s' h1
  cases e with
  | normal =>
   refine aq.mono h1 ?_
   intro e s'' h2
   cases e with
   | normal =>
    refine aA.mono ?_ (aA.append h2)
    intro e s3 h3
    cases e with
    | normal => exact aq.mono h3 fun e s' h => by cases e <;> exact h
    | exit i => exact h3
    | ret => exact h3
   | exit i => exact h2
   | ret => exact h2
  | exit i => exact h1
  | ret => exact h1
 | (n + 1) :: p, .seq x y, s, Q, hc, h => by
  refine .Ei (aq.mono h ?_)
  intro e s' h1
  cases e with
  | normal => exact aq.hole p (x := y) hc h1
  | exit i => exact h1
  | ret => exact h1
 | _ :: _, .cond _ _ _, _, _, hc, _ => by simp [chain] at hc
 | _ :: _, .block _ _, _, _, hc, _ => by simp [chain] at hc
 | _ :: _, .loop _, _, _, hc, _ => by simp [chain] at hc
 | _ :: _, .region _ _ _, _, _, hc, _ => by simp [chain] at hc
 | _ :: _, .skip, _, _, hc, _ => by simp [chain] at hc
 | _ :: _, .label _, _, _, hc, _ => by simp [chain] at hc
 | _ :: _, .exit _, _, _, hc, _ => by simp [chain] at hc
 | _ :: _, .ret, _, _, hc, _ => by simp [chain] at hc
 | _ :: _, .scope _, _, _, hc, _ => by simp [chain] at hc
 | _ :: _, .goto _, _, _, hc, _ => by simp [chain] at hc
 | _ :: _, .refuse _, _, _, hc, _ => by simp [chain] at hc
 | _ :: _, .rangeFunc _ _ _ _, _, _, hc, _ => by simp [chain] at hc
def inBlock (i : Nat) (Q : ak → aE → Prop) : ak → aE → Prop
 | .exit j, s => if j = i then Q .normal s else Q (.exit j) s
 | e, s => Q e s
theorem aq.CC {i : Nat} {x : Code} (h : aq P c nt x s (inBlock i Q)) : aq P c nt (.block i x) s Q :=
 .block (h.mono fun e s' h => by cases e <;> exact h)
theorem aq.fz {x y : Code} {i : Nat} (hx : x = .block i (.loop y)) {α : Type} (S : α → aE) (I : α → Prop) (μ : α → Nat) (j : α) (hs : ∃ ρ, Le c ρ s (S j)) (h0 : I j)
  (round : ∀ j, I j → aq P c nt y (S j) (cS (fun s' => ∃ k, (∃ ρ, Le c ρ s' (S k)) ∧ I k ∧ μ k < μ j) (inBlock i Q))) : aq P c nt x s Q := by
 subst hx
 exact .CC (.LW S I μ j hs h0 fun j hj => (round j hj).mono fun e s' h => by cases e <;> exact h)
variable {T : Types} (hT : dn P T) {Γ : aW} (hΓ : br P Γ) (hm : P.follows .mixedOrders = true)
def mQ (T : Types) (Γ : aW) (forks : List Nat) (n : Nat) : List Code → aE → Option (af aE)
 | [], s => some (.leaf .normal s)
 | x :: l, s => match cU T Γ forks n x s with
  | some t => t.bind fun e s' => match e with
   | .normal => mQ T Γ forks n l s'
   | .exit i => some (.leaf (.exit i) s')
   | .ret => some (.leaf .ret s')
  | none => none
include hT hΓ hm in
theorem xO {forks : List Nat} {n : Nat} : ∀ {l : List Code} {s : aE} {t : af aE}, (l.all fun x => bE nt x) = true → mQ T Γ forks n l s = some t → t.all Q → aA P c nt l s Q
 | [], s, t, _, h, ht => by
  simp only [mQ, Option.some.injEq] at h
  subst h
  exact ht
 | x :: l, s, t, hd, h, ht => by
  simp only [List.all_cons, Bool.and_eq_true] at hd
  simp only [mQ] at h
  cases hx : cU T Γ forks n x s with
  | none => rw [hx] at h; simp at h
  | some u =>
   rw [hx] at h
   refine ig hT hΓ hm n hd.1 hx (af.dM ?_ (af.gV h ht))
   rintro e s' ⟨v, h1, h2⟩
   cases e with
   | normal => exact xO hd.2 h1 h2
   | exit i => simp only [Option.some.injEq] at h1; subst h1; exact h2
   | ret => simp only [Option.some.injEq] at h1; subst h1; exact h2
def aF (T : Types) (Γ : aW) (forks : List Nat) (n : Nat) (ls : List Nat) (l : List Code) (s : aE) : Option (af (List AV × aB)) :=
 match mQ T Γ forks n l s with
 | some t => t.bind (DQ ls)
 | none => none
include hT hΓ hm in
theorem aA.aS {forks : List Nat} (n : Nat) (ls : List Nat) {l : List Code} {s : aE} {t : af (List AV × aB)} (hc : aF T Γ forks n ls l s = some t) (hd : (l.all fun x => bE nt x) = true)
  (h : t.all fun e v => ∀ s', aQ ls s' = some v → Q e s') : aA P c nt l s Q := by
 unfold aF at hc
 split at hc
 ·rename_i u hx
  refine xO hT hΓ hm hd hx (af.dM ?_ (af.gV hc h))
  rintro e s' ⟨v, h1, h2⟩
  unfold DQ at h1
  cases hv : aQ ls s' with
  | none => rw [hv] at h1; simp at h1
  | some z =>
   rw [hv] at h1
   simp only [Option.some.injEq] at h1
   subst h1
   exact h2 s' hv
 ·simp at hc
include hT hΓ hm in
theorem aq.aS {x : Code} {forks : List Nat} (n : Nat) (ls : List Nat) {t : af (List AV × aB)} (hc : aF T Γ forks n ls [x] s = some t) (hd : bE nt x = true)
  (h : t.all fun e v => ∀ s', aQ ls s' = some v → Q e s') : aq P c nt x s Q := by
 have := aA.aS (P := P) (c := c) (nt := nt) (l := [x]) (Q := Q) hT hΓ hm n ls hc (by simp [hd]) h
 exact aq.mono this fun e s' h => by cases e <;> exact h
def b9 (T : Types) (Γ : aW) (forks : List Nat) (n : Nat) (fn : Func) (l : List Code) (s : aE) : Option (af (List AV)) :=
 match mQ T Γ forks n l s with
 | some t => t.bind (iA T fn)
 | none => none
def Fin (T : Types) (fn : Func) (res : AV) (e : ak) (s : aE) : Prop := (e = .normal ∨ e = .ret) ∧ Ends T fn res s
theorem wU {fn : Func} {e : ak} {s' : aE} {v : af (List AV)} {res : AV} (h1 : iA T fn e s' = some v) (h2 : v.all fun _ us => ef us res) : Fin T fn res e s' := by
 unfold iA at h1
 have key : ∀ {e' : ak}, (match fC T s' fn.results.toList with
   | some (vs, q) => match dj (gL (pick s'.store (AV.aX vs))) vs with
    | some us => some (af.need q (.leaf e' us))
    | none => none
   | none => none) = some v → Ends T fn res s' := by
  intro e' h1
  cases hr : fC T s' fn.results.toList with
  | none => rw [hr] at h1; simp at h1
  | some p =>
   obtain ⟨vs, q⟩ := p
   rw [hr] at h1
   simp only at h1
   cases hf : dj (gL (pick s'.store (AV.aX vs))) vs with
   | none => rw [hf] at h1; simp at h1
   | some us =>
    rw [hf] at h1
    simp only [Option.some.injEq] at h1
    subst h1
    obtain ⟨g1, g2⟩ := af.yY.1 h2
    exact ⟨vs, q, us, hr, g1, hf, g2⟩
 cases e with
 | normal => exact ⟨.inl rfl, key h1⟩
 | ret => exact ⟨.inr rfl, key h1⟩
 | exit i => simp at h1
include hT hΓ hm in
theorem aA.fin {fn : Func} {forks : List Nat} (n : Nat) {l : List Code} {s : aE} {t : af (List AV)} (hc : b9 T Γ forks n fn l s = some t) (hd : (l.all fun x => bE nt x) = true) {res : AV}
  (h : t.all fun _ us => ef us res) : aA P c nt l s (Fin T fn res) := by
 unfold b9 at hc
 split at hc
 ·rename_i u hx
  refine xO hT hΓ hm hd hx (af.dM ?_ (af.gV hc h))
  rintro e s' ⟨v, h1, h2⟩
  exact wU h1 h2
 ·simp at hc
theorem aA.weak {l : List Code} {s2 : aE} (hl : l.isEmpty = false) (hle : ∃ ρ, Le c ρ s s2) (h : aA P c nt l s2 Q) : aA P c nt l s Q := by
 obtain ⟨ρ, hle⟩ := hle
 cases l with
 | nil => simp at hl
 | cons x l => exact aq.weak hle h
theorem aq.jB {x : Code} {s2 : aE} (hle : ∃ ρ, Le c ρ s s2) (h : aq P c nt x s2 Q) : aq P c nt x s Q := by
 obtain ⟨ρ, hle⟩ := hle
 exact aq.weak hle h
end rules
theorem aP {P : Program} {f : FuncId} {fn : Func} (h : P.funcs[f]? = some fn) (hb : fn.body.isSome = true) (hn : (fn.name == "runtime.NumGoroutine") = false) (hd : bE fn.ntmps (ax fn) = true) : aO P f fn (ax fn) := by
 refine ⟨h, ?_, hn, hd⟩
 unfold ax
 cases hbd : fn.body with
 | none => rw [hbd] at hb; simp at hb
 | some x => rfl
end Go.Am

/- Plain laws of limbs. -/
namespace Go.Am
def val : Nat → (Nat → Nat) → Nat
 | 0, _ => 0
 | n + 1, z => val n z + z n * 2 ^ (32 * n)
theorem ec {z : Nat → Nat} : ∀ {n : Nat}, (∀ i, i < n → z i < 2 ^ 32) → val n z < 2 ^ (32 * n)
 | 0, _ => by simp [val]
 | n + 1, h => by
  have ih := ec (z := z) (n := n) fun i hi => h i (by omega)
  have h1 := h n (by omega)
  have : z n * 2 ^ (32 * n) + 2 ^ (32 * n) ≤ 2 ^ 32 * 2 ^ (32 * n) := by
   rw [← Nat.succ_mul]; exact Nat.mul_le_mul_right _ h1
  have e : 2 ^ (32 * (n + 1)) = 2 ^ 32 * 2 ^ (32 * n) := by rw [← Nat.pow_add]; congr 1; omega
  rw [e, val]; omega
theorem val_congr {z y : Nat → Nat} : ∀ {n : Nat}, (∀ i, i < n → z i = y i) → val n z = val n y
 | 0, _ => rfl
 | n + 1, h => by rw [val, val, val_congr fun i hi => h i (by omega), h n (by omega)]
theorem jV {z : Nat → Nat} {k : Nat} : ∀ {n : Nat}, k ≤ n → (∀ i, k ≤ i → i < n → z i = 0) → val n z = val k z
 | 0, h, _ => by
    have : k = 0 := by omega
    subst this; rfl
 | n + 1, h, hz => by
  by_cases hk : k = n + 1
  ·subst hk; rfl
  ·rw [val, jV (n := n) (by omega) fun i h1 h2 => hz i h1 (by omega), hz n (by omega) (by omega)]
   simp
theorem lV {z : Nat → Nat} : ∀ {n i : Nat}, (∀ j, j < n → z j < 2 ^ 32) → i < n → au (val n z) i = z i
 | 0, i, _, hi => by omega
 | n + 1, i, h, hi => by
  unfold au
  rw [val]
  by_cases he : i = n
  ·subst he
   have := ec (z := z) (n := i) fun j hj => h j (by omega)
   rw [Nat.add_mul_div_right _ _ (Nat.two_pow_pos _), Nat.div_eq_of_lt this, Nat.zero_add]
   exact Nat.mod_eq_of_lt (h i (by omega))
  ·have ih := lV (z := z) (n := n) (i := i) (fun j hj => h j (by omega)) (by omega)
   unfold au at ih
   have e : 2 ^ (32 * n) = 2 ^ 32 * 2 ^ (32 * (n - i - 1)) * 2 ^ (32 * i) := by
    rw [← Nat.pow_add, ← Nat.pow_add]; congr 1; omega
   rw [e, ← Nat.mul_assoc, Nat.add_mul_div_right _ _ (Nat.two_pow_pos _), ← ih]
   rw [show z n * (2 ^ 32 * 2 ^ (32 * (n - i - 1))) = 2 ^ 32 * (z n * 2 ^ (32 * (n - i - 1))) by
    rw [← Nat.mul_assoc, Nat.mul_comm (z n), Nat.mul_assoc]]
   rw [Nat.add_mul_mod_self_left]
theorem cE {N i : Nat} : au N i < 2 ^ 32 := Nat.mod_lt _ (by decide)
theorem FJ {N : Nat} : ∀ {n : Nat}, val n (au N) = N % 2 ^ (32 * n)
 | 0 => by simp [val, Nat.mod_one]
 | n + 1 => by
  rw [val, FJ, au]
  have e : 2 ^ (32 * (n + 1)) = 2 ^ (32 * n) * 2 ^ 32 := by rw [← Nat.pow_add]; congr 1
  rw [e, Nat.mod_mul, Nat.mul_comm (2 ^ (32 * n))]
theorem lY {N n : Nat} (h : N < 2 ^ (32 * n)) : val n (au N) = N := by rw [FJ, Nat.mod_eq_of_lt h]
theorem cw {N n : Nat} : nl N ≤ n ↔ N < 2 ^ (32 * n) := by
 unfold nl
 by_cases h : N = 0
 ·subst h; simp [Nat.two_pow_pos]
 ·rw [if_neg h]
  rw [← Nat.log2_lt h]
  omega
theorem jT {N : Nat} : N < 2 ^ (32 * nl N) := cw.1 (Nat.le_refl _)
theorem ew {N : Nat} : val (nl N) (au N) = N := lY jT
theorem R7 {z : Nat → Nat} {n : Nat} (h0 : 0 < n) (h : z (n - 1) ≠ 0) : 2 ^ (32 * (n - 1)) ≤ val n z := by
 obtain ⟨m, rfl⟩ : ∃ m, n = m + 1 := ⟨n - 1, by omega⟩
 rw [val]
 simp only [Nat.add_sub_cancel] at h ⊢
 have : 1 * 2 ^ (32 * m) ≤ z m * 2 ^ (32 * m) := Nat.mul_le_mul_right _ (by omega)
 omega
theorem yz {z : Nat → Nat} {n : Nat} (hz : ∀ i, i < n → z i < 2 ^ 32) (h : n = 0 ∨ z (n - 1) ≠ 0) : nl (val n z) = n := by
 rcases Nat.eq_zero_or_pos n with rfl | h0
 ·simp [val, nl]
 ·have h1 : nl (val n z) ≤ n := cw.2 (ec hz)
  have h2 : ¬ nl (val n z) ≤ n - 1 := by
   rw [cw]
   have := R7 h0 (h.resolve_left (by omega))
   omega
  omega
theorem Ac {N : Nat} (h : N ≠ 0) : au N (nl N - 1) ≠ 0 := by
 intro h0
 have hn : 0 < nl N := by unfold nl; rw [if_neg h]; omega
 have h1 : val (nl N) (au N) = val (nl N - 1) (au N) := jV (by omega) fun i h1 h2 => by
  have : i = nl N - 1 := by omega
  rw [this, h0]
 rw [ew] at h1
 have h3 : N < 2 ^ (32 * (nl N - 1)) := by
  exact Nat.lt_of_le_of_lt (Nat.le_of_eq h1) (ec (z := au N) (n := nl N - 1) fun i _ => cE)
 have h2 : nl N ≤ nl N - 1 := cw.2 h3
 omega
theorem eH {N : Nat} : 0 < nl N ↔ N ≠ 0 := by
 unfold nl
 split <;> simp_all
theorem fo {a b : Nat} (h : a ≤ b) : nl a ≤ nl b := cw.2 (Nat.lt_of_le_of_lt h jT)
theorem wrap_i64 {x : Int} (h1 : -2 ^ 63 ≤ x) (h2 : x < 2 ^ 63) : IntKind.i64.wrap x = x := by
 simp [IntKind.wrap, IntKind.bits, IntKind.signed]; omega
theorem bA {x : Int} (h1 : 0 ≤ x) (h2 : x < 2 ^ 64) : IntKind.u64.wrap x = x := by
 simp [IntKind.wrap, IntKind.bits, IntKind.signed]; omega
theorem kO {x : Int} : IntKind.u64.wrap x = x % 2 ^ 64 := by
 simp [IntKind.wrap, IntKind.bits, IntKind.signed]
theorem iU {x : Int} : IntKind.u32.wrap x = x % 2 ^ 32 := by
 simp [IntKind.wrap, IntKind.bits, IntKind.signed]
theorem wrap_u32 {x : Int} (h1 : 0 ≤ x) (h2 : x < 2 ^ 32) : IntKind.u32.wrap x = x := by
 rw [iU]; omega
theorem tQ {x : Nat} : IntKind.u64.wrap (x : Int) = (x % 2 ^ 64 : Nat) := by
 rw [kO]; omega
theorem gC {x : Nat} : IntKind.u32.wrap (x : Int) = (x % 2 ^ 32 : Nat) := by
 rw [iU]; omega
theorem pM {a b : Nat} (ha : a < 2 ^ 64) (hb : b < 2 ^ 64) :
  IntKind.u64.wrap ((BitVec.ofInt IntKind.u64.bits (a : Int) ||| BitVec.ofInt IntKind.u64.bits (b : Int)).toNat : Int) = ((a ||| b : Nat) : Int) := by
 have e : (BitVec.ofInt IntKind.u64.bits (a : Int) ||| BitVec.ofInt IntKind.u64.bits (b : Int)).toNat = a ||| b := by
  rw [BitVec.toNat_or, BitVec.ofInt_natCast, BitVec.ofInt_natCast, BitVec.toNat_ofNat, BitVec.toNat_ofNat]
  rw [show IntKind.u64.bits = 64 from rfl, Nat.mod_eq_of_lt ha, Nat.mod_eq_of_lt hb]
 rw [e]
 have : a ||| b < 2 ^ 64 := Nat.or_lt_two_pow ha hb
 exact bA (by omega) (by omega)
theorem Mb {a b : Nat} (ha : a < 2 ^ 64) (hb : b < 2 ^ 64) :
  IntKind.u64.wrap ((BitVec.ofInt IntKind.u64.bits (a : Int) &&& BitVec.ofInt IntKind.u64.bits (b : Int)).toNat : Int) = ((a &&& b : Nat) : Int) := by
 have e : (BitVec.ofInt IntKind.u64.bits (a : Int) &&& BitVec.ofInt IntKind.u64.bits (b : Int)).toNat = a &&& b := by
  rw [BitVec.toNat_and, BitVec.ofInt_natCast, BitVec.ofInt_natCast, BitVec.toNat_ofNat, BitVec.toNat_ofNat]
  rw [show IntKind.u64.bits = 64 from rfl, Nat.mod_eq_of_lt ha, Nat.mod_eq_of_lt hb]
 rw [e]
 have : a &&& b < 2 ^ 64 := Nat.and_lt_two_pow a hb
 exact bA (by omega) (by omega)
theorem oq {a b i : Nat} (h : b < 2 ^ i) : a * 2 ^ i ||| b = a * 2 ^ i + b := by
 rw [← Nat.shiftLeft_eq, ← Nat.shiftLeft_add_eq_or_of_lt h]
theorem iY {x : Int} : x.fdiv (2 ^ min (Int.toNat 32) IntKind.u64.bits) = x / 4294967296 := by
 have : min (Int.toNat 32) IntKind.u64.bits = 32 := rfl
 rw [this, Int.fdiv_eq_ediv_of_nonneg _ (by decide)]
 rfl
theorem BH {x : Int} : x.fdiv (2 ^ min (Int.toNat 63) IntKind.u64.bits) = x / 9223372036854775808 := by
 have : min (Int.toNat 63) IntKind.u64.bits = 63 := rfl
 rw [this, Int.fdiv_eq_ediv_of_nonneg _ (by decide)]
 rfl
theorem s7 {x : Int} : x * 2 ^ min (Int.toNat 32) IntKind.u64.bits = x * 4294967296 := by
 have : min (Int.toNat 32) IntKind.u64.bits = 32 := rfl
 rw [this]; rfl
theorem Ai {B c z y v t s : Nat} (hs : s = c + z + y) (h : v + c * B = t) : v + s % 4294967296 * B + s / 4294967296 * (4294967296 * B) = t + z * B + y * B := by
 have h1 := Nat.div_add_mod s 4294967296
 generalize s / 4294967296 = q at *
 generalize s % 4294967296 = r at *
 subst h1 h
 have : c * B + z * B + y * B = (4294967296 * q + r) * B := by rw [← Nat.add_mul, ← Nat.add_mul, hs]
 grind
theorem fq {i : Nat} : 2 ^ (32 * (i + 1)) = 4294967296 * 2 ^ (32 * i) := by
 rw [show 32 * (i + 1) = 32 + 32 * i by omega, Nat.pow_add]
end Go.Am

/- aW over natural numbers. -/
namespace Go.Am
open AV
def numOf (v : AV) : Nat := match v with
 | .int _ z => z.toNat
 | _ => 0
def cN (n : Nat) (f : Nat → AV) : Prop := ∀ i, i < n → ∃ z : Nat, z < 2 ^ 32 ∧ f i = .int .u32 z
theorem Bs {z : Nat → Nat} {i : Nat} : numOf (aj z i) = z i := by simp [numOf, aj]
theorem gI {n : Nat} {z : Nat → Nat} : (val n fun i => numOf (aj z i)) = val n z := val_congr fun _ _ => Bs
theorem eG {n : Nat} {z : Nat → Nat} (h : ∀ i, i < n → z i < 2 ^ 32) : cN n (aj z) := fun i hi => ⟨z i, h i hi, rfl⟩
def mV : AV → Option (Nat × Nat × List Prop)
 | .mag N => some (N, nl N, [])
 | .nil => some (0, 0, [])
 | .ah es n f => if es == 1 then some (val n fun i => numOf (f i), n, [cN n f]) else none
 | _ => none
theorem tM {a : AV} {N n : Nat} {q : List Prop} (h : mV a = some (N, n, q)) (hq : ay q) : ∃ z : Nat → Nat, (∀ i, i < n → z i < 2 ^ 32) ∧ val n z = N ∧ bq a (.ah 1 n (aj z)) := by
 cases a <;> simp only [mV, reduceCtorEq, Option.some.injEq, Prod.mk.injEq] at h
 case mag M =>
  obtain ⟨rfl, rfl, rfl⟩ := h
  exact ⟨au M, fun i _ => cE, ew, II rfl fun i _ => rfl⟩
 case nil =>
  obtain ⟨rfl, rfl, rfl⟩ := h
  exact ⟨fun _ => 0, fun i hi => by omega, rfl, fS (by omega)⟩
 case ah es m f =>
  split at h
  ·rename_i he
   simp only [Option.some.injEq, Prod.mk.injEq] at h
   obtain ⟨rfl, rfl, rfl⟩ := h
   have hq : cN m f := hq
   have he : es = 1 := by simpa using he
   subst he
   refine ⟨fun i => numOf (f i), fun i hi => ?_, rfl, Jc rfl fun i hi => ?_⟩
   ·obtain ⟨z, h1, h2⟩ := hq i hi
    simp only [h2, numOf]; omega
   ·obtain ⟨z, h1, h2⟩ := hq i hi
    simp [h2, numOf, aj]
  ·simp at h
def jv (g : Nat → Nat → cC) : List AV → Option cC
 | [a] => match mV a with
  | some (N, n, q) => some ⟨(g N n).res, [], q ++ (g N n).iH⟩
  | none => none
 | _ => none
def fP (g : Nat → Nat → Nat → Nat → cC) : List AV → Option cC
 | [a, b] => match mV a, mV b with
  | some (A, n, p), some (B, m, q) => some ⟨(g A n B m).res, [], p ++ (q ++ (g A n B m).iH)⟩
  | _, _ => none
 | _ => none
def xl (g : Nat → Nat → Int → cC) : List AV → Option cC
 | [a, .int .u32 k] => match mV a with
  | some (N, n, q) => some ⟨(g N n k).res, [], q ++ (g N n k).iH⟩
  | none => none
 | _ => none
abbrev aK (v : AV) (l : List Prop) : cC := ⟨v, [], l⟩
section oks
variable {P : Program} {f : FuncId}
theorem p0 {g : Nat → Nat → cC} (h : ∀ z n K, (∀ i, i < n → z i < 2 ^ 32) → (g (val n z) n).need → aC P f K [.ah 1 n (aj z)] [] (aK (g (val n z) n).res [])) :
  ∀ K args r, aX args = [] → jv g args = some r → r.post = [] → aC P f K args [] r := by
 intro K args r hk hs _ need
 match args, hs with
 | [a], hs =>
  simp only [jv] at hs
  split at hs
  ·rename_i N n q hn
   simp only [Option.some.injEq] at hs
   subst hs
   obtain ⟨n1, n2⟩ := ep.1 need
   obtain ⟨z, hz, rfl, hle⟩ := tM hn n1
   exact fm (h z n K hz n2) hk ⟨hle, trivial⟩ [] trivial
  ·simp at hs
theorem Wd {g : Nat → Nat → Int → cC} (h : ∀ z n i K, (∀ i, i < n → z i < 2 ^ 32) → (g (val n z) n i).need → aC P f K [.ah 1 n (aj z), .int .u32 i] [] (aK (g (val n z) n i).res [])) :
  ∀ K args r, aX args = [] → xl g args = some r → r.post = [] → aC P f K args [] r := by
 intro K args r hk hs _ need
 unfold xl at hs
 split at hs
 ·rename_i a i
  split at hs
  ·rename_i N n q hn
   simp only [Option.some.injEq] at hs
   subst hs
   obtain ⟨n1, n2⟩ := ep.1 need
   obtain ⟨z, hz, rfl, hle⟩ := tM hn n1
   exact fm (h z n i K hz n2) hk ⟨hle, .refl _, trivial⟩ [] trivial
  ·simp at hs
 ·simp at hs
theorem pJ {g : Nat → Nat → Nat → Nat → cC} (h : ∀ z n y m K, (∀ i, i < n → z i < 2 ^ 32) → (∀ i, i < m → y i < 2 ^ 32) → (g (val n z) n (val m y) m).need →
   aC P f K [.ah 1 n (aj z), .ah 1 m (aj y)] [] (aK (g (val n z) n (val m y) m).res [])) :
  ∀ K args r, aX args = [] → fP g args = some r → r.post = [] → aC P f K args [] r := by
 intro K args r hk hs _ need
 match args, hs with
 | [a, b], hs =>
  simp only [fP] at hs
  split at hs
  ·rename_i N n q M m p hn hm
   simp only [Option.some.injEq] at hs
   subst hs
   obtain ⟨n1, n4⟩ := ep.1 need
   obtain ⟨n2, n3⟩ := ep.1 n4
   obtain ⟨z, hz, rfl, hle⟩ := tM hn n1
   obtain ⟨y, hy, rfl, hle2⟩ := tM hm n2
   exact fm (h z n y m K hz hy n3) hk ⟨hle, hle2, trivial⟩ [] trivial
  ·simp at hs
theorem aY {P : Program} : br P [] := fun f s h => by simp [look] at h
theorem aJ {f : FuncId} {s : Spec} {Γ : aW} (h : ∀ K args pre r, s K args pre = some r → aC P f K args pre r) (hΓ : br P Γ) : br P ((f, s) :: Γ) := by
 intro f' s' hl
 simp only [look] at hl
 split at hl
 ·rename_i he
  have : f = f' := by simpa using he
  subst this
  simp only [Option.some.injEq] at hl
  subst hl
  exact h
 ·exact hΓ f' s' hl
end oks
def bO (a b : Nat) : Int := if a < b then -1 else if b < a then 1 else 0
def bf (N : Nat) : Nat := if N = 0 then 0 else N.log2 + 1
end Go.Am

/- Results that are seen; slices that may be nil. -/
namespace Go.Am
open AV
def jh (sl : List (Nat × AV)) : List ResultVar → Option (List AV)
 | [] => some []
 | .tmp t :: l => match look t sl, jh sl l with
  | some v, some m => if v.isTuple then none else some (v :: m)
  | _, _ => none
 | _ => none
def Ao (fn : Func) (sl : List (Nat × AV)) : Option (List AV) :=
 match jh sl fn.results.toList with
 | some us => match aX us with
  | [] => dj [] us
  | _ => none
 | none => none
theorem Bt {s : aE} {t : Nat} {v : AV} (hv : v.isTuple = false) : ∀ {ls : List Nat}, look t (az ls (g8 s ls)) = some v → look t s.bX = some v
 | [], h => by simp [az, look] at h
 | x :: ls, h => by
  simp only [g8, az, look] at h
  split at h
  ·rename_i he
   have : x = t := by simpa using he
   subst this
   simp only [Option.some.injEq] at h
   subst h
   exact IX hv
  ·exact Bt hv h
theorem Ae {T : Types} {s : aE} {ls : List Nat} : ∀ {l : List ResultVar} {us : List AV}, jh (az ls (g8 s ls)) l = some us → fC T s l = some (us, [])
 | [], us, h => by simp only [jh, Option.some.injEq] at h; subst h; rfl
 | .tmp t :: l, us, h => by
  simp only [jh] at h
  split at h
  ·rename_i v m hv hm
   split at h
   ·simp at h
   ·rename_i ht
    simp only [Option.some.injEq] at h
    subst h
    simp only [fC, vB, Bt (by simpa using ht) hv, Ae hm]
    simp [ht]
  ·simp at h
 | .cell _ _ :: _, us, h => by simp [jh] at h
theorem eL {T : Types} {fn : Func} {ls : List Nat} {vs us : List AV} {os : aB} {e : ak} {s' : aE} {res : AV} (he : e = .normal ∨ e = .ret) (hv : aQ ls s' = some (vs, os)) (hr : Ao fn (az ls vs) = some us) (hres : ef us res) : Fin T fn res e s' := by
 unfold aQ at hv
 simp only [Option.some.injEq, Prod.mk.injEq] at hv
 obtain ⟨rfl, _⟩ := hv
 unfold Ao at hr
 split at hr
 ·rename_i rs hrs
  split at hr
  ·rename_i hk
   refine ⟨he, rs, [], us, Ae hrs, trivial, ?_, hres⟩
   rw [hk]; exact hr
  ·simp at hr
 ·simp at hr
theorem WS {P : Program} {f : FuncId} {K es n : Nat} {g : Nat → AV} {l : List AV} {r : cC} (h : ∀ b, (b = true → n = 0) → aC P f K (.cX b es n g :: l) [] r) : aC P f K (.ah es n g :: l) [] r := by
 intro need
 refine ⟨((h false fun h => by simp at h) need).1, fun c D D' β w vs hw0 hMw hrel hD hK hv => ?_⟩
 match vs, hv with
 | x :: xs, hv =>
  obtain ⟨⟨cs, h1, h2⟩, h3⟩ := hv
  have : ∃ b, (b = true → n = 0) ∧ aV (aI c [] β) w β (.cX b es n g) x := by
   cases h1 with
   | ah g1 g2 g3 g4 g5 g6 =>
    rename_i base cap cs' cf
    cases g6
    refine ⟨base.isNone, fun hb => ?_, _, .cX rfl g1 g2 g3 g4 g5 .nil, h2⟩
    rcases g1 with g1 | ⟨b, o, rfl, _⟩
    ·exact g1
    ·simp at hb
  obtain ⟨b, hb0, hb⟩ := this
  exact ((h b hb0) need).2 c D D' β w (x :: xs) hw0 hMw hrel hD hK ⟨hb, h3⟩
theorem Fo {z y : Nat → Nat} {k : Nat} : ∀ {n : Nat}, k < n → (∀ j, k < j → j < n → z j = y j) → z k < y k → (∀ i, i < n → z i < 2 ^ 32) → val n z < val n y
 | 0, h, _, _, _ => by omega
 | n + 1, h, he, hk, hz => by
  rw [val, val]
  by_cases hn : k = n
  ·subst hn
   have h1 := ec (z := z) (n := k) fun i hi => hz i (by omega)
   have h2 : (z k + 1) * 2 ^ (32 * k) ≤ y k * 2 ^ (32 * k) := Nat.mul_le_mul_right _ hk
   rw [Nat.add_mul, Nat.one_mul] at h2
   omega
  ·have := Fo (n := n) (by omega) (fun j h1 h2 => he j h1 (by omega)) hk fun i hi => hz i (by omega)
   rw [he n (by omega) (by omega)]
   omega
theorem zZ {A B : Nat} (hn : nl A = nl B) (h : ∀ i, i < nl A → au A i = au B i) : A = B := by
 rw [← ew (N := A), ← ew (N := B), ← hn]
 exact val_congr h
theorem zp {A B k : Nat} (hn : nl A = nl B) (hk : k < nl A) (h : ∀ j, k < j → j < nl A → au A j = au B j) (hlt : au A k < au B k) : A < B := by
 have := Fo (z := au A) (y := au B) hk h hlt fun i _ => cE
 rw [ew, hn, ew] at this
 exact this
theorem yA {A B : Nat} (h : nl A < nl B) : A < B := by
 rcases Nat.lt_or_ge A B with h1 | h1
 ·exact h1
 ·have := fo h1; omega
theorem dU {ρ : Nat → Option Nat} {r w : Bool} {n m : Nat} {f : Nat → AV} {o : Nat → Nat} (hn : m = n) (h : ∀ j, j < n → f j = aj o j) : ct ρ ⟨r, w, 1, n, f⟩ ⟨r, w, 1, m, aj o⟩ :=
 g7 hn fun j hj => by rw [h j hj]; exact aG rfl
def bI (o : Nat → Nat) (i x : Nat) : Nat → Nat := fun j => if j = i then x else o j
theorem gQ {o : Nat → Nat} {i x : Nat} : bI o i x i = x := if_pos rfl
theorem dY {o : Nat → Nat} {i x j : Nat} (h : j ≠ i) : bI o i x j = o j := if_neg h
theorem fA {o : Nat → Nat} {i x b : Nat} {n : Nat} (hx : x < b) (ho : ∀ j, j < n → o j < b) : ∀ j, j < n → bI o i x j < b := fun j hj => by
 unfold bI
 split
 ·exact hx
 ·exact ho j hj
theorem eZ {o : Nat → Nat} {i x : Nat} {v : Int} (hv : v = (x : Nat)) (j : Nat) : (if j = i then AV.int .u32 v else aj o j) = aj (bI o i x) j := by
 unfold aj bI
 split
 ·rw [hv]
 ·rfl
theorem mT {o : Nat → Nat} {i x : Nat} : ∀ {n : Nat}, i < n → o i = 0 → val n (bI o i x) = val n o + x * 2 ^ (32 * i)
 | 0, h, _ => by omega
 | n + 1, h, h0 => by
  rw [val, val]
  by_cases hn : i = n
  ·subst hn
   rw [gQ, h0, val_congr (y := o) fun j hj => dY (by omega)]
   omega
  ·rw [mT (n := n) (by omega) h0, dY (by omega)]
   omega
theorem nL {o : Nat → Nat} {i x : Nat} : val (i + 1) (bI o i x) = val i o + x * 2 ^ (32 * i) := by
 rw [val, gQ, val_congr (y := o) fun j hj => dY (by omega)]
theorem o9 {x k : Nat} (h : 2 ^ k ≤ x) : bf x = k + bf (x / 2 ^ k) := by
 have hk := Nat.two_pow_pos k
 have h0 : x ≠ 0 := by omega
 have h1 : x / 2 ^ k ≠ 0 := by
  have := (Nat.le_div_iff_mul_le hk (x := 1) (y := x)).2 (by omega)
  omega
 unfold bf
 rw [if_neg h0, if_neg h1]
 have : x.log2 = k + (x / 2 ^ k).log2 := by
  obtain ⟨g1, g2⟩ := (Nat.log2_eq_iff h1).1 rfl
  rw [Nat.log2_eq_iff h0]
  refine ⟨?_, ?_⟩
  ·rw [Nat.pow_add, Nat.mul_comm]
   exact (Nat.le_div_iff_mul_le hk).1 g1
  ·rw [show k + (x / 2 ^ k).log2 + 1 = ((x / 2 ^ k).log2 + 1) + k by omega, Nat.pow_add]
   exact (Nat.div_lt_iff_lt_mul hk).1 g2
 omega
theorem fX {x k : Nat} : bf x ≤ k ↔ x < 2 ^ k := by
 unfold bf
 split
 ·rename_i h; subst h; simp [Nat.two_pow_pos]
 ·rename_i h; rw [← Nat.log2_lt h]; omega
theorem GU {N : Nat} (h : N ≠ 0) : bf N = 32 * (nl N - 1) + bf (au N (nl N - 1)) := by
 have hp := eH.2 h
 have h1 : 2 ^ (32 * (nl N - 1)) ≤ N := by
  rcases Nat.lt_or_ge N (2 ^ (32 * (nl N - 1))) with h1 | h1
  ·have := cw.2 h1; omega
  ·exact h1
 have h2 : N / 2 ^ (32 * (nl N - 1)) < 2 ^ 32 := by
  rw [Nat.div_lt_iff_lt_mul (Nat.two_pow_pos _), ← Nat.pow_add]
  have := jT (N := N)
  rw [show 32 + 32 * (nl N - 1) = 32 * nl N by omega]
  exact this
 rw [o9 h1, au, Nat.mod_eq_of_lt h2]
theorem Ab {o : Nat → Nat} {i x : Nat} : ∀ {n : Nat}, i < n → val n (bI o i x) + o i * 2 ^ (32 * i) = val n o + x * 2 ^ (32 * i)
 | 0, h => by omega
 | n + 1, h => by
  rw [val, val]
  by_cases hn : i = n
  ·subst hn
   rw [gQ, val_congr (y := o) fun j hj => dY (by omega)]
   omega
  ·have := Ab (o := o) (x := x) (n := n) (i := i) (by omega)
   rw [dY (show n ≠ i by omega)]
   omega
theorem aq.mM {P : Program} {c : Ctx} {nt : Nat} {s : aE} {Q : ak → aE → Prop} {x y : Code} {i : Nat} (hx : x = .block i y) (h : aq P c nt y s (inBlock i Q)) : aq P c nt x s Q := hx ▸ .CC h
theorem Em {c x y o : Nat} (hc : c < 2 ^ 32) (hx : x < 2 ^ 32) (hy : y < 2 ^ 32) (ho : o < 2 ^ 32) :
  IntKind.u64.wrap ((c : Int) + IntKind.u64.wrap (IntKind.u64.wrap (IntKind.u64.wrap (x : Int) * IntKind.u64.wrap (y : Int)) + IntKind.u64.wrap (o : Int))) = ((c + x * y + o : Nat) : Int) ∧
   c + x * y + o < 2 ^ 64 ∧ (c + x * y + o) / 4294967296 < 2 ^ 32 := by
 have h1 : x * y ≤ (2 ^ 32 - 1) * (2 ^ 32 - 1) := Nat.mul_le_mul (by omega) (by omega)
 have e : (x : Int) * (y : Int) = ((x * y : Nat) : Int) := by simp
 rw [bA (x := (x : Int)) (by omega) (by omega), bA (x := (y : Int)) (by omega) (by omega), bA (x := (o : Int)) (by omega) (by omega), e]
 generalize x * y = p at *
 refine ⟨?_, by omega, by omega⟩
 rw [bA (x := (p : Int)) (by omega) (by omega), bA (x := (p : Int) + o) (by omega) (by omega), bA (by omega) (by omega)]
 omega
theorem Je {vo vo' oi c x yj B s q r v Bi Bj vy : Nat} (hs : s = c + x * yj + oi) (hq : 4294967296 * q + r = s) (hset : vo' + oi * B = vo + r * B) (hB : B = Bi * Bj) (h : vo + c * B = v + x * vy * Bi) :
  vo' + q * (4294967296 * B) = v + x * (vy + yj * Bj) * Bi := by
 subst hB
 have e : (4294967296 * q + r) * (Bi * Bj) = (c + x * yj + oi) * (Bi * Bj) := by rw [hq, hs]
 grind
theorem DB {P : Program} {f : FuncId} {K : Nat} {args : List AV} {u v : AV} {l l' : List Prop} (hf : aC P f K args [] ⟨u, [], l⟩) (hl : ay l' → ay l) (hk : keys u = []) (ht : u.isTuple = false) (hle : bq u v) : aC P f K args [] ⟨v, [], l'⟩ := by
 intro need
 obtain ⟨h1, h2⟩ := hf (hl need)
 refine ⟨fun k o ho => by simp [look] at ho, fun c D D' β w vs hw0 hMw hrel hD hK hv => (h2 c D D' β w vs hw0 hMw hrel hD hK hv).mono ?_⟩
 rintro x w' ⟨β', g1, g2, g3⟩
 refine ⟨β', g1, g2, ?_⟩
 have h3 : bP _ w' β' [u] [x] := ⟨bn.one g3 ht, trivial⟩
 have h4 := y8 (us := [u]) (vs := [v]) ⟨hle, trivial⟩ (h3.aR (by rw [AS]; exact hk))
 have h5 := h4.mono (fun b o h1 h2 => ⟨h2, h1⟩) (β' := β') fun k x hx => by simp [aR] at hx
 exact aV.bz h5.1
theorem pn {i : Nat} {Q : ak → aE → Prop} {s : aE} (h : Q .normal s) : inBlock i Q (.exit i) s := by
 simp only [inBlock, if_true]; exact h
theorem dI {i : Nat} {k : aE → Prop} {Q : ak → aE → Prop} {s : aE} (h : Q .normal s) : cS k (inBlock i Q) (.exit i) s := by
 show inBlock i Q (.exit i) s
 exact pn h
theorem nq {i : Nat} {k : aE → Prop} {Q : ak → aE → Prop} {s : aE} (h : Q (.exit i) s) : cS k Q (.exit i) s := h
theorem Gt {i : Nat} {k : aE → Prop} {Q : ak → aE → Prop} {s : aE} (h : Q .ret s) : cS k (inBlock i Q) .ret s := h
theorem dJ {k : aE → Prop} {Q : ak → aE → Prop} {s : aE} (h : Q .ret s) : cS k Q .ret s := h
theorem zT {s : aE} : ∀ {a b : List Nat}, g8 s (a ++ b) = g8 s a ++ g8 s b
 | [], _ => rfl
 | x :: a, b => by simp only [List.cons_append, g8, zT]
theorem Bp {s : aE} : ∀ {a : List Nat}, (g8 s a).length = a.length
 | [] => rfl
 | x :: a => by simp only [g8, List.length_cons, Bp]
theorem FH {a b : List AV} : aX (a ++ b) = aX a ++ aX b := by
 induction a with
 | nil => rfl
 | cons x a ih => simp only [List.cons_append, aX, ih, List.append_assoc]
theorem gf {s : aE} {ls l : List Nat} {vs us : List AV} {os : aB} (hv : aQ (ls ++ l) s = some (vs ++ us, os)) (hl : vs.length = ls.length) (hk : aX us = []) : aQ ls s = some (vs, os) := by
 unfold aQ at hv ⊢
 simp only [Option.some.injEq, Prod.mk.injEq, zT] at hv ⊢
 obtain ⟨h1, h2⟩ := hv
 obtain ⟨h3, h4⟩ := List.append_inj h1 (by rw [Bp, hl])
 subst h3
 refine ⟨rfl, ?_⟩
 rw [← h2, h4, FH, hk, List.append_nil]
end Go.Am

/- Tables of types: what has to be shown of an entry. -/
namespace Go.Am
open AV
mutual
/-- The cells of a zero value. -/
def zeroCells : AV → Option (List Value)
 | .bool b => some [.bool b]
 | .int k n => some [.int k n]
 | .nil => some [.slice none 0 0]
 | .rat q n => if q = 0 ∧ n = 1 then some [.bool false, .slice none 0 0, .slice none 0 0] else none
 | .agg l => qw l
 | _ => none
def qw : List AV → Option (List Value)
 | [] => some []
 | a :: l => match zeroCells a, qw l with
  | some c, some d => some (c ++ d)
  | _, _ => none
end
mutual
theorem A5 {M : Nat → Prop} {w : World} {β : aL} : ∀ {v : AV} {cs : List Value}, zeroCells v = some cs → aH M w β [v] cs
 | .bool b, cs, h => by simp only [zeroCells, Option.some.injEq] at h; subst h; exact .bool .nil
 | .int k n, cs, h => by simp only [zeroCells, Option.some.injEq] at h; subst h; exact .int .nil
 | .nil, cs, h => by simp only [zeroCells, Option.some.injEq] at h; subst h; exact .vnil .nil
 | .rat q n, cs, h => by
  simp only [zeroCells] at h
  split at h
  ·rename_i hq
   obtain ⟨rfl, rfl⟩ := hq
   simp only [Option.some.injEq] at h
   subst h
   have h0 : aH M w aR [.mag 0] [.slice none 0 0] := by
    have := aH.mag (M := M) (w := w) (β := aR) (N := 0) (base := none) (cap := 0) (.inl rfl) (by simp [o7]) .nil
    simpa [o7] using this
   have := aH.rat (M := M) (w := w) (β := β) (q := 0) (n := 1) (x := .slice none 0 0) (y := .slice none 0 0) (l := []) (cs := []) ⟨by decide, by decide⟩ (by simpa using h0) (by simpa using h0) .nil
   simpa using this
  ·simp at h
 | .agg l, cs, h => by
  simp only [zeroCells] at h
  simpa using aH.agg (CU h) .nil
 | .mag _, cs, h => by simp [zeroCells] at h
 | .ah _ _ _, cs, h => by simp [zeroCells] at h
 | .cX _ _ _ _, cs, h => by simp [zeroCells] at h
 | .bp _, cs, h => by simp [zeroCells] at h
 | .ptr _ _ _ _ _, cs, h => by simp [zeroCells] at h
 | .own _ _ _ _, cs, h => by simp [zeroCells] at h
 | .func _ _, cs, h => by simp [zeroCells] at h
 | .tuple _, cs, h => by simp [zeroCells] at h
theorem CU {M : Nat → Prop} {w : World} {β : aL} : ∀ {l : List AV} {cs : List Value}, qw l = some cs → aH M w β l cs
 | [], cs, h => by simp only [qw, Option.some.injEq] at h; subst h; exact .nil
 | a :: l, cs, h => by
  simp only [qw] at h
  cases ha : zeroCells a with
  | none => rw [ha] at h; simp at h
  | some c =>
   cases hl : qw l with
   | none => rw [ha, hl] at h; simp at h
   | some d =>
    rw [ha, hl] at h
    simp only [Option.some.injEq] at h
    subst h
    exact (A5 ha).cons (CU hl)
end
def Cr (v : AV) : Option Value :=
 match zeroCells v with
 | some cs => if v.isAgg then some (.agg cs.toArray) else match cs with
  | [x] => some x
  | _ => none
 | none => none
theorem bU {P : Program} {t : TypeId} {ti : TI} (h1 : P.underlying t = some ti.desc) (h2 : (P.info? t).map (fun i => (i.size, i.bytes, i.zero)) = some (ti.size, ti.bytes, Cr ti.zero))
  (h3 : (Cr ti.zero).isSome = true) : bt P t ti := by
 cases hi : P.info? t with
 | none => rw [hi] at h2; simp at h2
 | some i =>
  rw [hi] at h2
  simp only [Option.map_some, Option.some.injEq, Prod.mk.injEq] at h2
  refine ⟨h1, ⟨i, hi, h2.1, h2.2.1⟩, fun _ => ?_⟩
  obtain ⟨z, hz⟩ := Option.isSome_iff_exists.1 h3
  refine ⟨i, z, hi, by rw [h2.2.2, hz], fun M w β => ?_⟩
  unfold Cr at hz
  cases hc : zeroCells ti.zero with
  | none => rw [hc] at hz; simp at hz
  | some cs =>
   rw [hc] at hz
   simp only at hz
   split at hz
   ·rename_i ha
    simp only [Option.some.injEq] at hz
    subst hz
    exact .xT (A5 hc) ha
   ·rename_i ha
    split at hz
    ·simp only [Option.some.injEq] at hz
     subst hz
     exact .bV (A5 hc) (by simpa using ha)
    ·simp at hz
theorem fO {P : Program} {t : TypeId} {ti : TI} (h1 : P.underlying t = some ti.desc) (h2 : (P.info? t).map (fun i => (i.size, i.bytes)) = some (ti.size, ti.bytes)) (h3 : ti.zero = .tuple []) : bt P t ti := by
 cases hi : P.info? t with
 | none => rw [hi] at h2; simp at h2
 | some i =>
  rw [hi] at h2
  simp only [Option.map_some, Option.some.injEq, Prod.mk.injEq] at h2
  exact ⟨h1, ⟨i, hi, h2.1, h2.2⟩, fun h => by rw [h3] at h; simp [isTuple] at h⟩
theorem L6 {P : Program} : dn P [] := fun t ti h => by simp [look] at h
theorem bw {P : Program} {t : TypeId} {ti : TI} {T : Types} (h : bt P t ti) (hT : dn P T) : dn P ((t, ti) :: T) := by
 intro t' ti' ht
 simp only [look] at ht
 split at ht
 ·rename_i he
  have : t = t' := by simpa using he
  subst this
  simp only [Option.some.injEq] at ht
  subst ht
  exact h
 ·exact hT t' ti' ht
end Go.Am
