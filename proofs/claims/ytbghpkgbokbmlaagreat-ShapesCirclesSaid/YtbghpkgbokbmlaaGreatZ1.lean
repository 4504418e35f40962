/- 'opAV' is right: all operations. -/
import Derived.Test.YtbghpkgbokbmlaaGreatZ0
import Derived.Laws.Cover3
import Derived.Laws.Strings
import Derived.Laws.BytesString
import Derived.Laws.Concat
import Derived.Below
set_option linter.unusedVariables false
namespace Go.Am
open AV
section ops
variable {P : Program} {T : Types} (hT : TOK P T) {Γ : Contracts} (hΓ : GOK P Γ)
variable {c : Ctx} {st pre : Store} {D D' : Nat → Prop} {β : KMap} {w : World}
include hT hΓ in
theorem opAV0_ok (h : WRel c st D β w) (hpre : ∀ k o, look k pre = some o → look k st = some o) (hD : ∀ k, D k → D' k) {K : Nat} (hK : ∀ k, K ≤ k → k < K + stride → ¬ D k ∧ D' k)
    {ρ : Operand → Option AV} {ev : Operand → Value} (hρ : ∀ x v, ρ x = some v → VRep (Mset c st β) w β v (ev x)) {o : Oper} {r : ORes}
    (hr : opAV0 T Γ K ρ pre o.op = some r) (need : r.need) : Does P (execOp ev o) w (OpR c st D' β w r.eff r.val) := by
  have hK0 : ¬ D K ∧ D' K := hK K (Nat.le_refl _) (by simp [stride])
  have hint : ∀ k n, VRep (Mset c st β) w β (.int k n) (.int k n) := fun k n => VRep1.vrep (.of_cell (.int .nil) rfl)
  have hbool : ∀ t, VRep (Mset c st β) w β (.bool t) (.bool t) := fun t => VRep1.vrep (.of_cell (.bool .nil) rfl)
  obtain ⟨dst, op, type, pos, after, guard⟩ := o
  cases op
  case call cl => exact callAV_ok hT hΓ h hpre hD hK hρ rfl (by simpa [opAV0] using hr) need
  all_goals simp only [opAV0, reduceCtorEq] at hr
  case move x =>
    cases hx : ρ x with
    | none => rw [hx] at hr; simp at hr
    | some v =>
      rw [hx] at hr
      simp only [pureRes, Option.some.injEq] at hr
      subst hr
      exact does_value (x := ev x) (w' := w) rfl (pure_opR h hD (hρ x v hx))
  case assign x =>
    cases hx : ρ x with
    | none => rw [hx] at hr; simp at hr
    | some v =>
      rw [hx] at hr
      simp only [pureRes, Option.some.injEq] at hr
      subst hr
      exact does_value (x := ev x) (w' := w) rfl (pure_opR h hD (hρ x v hx))
  case pick cnd a b =>
    cases hc : ρ cnd with
    | none => rw [hc] at hr; simp at hr
    | some cv =>
      rw [hc] at hr
      cases cv <;> simp only [reduceCtorEq] at hr
      case bool t =>
        have hev := (hρ cnd _ hc).bool
        cases ha : ρ a with
        | none => rw [ha] at hr; simp at hr
        | some av =>
          cases hb : ρ b with
          | none => rw [ha, hb] at hr; cases av <;> simp at hr
          | some bv =>
            rw [ha, hb] at hr
            have hrun : (execOp ev { dst := dst, op := Op.pick cnd a b, type := type, pos := pos, after := after, guard := guard }).run P w = .ok (.value (if t then ev a else ev b)) w := by
              simp [execOp, hev, asBool]
            cases t with
            | true =>
              have hr' : r = ⟨av, [], []⟩ := by cases av <;> cases bv <;> simp [pureRes] at hr <;> exact hr.symm
              subst hr'
              exact does_value hrun (pure_opR h hD (by simpa using hρ a av ha))
            | false =>
              have hr' : r = ⟨bv, [], []⟩ := by cases av <;> cases bv <;> simp [pureRes] at hr <;> exact hr.symm
              subst hr'
              exact does_value hrun (pure_opR h hD (by simpa using hρ b bv hb))
  case alloc t =>
    cases ht : look t T with
    | none => rw [ht] at hr; simp at hr
    | some ti =>
      rw [ht] at hr
      simp only at hr
      split at hr
      · simp at hr
      · rename_i hc
        simp only [Bool.or_eq_true, beq_iff_eq, bne_iff_ne, ne_eq, not_or, Bool.not_eq_true, Decidable.not_not] at hc
        simp only [Option.some.injEq] at hr
        subst hr
        obtain ⟨x, w', hrun, hR⟩ := alloc_ok hT h hD hK0.1 hK0.2 ht hc.1.1 hc.1.2 hc.2
        refine does_value ?_ hR
        simp only [execOp, Sem.run_bind, hrun, Result.andThen_ok, Sem.run_pure]
  case box t x =>
    cases hx : ρ x with
    | none => rw [hx] at hr; simp at hr
    | some v =>
      rw [hx] at hr
      simp only at hr
      split at hr
      · simp at hr
      · rename_i hc
        simp only [Bool.or_eq_true, beq_iff_eq, not_or, Bool.not_eq_true] at hc
        simp only [Option.some.injEq] at hr
        subst hr
        obtain ⟨y, w', hrun, hR⟩ := box_ok (P := P) (t := t) h hD hK0.1 hK0.2 ((hρ x v hx).one hc.2) hc.1
        refine does_value ?_ hR
        simp only [execOp, Sem.run_bind, hrun, Result.andThen_ok, Sem.run_pure]
  case build t ps =>
    cases ht : look t T with
    | none => rw [ht] at hr; simp at hr
    | some ti =>
      cases hp : partsAV ρ ps.toList with
      | none => rw [ht, hp] at hr; simp at hr
      | some l =>
        rw [ht, hp] at hr
        simp only at hr
        split at hr
        · simp at hr
        · rename_i hc
          simp only [Bool.or_eq_true, Bool.not_eq_true', not_or, Bool.not_eq_false] at hc
          cases hs : setParts T ti.desc ti.zero.kids l with
          | none => rw [hs] at hr; simp at hr
          | some m =>
            rw [hs] at hr
            simp only [pureRes, Option.some.injEq] at hr
            subst hr
            obtain ⟨y, hrun, hR⟩ := build_ok hT (w := w) ht (VReps.parts hρ hp) hc.2 hs hc.1
            refine does_value (x := y) (w' := w) ?_ (pure_opR h hD hR.vrep)
            have e1 : (Array.map (fun x : Nat × Operand => match x with | (i, x) => (i, ev x)) ps) = (List.map (fun p : Nat × Operand => (p.1, ev p.2)) ps.toList).toArray := by
              apply Array.ext'; simp
            simp only [execOp, Sem.run_bind, e1, hrun, Result.andThen_ok, Sem.run_pure]
  case buildSlice t n ps =>
    cases ht : look t T with
    | none => rw [ht] at hr; simp at hr
    | some ti =>
      cases hp : partsAV ρ ps.toList with
      | none => rw [ht, hp] at hr; obtain ⟨d, _, _, _⟩ := ti; cases d <;> simp at hr
      | some l =>
        rw [ht, hp] at hr
        obtain ⟨d, sz, by', z⟩ := ti
        cases d <;> simp only [reduceCtorEq] at hr
        case slice e =>
          cases he : look e T with
          | none => rw [he] at hr; simp at hr
          | some ei =>
            rw [he] at hr
            simp only at hr
            split at hr
            · simp at hr
            · rename_i hc
              simp only [Bool.or_eq_true, beq_iff_eq, bne_iff_ne, ne_eq, not_or, Bool.not_eq_true, Decidable.not_not] at hc
              cases hs : setElems ei.size (List.replicate n ei.zero) l with
              | none => rw [hs] at hr; simp at hr
              | some m =>
                rw [hs] at hr
                simp only at hr
                cases hf : frzL pre m with
                | none => rw [hf] at hr; simp at hr
                | some m' =>
                  rw [hf] at hr
                  simp only [Option.some.injEq] at hr
                  subst hr
                  obtain ⟨y, w', hrun, hR⟩ := buildSlice_ok hT h hpre hD hK0.1 hK0.2 ht rfl he hc.1.1 hc.1.2 hc.2 (VReps.parts hρ hp) hs hf need
                  refine does_value ?_ hR
                  have e1 : (Array.map (fun x : Nat × Operand => match x with | (i, x) => (i, ev x)) ps) = (List.map (fun p : Nat × Operand => (p.1, ev p.2)) ps.toList).toArray := by
                    apply Array.ext'; simp
                  simp only [execOp, Sem.run_bind, e1, hrun, Result.andThen_ok, Sem.run_pure]
  case load t a =>
    cases ht : look t T with
    | none => rw [ht] at hr; simp at hr
    | some ti =>
      cases ha : ρ a with
      | none => rw [ht, ha] at hr; simp at hr
      | some p =>
        rw [ht, ha] at hr
        simp only at hr
        obtain ⟨e1, y, hrun, hR⟩ := load_ok hT h hpre ht (hρ a p ha) hr need
        refine does_value (x := y) (w' := w) ?_ (by rw [e1]; exact pure_opR h hD hR.vrep)
        simp only [execOp, Sem.run_bind, hrun, Result.andThen_ok, Sem.run_pure]
  case store t a x =>
    cases ht : look t T with
    | none => rw [ht] at hr; simp at hr
    | some ti =>
      cases ha : ρ a with
      | none => rw [ht, ha] at hr; simp at hr
      | some p =>
        cases hx : ρ x with
        | none => rw [ht, ha, hx] at hr; simp at hr
        | some v =>
          rw [ht, ha, hx] at hr
          simp only at hr
          obtain ⟨w', hrun, hR⟩ := store_ok hT h hpre hD ht (hρ a p ha) (hρ x v hx) hr need
          refine .inr (.inl ⟨w', ?_, hR⟩)
          simp only [execOp, Sem.run_bind, hrun, Result.andThen_ok, Sem.run_pure]
  case nilCheck x =>
    cases hx : ρ x with
    | none => rw [hx] at hr; simp at hr
    | some v =>
      rw [hx] at hr
      have hv := hρ x v hx
      cases v <;> simp only [pureRes, Option.some.injEq, reduceCtorEq] at hr
      case ptr =>
        subst hr
        obtain ⟨b, N, _, he⟩ := hv.ptr
        refine does_value (x := ev x) (w' := w) ?_ (pure_opR h hD hv)
        simp [execOp, he]
      case cref =>
        subst hr
        obtain ⟨b, o, ps, he, _⟩ := hv.cref
        refine does_value (x := ev x) (w' := w) ?_ (pure_opR h hD hv)
        simp [execOp, he]
      case func =>
        subst hr
        obtain ⟨vs, he, _⟩ := hv.func
        refine does_value (x := ev x) (w' := w) ?_ (pure_opR h hD hv)
        simp [execOp, he]
  case binOp op t x y ty =>
    cases hx : ρ x with
    | none => rw [hx] at hr; simp at hr
    | some a =>
      cases hy : ρ y with
      | none => rw [hx, hy] at hr; simp at hr
      | some b =>
        rw [hx, hy] at hr
        simp only at hr
        obtain ⟨e1, z, hrun, hR⟩ := bin_ok hT (op := op) (t := t) (t' := t) (x := x) (y := y) (hρ x a hx) (hρ y b hy) hr need
        refine does_value (x := z) (w' := w) ?_ (by rw [e1]; exact pure_opR h hD hR.vrep)
        simp only [execOp]
        rw [Sem.run_bind, hrun]
        rfl
  case unOp op t x =>
    cases hx : ρ x with
    | none => rw [hx] at hr; cases op <;> simp at hr
    | some v =>
      rw [hx] at hr
      have hv := hρ x v hx
      cases op <;> cases v <;> simp only [pureRes, Option.some.injEq, reduceCtorEq] at hr
      case not.bool b =>
        subst hr
        have := hv.bool
        refine does_value (x := .bool (!b)) (w' := w) ?_ (pure_opR h hD (hbool _))
        simp [execOp, this, Op.unary]
      case neg.int k n =>
        subst hr
        have := hv.int
        refine does_value (x := .int k (k.wrap (0 - n))) (w' := w) ?_ (pure_opR h hD (hint _ _))
        simp [execOp, this, Op.unary, Op.intArith]
      case xor.int k n =>
        subst hr
        have := hv.int
        refine does_value (x := .int k (k.wrap ((BitVec.ofInt k.bits (if k.signed then -1 else k.max) ^^^ BitVec.ofInt k.bits n).toNat : Int))) (w' := w) ?_ (pure_opR h hD (hint _ _))
        simp only [execOp, this, Op.unary, Op.intBits]
        rfl
  case convert s d x =>
    cases hs : look s T with
    | none => rw [hs] at hr; simp at hr
    | some si =>
      cases hd : look d T with
      | none => rw [hs, hd] at hr; obtain ⟨sd, _, _, _⟩ := si; cases sd <;> simp at hr
      | some di =>
        rw [hs, hd] at hr
        obtain ⟨sd, _, _, _⟩ := si
        obtain ⟨dd, _, _, _⟩ := di
        cases sd <;> cases dd <;> try (simp only [reduceCtorEq] at hr; done)
        case int.int k1 k =>
          cases hx : ρ x with
          | none => rw [hx] at hr; simp at hr
          | some v =>
            rw [hx] at hr
            have hv := hρ x v hx
            cases v <;> simp only [pureRes, Option.some.injEq, reduceCtorEq] at hr
            case int k2 n =>
              subst hr
              have hev := hv.int
              have hus := (hT _ _ hs).und
              have hud := (hT _ _ hd).und
              refine does_value (x := .int k (k.wrap n)) (w' := w) ?_ (pure_opR h hD (hint _ _))
              simp [execOp, hev, convert, run_underlying hus, run_underlying hud, Conv.intToInt]
  case sliceToArrayPointer t x =>
    cases ht : look t T with
    | none => rw [ht] at hr; simp at hr
    | some ti =>
      cases hx : ρ x with
      | none => rw [ht, hx] at hr; obtain ⟨d, _, _, _⟩ := ti; cases d <;> simp at hr
      | some v =>
        rw [ht, hx] at hr
        have hv := hρ x v hx
        obtain ⟨d, sz, by', z⟩ := ti
        cases d <;> try (simp only [reduceCtorEq] at hr; done)
        case array m e =>
          cases v <;> try (simp only [reduceCtorEq] at hr; done)
          case tab es n f =>
            simp only at hr
            cases he : look e T with
            | none => rw [he] at hr; simp at hr
            | some ei =>
              rw [he] at hr
              simp only at hr
              split at hr
              · rename_i hc
                simp only [Bool.and_eq_true, beq_iff_eq, bne_iff_ne, ne_eq] at hc
                simp only [Option.some.injEq] at hr
                subst hr
                obtain ⟨zv, hrun, hR⟩ := arrayAt_ok hT h hD ht rfl hv hc.2 need
                refine does_value ?_ hR
                simp only [execOp, Sem.run_bind, hrun, Result.andThen_ok, Sem.run_pure]
              · simp at hr
  case makeSlice t l cp =>
    cases ht : look t T with
    | none => rw [ht] at hr; simp at hr
    | some ti =>
      cases hl : ρ l with
      | none => rw [ht, hl] at hr; obtain ⟨d, _, _, _⟩ := ti; cases d <;> simp at hr
      | some lv =>
        cases hc : ρ cp with
        | none => rw [ht, hl, hc] at hr; obtain ⟨d, _, _, _⟩ := ti; cases d <;> cases lv <;> (try (rename_i k _; cases k)) <;> simp at hr
        | some cv =>
          rw [ht, hl, hc] at hr
          obtain ⟨d, sz, by', z⟩ := ti
          cases d <;> try (simp only [reduceCtorEq] at hr; done)
          case slice e =>
            have hlv := hρ l lv hl
            have hcv := hρ cp cv hc
            cases lv <;> try (simp only [reduceCtorEq] at hr; done)
            case int k n =>
              cases k <;> try (simp only [reduceCtorEq] at hr; done)
              case i64 =>
                cases cv <;> try (simp only [reduceCtorEq] at hr; done)
                case int k m =>
                  cases k <;> try (simp only [reduceCtorEq] at hr; done)
                  case i64 =>
                    simp only at hr
                    cases he : look e T with
                    | none => rw [he] at hr; simp at hr
                    | some ei =>
                      rw [he] at hr
                      simp only at hr
                      split at hr
                      · simp at hr
                      · rename_i hcc
                        simp only [Bool.or_eq_true, beq_iff_eq, bne_iff_ne, ne_eq, not_or, Bool.not_eq_true, Decidable.not_not] at hcc
                        simp only [Option.some.injEq] at hr
                        subst hr
                        obtain ⟨x, w', hrun, hR⟩ := make_ok hT h hD hK0.1 hK0.2 ht rfl he hcc.1.1 hcc.1.2 hcc.2 need.1 need.2.1 need.2.2.1 need.2.2.2
                        refine does_value ?_ hR
                        simp only [execOp, Sem.run_bind, hlv.int, hcv.int, hrun, Result.andThen_ok, Sem.run_pure]
  case slice t x lo hi mx =>
    cases ht : look t T with
    | none => rw [ht] at hr; simp at hr
    | some ti =>
      cases hx : ρ x with
      | none => rw [ht, hx] at hr; obtain ⟨d, _, _, _⟩ := ti; cases d <;> simp at hr
      | some v =>
        rw [ht, hx] at hr
        obtain ⟨d, sz, by', z⟩ := ti
        cases d <;> simp only [reduceCtorEq] at hr
        case slice e =>
          cases he : look e T with
          | none => rw [he] at hr; simp at hr
          | some ei =>
            cases hn : lenOf v with
            | none => rw [he, hn] at hr; simp at hr
            | some n =>
              rw [he, hn] at hr
              simp only at hr
              cases hl : optInt ρ 0 lo with
              | none => rw [hl] at hr; simp at hr
              | some l =>
                cases hh : optInt ρ n hi with
                | none => rw [hl, hh] at hr; simp at hr
                | some hv =>
                  rw [hl, hh] at hr
                  simp only at hr
                  cases hm : optInt ρ hv mx with
                  | none => rw [hm] at hr; simp at hr
                  | some m =>
                    rw [hm] at hr
                    simp only at hr
                    split at hr
                    · simp at hr
                    · rename_i hmx
                      simp only [Bool.and_eq_true, not_and, Bool.not_eq_true] at hmx
                      cases hs : sliceAV ei.size v l.toNat hv.toNat with
                      | none => rw [hs] at hr; simp at hr
                      | some u =>
                        rw [hs] at hr
                        simp only [Option.some.injEq] at hr
                        subst hr
                        have hvt : v.isTuple = false := by cases v <;> first | rfl | simp [lenOf] at hn
                        obtain ⟨y, hrun, hR⟩ := slice_ok hT ht rfl he ((hρ x v hx).one hvt) hρ hn hl hh hm need.1 need.2.1 need.2.2.1 need.2.2.2 (fun h1 => by
                          have := hmx h1
                          cases hi <;> simp_all) u hs
                        refine does_value (x := y) (w' := w) ?_ (pure_opR h hD hR.vrep)
                        simp only [execOp, Sem.run_bind, hrun, Result.andThen_ok, Sem.run_pure]
        case array n e =>
          cases mx with
          | some m => simp at hr
          | none =>
            simp only at hr
            cases he : look e T with
            | none => rw [he] at hr; simp at hr
            | some ei =>
              cases hl : optInt ρ 0 lo with
              | none => rw [he, hl] at hr; simp at hr
              | some a =>
                cases hh : optInt ρ n hi with
                | none => rw [he, hl, hh] at hr; simp at hr
                | some b =>
                  rw [he, hl, hh] at hr
                  simp only at hr
                  obtain ⟨y, hrun, hR⟩ := sliceArr_ok hT h hpre hD ht rfl he (hρ x v hx) hρ hl hh hr need
                  refine does_value (x := y) (w' := w) ?_ hR
                  simp only [execOp, Sem.run_bind, Option.map_none, hrun, Result.andThen_ok, Sem.run_pure]
  case fieldAddr s x i =>
    cases hs : look s T with
    | none => rw [hs] at hr; simp at hr
    | some ti =>
      cases hx : ρ x with
      | none => rw [hs, hx] at hr; simp at hr
      | some p =>
        rw [hs, hx] at hr
        simp only at hr
        cases hf : fieldOf ti.desc i with
        | none => rw [hf] at hr; simp at hr
        | some fd =>
          rw [hf] at hr
          simp only at hr
          have hp := hρ x p hx
          cases p <;> simp only [reduceCtorEq] at hr
          case cref v =>
            cases hk : kidAt T v i fd.offset fd.type with
            | none => rw [hk] at hr; simp at hr
            | some k =>
              rw [hk] at hr
              simp only [pureRes, Option.some.injEq] at hr
              subst hr
              obtain ⟨b, o, he, hR⟩ := cref_kid hk hp
              obtain ⟨fi, hfi, h0⟩ : ∃ fi, look fd.type T = some fi ∧ fi.size ≠ 0 := by
                obtain ⟨_, _, ps, _, hps, _⟩ := hp.cref
                obtain ⟨fi, _, _, _, q1, _, _, _, _, _, _, _, q2, _⟩ := kidAt_ok hk hps
                exact ⟨fi, q1, q2⟩
              refine does_value (w' := w) ?_ (pure_opR h hD hR.vrep)
              simp only [execOp, Sem.run_bind, he, fieldAt_ok hT hs hf hfi h0, Result.andThen_ok, Sem.run_pure]
          case ptr k idx es off path =>
            cases hfi : look fd.type T with
            | none => rw [hfi] at hr; simp at hr
            | some fi =>
              rw [hfi] at hr
              simp only at hr
              split at hr
              · simp at hr
              · rename_i h0
                simp only [pureRes, Option.some.injEq] at hr
                subst hr
                obtain ⟨b, N, hb, he⟩ := hp.ptr
                refine does_value (x := .pointer (some ⟨b, idx * es + off + fd.offset, none⟩)) (w' := w) ?_ (pure_opR h hD (VRep1.vrep (.of_cell ?_ rfl)))
                · simp only [execOp, Sem.run_bind, he, fieldAt_ok hT hs hf hfi (by simpa using h0), Result.andThen_ok, Sem.run_pure]
                · rw [Nat.add_assoc]; exact .ptr hb .nil
  case field s x i =>
    cases hs : look s T with
    | none => rw [hs] at hr; simp at hr
    | some ti =>
      cases hx : ρ x with
      | none => rw [hs, hx] at hr; simp at hr
      | some v =>
        rw [hs, hx] at hr
        simp only at hr
        cases hf : fieldOf ti.desc i with
        | none => rw [hf] at hr; simp at hr
        | some fd =>
          rw [hf] at hr
          simp only at hr
          cases hk : kidAt T v i fd.offset fd.type with
          | none => rw [hk] at hr; simp at hr
          | some k =>
            rw [hk] at hr
            simp only [pureRes, Option.some.injEq] at hr
            subst hr
            have hvt : v.isTuple = false := by
              cases v <;> first | rfl | (simp [kidAt, AV.kids] at hk)
            obtain ⟨y, hrun, hR⟩ := field_ok hT (w := w) hs ((hρ x v hx).one hvt) hf hk
            refine does_value (x := y) (w' := w) ?_ (pure_opR h hD hR.vrep)
            simp only [execOp, Sem.run_bind, hrun, Result.andThen_ok, Sem.run_pure]
  case indexAddr t x ix =>
    cases ht : look t T with
    | none => rw [ht] at hr; simp at hr
    | some ti =>
      cases hx : ρ x with
      | none => rw [ht, hx] at hr; obtain ⟨d, _, _, _⟩ := ti; cases d <;> simp at hr
      | some p =>
        cases hi : ρ ix with
        | none => rw [ht, hx, hi] at hr; obtain ⟨d, _, _, _⟩ := ti; cases d <;> simp at hr
        | some iv =>
          rw [ht, hx, hi] at hr
          obtain ⟨d, sz, by', z⟩ := ti
          have hp := hρ x p hx
          have hiv := hρ ix iv hi
          cases d <;> try (simp only [reduceCtorEq] at hr; done)
          case array n e =>
            cases iv <;> simp only [reduceCtorEq] at hr
            case int kd i =>
              have hie := hiv.int
              cases he : look e T with
              | none => rw [he] at hr; simp at hr
              | some ei =>
                rw [he] at hr
                simp only at hr
                split at hr
                · simp at hr
                · rename_i h0
                  cases p <;> simp only [reduceCtorEq] at hr
                  case cref v =>
                    cases hk : kidAt T v i.toNat (i.toNat * ei.size) e with
                    | none => rw [hk] at hr; simp at hr
                    | some k =>
                      rw [hk] at hr
                      simp only [Option.some.injEq] at hr
                      subst hr
                      obtain ⟨b, o, hev, hR⟩ := cref_kid hk hp
                      refine does_value (w' := w) ?_ (pure_opR h hD hR.vrep)
                      simp only [execOp, Sem.run_bind, hev, hie, indexAt_array_ok hT ht rfl he need.1 need.2, Result.andThen_ok, Sem.run_pure]
                  case ptr k idx es off path =>
                    simp only [Option.some.injEq] at hr
                    subst hr
                    obtain ⟨b, N, hb, hev⟩ := hp.ptr
                    refine does_value (x := .pointer (some ⟨b, idx * es + off + i.toNat * ei.size, none⟩)) (w' := w) ?_ (pure_opR h hD (VRep1.vrep (.of_cell ?_ rfl)))
                    · simp only [execOp, Sem.run_bind, hev, hie, indexAt_array_ok hT ht rfl he need.1 need.2, Result.andThen_ok, Sem.run_pure]
                    · rw [Nat.add_assoc]; exact .ptr hb .nil
          case slice e =>
            cases iv <;> simp only [reduceCtorEq] at hr
            case int kd i =>
              have hie := hiv.int
              cases he : look e T with
              | none => rw [he] at hr; simp at hr
              | some ei =>
                rw [he] at hr
                simp only at hr
                split at hr
                · simp at hr
                · rename_i h0
                  cases hel : elemAt pre ei.size p i.toNat with
                  | none => rw [hel] at hr; simp at hr
                  | some q =>
                    obtain ⟨q, nd⟩ := q
                    rw [hel] at hr
                    simp only [Option.some.injEq] at hr
                    subst hr
                    obtain ⟨y, hrun, hR⟩ := elemAt_ok hT h hpre (kd := kd) ht rfl he hp need.1 hel need.2
                    refine does_value (x := y) (w' := w) ?_ (pure_opR h hD hR.vrep)
                    simp only [execOp, Sem.run_bind, hie, hrun, Result.andThen_ok, Sem.run_pure]
  case index t x ix =>
    cases ht : look t T with
    | none => rw [ht] at hr; simp at hr
    | some ti =>
      cases hx : ρ x with
      | none => rw [ht, hx] at hr; obtain ⟨d, _, _, _⟩ := ti; cases d <;> simp at hr
      | some v =>
        cases hi : ρ ix with
        | none => rw [ht, hx, hi] at hr; obtain ⟨d, _, _, _⟩ := ti; cases d <;> simp at hr
        | some iv =>
          rw [ht, hx, hi] at hr
          obtain ⟨d, sz, by', z⟩ := ti
          have hiv := hρ ix iv hi
          cases d <;> try (simp only [reduceCtorEq] at hr; done)
          case array n e =>
            cases iv <;> simp only [reduceCtorEq] at hr
            case int kd i =>
              have hie := hiv.int
              cases he : look e T with
              | none => rw [he] at hr; simp at hr
              | some ei =>
                rw [he] at hr
                simp only at hr
                cases hk : kidAt T v i.toNat (i.toNat * ei.size) e with
                | none => rw [hk] at hr; simp at hr
                | some k =>
                  rw [hk] at hr
                  simp only [Option.some.injEq] at hr
                  subst hr
                  have hvt : v.isTuple = false := by
                    cases v <;> first | rfl | (simp [kidAt, AV.kids] at hk)
                  obtain ⟨y, hrun, hR⟩ := index_ok hT (w := w) (kd := kd) ht rfl he ((hρ x v hx).one hvt) hk need.1 need.2
                  refine does_value (x := y) (w' := w) ?_ (pure_opR h hD hR.vrep)
                  simp only [execOp, Sem.run_bind, hie, hrun, Result.andThen_ok, Sem.run_pure]
  case extract x i =>
    cases hx : ρ x with
    | none => rw [hx] at hr; simp at hr
    | some v =>
      rw [hx] at hr
      cases v <;> simp only [reduceCtorEq] at hr
      case tuple l =>
        cases hl : l[i]? with
        | none => rw [hl] at hr; simp at hr
        | some v =>
          rw [hl] at hr
          simp only [pureRes, Option.some.injEq] at hr
          subst hr
          obtain ⟨vs, hev, hvs⟩ := hρ x _ hx
          obtain ⟨y, hy, hR⟩ := hvs.get i v hl
          refine does_value (x := y) (w' := w) ?_ (pure_opR h hD hR.vrep)
          simp [execOp, hev, Instr.extract, hy]
  case makeFunc fn first caps =>
    cases fn <;> simp only [reduceCtorEq] at hr
    case func f =>
      cases hc : operandsAV ρ caps.toList with
      | none => rw [hc] at hr; cases first.toList <;> simp at hr
      | some l =>
        rw [hc] at hr
        cases hf : first.toList with
        | cons a b => rw [hf] at hr; simp at hr
        | nil =>
          rw [hf] at hr
          simp only at hr
          split at hr
          · rename_i hall
            simp only [pureRes, Option.some.injEq] at hr
            subst hr
            have hfe : first = #[] := by apply Array.ext'; simpa using hf
            subst hfe
            have hcaps := (operandsAV_ok hρ hc).capsCReps hall
            refine does_value (x := .func (.func f) #[] (List.map ev caps.toList).toArray) (w' := w) ?_ (pure_opR h hD (VRep1.vrep (.of_cell (.func hcaps hall .nil) rfl)))
            have e1 : Array.map ev caps = (List.map ev caps.toList).toArray := by apply Array.ext'; simp
            simp [execOp, Instr.makeFunc, e1]
          · simp at hr
theorem VRep.deN {M : Nat → Prop} {v : AV} {x : Value} (h : VRep M w β v x) : VRep M w β (Am.deN v) x := by
  cases v with
  | ntab b es n f =>
    obtain ⟨cs, h1, h2⟩ := VRep.one h rfl
    cases h1 with
    | ntab g0 g1 g2 g3 g4 g5 g6 =>
      cases g6
      exact VRep1.vrep ⟨_, .tab g1 g2 g3 g4 g5 .nil, h2⟩
  | _ => exact h
theorem nilOp_inv {ρ : Operand → Option AV} {op : Op} {v : AV} (h : nilOp T ρ op = some v) : ∃ o t x y u b es n f z, op = .binOp o t x y u ∧ ρ x = some (.ntab b es n f) ∧ ρ y = some .nil ∧ isSlice T t = true ∧ v = .bool z ∧ ((o = .eql ∧ z = b) ∨ (o = .neq ∧ z = !b)) := by
  cases op <;> simp only [nilOp, reduceCtorEq] at h
  case binOp o t x y u =>
    cases hx : ρ x with
    | none => rw [hx] at h; simp at h
    | some a =>
      cases hy : ρ y with
      | none => rw [hx, hy] at h; simp at h
      | some d =>
        rw [hx, hy] at h
        simp only at h
        cases hf : nilFlag a d with
        | none => rw [hf] at h; simp at h
        | some b =>
          cases hs : isSlice T t with
          | false => rw [hf, hs] at h; simp at h
          | true =>
            rw [hf, hs] at h
            have hab : ∃ es n f, a = .ntab b es n f ∧ d = .nil := by
              cases a <;> simp only [nilFlag, reduceCtorEq] at hf
              case ntab b' es n f =>
                cases d <;> simp only [reduceCtorEq, Option.some.injEq] at hf
                case nil => subst hf; exact ⟨es, n, f, rfl, rfl⟩
            obtain ⟨es, n, f, rfl, rfl⟩ := hab
            cases o <;> simp only [reduceCtorEq, Option.some.injEq] at h
            case eql => exact ⟨_, t, x, y, u, b, es, n, f, b, rfl, hx, hy, hs, h.symm, .inl ⟨rfl, rfl⟩⟩
            case neq => exact ⟨_, t, x, y, u, b, es, n, f, !b, rfl, hx, hy, hs, h.symm, .inr ⟨rfl, rfl⟩⟩
theorem bytesOf_ints {f : Nat → AV} : ∀ {n : Nat} {l : List UInt8}, bytesOf f n = some l → ∃ ns : List Int, ns.length = n ∧ (∀ i, i < n → ∃ b, ns[i]? = some b ∧ f i = .int .u8 b) ∧ (ns.foldl (fun r n => r.push (UInt8.ofNat n.toNat)) ByteArray.empty) = ⟨l.toArray⟩
  | 0, l, h => by
    simp only [bytesOf, Option.some.injEq] at h
    subst h
    exact ⟨[], rfl, fun i hi => by omega, rfl⟩
  | n + 1, l, h => by
    simp only [bytesOf] at h
    split at h
    · rename_i l' b h1 h2
      simp only [Option.some.injEq] at h
      subst h
      obtain ⟨ns, e1, e2, e3⟩ := bytesOf_ints h1
      refine ⟨ns ++ [b], by simp [e1], fun i hi => ?_, ?_⟩
      · by_cases hin : i < n
        · obtain ⟨b', q1, q2⟩ := e2 i hin
          exact ⟨b', by rw [List.getElem?_append_left (by omega)]; exact q1, q2⟩
        · have : i = n := by omega
          subst this
          exact ⟨b, by rw [List.getElem?_append_right (by omega), e1]; simp, h2⟩
      · rw [List.foldl_append, e3]
        simp [ByteArray.push]
    · simp at h
theorem bytesOf_run {w : World} {M : Nat → Prop} {f : Nat → AV} {n cap : Nat} {l : List UInt8} {base : Option Addr} {cf : Nat → List Value} (hl : bytesOf f n = some l)
    (g1 : n = 0 ∨ ∃ b o, base = some ⟨b, o, none⟩ ∧ ∀ i, i < n → w.rangeAt b (o + i * 1) (cf i)) (g3 : base = none → n = 0) (g4 : ∀ i, i < n → (cf i).length = 1 ∧ CReps M w noKeys [f i] (cf i)) :
    (Conv.bytesToString (.slice base n cap)).run P w = .ok (.string ⟨l.toArray⟩) w := by
  obtain ⟨ns, e1, e2, e3⟩ := bytesOf_ints hl
  cases base with
  | none =>
    have := g3 rfl
    subst this
    simp only [bytesOf, Option.some.injEq] at hl
    subst hl
    rfl
  | some a =>
    rw [run_bytesToString w a n cap ns, e3]
    have hcell : ∀ j v, (ns.map (Value.int .u8))[j]? = some v → w.cell? (a.add j) = some v := by
      intro j v hv
      rw [List.getElem?_map, Option.map_eq_some_iff] at hv
      obtain ⟨b, hb, rfl⟩ := hv
      have hj : j < n := by
        have := (List.getElem?_eq_some_iff.1 hb).1
        omega
      rcases g1 with g1 | ⟨bl, o, hbo, g1⟩
      · omega
      simp only [Option.some.injEq] at hbo
      subst hbo
      obtain ⟨b', q1, q2⟩ := e2 j hj
      rw [hb] at q1
      simp only [Option.some.injEq] at q1
      subst q1
      obtain ⟨q3, q4⟩ := g4 j hj
      rw [q2] at q4
      have hcf : cf j = [.int .u8 b] := by
        revert q4
        generalize cf j = z
        intro q4
        cases q4 with | int h => cases h; rfl
      have := g1 j hj
      rw [hcf] at this
      have := this 0 _ rfl
      rw [Addr.add_mid]
      simpa using this
    have := run_loadCells_list (P := P) (w := w) a (ns.map (Value.int .u8)) hcell
    rw [List.length_map, e1] at this
    exact this
include hT in
theorem strOp_ok (h : WRel c st D β w) (hpre : ∀ k o, look k pre = some o → look k st = some o) (hD : ∀ k, D k → D' k) {ρ : Operand → Option AV} {ev : Operand → Value} (hρ : ∀ x v, ρ x = some v → VRep (Mset c st β) w β v (ev x)) {o : Oper} {r : ORes}
    (hev : ∀ v, ev (.const v) = v) (hr : strOp T pre ρ o.op = some r) (need : r.need) : Does P (execOp ev o) w (OpR c st D' β w r.eff r.val) := by
  obtain ⟨dst, op, type, pos, after, guard⟩ := o
  cases op <;> simp only [strOp, reduceCtorEq] at hr
  case binOp o t x y u =>
    have hbool : ∀ t, VRep (Mset c st β) w β (.bool t) (.bool t) := fun t => VRep1.vrep (.of_cell (.bool .nil) rfl)
    split at hr
    · rename_i a b ha hb
      have ea := (hρ x _ ha).str
      have eb := (hρ y _ hb).str
      split at hr
      · split at hr
        · rename_i hl
          have hl := Nat.le_of_ble_eq_true hl
          simp only [pureRes, Option.some.injEq] at hr
          subst hr
          refine does_value (x := .string ⟨(a ++ b).toArray⟩) (w' := w) ?_ (pure_opR h hD (VRep1.vrep (.of_cell (.str .nil) rfl)))
          simp only [execOp, ea, eb, eqGuard_at_string, binOp_string_add]
          simp only [Sem.run_bind, Sem.run_pure, Result.andThen_ok, run_string_add_lists w a b (by omega) (by omega)]
        · simp at hr
      · simp only [pureRes, Option.some.injEq] at hr
        subst hr
        refine does_value (x := .bool (a == b)) (w' := w) ?_ (pure_opR h hD (hbool _))
        simp only [execOp, ea, eb, eqGuard_at_string, binOp_string_eql, ByteArray.toList_mk]
        simp
      · simp only [pureRes, Option.some.injEq] at hr
        subst hr
        refine does_value (x := .bool (!(a == b))) (w' := w) ?_ (pure_opR h hD (hbool _))
        simp only [execOp, ea, eb, eqGuard_at_string, binOp_string_neq, ByteArray.toList_mk]
        simp
      · simp at hr
    · simp at hr
  case convert s d x =>
    split at hr
    · rename_i e _ _ _ _ _ _ v hs hd hx
      split at hr
      · rename_i he
        split at hr
        · rename_i n f hra
          split at hr
          · rename_i l hl
            simp only [pureRes, Option.some.injEq] at hr
            subst hr
            obtain ⟨base, cap, cf, hev', g1, g2, g3, g4⟩ := readAll_ok h hpre (by omega) (hρ x _ hx) hra
            have hus := (hT _ _ hs).und
            have hud := (hT _ _ hd).und
            have hue := (hT _ _ he).und
            refine does_value (x := .string ⟨l.toArray⟩) (w' := w) ?_ (pure_opR h hD (VRep1.vrep (.of_cell (.str .nil) rfl)))
            simp only [execOp, hev', Sem.run_bind, run_convert_bytes_string w s d e base n cap hus hue hud]
            rw [bytesOf_run hl g1 g3 g4]
            rfl
          · simp at hr
        · simp at hr
      · simp at hr
    · simp at hr
  case index t x ix =>
    cases x <;> (try simp only [reduceCtorEq] at hr)
    case const v =>
      cases v <;> (try simp only [reduceCtorEq] at hr)
      case string s =>
        cases hi : ρ ix with
        | none => rw [hi] at hr; simp at hr
        | some iv =>
          cases ht : look t T with
          | none => rw [hi, ht] at hr; cases iv <;> simp at hr
          | some ti =>
            rw [hi, ht] at hr
            have hiv := hρ ix iv hi
            cases iv <;> simp only [reduceCtorEq] at hr
            case int kd i =>
              have hie := hiv.int
              split at hr
              · rename_i hs
                simp only [Option.some.injEq] at hr
                subst hr
                have need : 0 ≤ i ∧ i < s.size := need
                have hu : P.underlying t = some .string := by
                  have := (hT _ _ ht).und
                  cases hd : ti.desc <;> rw [hd] at hs this <;> simp only [isString, Bool.false_eq_true] at hs
                  case string => exact this
                have hb : (byteAt s i.toNat : Int) = ((s[i.toNat]'(by omega)).toNat : Int) := by
                  unfold byteAt
                  have hlt : i.toNat < s.data.size := by have : s.size = s.data.size := rfl; omega
                  rw [Array.getElem?_eq_getElem hlt]
                  rfl
                refine does_value (x := .int .u8 (byteAt s i.toNat)) (w' := w) ?_ (pure_opR h hD (VRep1.vrep (.of_cell (.int .nil) rfl)))
                simp only [execOp, hie, hev]
                rw [Sem.run_bind, run_index_string w t s kd i hu, dif_pos need, hb]
                rfl
              · simp at hr
theorem chkOp_ok {K : Nat} {ρ : Operand → Option AV} {op : Op} {r : ORes} (hc : chkOp T ρ pre op = true) (hr : opAV0 T Γ K ρ pre op = some r) : r.need := by
  cases op <;> simp only [chkOp, Bool.false_eq_true] at hc
  case load t a =>
    split at hc
    · rename_i k idx es off path ha
      split at hc
      · rename_i o ho
        have hlt := Nat.blt_eq.mp hc
        simp only [opAV0, ha] at hr
        split at hr
        · rename_i ti p ht hp
          simp only [Option.some.injEq] at hp
          subst hp
          simp only [loadAV, ho] at hr
          split at hr
          · split at hr
            · split at hr
              · simp only [Option.some.injEq] at hr; subst hr; exact hlt
              · simp at hr
            · simp at hr
          · simp at hr
        · simp at hr
      · simp at hc
    · simp at hc
  case store t a x =>
    split at hc
    · rename_i k idx es off path ha
      split at hc
      · rename_i o ho
        have hlt := Nat.blt_eq.mp hc
        simp only [opAV0, ha] at hr
        split at hr
        · rename_i ti p v ht hp hv
          simp only [Option.some.injEq] at hp
          subst hp
          simp only [storeAV, ho] at hr
          (repeat' split at hr) <;> first | (simp only [Option.some.injEq] at hr; subst hr; exact hlt) | simp at hr
        · simp at hr
      · simp at hc
    · simp at hc
  case indexAddr t x ix =>
    split at hc
    · rename_i n e _ _ _ _ i ht hi
      have hlt := of_decide_eq_true hc
      cases hx : ρ x with
      | none => simp only [opAV0, ht, hi, hx] at hr; simp at hr
      | some p =>
        simp only [opAV0, ht, hi, hx] at hr
        split at hr
        · split at hr
          · simp at hr
          · split at hr
            · split at hr
              · simp only [Option.some.injEq] at hr; subst hr; exact hlt
              · simp at hr
            · simp only [Option.some.injEq] at hr; subst hr; exact hlt
            · simp at hr
        · simp at hr
    · rename_i e _ _ _ v _ i ht hv hi
      split at hc
      · rename_i n hn
        simp only [Bool.and_eq_true, decide_eq_true_eq, Nat.blt_eq] at hc
        simp only [opAV0, ht, hi, hv] at hr
        split at hr
        · rename_i ti hti
          split at hr
          · simp at hr
          · split at hr
            · rename_i r' nd hel
              simp only [Option.some.injEq] at hr
              subst hr
              refine ⟨hc.1, ?_⟩
              unfold elemAt at hel
              unfold lenOf at hn
              have hc2 := hc.2
              (repeat' split at hel) <;> simp_all <;> (obtain ⟨_, rfl⟩ := hel; exact hc2)
            · simp at hr
        · simp at hr
      · simp at hc
    · simp at hc
  case index t x ix =>
    split at hc
    · rename_i n e _ _ _ _ i ht hi
      have hlt := of_decide_eq_true hc
      cases hx : ρ x with
      | none => simp only [opAV0, ht, hi, hx] at hr; simp at hr
      | some p =>
        simp only [opAV0, ht, hi, hx] at hr
        split at hr
        · split at hr
          · simp only [Option.some.injEq] at hr; subst hr; exact hlt
          · simp at hr
        · simp at hr
    · simp at hc
  case slice t x lo hi mx =>
    split at hc
    · rename_i v hv
      split at hc
      · rename_i len hlen
        split at hc
        · rename_i l h hl hh
          split at hc
          · rename_i m hm
            have hlt := of_decide_eq_true hc
            cases ht : look t T with
            | none => simp only [opAV0, hv, ht] at hr; simp at hr
            | some ti0 =>
              obtain ⟨dd, _, _, _⟩ := ti0
              cases dd <;> try (simp only [opAV0, hv, ht] at hr; simp at hr; done)
              case array n e =>
                simp only [opAV0, hv, ht] at hr
                exfalso
                split at hr
                · split at hr
                  · unfold sliceArr at hr
                    cases v <;> simp [lenOf] at hlen <;> simp at hr
                  · simp at hr
                · simp at hr
              case slice e =>
                cases he : look e T with
                | none => simp only [opAV0, hv, ht, he] at hr; simp at hr
                | some ti =>
                  simp only [opAV0, hv, ht, he, hlen, hl, hh, hm] at hr
                  split at hr
                  · simp at hr
                  · split at hr
                    · simp only [Option.some.injEq] at hr; subst hr; exact hlt
                    · simp at hr
          · simp at hc
        · simp at hc
      · simp at hc
    · simp at hc
  case buildSlice t n ps =>
    split at hc
    · rename_i e _ _ _ ht
      split at hc
      · rename_i ti hti
        have hlt := Nat.le_of_ble_eq_true hc
        cases hp : partsAV ρ ps.toList with
        | none => simp only [opAV0, ht, hti, hp] at hr; simp at hr
        | some l =>
          simp only [opAV0, ht, hti, hp] at hr
          split at hr
          · simp at hr
          · split at hr
            · split at hr
              · simp only [Option.some.injEq] at hr; subst hr; exact hlt
              · simp at hr
            · simp at hr
      · simp at hc
    · simp at hc
theorem is64_eq {k : IntKind} (h : is64 k = true) : k = .i64 := by cases k <;> first | rfl | cases h
theorem wrap64 {n : Int} (h : -2 ^ 63 ≤ n ∧ n < 2 ^ 63) : IntKind.i64.wrap n = n := by
  obtain ⟨h1, h2⟩ := h
  simp [IntKind.wrap, IntKind.bits, IntKind.signed]; omega
theorem plainOp_ok {K : Nat} {ρ : Operand → Option AV} {op : Op} {n : Int} (hp : plainOp T ρ op = some n) (hn : -2 ^ 63 ≤ n ∧ n < 2 ^ 63) : opAV0 T Γ K ρ pre op = some ⟨.int .i64 n, [], []⟩ := by
  cases op <;> simp only [plainOp, reduceCtorEq] at hp
  case binOp o t x y u =>
    split at hp
    · rename_i k a j b hx hy
      split at hp
      · rename_i hk hj
        obtain rfl := is64_eq hk
        obtain rfl := is64_eq hj
        simp only [opAV0, hx, hy]
        split at hp <;> simp only [Option.some.injEq, reduceCtorEq] at hp <;> subst hp <;> simp [binAV, isKind, intBin, pureRes, wrap64 hn]
      · simp at hp
    · simp at hp
  case convert s d x =>
    split at hp
    · rename_i k1 _ _ _ k _ _ _ k2 m hs hd hx
      split at hp
      · rename_i hk
        obtain rfl := is64_eq hk
        simp only [Option.some.injEq] at hp
        subst hp
        simp only [opAV0, hs, hd, hx, pureRes, wrap64 hn]
      · simp at hp
    · simp at hp
include hT hΓ in
theorem opAVs_ok (h : WRel c st D β w) (hpre : ∀ k o, look k pre = some o → look k st = some o) (hD : ∀ k, D k → D' k) {K : Nat} (hK : ∀ k, K ≤ k → k < K + stride → ¬ D k ∧ D' k)
    {ρ : Operand → Option AV} {ev : Operand → Value} (hρ : ∀ x v, ρ x = some v → VRep (Mset c st β) w β v (ev x)) {o : Oper} {r : ORes}
    (hr : opAVs T Γ K ρ pre o.op = some r) (need : r.need) : Does P (execOp ev o) w (OpR c st D' β w r.eff r.val) := by
  unfold opAVs at hr
  split at hr
  · split at hr
    · rename_i hc
      split at hr
      · rename_i r' hr'
        simp only [Option.some.injEq] at hr
        subst hr
        have := opAV0_ok hT hΓ h hpre hD hK hρ (r := r') hr' (chkOp_ok hc hr')
        exact this
      · simp at hr
    · exact opAV0_ok hT hΓ h hpre hD hK hρ hr need
  · split at hr
    · split at hr
      · rename_i n hp
        simp only [Option.some.injEq] at hr
        subst hr
        have hn : -2 ^ 63 ≤ n ∧ n < 2 ^ 63 := need
        have := opAV0_ok hT hΓ h hpre hD hK hρ (r := ⟨.int .i64 n, [], []⟩) (plainOp_ok hp hn) trivial
        exact this
      · exact opAV0_ok hT hΓ h hpre hD hK hρ hr need
    · exact opAV0_ok hT hΓ h hpre hD hK hρ hr need
include hT hΓ in
theorem opAV_ok (h : WRel c st D β w) (hpre : ∀ k o, look k pre = some o → look k st = some o) (hD : ∀ k, D k → D' k) {K : Nat} (hK : ∀ k, K ≤ k → k < K + stride → ¬ D k ∧ D' k)
    {ρ : Operand → Option AV} {ev : Operand → Value} (hρ : ∀ x v, ρ x = some v → VRep (Mset c st β) w β v (ev x)) (hev : ∀ v, ev (.const v) = v) {o : Oper} {r : ORes}
    (hr : opAV T Γ K ρ pre o.op = some r) (need : r.need) : Does P (execOp ev o) w (OpR c st D' β w r.eff r.val) := by
  unfold opAV at hr
  cases hn : nilOp T ρ o.op with
  | some v =>
    rw [hn] at hr
    simp only [pureRes, Option.some.injEq] at hr
    subst hr
    obtain ⟨dst, op, type, pos, after, guard⟩ := o
    obtain ⟨o, t, x, y, u, b, es, n, f, z, h1, hx, hy, hs, h2, h3⟩ := nilOp_inv hn
    simp only at h1
    subst h1 h2
    obtain ⟨cs, hv, hv2⟩ := VRep.one (hρ x _ hx) rfl
    have hnil := (hρ y _ hy).nil
    have hbool : ∀ t, VRep (Mset c st β) w β (.bool t) (.bool t) := fun t => VRep1.vrep (.of_cell (.bool .nil) rfl)
    have hsl : ∃ e, P.underlying t = some (.slice e) := by
      unfold isSlice at hs
      cases ht : look t T with
      | none => rw [ht] at hs; simp at hs
      | some ti =>
        rw [ht] at hs
        have hu := (hT _ _ ht).und
        simp only at hs
        cases hd : ti.desc <;> rw [hd] at hs <;> simp only [sliceDesc, Bool.false_eq_true] at hs
        case slice e => exact ⟨e, by rw [hu, hd]⟩
    obtain ⟨e, hu⟩ := hsl
    have hev' : ∃ base cap, ev x = .slice base n cap ∧ base.isNone = b := by
      cases hv with
      | ntab g0 g1 g2 g3 g4 g5 g6 =>
        rename_i base cap cs' cf
        cases g6
        exact ⟨base, cap, by simpa [show (ntab b es n f).isAgg = false from rfl, eq_comm] using hv2, g0⟩
    obtain ⟨base, cap, hev, hb⟩ := hev'
    refine does_value (x := .bool z) (w' := w) ?_ (pure_opR h hD (hbool _))
    rcases h3 with ⟨rfl, rfl⟩ | ⟨rfl, rfl⟩
    · simp only [execOp, hev, hnil, eqGuard_at_slice, binOp]
      simp [run_equal_slice_nil w t e base n cap hu, hb]
    · simp only [execOp, hev, hnil, eqGuard_at_slice, binOp]
      simp [run_equal_slice_nil w t e base n cap hu, hb]
  | none =>
    rw [hn] at hr
    simp only at hr
    cases hstr : strOp T pre ρ o.op with
    | some r' =>
      rw [hstr] at hr
      simp only [Option.some.injEq] at hr
      subst hr
      exact strOp_ok hT h hpre hD hρ (o := o) hev hstr need
    | none =>
    rw [hstr] at hr
    simp only at hr
    split at hr
    · exact opAV0_ok hT hΓ h hpre hD hK hρ hr need
    · refine opAVs_ok hT hΓ h hpre hD hK (ρ := rhoN ρ) (fun x v hx => ?_) hr need
      unfold rhoN at hx
      cases hx' : ρ x with
      | none => rw [hx'] at hx; simp at hx
      | some u =>
        rw [hx'] at hx
        simp only [Option.some.injEq] at hx
        subst hx
        exact (hρ x u hx').deN
end ops
end Go.Am

/- One operation of a region, in a state. -/
namespace Go.Am
open AV
def SlRel (M : Nat → Prop) (w : World) (β : KMap) (sl : List (Nat × AV)) (tmps : Array Value) : Prop := ∀ t v, look t sl = some v → ∃ x, tmps[t]? = some x ∧ VRep M w β v x
def Rel (c : Ctx) (nt : Nat) (D : Nat → Prop) (sl : List (Nat × AV)) (st : Store) (a : Act) (w : World) : Prop :=
  a.defers = [] ∧ a.tmps.size = nt ∧ ∃ β, WRel c st D β w ∧ SlRel (Mset c st β) w β sl a.tmps
theorem look_putDst {dst : Option Tmp} {v : AV} {sl : List (Nat × AV)} {t : Nat} : look t (putDst dst v sl) = if dst = some t then some v else look t sl := by
  cases dst with
  | none => simp [putDst]
  | some d =>
    simp only [putDst, look_put, Option.some.injEq]
    by_cases h : t = d
    · simp [h]
    · have : ¬ d = t := fun e => h e.symm
      simp [h, this]
theorem look_pick {st : Store} {k : Nat} : ∀ {ks : List Nat}, look k (pick st ks) = if k ∈ ks then look k st else none
  | [] => by simp [pick, look]
  | j :: ks => by
    simp only [pick]
    cases hj : look j st with
    | none =>
      simp only [look_pick (ks := ks), List.mem_cons]
      by_cases h : k = j
      · subst h; simp [hj]
      · simp [h]
    | some o =>
      simp only [look_put, look_pick (ks := ks), List.mem_cons]
      by_cases h : k = j
      · subst h; simp [hj]
      · simp [h]
theorem pick_nodup {st : Store} : ∀ {ks : List Nat}, ((pick st ks).map (·.1)).Nodup
  | [] => by simp [pick]
  | j :: ks => by
    simp only [pick]
    cases hj : look j st with
    | none => exact pick_nodup
    | some o =>
      have := pick_nodup (st := st) (ks := ks)
      revert this
      generalize pick st ks = l
      intro hl
      induction l with
      | nil => simp [put]
      | cons p l ih =>
        obtain ⟨i, b⟩ := p
        simp only [List.map_cons, List.nodup_cons] at hl
        simp only [put]
        by_cases h : (i == j) = true
        · have : i = j := by simpa using h
          subst this
          simp only [BEq.rfl, if_true, List.map_cons, List.nodup_cons]
          exact hl
        · simp only [h, Bool.false_eq_true, if_false, List.map_cons, List.nodup_cons]
          refine ⟨fun hm => ?_, ih hl.2⟩
          have hmem : ∀ (l : Store), i ∈ (put j o l).map (·.1) → i = j ∨ i ∈ l.map (·.1) := by
            intro l
            induction l with
            | nil => simp [put]
            | cons q l ih2 =>
              obtain ⟨i2, b2⟩ := q
              simp only [put]
              by_cases h2 : (i2 == j) = true
              · simp only [h2, if_true, List.map_cons, List.mem_cons]
                rintro (h3 | h3)
                · exact .inl h3
                · exact .inr (.inr h3)
              · simp only [h2, Bool.false_eq_true, if_false, List.map_cons, List.mem_cons]
                rintro (h3 | h3)
                · exact .inr (.inl h3)
                · exact (ih2 h3).imp id .inr
          rcases hmem l hm with h3 | h3
          · exact h (by simpa using h3)
          · exact hl.1 h3
theorem allP_cons {p : Prop} {l : List Prop} : allP (p :: l) ↔ p ∧ allP l := by
  cases l <;> simp [allP]
theorem allP_append {a b : List Prop} : allP (a ++ b) ↔ allP a ∧ allP b := by
  induction a with
  | nil => simp [allP]
  | cons p a ih => rw [List.cons_append, allP_cons, allP_cons, ih, and_assoc]
theorem guess_eq {orc : List (Nat × Bool)} {i : Nat} {r : ORes} (h : allP (guess orc i r).needs) : allP r.needs ∧ (guess orc i r).val = r.val ∧ (guess orc i r).eff = r.eff := by
  unfold guess at h ⊢
  split
  · rename_i t ht
    rw [ht] at h
    simp only at h
    split
    · rename_i b hb
      rw [hb] at h
      simp only at h
      obtain ⟨h1, h2⟩ := allP_cons.1 h
      exact ⟨h2, by rw [hb, h1], rfl⟩
    · rename_i hb
      split at h
      · rename_i b hb2
        exact absurd hb2 (hb b)
      · exact ⟨h, rfl, rfl⟩
  · rename_i ht
    rw [ht] at h
    exact ⟨h, rfl, rfl⟩
section one
variable {c : Ctx} {st : Store} {D D' : Nat → Prop} {β : KMap} {w : World}
theorem freeze_list : ∀ {l : Store} {st : Store}, WRel c st D β w → (∀ k o, look k l = some o → look k st = some o) → (l.map (·.1)).Nodup →
    WRel c (applyEff (frozenEff l) st) D β w ∧ Evo (Mset c st β) w β (Mset c (applyEff (frozenEff l) st) β) w β ∧
      ∀ k o, look k (freezeAll l) = some o → look k (applyEff (frozenEff l) st) = some o
  | [], st, h, _, _ => ⟨h, Evo.refl _ _ _, fun k o hk => by simp [freezeAll, look] at hk⟩
  | (j, o) :: l, st, h, hl, hn => by
    simp only [List.map_cons, List.nodup_cons] at hn
    have hj : look j st = some o := hl j o (by simp [look])
    have hne : ∀ k o', look k l = some o' → k ≠ j := fun k o' hk e => by
      subst e
      apply hn.1
      have : ∀ l : Store, look k l = some o' → k ∈ l.map (·.1) := by
        intro l
        induction l with
        | nil => simp [look]
        | cons q l ih =>
          obtain ⟨i, b⟩ := q
          simp only [look]
          split
          · rename_i hh
            intro _
            have : i = k := by simpa using hh
            simp [this]
          · intro h2
            simp only [List.map_cons, List.mem_cons]
            exact .inr (ih h2)
      exact this l hk
    by_cases hc : (o.row && o.wr) = true
    · obtain ⟨q1, q2⟩ := h.freeze hj
      have hl' : ∀ k o', look k l = some o' → look k (put j { o with wr := false } st) = some o' := fun k o' hk => by
        rw [look_put_ne (hne k o' hk)]
        refine hl k o' ?_
        have : ¬ j = k := fun e => hne k o' hk e.symm
        simp [look, this, hk]
      obtain ⟨r1, r2, r3⟩ := freeze_list q1 hl' hn.2
      simp only [frozenEff, hc, if_true, applyEff]
      refine ⟨r1, q2.trans r2, fun k o' hk => ?_⟩
      simp only [freezeAll, List.map_cons, look] at hk
      split at hk
      · rename_i hjk
        have hjk' : j = k := by simpa using hjk
        subst hjk'
        simp only [Bool.and_eq_true] at hc
        rw [if_pos hc.1] at hk
        simp only [Option.some.injEq] at hk
        subst hk
        rw [look_applyEff]
        have : effAt (frozenEff l) j = none := by
          cases he : effAt (frozenEff l) j with
          | none => rfl
          | some r =>
            exfalso
            have hmem : ∀ l : Store, ∀ r, effAt (frozenEff l) j = some r → ∃ o', look j l = some o' := by
              intro l
              induction l with
              | nil => intro r h; simp [frozenEff, effAt] at h
              | cons q l ih =>
                obtain ⟨i, b⟩ := q
                intro r h
                by_cases hij : i = j
                · exact ⟨b, by simp [look, hij]⟩
                · simp only [frozenEff] at h
                  split at h
                  · simp only [effAt] at h
                    cases h3 : effAt (frozenEff l) j with
                    | some r' =>
                      obtain ⟨o', ho'⟩ := ih r' h3
                      exact ⟨o', by simp [look, hij, ho']⟩
                    | none => rw [h3] at h; simp [hij] at h
                  · obtain ⟨o', ho'⟩ := ih r h
                    exact ⟨o', by simp [look, hij, ho']⟩
            obtain ⟨o', ho'⟩ := hmem l r he
            exact hne j o' ho' rfl
        rw [this]
        simp only [look_put_same]
      · exact r3 k o' (by simpa [freezeAll] using hk)
    · have hl' : ∀ k o', look k l = some o' → look k st = some o' := fun k o' hk => by
        refine hl k o' ?_
        have : ¬ j = k := fun e => hne k o' hk e.symm
        simp [look, this, hk]
      obtain ⟨r1, r2, r3⟩ := freeze_list h hl' hn.2
      have hf : frozenEff ((j, o) :: l) = frozenEff l := by simp [frozenEff, hc]
      rw [hf]
      refine ⟨r1, r2, fun k o' hk => ?_⟩
      simp only [freezeAll, List.map_cons, look] at hk
      split at hk
      · rename_i hjk
        have hjk' : j = k := by simpa using hjk
        subst hjk'
        have ho : (if o.row = true then { o with wr := false } else o) = o := by
          split
          · rename_i hr
            simp only [hr, Bool.true_and, Bool.not_eq_true] at hc
            cases o; simp_all
          · rfl
        rw [ho] at hk
        simp only [Option.some.injEq] at hk
        subst hk
        rw [look_applyEff]
        have : effAt (frozenEff l) j = none := by
          cases he : effAt (frozenEff l) j with
          | none => rfl
          | some r =>
            exfalso
            have hmem : ∀ l : Store, ∀ r, effAt (frozenEff l) j = some r → ∃ o', look j l = some o' := by
              intro l
              induction l with
              | nil => intro r h; simp [frozenEff, effAt] at h
              | cons q l ih =>
                obtain ⟨i, b⟩ := q
                intro r h
                by_cases hij : i = j
                · exact ⟨b, by simp [look, hij]⟩
                · simp only [frozenEff] at h
                  split at h
                  · simp only [effAt] at h
                    cases h3 : effAt (frozenEff l) j with
                    | some r' =>
                      obtain ⟨o', ho'⟩ := ih r' h3
                      exact ⟨o', by simp [look, hij, ho']⟩
                    | none => rw [h3] at h; simp [hij] at h
                  · obtain ⟨o', ho'⟩ := ih r h
                    exact ⟨o', by simp [look, hij, ho']⟩
            obtain ⟨o', ho'⟩ := hmem l r he
            exact hne j o' ho' rfl
        rw [this]
        exact hj
      · exact r3 k o' (by simpa [freezeAll] using hk)
theorem applyEff_append : ∀ (e f : List (Nat × Option AObj)) (st : Store), applyEff (e ++ f) st = applyEff f (applyEff e st)
  | [], f, st => rfl
  | (k, some o) :: e, f, st => by simp only [List.cons_append, applyEff, applyEff_append e]
  | (k, none) :: e, f, st => by simp only [List.cons_append, applyEff, applyEff_append e]
theorem ofConst_ok {M : Nat → Prop} {x : Value} {v : AV} (h : ofConst x = some v) : VRep M w β v x := by
  unfold ofConst at h
  split at h
  · simp only [Option.some.injEq] at h; subst h; exact VRep1.vrep (.of_cell (.bool .nil) rfl)
  · simp only [Option.some.injEq] at h; subst h; exact VRep1.vrep (.of_cell (.int .nil) rfl)
  · simp only [Option.some.injEq] at h; subst h; exact VRep1.vrep (.of_cell (.vnil .nil) rfl)
  · simp only [Option.some.injEq] at h; subst h; exact VRep1.vrep (.of_cell (.void rfl .nil) rfl)
  · simp only [Option.some.injEq] at h; subst h; exact VRep1.vrep (.of_cell (.str .nil) rfl)
  · simp at h
theorem rho_ok {M : Nat → Prop} {s : AState} {a : Act} (h : SlRel M w β s.slots a.tmps) : ∀ x v, s.rho x = some v → VRep M w β v (a.eval x) := by
  intro x v hx
  cases x with
  | tmp t =>
    obtain ⟨y, hy, hv⟩ := h t v hx
    simp only [Act.eval, Array.getD_eq_getD_getElem?, hy, Option.getD_some]
    exact hv
  | const y => exact ofConst_ok hx
  | global g => simp [AState.rho] at hx
  | func f =>
    simp only [AState.rho, Option.some.injEq] at hx
    subst hx
    exact VRep1.vrep (.of_cell (.func (vs := []) .nil rfl .nil) rfl)
theorem wanted_ok {M : Nat → Prop} {ops : Array Oper} {sl : List (Nat × AV)} {a : Act} (h : SlRel M w β sl a.tmps) {o : Oper} {b : Bool} (hw : wantedAV ops.toList sl o = some b) :
    Region.wanted o (yielded ops a.tmps) = b := by
  unfold wantedAV at hw
  unfold Region.wanted
  cases hg : o.guard with
  | none => rw [hg] at hw; simp only [Option.some.injEq] at hw; simp [hw]
  | some gw =>
    obtain ⟨g, want⟩ := gw
    rw [hg] at hw
    simp only at hw ⊢
    cases hp : ops.toList[g]? with
    | none => rw [hp] at hw; simp at hw
    | some p =>
      rw [hp] at hw
      simp only at hw
      cases hd : p.dst with
      | none => rw [hd] at hw; simp at hw
      | some d =>
        rw [hd] at hw
        simp only at hw
        cases hl : look d sl with
        | none => rw [hl] at hw; simp at hw
        | some v =>
          rw [hl] at hw
          cases v <;> try simp only [reduceCtorEq] at hw
          case tuple l =>
            cases l with
            | cons _ _ => simp at hw
            | nil =>
              simp only [Option.some.injEq] at hw
              subst hw
              obtain ⟨x, hx, hv⟩ := h d _ hl
              obtain ⟨xs, h1, h2⟩ := hv
              subst h1
              have hy : yielded ops a.tmps g = none := by
                have hp' : ops[g]? = some p := by simpa using hp
                simp [yielded, hp', hd, hx]
              rw [hy]
              simp
          case bool t =>
            obtain ⟨x, hx, hv⟩ := h d _ hl
            have := hv.bool
            subst this
            have hy : yielded ops a.tmps g = some t := by
              have hp' : ops[g]? = some p := by simpa using hp
              simp [yielded, hp', hd, hx]
            rw [hy]
            cases t <;> cases want <;> simp_all
variable {P : Program} {T : Types} (hT : TOK P T) {Γ : Contracts} (hΓ : GOK P Γ) {orc : List (Nat × Bool)}
include hT hΓ in
theorem rec_step {ops : Array Oper} {nt N0 i : Nat} {sl : List (Nat × AV)} {a : Act} (hrel : Rel c nt D sl st a w) {o : Oper} {r : Rec} (hr : recAV T Γ orc ops.toList ⟨sl, st, N0⟩ i o = some r) (need : r.res.need)
    (hdst : ∀ d, o.dst = some d → d < nt) (hD : ∀ k, D k → D' k) (hK : ∀ k, N0 + stride * i ≤ k → k < N0 + stride * i + stride → ¬ D k ∧ D' k) {K : Act → World → Prop} {Q : Exit → Act → World → Prop}
    (hn : ∀ a' w', Rel c nt D' (putDst o.dst r.res.val sl) (applyEff r.res.eff st) a' w' → K a' w') :
    if Region.wanted o (yielded ops a.tmps) then o.wp P a w K Q else K (a.put o.dst undef) w := by
  obtain ⟨hdef, hsz, β, hw, hs⟩ := hrel
  have hfin : ∀ {eff : List (Nat × Option AObj)} {v : AV} {x : Value} {w' : World}, OpR c st D' β w eff v x w' → Rel c nt D' (putDst o.dst v sl) (applyEff eff st) (a.put o.dst x) w' := by
    rintro eff v x w' ⟨β', q1, q2, q3⟩
    refine ⟨?_, ?_, β', q1, fun t u ht => ?_⟩
    · cases o.dst <;> simpa [Act.put] using hdef
    · cases o.dst <;> simpa [Act.put] using hsz
    · rw [look_putDst] at ht
      split at ht
      · rename_i hd
        simp only [Option.some.injEq] at ht
        subst ht
        have := hdst t hd
        refine ⟨x, ?_, q3⟩
        simp only [hd, Act.put]
        exact Array.getElem?_setIfInBounds_self_of_lt (by rw [hsz]; exact this)
      · rename_i hd
        obtain ⟨y, hy, hv⟩ := hs t u ht
        refine ⟨y, ?_, hv.evo q2⟩
        cases hdd : o.dst with
        | none => simpa [Act.put] using hy
        | some d =>
          have hne : d ≠ t := fun e => hd (by rw [hdd, e])
          simp only [Act.put]
          rw [Array.getElem?_setIfInBounds_ne hne]; exact hy
  unfold recAV at hr
  simp only [force_eq] at hr
  cases hwa : wantedAV ops.toList sl o with
  | none => rw [hwa] at hr; simp at hr
  | some b =>
    rw [hwa] at hr
    rw [wanted_ok hs hwa]
    cases b with
    | false =>
      simp only [Option.some.injEq] at hr
      subst hr
      simp only [Bool.false_eq_true, if_false]
      exact hn _ _ (hfin (pure_opR hw hD ⟨[], by simp [undef], trivial⟩))
    | true =>
      simp only [if_true]
      simp only at hr
      have hρ := rho_ok (s := ⟨sl, st, N0⟩) hs
      cases hop : opAV T Γ (N0 + stride * i) (AState.rho ⟨sl, st, N0⟩) (pick st (asksOf (AState.rho ⟨sl, st, N0⟩) o.op)) o.op with
      | some q =>
        rw [hop] at hr
        simp only [Option.some.injEq] at hr
        subst hr
        obtain ⟨need, e1, e2⟩ := guess_eq need
        simp only [e1, e2] at hn
        refine (opAV_ok hT hΓ hw (fun k o hk => ?_) hD hK hρ (fun _ => rfl) hop need).wp fun x w' hx => hn _ _ (hfin hx)
        rw [look_pick] at hk
        split at hk
        · exact hk
        · simp at hk
      | none =>
        rw [hop] at hr
        simp only at hr
        cases hfe : frozenEff (pick st (asksOf (AState.rho ⟨sl, st, N0⟩) o.op)) with
        | nil => rw [hfe] at hr; simp at hr
        | cons e1 e2 =>
          rw [hfe] at hr
          simp only at hr
          cases hop2 : opAV T Γ (N0 + stride * i) (AState.rho ⟨sl, st, N0⟩) (freezeAll (pick st (asksOf (AState.rho ⟨sl, st, N0⟩) o.op))) o.op with
          | none => rw [hop2] at hr; simp at hr
          | some q =>
            rw [hop2] at hr
            simp only [Option.some.injEq] at hr
            subst hr
            obtain ⟨need, e1', _⟩ := guess_eq need
            simp only [e1'] at hn
            obtain ⟨f1, f2, f3⟩ := freeze_list (l := pick st (asksOf (AState.rho ⟨sl, st, N0⟩) o.op)) hw (fun k o hk => by
              rw [look_pick] at hk
              split at hk
              · exact hk
              · simp at hk) pick_nodup
            refine (opAV_ok hT hΓ f1 f3 hD hK (fun x v hx => (hρ x v hx).evo f2) (fun _ => rfl) hop2 need).wp fun x w' hx => hn _ _ (hfin ?_)
            obtain ⟨β', q1, q2, q3⟩ := hx
            rw [← hfe]
            refine ⟨β', ?_, ?_, ?_⟩
            · rw [applyEff_append]; exact q1
            · rw [applyEff_append]; exact f2.trans q2
            · rw [applyEff_append]; exact q3
end one
end Go.Am

/- Regions, in whatever order their edges allow. -/
namespace Go.Am
open AV
section locality
variable {T : Types} {Γ : Contracts} {orc : List (Nat × Bool)}
theorem operandsAV_congr {ρ ρ' : Operand → Option AV} : ∀ {l : List Operand}, (∀ x ∈ l, ρ x = ρ' x) → operandsAV ρ l = operandsAV ρ' l
  | [], _ => rfl
  | x :: l, h => by
    have e : operandsAV ρ l = operandsAV ρ' l := operandsAV_congr fun y hy => h y (List.mem_cons_of_mem _ hy)
    simp only [operandsAV, h x (by simp), e]
theorem partsAV_congr {ρ ρ' : Operand → Option AV} : ∀ {l : List (Nat × Operand)}, (∀ x ∈ l, ρ x.2 = ρ' x.2) → partsAV ρ l = partsAV ρ' l
  | [], _ => rfl
  | (i, x) :: l, h => by
    have e : partsAV ρ l = partsAV ρ' l := partsAV_congr fun y hy => h y (List.mem_cons_of_mem _ hy)
    simp only [partsAV, h (i, x) (by simp), e]
theorem operKeys_congr {ρ ρ' : Operand → Option AV} : ∀ {l : List Operand}, (∀ x ∈ l, ρ x = ρ' x) → operKeys ρ l = operKeys ρ' l
  | [], _ => rfl
  | x :: l, h => by
    have e : operKeys ρ l = operKeys ρ' l := operKeys_congr fun y hy => h y (List.mem_cons_of_mem _ hy)
    simp only [operKeys, h x (by simp), e]
theorem asksOf_congr {ρ ρ' : Operand → Option AV} {op : Op} (h : ∀ x ∈ op.operands.toList, ρ x = ρ' x) : asksOf ρ op = asksOf ρ' op := by
  have e := operKeys_congr h
  unfold asksOf
  split
  · rfl
  · cases op <;> simp only [addrBase] <;> try exact e
    case fieldAddr t x i hmv =>
      rw [h x (by simp [Op.operands])]
      split
      · rfl
      · exact e
    case indexAddr t x i hmv =>
      rw [h x (by simp [Op.operands])]
      split
      · rfl
      · exact e
theorem opAV0_congr {K : Nat} {ρ ρ' : Operand → Option AV} {st : Store} {op : Op} (h : ∀ x ∈ op.operands.toList, ρ x = ρ' x) : opAV0 T Γ K ρ st op = opAV0 T Γ K ρ' st op := by
  cases op <;> simp only [Op.operands] at h <;> simp only [opAV0]
  case move x => rw [h x (by simp)]
  case assign x => rw [h x (by simp)]
  case pick a b c => rw [h a (by simp), h b (by simp), h c (by simp)]
  case box t x => rw [h x (by simp)]
  case build t ps => rw [partsAV_congr fun p hp => h p.2 (by simp; exact ⟨p.1, by simpa using hp⟩)]
  case buildSlice t n ps => rw [partsAV_congr fun p hp => h p.2 (by simp; exact ⟨p.1, by simpa using hp⟩)]
  case load t a => rw [h a (by simp)]
  case store t a x => rw [h a (by simp), h x (by simp)]
  case nilCheck x => rw [h x (by simp)]
  case binOp o t x y u => rw [h x (by simp), h y (by simp)]
  case unOp o t x => rw [h x (by simp)]
  case convert a b x => rw [h x (by simp)]
  case sliceToArrayPointer t x => rw [h x (by simp)]
  case makeFunc f a b =>
    have e : operandsAV ρ b.toList = operandsAV ρ' b.toList := operandsAV_congr fun x hx => h x (by simp at hx ⊢; exact .inr hx)
    cases f <;> simp only [e]
  case makeSlice t a b => rw [h a (by simp), h b (by simp)]
  case slice t x lo hi mx =>
    have e1 : ∀ d, optInt ρ d lo = optInt ρ' d lo := fun d => by
      cases lo with
      | none => rfl
      | some y => simp only [optInt, h y (by simp)]
    have e2 : ∀ d, optInt ρ d hi = optInt ρ' d hi := fun d => by
      cases hi with
      | none => rfl
      | some y => simp only [optInt, h y (by simp)]
    have e3 : ∀ d, optInt ρ d mx = optInt ρ' d mx := fun d => by
      cases mx with
      | none => rfl
      | some y => simp only [optInt, h y (by simp)]
    simp only [h x (by simp), e1, e2, e3]
  case fieldAddr t x i => rw [h x (by simp)]
  case field t x i => rw [h x (by simp)]
  case indexAddr t x i => rw [h x (by simp), h i (by simp)]
  case index t x i => rw [h x (by simp), h i (by simp)]
  case extract x i => rw [h x (by simp)]
  case call c =>
    have ha : ∀ x ∈ c.args.toList, ρ x = ρ' x := fun x hx => h x (by simp [Call.operands]; right; simpa using hx)
    obtain ⟨callee, args, argTypes⟩ := c
    cases callee with
    | value f => simp only [callAV, operandsAV_congr ha, h f (by simp [Call.operands])]
    | invoke r m => simp [callAV]
    | builtin b => cases b <;> simp only [callAV, operandsAV_congr ha]
theorem optInt_congr {ρ ρ' : Operand → Option AV} {d : Int} {x : Option Operand} (h : ∀ y, x = some y → ρ y = ρ' y) : optInt ρ d x = optInt ρ' d x := by
  cases x with
  | none => rfl
  | some y => simp only [optInt, h y rfl]
theorem chkOp_congr {ρ ρ' : Operand → Option AV} {st : Store} {op : Op} (h : ∀ x ∈ op.operands.toList, ρ x = ρ' x) : chkOp T ρ st op = chkOp T ρ' st op := by
  cases op <;> simp only [chkOp]
  case load t a => rw [h a (by simp [Op.operands])]
  case store t a x => rw [h a (by simp [Op.operands])]
  case indexAddr t x ix => rw [h x (by simp [Op.operands]), h ix (by simp [Op.operands])]
  case index t x ix => rw [h ix (by simp [Op.operands])]
  case slice t x lo hi mx =>
    rw [h x (by simp [Op.operands])]
    have e1 : ∀ d, optInt ρ d lo = optInt ρ' d lo := fun d => optInt_congr fun y hy => h y (by simp [Op.operands, hy])
    have e2 : ∀ d, optInt ρ d hi = optInt ρ' d hi := fun d => optInt_congr fun y hy => h y (by simp [Op.operands, hy])
    have e3 : ∀ d, optInt ρ d mx = optInt ρ' d mx := fun d => optInt_congr fun y hy => h y (by simp [Op.operands, hy])
    simp only [e1, e2, e3]
theorem plainOp_congr {ρ ρ' : Operand → Option AV} {op : Op} (h : ∀ x ∈ op.operands.toList, ρ x = ρ' x) : plainOp T ρ op = plainOp T ρ' op := by
  cases op <;> simp only [plainOp]
  case binOp o t x y u => rw [h x (by simp [Op.operands]), h y (by simp [Op.operands])]
  case convert s d x => rw [h x (by simp [Op.operands])]
theorem opAV_congr {K : Nat} {ρ ρ' : Operand → Option AV} {st : Store} {op : Op} (h : ∀ x ∈ op.operands.toList, ρ x = ρ' x) : opAV T Γ K ρ st op = opAV T Γ K ρ' st op := by
  have h1 : nilOp T ρ op = nilOp T ρ' op := by
    cases op <;> simp only [nilOp]
    case binOp o t x y u => rw [h x (by simp [Op.operands]), h y (by simp [Op.operands])]
  have h2 : opAVs T Γ K (rhoN ρ) st op = opAVs T Γ K (rhoN ρ') st op := by
    have e : ∀ x ∈ op.operands.toList, rhoN ρ x = rhoN ρ' x := fun x hx => by simp only [rhoN, h x hx]
    simp only [opAVs, opAV0_congr e, chkOp_congr e, plainOp_congr e]
  have h3 : strOp T st ρ op = strOp T st ρ' op := by
    cases op <;> simp only [strOp]
    case binOp o t x y u => rw [h x (by simp [Op.operands]), h y (by simp [Op.operands])]
    case convert s d x => rw [h x (by simp [Op.operands])]
    case index t x ix =>
      have e := h ix (by simp [Op.operands])
      cases x <;> (try rfl)
      case const v => cases v <;> (try rfl); simp only [e]
  unfold opAV
  rw [h1, h2, h3, opAV0_congr h]
theorem pick_congr {st st' : Store} : ∀ {ks : List Nat}, (∀ k ∈ ks, look k st = look k st') → pick st ks = pick st' ks
  | [], _ => rfl
  | k :: ks, h => by
    have e : pick st ks = pick st' ks := pick_congr fun j hj => h j (List.mem_cons_of_mem _ hj)
    simp only [pick, h k (by simp), e]
theorem recAV_local {opsL : List Oper} {s s' : AState} {i : Nat} {o : Oper} {r : Rec} (h : recAV T Γ orc opsL s i o = some r) (hsl : ∀ t ∈ readsOf opsL o, look t s.slots = look t s'.slots)
    (hk : ∀ k ∈ r.asks, look k s.store = look k s'.store) (hn : s.next = s'.next) : recAV T Γ orc opsL s' i o = some r := by
  have hw : wantedAV opsL s.slots o = wantedAV opsL s'.slots o := by
    unfold wantedAV
    cases hg : o.guard with
    | none => rfl
    | some gw =>
      obtain ⟨g, want⟩ := gw
      simp only
      cases hp : opsL[g]? with
      | none => rfl
      | some p =>
        simp only
        cases hd : p.dst with
        | none => rfl
        | some d =>
          simp only
          rw [hsl d (by simp [readsOf, hg, hp, hd])]
  have hρ : ∀ x ∈ o.op.operands.toList, s.rho x = s'.rho x := fun x hx => by
    cases x with
    | tmp t => exact hsl t (by
        simp only [readsOf, List.mem_append, List.mem_filterMap]
        exact .inl ⟨_, hx, rfl⟩)
    | _ => rfl
  unfold recAV at h ⊢
  simp only [force_eq] at h ⊢
  rw [← hw]
  cases hb : wantedAV opsL s.slots o with
  | none => rw [hb] at h; simp at h
  | some b =>
    rw [hb] at h
    cases b with
    | false => exact h
    | true =>
      simp only at h ⊢
      rw [← asksOf_congr hρ, ← hn]
      have hasks : r.asks = asksOf s.rho o.op := by
        split at h
        · simp only [Option.some.injEq] at h; subst h; rfl
        · split at h
          · simp at h
          · split at h
            · simp only [Option.some.injEq] at h; subst h; rfl
            · simp at h
      rw [hasks] at hk
      rw [← pick_congr hk, ← opAV_congr hρ]
      have : ∀ st', opAV T Γ (s.next + stride * i) s'.rho st' o.op = opAV T Γ (s.next + stride * i) s.rho st' o.op := fun st' => (opAV_congr hρ).symm
      simp only [this]
      exact h
end locality
def lastW {α : Type} (W : Nat → Option α) (S : Nat → Bool) : Nat → Option α
  | 0 => none
  | n + 1 => if S n then (match W n with
    | some v => some v
    | none => lastW W S n) else lastW W S n
theorem lastW_congr {α : Type} {W : Nat → Option α} {S S' : Nat → Bool} : ∀ {n : Nat}, (∀ j, j < n → W j ≠ none → S j = S' j) → lastW W S n = lastW W S' n
  | 0, _ => rfl
  | n + 1, h => by
    have ih := lastW_congr (W := W) (S := S) (S' := S') (n := n) fun j hj => h j (by omega)
    simp only [lastW]
    cases hW : W n with
    | none => cases S n <;> cases S' n <;> simp [ih]
    | some v => rw [h n (by omega) (by simp [hW]), ih]
theorem lastW_add {α : Type} {W : Nat → Option α} {S : Nat → Bool} {i : Nat} (hi : S i = false) : ∀ {n : Nat}, i < n → (∀ j, i < j → j < n → S j = true → W j = none) →
    lastW W (fun j => S j || j == i) n = match W i with
      | some v => some v
      | none => lastW W S n
  | 0, h, _ => by omega
  | n + 1, h, hl => by
    simp only [lastW]
    by_cases hn : n = i
    · subst hn
      have : lastW W (fun j => S j || j == n) n = lastW W S n := lastW_congr fun j hj _ => by
        have : (j == n) = false := by simp; omega
        simp [this]
      simp [hi, this]
    · have ih := lastW_add (W := W) hi (n := n) (by omega) fun j h1 h2 => hl j h1 (by omega)
      have hni : (n == i) = false := by simpa using hn
      simp only [hni, Bool.or_false]
      cases hS : S n with
      | false => simpa [hS] using ih
      | true =>
        have := hl n (by omega) (by omega) hS
        simp [this, ih]
def lacks (S : Nat → Bool) : Nat → Nat
  | 0 => 0
  | n + 1 => lacks S n + if S n then 0 else 1
theorem lacks_zero {S : Nat → Bool} : ∀ {n : Nat}, lacks S n = 0 → ∀ i, i < n → S i = true
  | 0, _, i, h => by omega
  | n + 1, h, i, hi => by
    simp only [lacks] at h
    by_cases hn : i = n
    · subst hn
      cases hs : S i with
      | true => rfl
      | false => rw [hs] at h; simp at h
    · exact lacks_zero (n := n) (by omega) i (by omega)
theorem lacks_add {S : Nat → Bool} {i : Nat} (hi : S i = false) : ∀ {n : Nat}, i < n → lacks (fun j => S j || j == i) n + 1 = lacks S n
  | 0, h => by omega
  | n + 1, h => by
    simp only [lacks]
    by_cases hn : n = i
    · subst hn
      have : lacks (fun j => S j || j == n) n = lacks S n := by
        have : ∀ m, m ≤ n → lacks (fun j => S j || j == n) m = lacks S m := by
          intro m
          induction m with
          | zero => intro _; rfl
          | succ m ih =>
            intro hm
            have h1 : (m == n) = false := by simp; omega
            simp only [lacks, h1, Bool.or_false, ih (by omega)]
        exact this n (Nat.le_refl _)
      simp [hi, this]
    · have ih := lacks_add (S := S) hi (n := n) (by omega)
      have hni : (n == i) = false := by simpa using hn
      simp only [hni, Bool.or_false]
      omega
theorem lacks_all {n : Nat} : lacks (fun _ => false) n = n := by
  induction n with
  | zero => rfl
  | succ n ih => simp [lacks, ih]
theorem meet_mem {a b : List Nat} {x : Nat} (ha : x ∈ a) (hb : x ∈ b) : meet a b = true := by
  simp only [meet, List.any_eq_true]
  exact ⟨x, ha, x, hb, by simp⟩
def Down (opsL : List Oper) (S : Nat → Bool) : Prop := ∀ (i : Nat) (o : Oper), opsL[i]? = some o → S i = true → ∀ e ∈ o.after.toList, Region.binds .any e = true → S e.on = true
theorem fold_bits {acc : List Nat} {j : Nat} : ∀ (es : List Edge) (m : Nat), (es.foldl (fun m e => if Region.binds .any e then m ||| (1 <<< e.on) ||| acc.getD e.on 0 else m) m).testBit j = true →
    m.testBit j = true ∨ ∃ e ∈ es, Region.binds .any e = true ∧ (j = e.on ∨ (acc.getD e.on 0).testBit j = true)
  | [], m, h => .inl h
  | e :: es, m, h => by
    simp only [List.foldl_cons] at h
    rcases fold_bits es _ h with h1 | ⟨e', h1, h2, h3⟩
    · split at h1
      · rename_i hb
        simp only [Nat.testBit_or, Bool.or_eq_true] at h1
        rcases h1 with (h1 | h1) | h1
        · exact .inl h1
        · refine .inr ⟨e, by simp, hb, .inl ?_⟩
          simp only [Nat.one_shiftLeft, Nat.testBit_two_pow, decide_eq_true_eq] at h1
          exact h1.symm
        · exact .inr ⟨e, by simp, hb, .inr h1⟩
      · exact .inl h1
    · exact .inr ⟨e', by simp [h1], h2, h3⟩
theorem ancs_ok {opsL : List Oper} {S : Nat → Bool} (hd : Down opsL S) : ∀ (l done : List Oper) (acc : List Nat), opsL = done ++ l → acc.length = done.length →
    (∀ (i m : Nat) (o : Oper), acc[i]? = some m → opsL[i]? = some o → (∀ e ∈ o.after.toList, Region.binds .any e = true → S e.on = true) → ∀ j, m.testBit j = true → S j = true) →
    (ancs l acc).length = opsL.length ∧ ∀ (i m : Nat) (o : Oper), (ancs l acc)[i]? = some m → opsL[i]? = some o → (∀ e ∈ o.after.toList, Region.binds .any e = true → S e.on = true) → ∀ j, m.testBit j = true → S j = true
  | [], done, acc, he, hl, h => by simp only [ancs]; exact ⟨by rw [hl, he]; simp, h⟩
  | o :: l, done, acc, he, hl, h => by
    simp only [ancs]
    refine ancs_ok hd l (done ++ [o]) _ (by simp [he]) (by simp [hl]) fun i m p hi hp hedge j hj => ?_
    by_cases hlt : i < acc.length
    · rw [List.getElem?_append_left hlt] at hi
      exact h i m p hi hp hedge j hj
    · have hil : i < (acc ++ [o.after.toList.foldl (fun m e => if Region.binds .any e then m ||| (1 <<< e.on) ||| acc.getD e.on 0 else m) 0]).length := (List.getElem?_eq_some_iff.1 hi).1
      simp only [List.length_append, List.length_cons, List.length_nil] at hil
      have hi' : i = acc.length := by omega
      subst hi'
      simp only [List.getElem?_concat_length, Option.some.injEq] at hi
      subst hi
      have hpo : p = o := by
        rw [he, hl] at hp
        simpa using hp.symm
      subst hpo
      rcases fold_bits _ _ hj with h1 | ⟨e, h1, h2, h3⟩
      · simp at h1
      · rcases h3 with rfl | h3
        · exact hedge e h1 h2
        · rw [List.getD_eq_getElem?_getD] at h3
          cases hm : acc[e.on]? with
          | none => rw [hm] at h3; simp at h3
          | some m' =>
            rw [hm] at h3
            have hlt2 := (List.getElem?_eq_some_iff.1 hm).1
            have ho : ∃ p', opsL[e.on]? = some p' := by
              rw [he]
              exact ⟨_, List.getElem?_eq_getElem (by simp; omega)⟩
            obtain ⟨p', hp'⟩ := ho
            exact h e.on m' p' hm hp' (hd e.on p' hp' (hedge e h1 h2)) j h3
theorem zip3_get {ops : List Oper} : ∀ {l : List Oper} {rs : List Rec} {as' : List Nat} {i : Nat} {o : Oper} {r : Rec} {a : Nat}, l[i]? = some o → rs[i]? = some r → as'[i]? = some a →
    (zip3 l rs as' ops)[i]? = some (touchOf ops o r, a)
  | o' :: l, r' :: rs, a' :: as', 0, o, r, a, h1, h2, h3 => by simp at h1 h2 h3; subst h1; subst h2; subst h3; simp [zip3]
  | o' :: l, r' :: rs, a' :: as', i + 1, o, r, a, h1, h2, h3 => by
    simp only [zip3, List.getElem?_cons_succ]
    exact zip3_get (by simpa using h1) (by simpa using h2) (by simpa using h3)
  | [], _, _, i, o, r, a, h1, _, _ => by simp at h1
  | _ :: _, [], _, i, o, r, a, _, h2, _ => by simp at h2
  | _ :: _, _ :: _, [], i, o, r, a, _, _, h3 => by simp at h3
theorem okFrom_get {i : Nat} {t : Touch} : ∀ {l : List (Touch × Nat)} {j : Nat} {u : Touch} {a : Nat}, okFrom i t l = true → l[j]? = some (u, a) → t.clash u = true → a.testBit i = true
  | [], j, u, a, _, h, _ => by simp at h
  | (u', a') :: l, 0, u, a, h, hj, hc => by
    simp at hj
    obtain ⟨rfl, rfl⟩ := hj
    simp only [okFrom, Bool.and_eq_true, Bool.or_eq_true, Bool.not_eq_true'] at h
    rcases h.1 with h1 | h1
    · rw [hc] at h1; simp at h1
    · exact h1
  | (u', a') :: l, j + 1, u, a, h, hj, hc => by
    simp only [okFrom, Bool.and_eq_true] at h
    exact okFrom_get h.2 (by simpa using hj) hc
theorem okAll_get : ∀ {l : List (Touch × Nat)} {b i j : Nat} {t u : Touch} {a a' : Nat}, okAll l b = true → l[i]? = some (t, a) → l[j]? = some (u, a') → i < j → t.clash u = true → a'.testBit (b + i) = true
  | [], b, i, j, t, u, a, a', _, h, _, _, _ => by simp at h
  | (t', x) :: l, b, 0, j, t, u, a, a', h, hi, hj, hij, hc => by
    simp at hi
    obtain ⟨rfl, rfl⟩ := hi
    simp only [okAll, Bool.and_eq_true] at h
    cases j with
    | zero => omega
    | succ j => simpa using okFrom_get h.1 (by simpa using hj) hc
  | (t', x) :: l, b, i + 1, j, t, u, a, a', h, hi, hj, hij, hc => by
    simp only [okAll, Bool.and_eq_true] at h
    cases j with
    | zero => omega
    | succ j =>
      have := okAll_get h.2 (by simpa using hi) (by simpa using hj) (by omega) hc
      have e : b + 1 + i = b + (i + 1) := by omega
      rwa [e] at this
theorem okEdges_get : ∀ {l : List Oper} {b i : Nat} {o : Oper}, okEdges l b = true → l[i]? = some o → ∀ e ∈ o.after.toList, Region.binds .any e = true → e.on < b + i
  | [], b, i, o, _, h, _, _, _ => by simp at h
  | o' :: l, b, 0, o, h, hi, e, he, hb => by
    simp at hi
    subst hi
    simp only [okEdges, Bool.and_eq_true, List.all_eq_true, Bool.or_eq_true, Bool.not_eq_true', decide_eq_true_eq] at h
    rcases h.1 e he with h1 | h1
    · rw [hb] at h1; simp at h1
    · simpa using h1
  | o' :: l, b, i + 1, o, h, hi, e, he, hb => by
    simp only [okEdges, Bool.and_eq_true] at h
    have := okEdges_get h.2 (by simpa using hi) e he hb
    omega
end Go.Am

/- Regions. -/
namespace Go.Am
open AV
theorem lastW_shift {α : Type} {W : Nat → Option α} : ∀ {n : Nat}, lastW W (fun _ => true) (n + 1) = match lastW (fun q => W (q + 1)) (fun _ => true) n with
    | some v => some v
    | none => W 0
  | 0 => by simp only [lastW, if_true]; cases W 0 <;> rfl
  | n + 1 => by
    have ih := lastW_shift (W := W) (n := n)
    rw [lastW, if_pos rfl, ih]
    simp only [lastW, if_true]
    cases W (n + 1) <;> rfl
def wSlot (l : List Oper) (rs : List Rec) (t : Nat) (q : Nat) : Option AV :=
  match l[q]?, rs[q]? with
  | some o, some r => if o.dst = some t then some r.res.val else none
  | _, _ => none
def wKey (l : List Oper) (rs : List Rec) (k : Nat) (q : Nat) : Option (Option AObj) :=
  match l[q]?, rs[q]? with
  | some _, some r => effAt r.res.eff k
  | _, _ => none
def orElse {α : Type} (a : Option α) (b : Option α) : Option α := match a with
  | some v => some v
  | none => b
def orKey (a : Option (Option AObj)) (b : Option AObj) : Option AObj := match a with
  | some r => r
  | none => b
section trace
variable {T : Types} {Γ : Contracts} {orc : List (Nat × Bool)}
theorem runOps_trace {opsL : List Oper} : ∀ (l : List Oper) (i : Nat) (s s' : AState) (need : List Prop) (rs : List Rec), runOps T Γ orc opsL l i s = some (s', need, rs) →
    rs.length = l.length ∧ (allP need → ∀ r ∈ rs, r.res.need) ∧ s'.next = s.next ∧
    (∀ t, look t s'.slots = orElse (lastW (wSlot l rs t) (fun _ => true) l.length) (look t s.slots)) ∧ (∀ k, look k s'.store = orKey (lastW (wKey l rs k) (fun _ => true) l.length) (look k s.store)) ∧
    ∀ (p : Nat) (o : Oper) (r : Rec), l[p]? = some o → rs[p]? = some r → ∃ sp : AState, recAV T Γ orc opsL sp (i + p) o = some r ∧ sp.next = s.next ∧
      (∀ t, look t sp.slots = orElse (lastW (wSlot l rs t) (fun _ => true) p) (look t s.slots)) ∧ (∀ k, look k sp.store = orKey (lastW (wKey l rs k) (fun _ => true) p) (look k s.store))
  | [], i, s, s', need, rs, h => by
    simp only [runOps, Option.some.injEq, Prod.mk.injEq] at h
    obtain ⟨rfl, rfl, rfl⟩ := h
    exact ⟨rfl, fun _ r hr => by simp at hr, rfl, fun t => rfl, fun k => rfl, fun p o r hp => by simp at hp⟩
  | o :: l, i, s, s', need, rs, h => by
    simp only [runOps] at h
    cases hr : recAV T Γ orc opsL s i o with
    | none => rw [hr] at h; simp at h
    | some r =>
      rw [hr] at h
      simp only at h
      cases ht : runOps T Γ orc opsL l (i + 1) (stepAV s o r.res) with
      | none => rw [ht] at h; simp at h
      | some q =>
        obtain ⟨s1, n1, rs1⟩ := q
        rw [ht] at h
        simp only [Option.some.injEq, Prod.mk.injEq] at h
        obtain ⟨rfl, rfl, rfl⟩ := h
        obtain ⟨h1, h2, h3, h4, h5, h6⟩ := runOps_trace l (i + 1) (stepAV s o r.res) s1 n1 rs1 ht
        have eS : ∀ t, (fun q => wSlot (o :: l) (r :: rs1) t (q + 1)) = wSlot l rs1 t := fun t => by funext q; simp [wSlot]
        have eK : ∀ k, (fun q => wKey (o :: l) (r :: rs1) k (q + 1)) = wKey l rs1 k := fun k => by funext q; simp [wKey]
        have gS : ∀ t n, orElse (lastW (wSlot l rs1 t) (fun _ => true) n) (look t (stepAV s o r.res).slots) = orElse (lastW (wSlot (o :: l) (r :: rs1) t) (fun _ => true) (n + 1)) (look t s.slots) := fun t n => by
          rw [lastW_shift, eS]
          cases lastW (wSlot l rs1 t) (fun _ => true) n with
          | some v => rfl
          | none =>
            simp only [orElse, stepAV, look_putDst, wSlot, List.getElem?_cons_zero]
            split <;> rfl
        have gK : ∀ k n, orKey (lastW (wKey l rs1 k) (fun _ => true) n) (look k (stepAV s o r.res).store) = orKey (lastW (wKey (o :: l) (r :: rs1) k) (fun _ => true) (n + 1)) (look k s.store) := fun k n => by
          rw [lastW_shift, eK]
          cases lastW (wKey l rs1 k) (fun _ => true) n with
          | some v => rfl
          | none =>
            simp only [orKey, stepAV, look_applyEff, wKey, List.getElem?_cons_zero]
            cases effAt r.res.eff k <;> rfl
        refine ⟨by simp [h1], fun hn r' hr' => ?_, h3, fun t => ?_, fun k => ?_, fun p o' r' hp hrp => ?_⟩
        · rcases List.mem_cons.1 hr' with rfl | hr'
          · exact (allP_append.1 hn).1
          · exact h2 (allP_append.1 hn).2 r' hr'
        · rw [h4 t, gS]; rfl
        · rw [h5 k, gK]; rfl
        · cases p with
          | zero =>
            simp only [List.getElem?_cons_zero, Option.some.injEq] at hp hrp
            subst hp; subst hrp
            exact ⟨s, hr, rfl, fun t => rfl, fun k => rfl⟩
          | succ p =>
            obtain ⟨sp, a1, a2, a3, a4⟩ := h6 p o' r' (by simpa using hp) (by simpa using hrp)
            refine ⟨sp, by rw [← a1]; congr 1; omega, a2, fun t => ?_, fun k => ?_⟩
            · rw [a3 t, gS]
            · rw [a4 k, gK]
end trace
section region
variable {c : Ctx} {P : Program} {T : Types} (hT : TOK P T) {Γ : Contracts} (hΓ : GOK P Γ) {orc : List (Nat × Bool)}
theorem WRel.ext {st st' : Store} {D : Nat → Prop} {β : KMap} {w : World} (h : WRel c st D β w) (he : ∀ k, look k st = look k st') : WRel c st' D β w ∧ Mset c st' β = Mset c st β := by
  have hM : Mset c st' β = Mset c st β := by
    funext b
    simp only [Mset, he]
  refine ⟨?_, hM⟩
  refine { h with obj := fun k o hk => ?_, inj := fun k k' o o' b N N' h1 h2 => ?_, new := fun k o b N h1 => ?_ }
  · rw [hM]; exact h.obj k o (by rw [he]; exact hk)
  · exact h.inj k k' o o' b N N' (by rw [he]; exact h1) (by rw [he]; exact h2)
  · exact h.new k o b N (by rw [he]; exact h1)
theorem Rel.ext {nt : Nat} {D D' : Nat → Prop} {sl sl' : List (Nat × AV)} {st st' : Store} {a : Act} {w : World} (h : Rel c nt D sl st a w) (h1 : ∀ t, look t sl = look t sl') (h2 : ∀ k, look k st = look k st')
    (hD : ∀ k, D k → D' k) : Rel c nt D' sl' st' a w := by
  obtain ⟨a1, a2, β, a3, a4⟩ := h
  obtain ⟨b1, b2⟩ := a3.ext h2
  refine ⟨a1, a2, β, b1.widen hD, fun t v ht => ?_⟩
  rw [b2]
  exact a4 t v (by rw [h1]; exact ht)
theorem wpOp_of {ops : Array Oper} {i : Nat} {o : Oper} (ho : ops[i]? = some o) {a : Act} {w : World} {K : Act → World → Prop} {Q : Exit → Act → World → Prop}
    (h : if Region.wanted o (yielded ops a.tmps) then o.wp P a w K Q else K (a.put o.dst undef) w) : wpOp P ops Q i K a w := by
  unfold wpOp
  simp only [ho]
  split
  · rename_i hw; rw [if_pos hw] at h; exact .inl h
  · rename_i hw; rw [if_neg hw] at h; exact h
def usedKeys (N0 n : Nat) (S : Nat → Bool) (k : Nat) : Prop := k < N0 ∨ ∃ i, i < n ∧ S i = true ∧ N0 + stride * i ≤ k ∧ k < N0 + stride * i + stride
theorem stride_apart {N0 i j k : Nat} (h1 : N0 + stride * i ≤ k) (h2 : k < N0 + stride * i + stride) (h3 : N0 + stride * j ≤ k) (h4 : k < N0 + stride * j + stride) : i = j := by
  simp only [stride] at *
  omega
include hT hΓ in
theorem text_ok {ops : Array Oper} {nt N0 : Nat} (hdst : ∀ o ∈ ops.toList, ∀ d, o.dst = some d → d < nt) {Q : Exit → Act → World → Prop} :
    ∀ (l done : List Oper) (s s' : AState) (need : List Prop) (rs : List Rec) (a : Act) (w : World), ops.toList = done ++ l → s.next = N0 → runOps T Γ orc ops.toList l done.length s = some (s', need, rs) → allP need →
      Rel c nt (fun k => k < N0 + stride * done.length) s.slots s.store a w →
      (∀ a' w', Rel c nt (fun k => k < N0 + stride * ops.size) s'.slots s'.store a' w' → Q .normal a' w') → wpOps P ops Q (List.range' done.length l.length) a w
  | [], done, s, s', need, rs, a, w, hops, hN, hr, hn, hrel, hQ => by
    simp only [runOps, Option.some.injEq, Prod.mk.injEq] at hr
    obtain ⟨rfl, rfl, rfl⟩ := hr
    simp only [List.length_nil, List.range'_zero, wpOps]
    refine hQ a w (hrel.ext (fun _ => rfl) (fun _ => rfl) fun k hk => ?_)
    have : ops.size = done.length := by rw [← Array.length_toList, hops]; simp
    rw [this]; exact hk
  | o :: l, done, s, s', need, rs, a, w, hops, hN, hr, hn, hrel, hQ => by
    simp only [runOps] at hr
    cases hrec : recAV T Γ orc ops.toList s done.length o with
    | none => rw [hrec] at hr; simp at hr
    | some r =>
      rw [hrec] at hr
      simp only at hr
      cases ht : runOps T Γ orc ops.toList l (done.length + 1) (stepAV s o r.res) with
      | none => rw [ht] at hr; simp at hr
      | some q =>
        obtain ⟨s1, n1, rs1⟩ := q
        rw [ht] at hr
        simp only [Option.some.injEq, Prod.mk.injEq] at hr
        obtain ⟨rfl, rfl, rfl⟩ := hr
        rw [List.length_cons, List.range'_succ, wpOps_cons]
        have ho : ops[done.length]? = some o := by rw [← Array.getElem?_toList, hops]; simp
        refine wpOp_of ho (rec_step (D' := fun k => k < N0 + stride * (done ++ [o]).length) hT hΓ (N0 := s.next) (i := done.length) hrel (by cases s; exact hrec) (allP_append.1 hn).1
          (fun d hd => hdst o (by rw [hops]; simp) d hd) (fun k hk => ?_) (fun k h1 h2 => ?_) fun a' w' hrel' => ?_)
        · simp only [List.length_append, List.length_cons, List.length_nil, stride] at hk ⊢; omega
        · simp only [List.length_append, List.length_cons, List.length_nil, stride] at h1 h2 ⊢; omega
        · have := text_ok hdst l (done ++ [o]) (stepAV s o r.res) s1 n1 rs1 a' w' (by simp [hops]) hN (by simpa using ht) (allP_append.1 hn).2 hrel' hQ
          simpa using this
theorem lastW_below {α : Type} {W : Nat → Option α} {i : Nat} : ∀ {n : Nat}, i ≤ n → lastW W (fun j => decide (j < i)) n = lastW W (fun _ => true) i
  | 0, h => by have : i = 0 := by omega
               subst this; rfl
  | n + 1, h => by
    by_cases hn : i = n + 1
    · subst hn
      exact lastW_congr fun j hj _ => by simpa using hj
    · have ih := lastW_below (W := W) (i := i) (n := n) (by omega)
      have : decide (n < i) = false := by simp; omega
      simp only [lastW, this, Bool.false_eq_true, if_false]
      exact ih
theorem effAt_mem {k : Nat} : ∀ {eff : List (Nat × Option AObj)} {r : Option AObj}, effAt eff k = some r → k ∈ eff.map (·.1)
  | [], r, h => by simp [effAt] at h
  | (j, o) :: l, r, h => by
    simp only [effAt] at h
    cases he : effAt l k with
    | some r' => simp only [List.map_cons, List.mem_cons]; exact .inr (effAt_mem he)
    | none =>
      rw [he] at h
      simp only at h
      split at h
      · rename_i hjk
        have : j = k := by simpa using hjk
        simp [this]
      · simp at h
theorem getD_set {l : Array Bool} {i j : Nat} (hi : i < l.size) : (l.setIfInBounds i true).getD j false = (l.getD j false || j == i) := by
  simp only [Array.getD_eq_getD_getElem?, Array.getElem?_setIfInBounds]
  by_cases h : i = j
  · subst h; simp [hi]
  · have : (j == i) = false := by simp; omega
    simp [h, this]
include hT hΓ in
theorem any_ok {ops : Array Oper} {nt : Nat} (hdst : ∀ o ∈ ops.toList, ∀ d, o.dst = some d → d < nt) {Q : Exit → Act → World → Prop} {s s' : AState} {need : List Prop} {rs : List Rec}
    (hrun : runOps T Γ orc ops.toList ops.toList 0 s = some (s', need, rs)) (hneed : allP need) (hE : okEdges ops.toList 0 = true) (hA : okAll (zip3 ops.toList rs (ancs ops.toList []) ops.toList) 0 = true)
    (hQ : ∀ a' w', Rel c nt (fun k => k < s.next + stride * ops.size) s'.slots s'.store a' w' → Q .normal a' w') {a : Act} {w : World} (hrel : Rel c nt (fun k => k < s.next) s.slots s.store a w) :
    wpAny P .any ops Q ops.size (Array.replicate ops.size false) a w := by
  obtain ⟨t1, t2, t3, t4, t5, t6⟩ := runOps_trace ops.toList 0 s s' need rs hrun
  have hsz : ops.toList.length = ops.size := Array.length_toList
  -- the invariant
  let Inv : (Nat → Bool) → Act → World → Prop := fun S a w => ∃ sl st, (∀ t, look t sl = orElse (lastW (wSlot ops.toList rs t) S ops.size) (look t s.slots)) ∧
    (∀ k, look k st = orKey (lastW (wKey ops.toList rs k) S ops.size) (look k s.store)) ∧ Rel c nt (usedKeys s.next ops.size S) sl st a w
  have hend : ∀ (S : Nat → Bool) (a : Act) (w : World), (∀ i, i < ops.size → S i = true) → Inv S a w → Q .normal a w := by
    rintro S a w hall ⟨sl, st, h1, h2, h3⟩
    refine hQ a w (h3.ext (fun t => ?_) (fun k => ?_) fun k hk => ?_)
    · rw [h1 t, t4 t, hsz]
      congr 1
      exact lastW_congr fun j hj _ => hall j hj
    · rw [h2 k, t5 k, hsz]
      congr 1
      exact lastW_congr fun j hj _ => hall j hj
    · rcases hk with hk | ⟨i, hi, _, _, hk⟩
      · simp only [stride] at *; omega
      · simp only [stride] at *; omega
  have main : ∀ (fuel : Nat) (listed : Array Bool) (a : Act) (w : World), listed.size = ops.size → Down ops.toList (fun i => listed.getD i false) → lacks (fun i => listed.getD i false) ops.size ≤ fuel →
      Inv (fun i => listed.getD i false) a w → wpAny P .any ops Q fuel listed a w := by
    intro fuel
    induction fuel with
    | zero =>
      intro listed a w hl hd hlk hinv
      have hall := lacks_zero (show lacks (fun i => listed.getD i false) ops.size = 0 by omega)
      refine ⟨?_, hend _ a w hall hinv⟩
      simp only [Region.ready, List.filter_eq_nil_iff, List.mem_range, Bool.and_eq_true, Bool.not_eq_true', not_and]
      intro i hi h
      have := hall i hi
      simp only [Array.getD_eq_getD_getElem?] at this h
      rw [Array.getElem?_eq_getElem (by omega)] at this h
      simp at this h
      rw [this] at h; simp at h
    | succ fuel ih =>
      intro listed a w hl hd hlk hinv
      have hgd : ∀ i, i < ops.size → listed.getD i true = listed.getD i false := fun i hi => by
        simp only [Array.getD_eq_getD_getElem?]
        rw [Array.getElem?_eq_getElem (by omega)]; rfl
      have hready : ∀ i, i ∈ Region.ready .any ops listed ↔ i < ops.size ∧ listed.getD i false = false ∧ ∀ o, ops.toList[i]? = some o → ∀ e ∈ o.after.toList, Region.binds .any e = true → listed.getD e.on false = true := fun i => by
        simp only [Region.ready, List.mem_filter, List.mem_range, Bool.and_eq_true, Bool.not_eq_true']
        constructor
        · rintro ⟨h1, h2, h3⟩
          refine ⟨h1, by rw [← hgd i h1]; exact h2, fun o ho e he hb => ?_⟩
          have ho' : ops[i]? = some o := by simpa using ho
          rw [ho'] at h3
          simp only [Option.map_some, Option.getD_some, Array.all_eq_true_iff_forall_mem, Bool.or_eq_true, Bool.not_eq_true'] at h3
          rcases h3 e (by simpa using he) with h4 | h4
          · rw [hb] at h4; simp at h4
          · exact h4
        · rintro ⟨h1, h2, h3⟩
          refine ⟨h1, by rw [hgd i h1]; exact h2, ?_⟩
          have ho' : ops[i]? = some ops[i] := Array.getElem?_eq_getElem h1
          rw [ho']
          simp only [Option.map_some, Option.getD_some, Array.all_eq_true_iff_forall_mem, Bool.or_eq_true, Bool.not_eq_true']
          intro e he
          cases hb : Region.binds .any e with
          | false => exact .inl rfl
          | true => exact .inr (h3 ops[i] (by simp [h1]) e (by simpa using he) hb)
      refine ⟨fun hnil => ?_, fun i hi => ?_⟩
      · refine hend _ a w (fun i => ?_) hinv
        induction i using Nat.strongRecOn with
        | _ i ihi =>
          intro hi
          cases hl' : listed.getD i false with
          | true => rfl
          | false =>
            have : i ∈ Region.ready .any ops listed := (hready i).2 ⟨hi, hl', fun o ho e he hb => by
              have hlt := okEdges_get hE ho e he hb
              exact ihi e.on (by omega) (by omega)⟩
            rw [hnil] at this
            simp at this
      · obtain ⟨h1, h2, h3⟩ := (hready i).1 hi
        have ho : ops.toList[i]? = some ops[i] := by simp [h1]
        generalize ops[i] = o at ho
        obtain ⟨r, hr⟩ : ∃ r, rs[i]? = some r := ⟨_, List.getElem?_eq_getElem (by omega)⟩
        obtain ⟨sp, q1, q2, q3, q4⟩ := t6 i o r ho hr
        rw [Nat.zero_add] at q1
        have hi2 : listed.getD i false = false := h2
        have hanc := ancs_ok hd ops.toList [] [] rfl rfl (fun i m o h => by simp at h)
        -- order of what clashes
        have hclash : ∀ (j : Nat) (o' : Oper) (r' : Rec), ops.toList[j]? = some o' → rs[j]? = some r' → j ≠ i →
            ((touchOf ops.toList o' r').clash (touchOf ops.toList o r) = true ∧ j < i ∨ (touchOf ops.toList o r).clash (touchOf ops.toList o' r') = true ∧ i < j) → listed.getD j false = decide (j < i) := by
          intro j o' r' hj hrj hne hc
          have hai : ∀ q (o : Oper), ops.toList[q]? = some o → ∃ m, (ancs ops.toList [])[q]? = some m := fun q o hq =>
            ⟨_, List.getElem?_eq_getElem (by rw [hanc.1]; exact (List.getElem?_eq_some_iff.1 hq).1)⟩
          obtain ⟨mi, hmi⟩ := hai i o ho
          obtain ⟨mj, hmj⟩ := hai j o' hj
          rcases hc with ⟨hc, hlt⟩ | ⟨hc, hlt⟩
          · have hb := okAll_get hA (zip3_get hj hrj hmj) (zip3_get ho hr hmi) hlt hc
            rw [Nat.zero_add] at hb
            have := hanc.2 i mi o hmi ho (h3 o ho) j hb
            simp only [hlt, decide_true]; exact this
          · have hb := okAll_get hA (zip3_get ho hr hmi) (zip3_get hj hrj hmj) hlt hc
            rw [Nat.zero_add] at hb
            have : decide (j < i) = false := by simp; omega
            rw [this]
            cases hS : listed.getD j false with
            | false => rfl
            | true =>
              have := hanc.2 j mj o' hmj hj (hd j o' hj hS) i hb
              simp only [hi2] at this
              simp at this
        obtain ⟨sl, st, v1, v2, v3⟩ := hinv
        -- the operation does here what it did in the order of the text
        have hloc : recAV T Γ orc ops.toList ⟨sl, st, s.next⟩ i o = some r := by
          refine recAV_local q1 (fun t ht => ?_) (fun k hk => ?_) q2
          · rw [q3 t, v1 t]
            congr 1
            rw [← lastW_below (show i ≤ ops.size by omega)]
            refine lastW_congr fun j hj hW => ?_
            by_cases hji : j = i
            · subst hji; simp only [hi2]; simp
            · unfold wSlot at hW
              cases hoj : ops.toList[j]? with
              | none => simp [hoj] at hW
              | some o' =>
                cases hrj : rs[j]? with
                | none => simp [hoj, hrj] at hW
                | some r' =>
                  have hdj : o'.dst = some t := by
                    simp only [hoj, hrj] at hW
                    by_cases hd : o'.dst = some t
                    · exact hd
                    · simp [hd] at hW
                  refine (hclash j o' r' hoj hrj hji ?_).symm
                  rcases Nat.lt_or_gt_of_ne hji with hlt | hgt
                  · refine .inl ⟨?_, hlt⟩
                    simp only [Touch.clash, touchOf, Bool.or_eq_true]
                    exact .inl (.inl (.inl (.inl (.inl (meet_mem (x := t) (by simp [hdj]) ht)))))
                  · refine .inr ⟨?_, hgt⟩
                    simp only [Touch.clash, touchOf, Bool.or_eq_true]
                    exact .inl (.inl (.inl (.inr (meet_mem (x := t) ht (by simp [hdj])))))
          · rw [q4 k, v2 k]
            congr 1
            rw [← lastW_below (show i ≤ ops.size by omega)]
            refine lastW_congr fun j hj hW => ?_
            by_cases hji : j = i
            · subst hji; simp only [hi2]; simp
            · unfold wKey at hW
              cases hoj : ops.toList[j]? with
              | none => simp [hoj] at hW
              | some o' =>
                cases hrj : rs[j]? with
                | none => simp [hoj, hrj] at hW
                | some r' =>
                  have hkj : k ∈ r'.res.eff.map (·.1) := by
                    simp only [hoj, hrj] at hW
                    cases he : effAt r'.res.eff k with
                    | none => simp [he] at hW
                    | some x => exact effAt_mem he
                  refine (hclash j o' r' hoj hrj hji ?_).symm
                  rcases Nat.lt_or_gt_of_ne hji with hlt | hgt
                  · refine .inl ⟨?_, hlt⟩
                    simp only [Touch.clash, touchOf, Bool.or_eq_true]
                    exact .inl (.inl (.inr (meet_mem (x := k) hkj hk)))
                  · refine .inr ⟨?_, hgt⟩
                    simp only [Touch.clash, touchOf, Bool.or_eq_true]
                    exact .inr (meet_mem (x := k) hk hkj)
        have hmem : r ∈ rs := List.mem_of_getElem? hr
        refine wpOp_of (by simpa using ho) (rec_step (D' := usedKeys s.next ops.size (fun j => listed.getD j false || j == i)) hT hΓ v3 hloc (t2 hneed r hmem) (hdst o (List.mem_of_getElem? ho)) (fun k hk => ?_) (fun k k1 k2 => ?_) fun a' w' hrel' => ?_)
        · rcases hk with hk | ⟨j, g1, g2, g3, g4⟩
          · exact .inl hk
          · exact .inr ⟨j, g1, by simp only [g2, Bool.true_or], g3, g4⟩
        · refine ⟨?_, .inr ⟨i, h1, by simp, k1, k2⟩⟩
          rintro (hk | ⟨j, g1, g2, g3, g4⟩)
          · omega
          · have := stride_apart g3 g4 k1 k2
            subst this
            simp only [hi2] at g2
            simp at g2
        · have hS : (fun j => (listed.setIfInBounds i true).getD j false) = fun j => listed.getD j false || j == i := by
            funext j
            exact getD_set (by omega)
          refine ih (listed.setIfInBounds i true) a' w' (by simpa using hl) ?_ ?_ ?_
          · rw [hS]
            intro j o' hoj hSj e he hb
            by_cases hji : j = i
            · subst hji
              rw [ho] at hoj
              simp only [Option.some.injEq] at hoj
              subst hoj
              simp only [h3 o ho e he hb, Bool.true_or]
            · have : (j == i) = false := by simpa using hji
              simp only [this, Bool.or_false] at hSj
              have := hd j o' hoj hSj e he hb
              simp only at this
              simp only [this, Bool.true_or]
          · rw [hS]
            have := lacks_add (S := fun j => listed.getD j false) (i := i) hi2 h1
            omega
          · rw [hS]
            refine ⟨_, _, fun t => ?_, fun k => ?_, hrel'⟩
            · rw [look_putDst, v1 t]
              cases hWi : wSlot ops.toList rs t i with
              | none =>
                have hnd : ¬ o.dst = some t := by
                  simp only [wSlot, ho, hr] at hWi
                  intro hd
                  simp [hd] at hWi
                rw [if_neg hnd]
                congr 1
                refine lastW_congr fun j hj hW => ?_
                have : (j == i) = false := by
                  simp only [beq_eq_false_iff_ne, ne_eq]
                  rintro rfl
                  exact hW hWi
                simp only [this, Bool.or_false]
              | some v =>
                have hd' : o.dst = some t ∧ r.res.val = v := by
                  simp only [wSlot, ho, hr] at hWi
                  by_cases hd : o.dst = some t
                  · simp only [hd, if_true, Option.some.injEq] at hWi; exact ⟨hd, hWi⟩
                  · simp [hd] at hWi
                rw [if_pos hd'.1, lastW_add hi2 h1 fun j hij hjn hSj => ?_, hWi, hd'.2]
                · rfl
                · cases hWj : wSlot ops.toList rs t j with
                  | none => rfl
                  | some v' =>
                    exfalso
                    unfold wSlot at hWj
                    cases hoj : ops.toList[j]? with
                    | none => simp [hoj] at hWj
                    | some o' =>
                      cases hrj : rs[j]? with
                      | none => simp [hoj, hrj] at hWj
                      | some r' =>
                        have hdj : o'.dst = some t := by
                          simp only [hoj, hrj] at hWj
                          by_cases hd : o'.dst = some t
                          · exact hd
                          · simp [hd] at hWj
                        have := hclash j o' r' hoj hrj (by omega) (.inr ⟨by
                          simp only [Touch.clash, touchOf, Bool.or_eq_true]
                          exact .inl (.inl (.inl (.inl (.inr (meet_mem (x := t) (by simp [hd'.1]) (by simp [hdj])))))), hij⟩)
                        have h5 : decide (j < i) = false := by simp; omega
                        rw [h5] at this
                        simp only [this] at hSj
                        simp at hSj
            · rw [look_applyEff, v2 k]
              cases hWi : wKey ops.toList rs k i with
              | none =>
                have hnd : effAt r.res.eff k = none := by simpa only [wKey, ho, hr] using hWi
                rw [hnd]
                simp only
                congr 1
                refine lastW_congr fun j hj hW => ?_
                have : (j == i) = false := by
                  simp only [beq_eq_false_iff_ne, ne_eq]
                  rintro rfl
                  exact hW hWi
                simp only [this, Bool.or_false]
              | some v =>
                have hd' : effAt r.res.eff k = some v := by simpa only [wKey, ho, hr] using hWi
                rw [hd', lastW_add hi2 h1 fun j hij hjn hSj => ?_, hWi]
                · rfl
                · cases hWj : wKey ops.toList rs k j with
                  | none => rfl
                  | some v' =>
                    exfalso
                    unfold wKey at hWj
                    cases hoj : ops.toList[j]? with
                    | none => simp [hoj] at hWj
                    | some o' =>
                      cases hrj : rs[j]? with
                      | none => simp [hoj, hrj] at hWj
                      | some r' =>
                        simp only [hoj, hrj] at hWj
                        have := hclash j o' r' hoj hrj (by omega) (.inr ⟨by
                          simp only [Touch.clash, touchOf, Bool.or_eq_true]
                          exact .inl (.inr (meet_mem (x := k) (effAt_mem hd') (effAt_mem hWj))), hij⟩)
                        have h5 : decide (j < i) = false := by simp; omega
                        rw [h5] at this
                        simp only [this] at hSj
                        simp at hSj
  have h0 : (fun i => (Array.replicate ops.size false).getD i false) = fun _ => false := by
    funext i
    simp only [Array.getD_eq_getD_getElem?, Array.getElem?_replicate]
    split <;> rfl
  refine main ops.size _ a w (by simp) ?_ ?_ ?_
  · rw [h0]; intro i o _ h; simp at h
  · rw [h0, lacks_all]; exact Nat.le_refl _
  · rw [h0]
    have hnone : ∀ {α : Type} (W : Nat → Option α) (n : Nat), lastW W (fun _ => false) n = none := fun W n => by
      induction n with
      | zero => rfl
      | succ n ih => simp [lastW, ih]
    refine ⟨s.slots, s.store, fun t => by rw [hnone]; rfl, fun k => by rw [hnone]; rfl, hrel.ext (fun _ => rfl) (fun _ => rfl) fun k hk => .inl hk⟩
include hT hΓ in
theorem region_ok {id : Nat} {ops : Array Oper} {draws : Bool} {nt : Nat} (hm : P.follows .mixedOrders = true) (hdst : (ops.toList.all fun o => match o.dst with | some d => decide (d < nt) | none => true) = true)
    {Q : Exit → Act → World → Prop} {s s' : AState} {need : List Prop} (hrun : regionAV T Γ orc ops draws s = some (s', need)) (hneed : allP need) {a : Act} {w : World} (hrel : Rel c nt (fun k => k < s.next) s.slots s.store a w)
    (hQ : ∀ a' w', Rel c nt (fun k => k < s'.next) s'.slots s'.store a' w' → Q .normal a' w') : (Code.region id ops draws).wp P Q a w := by
  have hdst' : ∀ o ∈ ops.toList, ∀ d, o.dst = some d → d < nt := fun o ho d hd => by
    have := (List.all_eq_true.1 hdst) o ho
    simpa [hd] using this
  unfold regionAV at hrun
  simp only [force_eq] at hrun
  cases hr : runOps T Γ orc ops.toList ops.toList 0 s with
  | none => rw [hr] at hrun; simp at hrun
  | some q =>
    obtain ⟨s1, n1, rs⟩ := q
    rw [hr] at hrun
    simp only at hrun
    split at hrun
    · rename_i hc
      simp only [Option.some.injEq, Prod.mk.injEq] at hrun
      obtain ⟨rfl, rfl⟩ := hrun
      have hnx : s1.next = s.next := (runOps_trace ops.toList 0 s s1 n1 rs hr).2.2.1
      cases draws with
      | false =>
        refine wp_region ?_
        have := text_ok hT hΓ hdst' (Q := Q) ops.toList [] s s1 n1 rs a w rfl rfl hr hneed (by simpa using hrel) (fun a' w' h => hQ a' w' (by simpa [hnx] using h))
        simpa [List.range_eq_range'] using this
      | true =>
        simp only [Bool.not_true, Bool.false_or, Bool.and_eq_true] at hc
        refine wp_region_any hm (any_ok hT hΓ hdst' hr hneed hc.1 hc.2 (fun a' w' h => hQ a' w' (by simpa [hnx] using h)) ?_)
        obtain ⟨a1, a2, β, a3, a4⟩ := hrel
        exact ⟨a1, a2, β, a3.drew, fun t v ht => by
          obtain ⟨x, hx, hv⟩ := a4 t v ht
          exact ⟨x, hx, hv.evo Evo.drew⟩⟩
    · simp at hrun
end region
end Go.Am

/- Code: the rules. -/
namespace Go.Am
open AV
def AEx.conc : AEx → Exit
  | .normal => .normal
  | .exit i => .exit i
  | .ret => .ret
def dstOK (nt : Nat) : Code → Bool
  | .region _ ops _ => ops.toList.all fun o => match o.dst with
    | some d => decide (d < nt)
    | none => true
  | .seq x y => dstOK nt x && dstOK nt y
  | .cond _ x y => dstOK nt x && dstOK nt y
  | .block _ x => dstOK nt x
  | .loop x => dstOK nt x
  | .scope x => dstOK nt x
  | .rangeFunc _ _ x y => dstOK nt x && dstOK nt y
  | _ => true
def AWp (P : Program) (c : Ctx) (nt : Nat) (x : Code) (s : AState) (Q : AEx → AState → Prop) : Prop :=
  ∀ a w, Rel c nt (fun k => k < s.next) s.slots s.store a w → x.wp P (fun e a' w' => ∃ ae s', e = ae.conc ∧ Rel c nt (fun k => k < s'.next) s'.slots s'.store a' w' ∧ Q ae s') a w
section rules
variable {P : Program} {c : Ctx} {nt : Nat} {x y : Code} {s : AState} {Q Q' : AEx → AState → Prop}
theorem AWp.mono (h : AWp P c nt x s Q) (hq : ∀ e s', Q e s' → Q' e s') : AWp P c nt x s Q' :=
  fun a w hr => wp_mono (h a w hr) fun _ _ _ ⟨ae, s', h1, h2, h3⟩ => ⟨ae, s', h1, h2, hq _ _ h3⟩
theorem AWp.skip (h : Q .normal s) : AWp P c nt .skip s Q := fun _ _ hr => wp_skip ⟨.normal, s, rfl, hr, h⟩
theorem AWp.label {l : Nat} (h : Q .normal s) : AWp P c nt (.label l) s Q := fun _ _ hr => wp_label ⟨.normal, s, rfl, hr, h⟩
theorem AWp.exit {i : Nat} (h : Q (.exit i) s) : AWp P c nt (.exit i) s Q := fun _ _ hr => wp_exit ⟨.exit i, s, rfl, hr, h⟩
theorem AWp.ret (h : Q .ret s) : AWp P c nt .ret s Q := fun _ _ hr => wp_ret ⟨.ret, s, rfl, hr, h⟩
theorem AWp.seq (h : AWp P c nt x s fun e s' => match e with
    | .normal => AWp P c nt y s' Q
    | e => Q e s') : AWp P c nt (.seq x y) s Q := by
  intro a w hr
  refine wp_seq (wp_mono (h a w hr) ?_)
  rintro e a' w' ⟨ae, s', rfl, h2, h3⟩
  cases ae with
  | normal => exact h3 a' w' h2
  | exit i => exact ⟨.exit i, s', rfl, h2, h3⟩
  | ret => exact ⟨.ret, s', rfl, h2, h3⟩
theorem AWp.cond {b : Operand} {t : Bool} (hb : s.rho b = some (.bool t)) (h1 : t = true → AWp P c nt x s Q) (h2 : t = false → AWp P c nt y s Q) : AWp P c nt (.cond b x y) s Q := by
  intro a w hr
  obtain ⟨_, _, β, _, hs⟩ := id hr
  have := (rho_ok hs b _ hb).bool
  cases t
  · exact wp_cond_false this (h2 rfl a w hr)
  · exact wp_cond_true this (h1 rfl a w hr)
theorem AWp.block {i : Nat} (h : AWp P c nt x s fun e s' => match e with
    | .exit j => if j = i then Q .normal s' else Q (.exit j) s'
    | e => Q e s') : AWp P c nt (.block i x) s Q := by
  intro a w hr
  refine wp_block (wp_mono (h a w hr) ?_)
  rintro e a' w' ⟨ae, s', rfl, h2, h3⟩
  cases ae with
  | normal => exact ⟨.normal, s', rfl, h2, h3⟩
  | exit j =>
    simp only [AEx.conc, Exit.inBlock]
    simp only at h3
    split
    · rename_i hj; rw [if_pos hj] at h3; exact ⟨.normal, s', rfl, h2, h3⟩
    · rename_i hj; rw [if_neg hj] at h3; exact ⟨.exit j, s', rfl, h2, h3⟩
  | ret => exact ⟨.ret, s', rfl, h2, h3⟩
theorem wp_loop_with {α : Type} {b : Code} {R : Exit → Act → World → Prop} (I : α → Act → World → Prop) (μ : α → Nat)
    (round : ∀ s a w, I s a w → b.wp P (Exit.then (fun a' w' => ∃ s', I s' a' w' ∧ μ s' < μ s) R) a w) {s : α} {a : Act} {w : World} (h0 : I s a w) : (Code.loop b).wp P R a w := by
  intro fr k cs
  have key : ∀ n s a w, μ s = n → I s a w →
      ∃ e a' w', R e a' w' ∧ Arrives P (lone (fr.at a (.code b :: .inLoop b :: k)) cs w) fr k cs e a' w' := by
    intro n
    induction n using Nat.strongRecOn with
    | _ n ih =>
      intro s a w hn hI
      obtain ⟨e, a₁, w₁, hq, harr⟩ := round s a w hI fr (.inLoop b :: k) cs
      cases e with
      | normal =>
        obtain ⟨s', hI₁, hlt⟩ := hq
        obtain ⟨e₂, a₂, w₂, hq₂, harr₂⟩ := ih (μ s') (hn ▸ hlt) s' a₁ w₁ rfl hI₁
        exact ⟨e₂, a₂, w₂, hq₂, .of_steps (Steps.trans harr (.one step_inLoop)) harr₂⟩
      | exit id => exact ⟨_, a₁, w₁, hq, .pass (x := .inLoop b) rfl (fun _ _ => .inl (by simp)) harr⟩
      | goto l => exact ⟨_, a₁, w₁, hq, .pass (x := .inLoop b) rfl (fun _ _ => .inl (by simp)) harr⟩
      | ret => exact ⟨_, a₁, w₁, hq, .pass (x := .inLoop b) rfl (fun _ _ => .inl (by simp)) harr⟩
      | panic ch => exact ⟨_, a₁, w₁, hq, .pass (x := .inLoop b) rfl (fun _ _ => .inl (by simp)) harr⟩
      | outgrown => exact ⟨_, a₁, w₁, hq, .pass (x := .inLoop b) rfl (fun _ _ => .inl (by simp)) harr⟩
  obtain ⟨e, a', w', hq, harr⟩ := key _ s a w rfl h0
  exact ⟨e, a', w', hq, .of_steps (.one step_loop) harr⟩
theorem AWp.loop {α : Type} (S : α → AState) (I : α → Prop) (μ : α → Nat) (i : α) (hs : s = S i) (h0 : I i)
    (round : ∀ i, I i → AWp P c nt x (S i) fun e s' => match e with
      | .normal => ∃ j, s' = S j ∧ I j ∧ μ j < μ i
      | e => Q e s') : AWp P c nt (.loop x) s Q := by
  intro a w hr
  refine wp_loop_with (fun i a w => I i ∧ Rel c nt (fun k => k < (S i).next) (S i).slots (S i).store a w) μ (s := i) ?_ ⟨h0, by rw [← hs]; exact hr⟩
  rintro i a w ⟨hi, hr⟩
  refine wp_mono (round i hi a w hr) ?_
  rintro e a' w' ⟨ae, s', rfl, h2, h3⟩
  cases ae with
  | normal =>
    obtain ⟨j, rfl, hj, hlt⟩ := h3
    exact ⟨j, ⟨hj, h2⟩, hlt⟩
  | exit i => exact ⟨.exit i, s', rfl, h2, h3⟩
  | ret => exact ⟨.ret, s', rfl, h2, h3⟩
variable {T : Types} (hT : TOK P T) {Γ : Contracts} (hΓ : GOK P Γ) (hm : P.follows .mixedOrders = true)
include hT hΓ hm in
theorem AWp.region {orc : List (Nat × Bool)} {id : Nat} {ops : Array Oper} {d : Bool} (hd : dstOK nt (.region id ops d) = true) {s' : AState} {need : List Prop} (hr : regionAV T Γ orc ops d s = some (s', need)) (hn : allP need) (h : Q .normal s') :
    AWp P c nt (.region id ops d) s Q :=
  fun _ _ hrel => region_ok hT hΓ hm hd hr hn hrel fun _ _ h' => ⟨.normal, s', rfl, h', h⟩
include hT hΓ hm in
theorem AWp.run : ∀ (n : Nat) {x : Code} {s : AState}, dstOK nt x = true → ∀ {e : AEx} {s' : AState} {need : List Prop}, codeAV T Γ n x s = some (e, s', need) → allP need →
    AWp P c nt x s fun e' t => e' = e ∧ t = s'
  | 0, x, s, _, e, s', need, h, _ => by simp [codeAV] at h
  | n + 1, .skip, s, _, e, s', need, h, hn => by
    simp only [codeAV, Option.some.injEq, Prod.mk.injEq] at h
    obtain ⟨rfl, rfl, rfl⟩ := h
    exact .skip ⟨rfl, rfl⟩
  | n + 1, .label l, s, _, e, s', need, h, hn => by
    simp only [codeAV, Option.some.injEq, Prod.mk.injEq] at h
    obtain ⟨rfl, rfl, rfl⟩ := h
    exact .label ⟨rfl, rfl⟩
  | n + 1, .exit i, s, _, e, s', need, h, hn => by
    simp only [codeAV, Option.some.injEq, Prod.mk.injEq] at h
    obtain ⟨rfl, rfl, rfl⟩ := h
    exact .exit ⟨rfl, rfl⟩
  | n + 1, .ret, s, _, e, s', need, h, hn => by
    simp only [codeAV, Option.some.injEq, Prod.mk.injEq] at h
    obtain ⟨rfl, rfl, rfl⟩ := h
    exact .ret ⟨rfl, rfl⟩
  | n + 1, .region i ops d, s, hd, e, s', need, h, hn => by
    simp only [codeAV] at h
    cases hr : regionAV T Γ [] ops d s with
    | none => rw [hr] at h; simp at h
    | some q =>
      obtain ⟨s1, p⟩ := q
      rw [hr] at h
      simp only [Option.some.injEq, Prod.mk.injEq] at h
      obtain ⟨rfl, rfl, rfl⟩ := h
      exact AWp.region hT hΓ hm hd hr hn ⟨rfl, rfl⟩
  | n + 1, .seq x y, s, hd, e, s', need, h, hn => by
    simp only [dstOK, Bool.and_eq_true] at hd
    simp only [codeAV] at h
    cases hx : codeAV T Γ n x s with
    | none => rw [hx] at h; simp at h
    | some q =>
      obtain ⟨e1, s1, p⟩ := q
      rw [hx] at h
      cases e1 with
      | normal =>
        simp only at h
        cases hy : codeAV T Γ n y s1 with
        | none => rw [hy] at h; simp at h
        | some q2 =>
          obtain ⟨e2, s2, p2⟩ := q2
          rw [hy] at h
          simp only [Option.some.injEq, Prod.mk.injEq] at h
          obtain ⟨rfl, rfl, rfl⟩ := h
          refine .seq ((AWp.run n hd.1 hx (allP_append.1 hn).1).mono ?_)
          rintro e' t ⟨rfl, rfl⟩
          exact AWp.run n hd.2 hy (allP_append.1 hn).2
      | exit i =>
        simp only [Option.some.injEq, Prod.mk.injEq] at h
        obtain ⟨rfl, rfl, rfl⟩ := h
        refine .seq ((AWp.run n hd.1 hx hn).mono ?_)
        rintro e' t ⟨rfl, rfl⟩
        exact ⟨rfl, rfl⟩
      | ret =>
        simp only [Option.some.injEq, Prod.mk.injEq] at h
        obtain ⟨rfl, rfl, rfl⟩ := h
        refine .seq ((AWp.run n hd.1 hx hn).mono ?_)
        rintro e' t ⟨rfl, rfl⟩
        exact ⟨rfl, rfl⟩
  | n + 1, .cond b x y, s, hd, e, s', need, h, hn => by
    simp only [dstOK, Bool.and_eq_true] at hd
    simp only [codeAV] at h
    cases hb : s.rho b with
    | none => rw [hb] at h; simp at h
    | some v =>
      rw [hb] at h
      cases v <;> simp only [reduceCtorEq] at h
      case bool t =>
        cases t with
        | true => exact .cond hb (fun _ => AWp.run n hd.1 h hn) (fun h => by simp at h)
        | false => exact .cond hb (fun h => by simp at h) (fun _ => AWp.run n hd.2 h hn)
  | n + 1, .block i x, s, hd, e, s', need, h, hn => by
    simp only [dstOK] at hd
    simp only [codeAV] at h
    cases hx : codeAV T Γ n x s with
    | none => rw [hx] at h; simp at h
    | some q =>
      obtain ⟨e1, s1, p⟩ := q
      rw [hx] at h
      cases e1 with
      | normal =>
        simp only [Option.some.injEq, Prod.mk.injEq] at h
        obtain ⟨rfl, rfl, rfl⟩ := h
        refine .block ((AWp.run n hd hx hn).mono ?_)
        rintro e' t ⟨rfl, rfl⟩
        exact ⟨rfl, rfl⟩
      | exit j =>
        simp only at h
        split at h
        · rename_i hj
          have hj' : j = i := by simpa using hj
          simp only [Option.some.injEq, Prod.mk.injEq] at h
          obtain ⟨rfl, rfl, rfl⟩ := h
          refine .block ((AWp.run n hd hx hn).mono ?_)
          rintro e' t ⟨rfl, rfl⟩
          simp [hj']
        · rename_i hj
          have hj' : ¬ j = i := by simpa using hj
          simp only [Option.some.injEq, Prod.mk.injEq] at h
          obtain ⟨rfl, rfl, rfl⟩ := h
          refine .block ((AWp.run n hd hx hn).mono ?_)
          rintro e' t ⟨rfl, rfl⟩
          simp [hj']
      | ret =>
        simp only [Option.some.injEq, Prod.mk.injEq] at h
        obtain ⟨rfl, rfl, rfl⟩ := h
        refine .block ((AWp.run n hd hx hn).mono ?_)
        rintro e' t ⟨rfl, rfl⟩
        exact ⟨rfl, rfl⟩
  | n + 1, .loop x, s, hd, e, s', need, h, hn => by
    have key : ∀ (m : Nat) (s : AState) (e : AEx) (s' : AState) (need : List Prop), m ≤ n + 1 → codeAV T Γ m (.loop x) s = some (e, s', need) → allP need →
        ∀ (a : Act) (w : World) (fr : Frame) (k : List Item) (cs : List Frame), Rel c nt (fun k => k < s.next) s.slots s.store a w →
          ∃ e' a' w', (∃ ae t, e' = AEx.conc ae ∧ Rel c nt (fun k => k < t.next) t.slots t.store a' w' ∧ ae = e ∧ t = s') ∧ Arrives P (lone (fr.at a (.code x :: .inLoop x :: k)) cs w) fr k cs e' a' w' := by
      intro m
      induction m with
      | zero => intro s e s' need _ h; simp [codeAV] at h
      | succ m ihm =>
        intro s e s' need hmn h hn a w fr k cs hrel
        simp only [codeAV] at h
        cases hx : codeAV T Γ m x s with
        | none => rw [hx] at h; simp at h
        | some q =>
          obtain ⟨e1, s1, p⟩ := q
          rw [hx] at h
          have hlen : m ≤ n := by omega
          have hrunx : allP p → AWp P c nt x s fun e' t => e' = e1 ∧ t = s1 := fun hp => AWp.run m (by simpa [dstOK] using hd) hx hp
          cases e1 with
          | normal =>
            simp only at h
            cases hy : codeAV T Γ m (.loop x) s1 with
            | none => rw [hy] at h; simp at h
            | some q2 =>
              obtain ⟨e2, s2, p2⟩ := q2
              rw [hy] at h
              simp only [Option.some.injEq, Prod.mk.injEq] at h
              obtain ⟨rfl, rfl, rfl⟩ := h
              obtain ⟨e', a1, w1, ⟨ae, t, rfl, g1, rfl, rfl⟩, harr⟩ := hrunx (allP_append.1 hn).1 a w hrel fr (.inLoop x :: k) cs
              obtain ⟨e'', a2, w2, g2, harr2⟩ := ihm t e2 s2 p2 (by omega) hy (allP_append.1 hn).2 a1 w1 fr k cs g1
              exact ⟨e'', a2, w2, g2, .of_steps (Steps.trans harr (.one step_inLoop)) harr2⟩
          | exit i =>
            simp only [Option.some.injEq, Prod.mk.injEq] at h
            obtain ⟨rfl, rfl, rfl⟩ := h
            obtain ⟨e', a1, w1, ⟨ae, t, rfl, g1, rfl, rfl⟩, harr⟩ := hrunx hn a w hrel fr (.inLoop x :: k) cs
            exact ⟨_, a1, w1, ⟨_, t, rfl, g1, rfl, rfl⟩, .pass (x := .inLoop x) rfl (fun _ _ => .inl (by simp [AEx.conc])) harr⟩
          | ret =>
            simp only [Option.some.injEq, Prod.mk.injEq] at h
            obtain ⟨rfl, rfl, rfl⟩ := h
            obtain ⟨e', a1, w1, ⟨ae, t, rfl, g1, rfl, rfl⟩, harr⟩ := hrunx hn a w hrel fr (.inLoop x :: k) cs
            exact ⟨_, a1, w1, ⟨_, t, rfl, g1, rfl, rfl⟩, .pass (x := .inLoop x) rfl (fun _ _ => .inl (by simp [AEx.conc])) harr⟩
    intro a w hrel fr k cs
    obtain ⟨e', a', w', g1, harr⟩ := key (n + 1) s e s' need (Nat.le_refl _) h hn a w fr k cs hrel
    exact ⟨e', a', w', g1, .of_steps (.one step_loop) harr⟩
  | n + 1, .scope x, s, _, e, s', need, h, _ => by simp [codeAV] at h
  | n + 1, .goto l, s, _, e, s', need, h, _ => by simp [codeAV] at h
  | n + 1, .refuse l, s, _, e, s', need, h, _ => by simp [codeAV] at h
  | n + 1, .rangeFunc _ _ _ _, s, _, e, s', need, h, _ => by simp [codeAV] at h
include hT hΓ hm in
theorem AWp.step (n : Nat) (hd : dstOK nt x = true) {e : AEx} {s' : AState} {need : List Prop} (hc : codeAV T Γ n x s = some (e, s', need)) (hn : allP need) (h : Q e s') : AWp P c nt x s Q :=
  (AWp.run hT hΓ hm n hd hc hn).mono fun _ _ ⟨h1, h2⟩ => by subst h1; subst h2; exact h
end rules
end Go.Am

/- Weaker states; whole functions. -/
namespace Go.Am
open AV
def avLe (ρ : Nat → Option Nat) (u v : AV) : Prop := v.isAgg = u.isAgg ∧ ∀ M w β cs, CReps M w β [u] cs → CReps M w (fun k => (ρ k).bind β) [v] cs
structure objLe (ρ : Nat → Option Nat) (o1 o2 : AObj) : Prop where
  row : o2.row = o1.row
  wr : o2.wr = o1.wr
  es : o2.es = o1.es
  len : o2.len = o1.len
  f : ∀ i, i < o1.len → avLe ρ (o1.f i) (o2.f i)
theorem bind_noKeys {ρ : Nat → Option Nat} : (fun k => (ρ k).bind noKeys) = noKeys := by
  funext k
  cases ρ k <;> rfl
section weak
variable {c c' : Ctx} {st st2 : Store} {D D2 : Nat → Prop} {β β2 : KMap} {w : World} {ρ : Nat → Option Nat}
theorem mset_weak (hMf : c'.Mf = c.Mf) (hst : ∀ k2 o2, look k2 st2 = some o2 → ∃ k1 o1, ρ k2 = some k1 ∧ look k1 st = some o1 ∧ objLe ρ o1 o2) (hβ : ∀ k2 k1, ρ k2 = some k1 → β2 k2 = β k1) :
    ∀ b, Mset c' st2 β2 b → Mset c st β b := by
  rintro b (hb | ⟨k2, o2, N, h1, h2, h3⟩)
  · exact .inl (hMf ▸ hb)
  · obtain ⟨k1, o1, g1, g2, g3⟩ := hst k2 o2 h1
    exact .inr ⟨k1, o1, N, g2, by rw [← g3.wr]; exact h2, by rw [← hβ k2 k1 g1]; exact h3⟩
theorem CReps.weak {u v : AV} {cs : List Value} {M M' : Nat → Prop} (hM : ∀ b, M' b → M b) (hβ : ∀ k2 k1, ρ k2 = some k1 → β2 k2 = β k1) (hle : avLe ρ u v) (h : CReps M w β [u] cs) : CReps M' w β2 [v] cs := by
  refine (hle.2 M w β cs h).mono (fun b o h1 h2 => ⟨h2, fun h3 => h1 (hM b h3)⟩) β2 fun k x hk => ?_
  cases hr : ρ k with
  | none => rw [hr] at hk; simp at hk
  | some k1 =>
    rw [hr] at hk
    rw [hβ k k1 hr]; exact hk
theorem VRep1.weak {u v : AV} {x : Value} {M M' : Nat → Prop} (hM : ∀ b, M' b → M b) (hβ : ∀ k2 k1, ρ k2 = some k1 → β2 k2 = β k1) (hle : avLe ρ u v) (h : VRep1 M w β u x) : VRep1 M' w β2 v x := by
  obtain ⟨cs, h1, h2⟩ := h
  exact ⟨cs, h1.weak hM hβ hle, by rw [hle.1]; exact h2⟩
theorem WRel.weak (h : WRel c st D β w) (hMf : c'.Mf = c.Mf) (hw0 : c'.w0 = c.w0) (hMw : c'.Mw = c.Mw) (hinj : ∀ a b k, ρ a = some k → ρ b = some k → a = b)
    (hst : ∀ k2 o2, look k2 st2 = some o2 → ∃ k1 o1, ρ k2 = some k1 ∧ look k1 st = some o1 ∧ objLe ρ o1 o2) (hβ : ∀ k2 k1, ρ k2 = some k1 → β2 k2 = β k1)
    (hdom : ∀ k2 x, β2 k2 = some x → D2 k2) (hlt : ∀ k2 b (N : Nat × Nat), β2 k2 = some (b, N) → b < w.heap.size) (hkeep : ∀ k x, c'.k0 k = some x → β2 k = some x) : WRel c' st2 D2 β2 w := by
  have hM := mset_weak hMf hst hβ
  refine { obj := fun k2 o2 hk => ?_, inj := fun k k' o o' b N N' h1 h2 hw hb hb' => ?_, dom := hdom, keep := hkeep, lt := hlt, os := (by rw [hw0]; exact h.os), tape := (by rw [hw0]; exact h.tape), output := (by rw [hw0]; exact h.output), size := (by rw [hw0]; exact h.size), block := fun b => by rw [hw0, hMw]; exact h.block b, mflt := fun b => by rw [hw0, hMf, hMw]; exact h.mflt b, new := fun k o b N hk hw hb => ?_ }
  · obtain ⟨k1, o1, g1, g2, g3⟩ := hst k2 o2 hk
    obtain ⟨b, N, cs, ty, a1, a2, a3, a4, ⟨a5, a5'⟩, a6, a7, a8⟩ := h.obj k1 o1 g2
    have e2 : β2 k2 = some (b, N) := by rw [hβ k2 k1 g1]; exact a1
    refine ⟨b, N, cs, ty, e2, a2, by rw [g3.es]; exact a3, by rw [g3.es]; exact a4, ⟨by rw [g3.len]; exact a5, by rw [g3.len]; exact a5'⟩,
      fun hw => .inr ⟨k2, o2, N, hk, hw, e2⟩, fun hw hm => a7 (by rw [← g3.wr]; exact hw) (hM b hm), fun i hi => ?_⟩
    rw [g3.len] at hi
    obtain ⟨ps, p1, p2, p3⟩ := a8 i hi
    refine ⟨ps, by rw [g3.es]; exact p1, ?_, by rw [g3.es]; exact p3⟩
    rw [g3.row]
    cases hr : o1.row with
    | true =>
      rw [hr] at p2
      simp only [if_true] at p2 ⊢
      have := (g3.f i hi).2 _ _ _ _ p2
      rw [bind_noKeys] at this
      exact this.mono (fun b o h1 h2 => ⟨h2, fun h3 => h1 (hM b h3)⟩) _ fun _ _ h => h
    | false =>
      rw [hr] at p2
      simp only [Bool.false_eq_true, if_false] at p2 ⊢
      exact p2.weak hM hβ (g3.f i hi)
  · obtain ⟨k1, o1, g1, g2, g3⟩ := hst k o h1
    obtain ⟨k1', o1', g1', g2', g3'⟩ := hst k' o' h2
    rw [hβ k k1 g1] at hb
    rw [hβ k' k1' g1'] at hb'
    have := h.inj k1 k1' o1 o1' b N N' g2 g2' (by rw [← g3.wr]; exact hw) hb hb'
    subst this
    exact hinj k k' k1 g1 g1'
  · obtain ⟨k1, o1, g1, g2, g3⟩ := hst k o hk
    rw [hw0, hMw]
    exact h.new k1 o1 b N g2 (by rw [← g3.wr]; exact hw) (by rw [← hβ k k1 g1]; exact hb)
structure Le (c : Ctx) (ρ : Nat → Option Nat) (s s2 : AState) : Prop where
  inj : ∀ a b k, ρ a = some k → ρ b = some k → a = b
  slots : ∀ t v, look t s2.slots = some v → ∃ u, look t s.slots = some u ∧ u.isTuple = false ∧ avLe ρ u v
  store : ∀ k2 o2, look k2 s2.store = some o2 → ∃ k1 o1, ρ k2 = some k1 ∧ look k1 s.store = some o1 ∧ objLe ρ o1 o2
  dom : ∀ k2 k1, ρ k2 = some k1 → k2 < s2.next
  keep : ∀ k x, c.k0 k = some x → ρ k = some k
theorem Le.rel {nt : Nat} {s s2 : AState} (hle : Le c ρ s s2) {a : Act} (h : Rel c nt (fun k => k < s.next) s.slots s.store a w) : Rel c nt (fun k => k < s2.next) s2.slots s2.store a w := by
  obtain ⟨a1, a2, β, a3, a4⟩ := h
  have hβ : ∀ k2 k1, ρ k2 = some k1 → (fun k => (ρ k).bind β) k2 = β k1 := fun k2 k1 h => by simp [h]
  refine ⟨a1, a2, fun k => (ρ k).bind β, a3.weak rfl rfl rfl hle.inj hle.store hβ (fun k2 x hk => ?_) (fun k2 b N hk => ?_) (fun k x hk => ?_), fun t v ht => ?_⟩
  · cases hr : ρ k2 with
    | none => simp [hr] at hk
    | some k1 => exact hle.dom k2 k1 hr
  · cases hr : ρ k2 with
    | none => simp [hr] at hk
    | some k1 => simp [hr] at hk; exact a3.lt k1 b N hk
  · simp only [hle.keep k x hk, Option.bind_some]; exact a3.keep k x hk
  · obtain ⟨u, hu, htu, huv⟩ := hle.slots t v ht
    obtain ⟨x, hx, hv⟩ := a4 t u hu
    exact ⟨x, hx, ((hv.one htu).weak (mset_weak rfl hle.store hβ) hβ huv).vrep⟩
theorem AWp.weak {P : Program} {nt : Nat} {x : Code} {s s2 : AState} {Q : AEx → AState → Prop} (hle : Le c ρ s s2) (h : AWp P c nt x s2 Q) : AWp P c nt x s Q :=
  fun a w hr => h a w (hle.rel hr)
theorem AWp.loopLe {P : Program} {nt : Nat} {x : Code} {s : AState} {Q : AEx → AState → Prop} {α : Type} (S : α → AState) (I : α → Prop) (μ : α → Nat) (i : α) (hs : ∃ ρ, Le c ρ s (S i)) (h0 : I i)
    (round : ∀ i, I i → AWp P c nt x (S i) fun e s' => match e with
      | .normal => ∃ j, (∃ ρ, Le c ρ s' (S j)) ∧ I j ∧ μ j < μ i
      | e => Q e s') : AWp P c nt (.loop x) s Q := by
  intro a w hr
  obtain ⟨ρ, hle⟩ := hs
  refine wp_loop_with (fun i a w => I i ∧ Rel c nt (fun k => k < (S i).next) (S i).slots (S i).store a w) μ (s := i) ?_ ⟨h0, hle.rel hr⟩
  rintro i a w ⟨hi, hr⟩
  refine wp_mono (round i hi a w hr) ?_
  rintro e a' w' ⟨ae, s', rfl, h2, h3⟩
  cases ae with
  | normal =>
    obtain ⟨j, ⟨ρ, hle⟩, hj, hlt⟩ := h3
    exact ⟨j, ⟨hj, hle.rel h2⟩, hlt⟩
  | exit i => exact ⟨.exit i, s', rfl, h2, h3⟩
  | ret => exact ⟨.ret, s', rfl, h2, h3⟩
end weak
theorem VReps.noKeys {M : Nat → Prop} {w : World} {β : KMap} : ∀ {l : List AV} {xs : List Value}, VReps M w β l xs → keysL l = [] → VReps M w Am.noKeys l xs
  | [], [], _, _ => trivial
  | a :: l, x :: xs, h, hk => by
    simp only [keysL, List.append_eq_nil_iff] at hk
    obtain ⟨⟨cs, h1, h2⟩, h3⟩ := h
    exact ⟨⟨cs, keysL_noKeys h1 (by simp [keysL, hk.1]), h2⟩, VReps.noKeys h3 hk.2⟩
  | [], _ :: _, h, _ => h.elim
  | _ :: _, [], h, _ => h.elim
theorem zipSlots_ok {M : Nat → Prop} {w : World} {β : KMap} : ∀ {l : List AV} {xs : List Value} {i : Nat} {pre post : Array Value}, VReps M w β l xs → pre.size = i → SlRel M w β (zipSlots i l) (pre ++ xs.toArray ++ post)
  | [], [], i, pre, post, _, _ => fun t v h => by simp [zipSlots, look] at h
  | a :: l, x :: xs, i, pre, post, h, hp => by
    intro t v ht
    simp only [zipSlots, look] at ht
    split at ht
    · rename_i hit
      have hit' : i = t := by simpa using hit
      simp only [Option.some.injEq] at ht
      subst ht; subst hit'
      exact ⟨x, by rw [Array.append_assoc, Array.getElem?_append_right (by omega), ← hp, Nat.sub_self, Array.getElem?_append_left (by simp)]; simp, h.1.vrep⟩
    · have := zipSlots_ok (pre := pre.push x) (post := post) h.2 (i := i + 1) (by simp [hp]) t v ht
      have e : pre.push x ++ xs.toArray ++ post = pre ++ (x :: xs).toArray ++ post := by
        apply Array.ext'; simp
      rwa [e] at this
  | [], _ :: _, _, _, _, h, _ => h.elim
  | _ :: _, [], _, _, _, h, _ => h.elim
def avLe0 (u v : AV) : Prop := v.isAgg = u.isAgg ∧ ∀ M w cs, CReps M w noKeys [u] cs → CReps M w noKeys [v] cs
theorem avLe0.refl (u : AV) : avLe0 u u := ⟨rfl, fun _ _ _ h => h⟩
def avLes0 : List AV → List AV → Prop
  | [], [] => True
  | u :: us, v :: vs => avLe0 u v ∧ avLes0 us vs
  | _, _ => False
theorem avLes0.refl : ∀ l : List AV, avLes0 l l
  | [] => trivial
  | u :: l => ⟨.refl u, avLes0.refl l⟩
def resOK (us : List AV) (res : AV) : Prop :=
  match us, res with
  | [u], v => avLe0 u v
  | us, .tuple vs => avLes0 us vs
  | _, _ => False
def Ends (T : Types) (fn : Func) (res : AV) (s : AState) : Prop :=
  ∃ vs q us, resultsAV T s fn.results.toList = some (vs, q) ∧ allP q ∧ frzL (freezeAll (pick s.store (keysL vs))) vs = some us ∧ resOK us res
section funcs
variable {P : Program} {T : Types} (hT : TOK P T) {c : Ctx} {w : World}
include hT in
theorem results_ok {D : Nat → Prop} {β : KMap} {s : AState} {a : Act} (hw : WRel c s.store D β w) (hs : SlRel (Mset c s.store β) w β s.slots a.tmps) {g : ResultVar → Sem Value}
    (hg1 : ∀ t, g (.tmp t) = pure (a.tmps.getD t undef)) (hg2 : ∀ r t, g (.cell r t) = (do let x ← asAddr (a.tmps.getD r undef); loadVar t x)) :
    ∀ {l : List ResultVar} {vs : List AV} {q : List Prop}, resultsAV T s l = some (vs, q) → allP q → ∃ xs, (l.mapM g).run P w = .ok xs w ∧ VReps (Mset c s.store β) w β vs xs ∧ xs.length = l.length
  | [], vs, q, h, hq => by
    simp only [resultsAV, Option.some.injEq, Prod.mk.injEq] at h
    obtain ⟨rfl, rfl⟩ := h
    exact ⟨[], by simp, trivial, rfl⟩
  | x :: l, vs, q, h, hq => by
    simp only [resultsAV] at h
    cases hx : resultAV T s x with
    | none => rw [hx] at h; simp at h
    | some p =>
      obtain ⟨v, p1⟩ := p
      cases hl : resultsAV T s l with
      | none => rw [hx, hl] at h; simp at h
      | some p2 =>
        obtain ⟨vs', q'⟩ := p2
        rw [hx, hl] at h
        simp only [Option.some.injEq, Prod.mk.injEq] at h
        obtain ⟨rfl, rfl⟩ := h
        obtain ⟨xs, hxs, hv, hlen⟩ := results_ok hw hs hg1 hg2 hl (allP_append.1 hq).2
        have hone : ∃ y, (g x).run P w = .ok y w ∧ VRep1 (Mset c s.store β) w β v y := by
          cases x with
          | tmp t =>
            simp only [resultAV] at hx
            cases ht : look t s.slots with
            | none => rw [ht] at hx; simp at hx
            | some u =>
              rw [ht] at hx
              simp only at hx
              split at hx
              · simp at hx
              · rename_i htu
                simp only [Option.some.injEq, Prod.mk.injEq] at hx
                obtain ⟨rfl, _⟩ := hx
                obtain ⟨y, hy, hvy⟩ := hs t u ht
                refine ⟨y, ?_, hvy.one (by simpa using htu)⟩
                rw [hg1]
                simp [Array.getD_eq_getD_getElem?, hy]
          | cell r t =>
            simp only [resultAV] at hx
            cases ht : look t T with
            | none => rw [ht] at hx; simp at hx
            | some ti =>
              cases hr : look r s.slots with
              | none => rw [ht, hr] at hx; simp at hx
              | some pv =>
                rw [ht, hr] at hx
                simp only at hx
                cases hld : loadAV s.store ti pv with
                | none => rw [hld] at hx; simp at hx
                | some ld =>
                  rw [hld] at hx
                  simp only [Option.some.injEq, Prod.mk.injEq] at hx
                  obtain ⟨rfl, rfl⟩ := hx
                  obtain ⟨y, hy, hvy⟩ := hs r pv hr
                  obtain ⟨_, z, hz, hvz⟩ := load_ok hT hw (fun _ _ h => h) ht hvy hld (allP_append.1 hq).1
                  refine ⟨z, ?_, hvz⟩
                  rw [hg2]
                  simp only [Array.getD_eq_getD_getElem?, hy, Option.getD_some]
                  cases y with
                  | pointer ad =>
                    cases ad with
                    | some ad => simpa [Instr.loadAt, Instr.sureAddr, asAddr] using hz
                    | none => simp [Instr.loadAt, Instr.sureAddr] at hz
                  | _ => simp [Instr.loadAt, Instr.sureAddr] at hz
        obtain ⟨y, hy, hvy⟩ := hone
        exact ⟨y :: xs, by simp [List.mapM_cons, hy, hxs], ⟨hvy, hv⟩, by simp [hlen]⟩
theorem avLes0_ok {M : Nat → Prop} : ∀ {us vs : List AV} {xs : List Value}, avLes0 us vs → VReps M w noKeys us xs → VReps M w noKeys vs xs
  | [], [], [], _, _ => trivial
  | u :: us, v :: vs, x :: xs, h, hv => by
    obtain ⟨⟨cs, h1, h2⟩, h3⟩ := hv
    exact ⟨⟨cs, h.1.2 _ _ _ h1, by rw [h.1.1]; exact h2⟩, avLes0_ok h.2 h3⟩
  | [], _ :: _, _, h, _ => h.elim
  | _ :: _, [], _, h, _ => h.elim
  | _ :: _, _ :: _, [], _, h => h.elim
  | [], [], _ :: _, _, h => h.elim
theorem frzL_vreps {st pre : Store} {D : Nat → Prop} {β : KMap} (h : WRel c st D β w) (hpre : ∀ k o, look k pre = some o → look k st = some o) : ∀ {l m : List AV} {xs : List Value}, frzL pre l = some m → VReps (Mset c st β) w β l xs →
    VReps (Mset c st β) w noKeys m xs
  | [], m, [], hf, _ => by simp only [frzL, Option.some.injEq] at hf; subst hf; trivial
  | a :: l, m, x :: xs, hf, hv => by
    simp only [frzL] at hf
    cases ha : frz pre a with
    | none => rw [ha] at hf; simp at hf
    | some b =>
      cases hl : frzL pre l with
      | none => rw [ha, hl] at hf; simp at hf
      | some m' =>
        rw [ha, hl] at hf
        simp only [Option.some.injEq] at hf
        subst hf
        obtain ⟨⟨cs, h1, h2⟩, h3⟩ := hv
        obtain ⟨g1, g2⟩ := frz_ok h hpre ha h1
        exact ⟨⟨cs, g1, by rw [g2]; exact h2⟩, frzL_vreps h hpre hl h3⟩
  | [], _, _ :: _, _, h => h.elim
  | _ :: _, _, [], _, h => h.elim
include hT in
theorem ends_ok {fn : Func} {res : AV} {nt : Nat} {s : AState} {a : Act} (he : Ends T fn res s) (hr : Rel c nt (fun k => k < s.next) s.slots s.store a w) :
    a.defers = [] ∧ ∃ x β st', (results fn a.tmps).run P w = .ok x w ∧ WRel c st' (fun k => k < s.next) β w ∧ VRep (Mset c st' β) w noKeys res x ∧
      ∀ k o, look k s.store = some o → o.row = false → look k st' = some o := by
  obtain ⟨vs, q, us, h1, hq, h2, h3⟩ := he
  obtain ⟨a1, a2, β, a3, a4⟩ := hr
  refine ⟨a1, ?_⟩
  obtain ⟨xs, hxs, hv, hlen⟩ := results_ok hT a3 a4 (g := fun x => match x with
    | ResultVar.tmp t => pure (a.tmps.getD t undef)
    | ResultVar.cell r t => do let y ← asAddr (a.tmps.getD r undef); loadVar t y) (fun _ => rfl) (fun _ _ => rfl) h1 hq
  obtain ⟨f1, f2, f3⟩ := freeze_list (l := pick s.store (keysL vs)) a3 (fun k o hk => by
    rw [look_pick] at hk
    split at hk
    · exact hk
    · simp at hk) pick_nodup
  have hvs : VReps (Mset c (applyEff (frozenEff (pick s.store (keysL vs))) s.store) β) w β vs xs := hv.mono f2.heap f2.keys
  have hus := frzL_vreps f1 f3 h2 hvs
  have hx : ∃ x, (results fn a.tmps).run P w = .ok x w ∧ VRep (Mset c (applyEff (frozenEff (pick s.store (keysL vs))) s.store) β) w noKeys res x := by
    refine ⟨if h : xs.length = 1 then xs.toArray[0]'(by simpa using (show 0 < xs.length by omega)) else .tuple xs.toArray, ?_, ?_⟩
    · have key : results fn a.tmps = (do
          let vs ← fn.results.mapM fun x => match x with
            | ResultVar.tmp t => pure (a.tmps.getD t undef)
            | ResultVar.cell r t => do let y ← asAddr (a.tmps.getD r undef); loadVar t y
          pure (if h : vs.size = 1 then vs[0] else Value.tuple vs)) := rfl
      rw [key, Sem.run_bind, Array.mapM_eq_mapM_toList, Sem.run_map, hxs]
      simp only [Result.andThen_ok, Sem.run_pure]
      congr 1
    · unfold resOK at h3
      split at h3
      · rename_i u
        obtain ⟨x, rfl, hx⟩ := hus.single
        simp only [List.length_cons, List.length_nil, Nat.zero_add, dite_true, List.getElem_toArray, List.getElem_cons_zero]
        obtain ⟨cs, g1, g2⟩ := hx
        exact VRep1.vrep ⟨cs, h3.2 _ _ _ g1, by rw [h3.1]; exact g2⟩
      · rename_i us' vs' hne
        have hl1 : ¬ xs.length = 1 := by
          intro hl1
          have : ∀ {us : List AV} {xs : List Value}, VReps (Mset c (applyEff (frozenEff (pick s.store (keysL vs))) s.store) β) w noKeys us xs → us.length = xs.length := by
            intro us
            induction us with
            | nil => intro xs h; cases xs with
              | nil => rfl
              | cons _ _ => exact h.elim
            | cons u us ih => intro xs h; cases xs with
              | nil => exact h.elim
              | cons x xs => simp [ih h.2]
          have hl2 := this hus
          rw [hl1] at hl2
          match us, hl2, hne with
          | [u], _, hne => exact hne u rfl
        simp only [hl1, dite_false]
        exact ⟨xs, rfl, avLes0_ok h3 hus⟩
      · exact h3.elim
  obtain ⟨x, hx1, hx2⟩ := hx
  refine ⟨x, β, _, hx1, f1, hx2, fun k o hk hrow => ?_⟩
  rw [look_applyEff]
  have : effAt (frozenEff (pick s.store (keysL vs))) k = none := by
    have gen : ∀ l : Store, (∀ o', look k l = some o' → o'.row = false) → (l.map (·.1)).Nodup → effAt (frozenEff l) k = none := by
      intro l
      induction l with
      | nil => intros; rfl
      | cons p l ih =>
        obtain ⟨j, oj⟩ := p
        intro h hn
        simp only [List.map_cons, List.nodup_cons] at hn
        by_cases hjk : j = k
        · subst hjk
          have hrow' := h oj (by simp [look])
          simp only [frozenEff, hrow', Bool.false_and, Bool.false_eq_true, if_false]
          have hnl : look j l = none := by
            cases hl : look j l with
            | none => rfl
            | some o' =>
              exfalso
              apply hn.1
              have : ∀ l : Store, look j l = some o' → j ∈ l.map (·.1) := by
                intro l
                induction l with
                | nil => simp [look]
                | cons q l ih =>
                  obtain ⟨i, b⟩ := q
                  simp only [look]
                  split
                  · rename_i hh
                    intro _
                    have : i = j := by simpa using hh
                    simp [this]
                  · intro h2
                    simp only [List.map_cons, List.mem_cons]
                    exact .inr (ih h2)
              exact this l hl
          exact ih (fun o' ho' => by rw [hnl] at ho'; simp at ho') hn.2
        · have ih' := ih (fun o' ho' => h o' (by simp [look, hjk, ho'])) hn.2
          simp only [frozenEff]
          split
          · simp only [effAt, ih']
            simp [hjk]
          · exact ih'
    refine gen _ (fun o' ho' => ?_) pick_nodup
    rw [look_pick] at ho'
    split at ho'
    · rw [hk] at ho'; simp only [Option.some.injEq] at ho'; subst ho'; exact hrow
    · simp at ho'
  rw [this]; exact hk
structure FnIs (P : Program) (f : FuncId) (fn : Func) (x : Code) : Prop where
  get : P.funcs[f]? = some fn
  body : fn.body = some x
  name : (fn.name == "runtime.NumGoroutine") = false
  dst : dstOK fn.ntmps x = true
include hT in
theorem fok_pure {f : FuncId} {fn : Func} {x : Code} (hf : FnIs P f fn x) {args : List AV} {r : CRes} (hk : keysL args = []) (hlen : args.length ≤ fn.ntmps) (hpost : r.post = [])
    (h : r.need → ∀ c : Ctx, c.k0 = noKeys → AWp P c fn.ntmps x ⟨zipSlots 0 args, [], 0⟩ fun e s' => (e = .normal ∨ e = .ret) ∧ Ends T fn r.res s') (K : Nat) (pre : Store) : FOK P f K args pre r := by
  refine FOK.frame (pre := []) ?_ (fun k o hk => by simp [look] at hk)
  intro need
  refine ⟨fun k o ho => by rw [hpost] at ho; simp [look] at ho, fun c D D' β w vs hw0 hMw hrel hD hK hv => .inl ⟨fn, hf.get, hf.name, by simp [hf.body], ?_⟩⟩
  have hv0 := hv.noKeys hk
  have hM0 : Mset { c with k0 := noKeys } [] noKeys = Mset c [] β := by
    funext b
    simp [Mset, look]
  have hlv : vs.length = args.length := by
    have : ∀ {l : List AV} {xs : List Value}, VReps (Mset c [] β) w β l xs → xs.length = l.length := by
      intro l
      induction l with
      | nil => intro xs h; cases xs with
        | nil => rfl
        | cons _ _ => exact h.elim
      | cons u us ih => intro xs h; cases xs with
        | nil => exact h.elim
        | cons x xs => simp [ih h.2]
    exact this hv
  have hstart : Rel { c with k0 := noKeys } fn.ntmps (fun k => k < 0) (zipSlots 0 args) [] { tmps := vs.toArray ++ Array.replicate (fn.ntmps - vs.toArray.size) undef, defers := [] } w := by
    refine ⟨rfl, by simp; omega, noKeys, ?_, ?_⟩
    · exact { obj := fun k o h => by simp [look] at h, inj := fun k k' o o' b N N' h => by simp [look] at h, dom := fun k x h => by simp [noKeys] at h, keep := fun k x h => h, lt := fun k b N h => by simp [noKeys] at h, os := hrel.os, tape := hrel.tape, output := hrel.output, size := hrel.size, block := hrel.block, mflt := hrel.mflt, new := fun k o b N h => by simp [look] at h }
    · rw [hM0]
      have := zipSlots_ok (pre := #[]) (post := Array.replicate (fn.ntmps - vs.toArray.size) undef) hv0 rfl
      simpa using this
  refine calls_of_wp hf.get hf.body (wp_mono (h need { c with k0 := noKeys } rfl _ w hstart) ?_)
  rintro e a' w' ⟨ae, s', rfl, hr', hex, hends⟩
  obtain ⟨hdef, x, β', st', hrun, hw', hvx, _⟩ := ends_ok hT hends hr'
  have hO : OpR c [] D' β w (toOpts r.post) r.res x w' := by
    rw [hpost]
    refine ⟨β, ?_, ?_, ?_⟩
    · exact { obj := fun k o h => by simp [look, toOpts, applyEff] at h, inj := fun k k' o o' b N N' h => by simp [look, toOpts, applyEff] at h, dom := fun k x h => hD _ (hrel.dom k x h), keep := hrel.keep, lt := fun k b N h => Nat.lt_of_lt_of_le (hrel.lt k b N h) (by have := hw'.size; rw [← hw0]; exact this), os := hw'.os, tape := hw'.tape, output := hw'.output, size := hw'.size, block := hw'.block, mflt := hw'.mflt, new := fun k o b N h => by simp [look, toOpts, applyEff] at h }
    · refine ⟨fun b o hb ho => ⟨?_, hb⟩, fun k x hk => hk⟩
      have hlt : b < c.w0.heap.size := by rw [hw0]; exact heap_lt ho
      have := hw'.block b hlt (fun hm => hb (hMw b hm))
      rw [this]
      show c.w0.heap[b]? = _
      rw [hw0]; exact ho
    · refine hvx.mono (fun b o hb ho => ⟨ho, fun hm => hb ?_⟩) (fun k x hk => by simp [noKeys] at hk)
      rcases hm with hm | ⟨k, o, N, h1, _⟩
      · exact .inl hm
      · simp [look, toOpts, applyEff] at h1
  rcases hex with rfl | rfl
  · exact ⟨hdef, x, hrun, x, rfl, hO⟩
  · exact ⟨hdef, x, hrun, x, rfl, hO⟩
end funcs
end Go.Am

/- From a law's contract to the call that the row speaks of. -/
namespace Go.Am
open AV
end Go.Am

/- The evaluator with forks: where a condition is not known, both ways. -/
namespace Go.Am
open AV
inductive ATree (α : Type) where
  | leaf (e : AEx) (a : α)
  | must (l : List Prop) (t : ATree α)
  | fork (b : Bool) (t u : ATree α)
namespace ATree
variable {α β : Type}
def all (Q : AEx → α → Prop) : ATree α → Prop
  | leaf e a => Q e a
  | must l t => allP l ∧ t.all Q
  | fork b t u => (b = true → t.all Q) ∧ (b = false → u.all Q)
def need (l : List Prop) (t : ATree α) : ATree α := match l with
  | [] => t
  | l => must l t
def bind (f : AEx → α → Option (ATree β)) : ATree α → Option (ATree β)
  | leaf e a => f e a
  | must l t => match t.bind f with
    | some u => some (must l u)
    | none => none
  | fork b t u => match t.bind f, u.bind f with
    | some t', some u' => some (fork b t' u')
    | _, _ => none
theorem all_need {Q : AEx → α → Prop} {l : List Prop} {t : ATree α} : (need l t).all Q ↔ allP l ∧ t.all Q := by
  cases l with
  | nil => simp [need, allP]
  | cons p l => exact Iff.rfl
theorem bind_all {f : AEx → α → Option (ATree β)} {Q : AEx → β → Prop} : ∀ {t : ATree α} {u : ATree β}, t.bind f = some u → u.all Q → t.all fun e a => ∃ v, f e a = some v ∧ v.all Q
  | leaf e a, u, h, hu => ⟨u, h, hu⟩
  | must l t, u, h, hu => by
    simp only [bind] at h
    cases ht : t.bind f with
    | none => rw [ht] at h; simp at h
    | some v =>
      rw [ht] at h
      simp only [Option.some.injEq] at h
      subst h
      exact ⟨hu.1, bind_all ht hu.2⟩
  | fork b t u, v, h, hv => by
    simp only [bind] at h
    cases ht : t.bind f with
    | none => rw [ht] at h; simp at h
    | some t' =>
      cases hu : u.bind f with
      | none => rw [ht, hu] at h; simp at h
      | some u' =>
        rw [ht, hu] at h
        simp only [Option.some.injEq] at h
        subst h
        exact ⟨fun hb => bind_all ht (hv.1 hb), fun hb => bind_all hu (hv.2 hb)⟩
theorem all_mono {Q Q' : AEx → α → Prop} (h : ∀ e a, Q e a → Q' e a) : ∀ {t : ATree α}, t.all Q → t.all Q'
  | leaf _ _, ht => h _ _ ht
  | must _ _, ht => ⟨ht.1, all_mono h ht.2⟩
  | fork _ _ _, ht => ⟨fun hb => all_mono h (ht.1 hb), fun hb => all_mono h (ht.2 hb)⟩
end ATree
def guardsOf (forks : List Nat) (ops : List Oper) : List Oper → Nat → List (Nat × Nat)
  | [], _ => []
  | o :: l, i => match o.dst with
    | some d => if (forks.contains d || (forks.contains (d + 100000) || forks.contains (d + 200000))) && ops.any (fun p => match p.guard with
        | some (g, _) => g == i
        | none => false) then (i, if forks.contains d then d else if forks.contains (d + 100000) then d + 100000 else d + 200000) :: guardsOf forks ops l (i + 1) else guardsOf forks ops l (i + 1)
    | none => guardsOf forks ops l (i + 1)
def regT (T : Types) (Γ : Contracts) (ops : Array Oper) (d : Bool) (s : AState) : List (Nat × Nat) → List (Nat × Bool) → Option (ATree AState)
  | [], orc => match regionAV T Γ orc ops d s with
    | some (s', need) => some (.need need (.leaf .normal s'))
    | none => none
  | (g, t) :: gs, orc => match Nat.blt t 100000 with
    | false => match Nat.blt t 200000 with
      | true => regT T Γ ops d s gs ((g, true) :: orc)
      | false => regT T Γ ops d s gs ((g, false) :: orc)
    | true => match runOps T Γ orc ops.toList (ops.toList.take (g + 1)) 0 s with
      | some (s', _, _) => match look t s'.slots with
        | some (.bool b) => match regT T Γ ops d s gs ((g, true) :: orc), regT T Γ ops d s gs ((g, false) :: orc) with
          | some x, some y => some (.fork b x y)
          | _, _ => none
        | _ => regT T Γ ops d s gs orc
      | none => none
def forkOn (forks : List Nat) : Operand → Nat
  | .tmp t => if forks.contains t then 1 else if forks.contains (t + 100000) then 2 else if forks.contains (t + 200000) then 3 else 0
  | _ => 0
def treeAV (T : Types) (Γ : Contracts) (forks : List Nat) : Nat → Code → AState → Option (ATree AState)
  | 0, _, _ => none
  | n + 1, c, s => match c with
    | .skip => some (.leaf .normal s)
    | .label _ => some (.leaf .normal s)
    | .region _ ops d => regT T Γ ops d s (guardsOf forks ops.toList ops.toList 0) []
    | .seq x y => match treeAV T Γ forks n x s with
      | some t => t.bind fun e s' => match e with
        | .normal => treeAV T Γ forks n y s'
        | .exit i => some (.leaf (.exit i) s')
        | .ret => some (.leaf .ret s')
      | none => none
    | .cond b x y => match s.rho b with
      | some (.bool t) => match forkOn forks b with
        | 1 => match treeAV T Γ forks n x s, treeAV T Γ forks n y s with
          | some u, some v => some (.fork t u v)
          | _, _ => none
        | 2 => match treeAV T Γ forks n x s with
          | some u => some (.must [t = true] u)
          | none => none
        | 3 => match treeAV T Γ forks n y s with
          | some u => some (.must [t = false] u)
          | none => none
        | _ => match t with
          | true => treeAV T Γ forks n x s
          | false => treeAV T Γ forks n y s
      | _ => none
    | .block id x => match treeAV T Γ forks n x s with
      | some t => t.bind fun e s' => match e with
        | .normal => some (.leaf .normal s')
        | .exit j => match j == id with
          | true => some (.leaf .normal s')
          | false => some (.leaf (.exit j) s')
        | .ret => some (.leaf .ret s')
      | none => none
    | .loop x => match treeAV T Γ forks n x s with
      | some t => t.bind fun e s' => match e with
        | .normal => treeAV T Γ forks n (.loop x) s'
        | .exit j => some (.leaf (.exit j) s')
        | .ret => some (.leaf .ret s')
      | none => none
    | .exit id => some (.leaf (.exit id) s)
    | .ret => some (.leaf .ret s)
    | _ => none
section rules
variable {P : Program} {c : Ctx} {nt : Nat} {Q : AEx → AState → Prop} {T : Types} (hT : TOK P T) {Γ : Contracts} (hΓ : GOK P Γ) (hm : P.follows .mixedOrders = true)
include hT hΓ hm in
theorem regT_ok {id : Nat} {ops : Array Oper} {d : Bool} (hd : dstOK nt (.region id ops d) = true) {s : AState} : ∀ (gs : List (Nat × Nat)) (orc : List (Nat × Bool)) {t : ATree AState}, regT T Γ ops d s gs orc = some t → t.all Q →
    AWp P c nt (.region id ops d) s Q
  | [], orc, t, h, ht => by
    simp only [regT] at h
    cases hr : regionAV T Γ orc ops d s with
    | none => rw [hr] at h; simp at h
    | some q =>
      obtain ⟨s', need⟩ := q
      rw [hr] at h
      simp only [Option.some.injEq] at h
      subst h
      obtain ⟨h1, h2⟩ := ATree.all_need.1 ht
      exact .region hT hΓ hm hd hr h1 h2
  | (g, k) :: gs, orc, t, h, ht => by
    simp only [regT] at h
    split at h
    · split at h
      · exact regT_ok hd gs _ h ht
      · exact regT_ok hd gs _ h ht
    · split at h
      · split at h
        · split at h
          · rename_i x y hx hy
            simp only [Option.some.injEq] at h
            subst h
            exact (Bool.eq_false_or_eq_true _).elim (fun hb => regT_ok hd gs _ hx (ht.1 hb)) (fun hb => regT_ok hd gs _ hy (ht.2 hb))
          · simp at h
        · exact regT_ok hd gs _ h ht
      · simp at h
def AWpIn (P : Program) (c : Ctx) (nt : Nat) (x : Code) (s : AState) (Q : AEx → AState → Prop) : Prop :=
  ∀ a w, Rel c nt (fun k => k < s.next) s.slots s.store a w → ∀ fr k cs, ∃ e a' w', (∃ ae t, e = AEx.conc ae ∧ Rel c nt (fun k => k < t.next) t.slots t.store a' w' ∧ Q ae t) ∧
    Arrives P (lone (fr.at a (.code x :: .inLoop x :: k)) cs w) fr k cs e a' w'
theorem AWpIn.loop {x : Code} {s : AState} (h : AWpIn P c nt x s Q) : AWp P c nt (.loop x) s Q := by
  intro a w hrel fr k cs
  obtain ⟨e, a', w', g, harr⟩ := h a w hrel fr k cs
  exact ⟨e, a', w', g, .of_steps (.one step_loop) harr⟩
theorem AWpIn.round {x : Code} {s : AState} (h : AWp P c nt x s fun e s' => match e with
    | .normal => AWpIn P c nt x s' Q
    | e => Q e s') : AWpIn P c nt x s Q := by
  intro a w hrel fr k cs
  obtain ⟨e, a1, w1, ⟨ae, t, rfl, g1, g2⟩, harr⟩ := h a w hrel fr (.inLoop x :: k) cs
  cases ae with
  | normal =>
    obtain ⟨e2, a2, w2, hq2, harr2⟩ := g2 a1 w1 g1 fr k cs
    exact ⟨e2, a2, w2, hq2, .of_steps (Steps.trans harr (.one step_inLoop)) harr2⟩
  | exit i => exact ⟨_, a1, w1, ⟨.exit i, t, rfl, g1, g2⟩, .pass (x := .inLoop x) rfl (fun _ _ => .inl (by simp [AEx.conc])) harr⟩
  | ret => exact ⟨_, a1, w1, ⟨.ret, t, rfl, g1, g2⟩, .pass (x := .inLoop x) rfl (fun _ _ => .inl (by simp [AEx.conc])) harr⟩
include hT hΓ hm in
theorem treeAV_ok {forks : List Nat} : ∀ (n : Nat) {x : Code} {s : AState} {Q : AEx → AState → Prop}, dstOK nt x = true → ∀ {t : ATree AState}, treeAV T Γ forks n x s = some t → t.all Q → AWp P c nt x s Q
  | 0, x, s, Q, _, t, h, _ => by simp [treeAV] at h
  | n + 1, .skip, s, Q, _, t, h, ht => by
    simp only [treeAV, Option.some.injEq] at h
    subst h; exact .skip ht
  | n + 1, .label l, s, Q, _, t, h, ht => by
    simp only [treeAV, Option.some.injEq] at h
    subst h; exact .label ht
  | n + 1, .exit i, s, Q, _, t, h, ht => by
    simp only [treeAV, Option.some.injEq] at h
    subst h; exact .exit ht
  | n + 1, .ret, s, Q, _, t, h, ht => by
    simp only [treeAV, Option.some.injEq] at h
    subst h; exact .ret ht
  | n + 1, .region i ops d, s, Q, hd, t, h, ht => by
    simp only [treeAV] at h
    exact regT_ok hT hΓ hm hd _ _ h ht
  | n + 1, .seq x y, s, Q, hd, t, h, ht => by
    simp only [dstOK, Bool.and_eq_true] at hd
    simp only [treeAV] at h
    cases hx : treeAV T Γ forks n x s with
    | none => rw [hx] at h; simp at h
    | some u =>
      rw [hx] at h
      refine .seq (treeAV_ok n hd.1 hx (ATree.all_mono ?_ (ATree.bind_all h ht)))
      rintro e s' ⟨v, h1, h2⟩
      cases e with
      | normal => exact treeAV_ok n hd.2 h1 h2
      | exit i => simp only [Option.some.injEq] at h1; subst h1; exact h2
      | ret => simp only [Option.some.injEq] at h1; subst h1; exact h2
  | n + 1, .cond b x y, s, Q, hd, t, h, ht => by
    simp only [dstOK, Bool.and_eq_true] at hd
    simp only [treeAV] at h
    split at h
    · rename_i t' hb
      split at h
      · split at h
        · rename_i u v hu hv
          simp only [Option.some.injEq] at h
          subst h
          exact .cond hb (fun h' => treeAV_ok n hd.1 hu (ht.1 h')) (fun h' => treeAV_ok n hd.2 hv (ht.2 h'))
        · simp at h
      · split at h
        · rename_i u hu
          simp only [Option.some.injEq] at h
          subst h
          have hb' : t' = true := ht.1
          exact .cond hb (fun _ => treeAV_ok n hd.1 hu ht.2) (fun h' => by rw [hb'] at h'; simp at h')
        · simp at h
      · split at h
        · rename_i u hu
          simp only [Option.some.injEq] at h
          subst h
          have hb' : t' = false := ht.1
          exact .cond hb (fun h' => by rw [hb'] at h'; simp at h') (fun _ => treeAV_ok n hd.2 hu ht.2)
        · simp at h
      · split at h
        · exact .cond hb (fun _ => treeAV_ok n hd.1 h ht) (fun h' => by simp at h')
        · exact .cond hb (fun h' => by simp at h') (fun _ => treeAV_ok n hd.2 h ht)
    · simp at h
  | n + 1, .block id x, s, Q, hd, t, h, ht => by
    simp only [dstOK] at hd
    simp only [treeAV] at h
    cases hx : treeAV T Γ forks n x s with
    | none => rw [hx] at h; simp at h
    | some u =>
      rw [hx] at h
      refine .block (treeAV_ok n hd hx (ATree.all_mono ?_ (ATree.bind_all h ht)))
      rintro e s' ⟨v, h1, h2⟩
      cases e with
      | normal => simp only [Option.some.injEq] at h1; subst h1; exact h2
      | exit j =>
        simp only at h1 ⊢
        cases hj : j == id with
        | true =>
          rw [hj] at h1
          simp only [Option.some.injEq] at h1; subst h1
          rw [if_pos (by simpa using hj)]; exact h2
        | false =>
          rw [hj] at h1
          simp only [Option.some.injEq] at h1; subst h1
          rw [if_neg (by simpa using hj)]; exact h2
      | ret => simp only [Option.some.injEq] at h1; subst h1; exact h2
  | n + 1, .loop x, s, Q, hd, t, h, ht => by
    have key : ∀ (m : Nat) (s : AState) (t : ATree AState), m ≤ n + 1 → treeAV T Γ forks m (.loop x) s = some t → t.all Q → AWpIn P c nt x s Q := by
      intro m
      induction m with
      | zero => intro s t _ h; simp [treeAV] at h
      | succ m ihm =>
        intro s t hmn h ht
        simp only [treeAV] at h
        cases hx : treeAV T Γ forks m x s with
        | none => rw [hx] at h; simp at h
        | some u =>
          rw [hx] at h
          have hlen : m ≤ n := by omega
          refine .round (treeAV_ok m (by simpa [dstOK] using hd) hx (ATree.all_mono ?_ (ATree.bind_all h ht)))
          rintro e s' ⟨v, h1, h2⟩
          cases e with
          | normal => exact ihm s' v (by omega) h1 h2
          | exit i => simp only [Option.some.injEq] at h1; subst h1; exact h2
          | ret => simp only [Option.some.injEq] at h1; subst h1; exact h2
    exact (key (n + 1) s t (Nat.le_refl _) h ht).loop
  | n + 1, .scope x, s, Q, _, t, h, _ => by simp [treeAV] at h
  | n + 1, .goto l, s, Q, _, t, h, _ => by simp [treeAV] at h
  | n + 1, .refuse l, s, Q, _, t, h, _ => by simp [treeAV] at h
  | n + 1, .rangeFunc _ _ _ _, s, Q, _, t, h, _ => by simp [treeAV] at h
def slotOf (s : AState) (t : Nat) : AV := match look t s.slots with
  | some v => v
  | none => .tuple []
def allSlots (s : AState) : List Nat → List AV
  | [] => []
  | t :: l => slotOf s t :: allSlots s l
def viewAV (ls : List Nat) (s : AState) : Option (List AV × Store) :=
  some (allSlots s ls, pick s.store (keysL (allSlots s ls)))
def viewT (ls : List Nat) (e : AEx) (s : AState) : Option (ATree (List AV × Store)) :=
  match viewAV ls s with
  | some v => some (.leaf e v)
  | none => none
def endT (T : Types) (fn : Func) (e : AEx) (s : AState) : Option (ATree (List AV)) :=
  match e with
  | .exit _ => none
  | e => match resultsAV T s fn.results.toList with
    | some (vs, q) => match frzL (freezeAll (pick s.store (keysL vs))) vs with
      | some us => some (.need q (.leaf e us))
      | none => none
    | none => none
def funT (T : Types) (Γ : Contracts) (forks : List Nat) (n : Nat) (fn : Func) (x : Code) (s : AState) : Option (ATree (List AV)) :=
  match treeAV T Γ forks n x s with
  | some t => t.bind (endT T fn)
  | none => none
include hT hΓ hm in
theorem AWp.ends {fn : Func} {x : Code} {s : AState} {forks : List Nat} (n : Nat) (hd : dstOK nt x = true) {t : ATree (List AV)} (hc : funT T Γ forks n fn x s = some t) {res : AV} (h : t.all fun _ us => resOK us res) :
    AWp P c nt x s fun e s' => (e = .normal ∨ e = .ret) ∧ Ends T fn res s' := by
  unfold funT at hc
  cases hx : treeAV T Γ forks n x s with
  | none => rw [hx] at hc; simp at hc
  | some u =>
    rw [hx] at hc
    refine treeAV_ok hT hΓ hm n hd hx (ATree.all_mono ?_ (ATree.bind_all hc h))
    rintro e s' ⟨v, h1, h2⟩
    unfold endT at h1
    have key : ∀ {e' : AEx}, (match resultsAV T s' fn.results.toList with
        | some (vs, q) => match frzL (freezeAll (pick s'.store (keysL vs))) vs with
          | some us => some (ATree.need q (.leaf e' us))
          | none => none
        | none => none) = some v → Ends T fn res s' := by
      intro e' h1
      cases hr : resultsAV T s' fn.results.toList with
      | none => rw [hr] at h1; simp at h1
      | some p =>
        obtain ⟨vs, q⟩ := p
        rw [hr] at h1
        simp only at h1
        cases hf : frzL (freezeAll (pick s'.store (keysL vs))) vs with
        | none => rw [hf] at h1; simp at h1
        | some us =>
          rw [hf] at h1
          simp only [Option.some.injEq] at h1
          subst h1
          obtain ⟨g1, g2⟩ := ATree.all_need.1 h2
          exact ⟨vs, q, us, hr, g1, hf, g2⟩
    cases e with
    | normal => exact ⟨.inl rfl, key h1⟩
    | ret => exact ⟨.inr rfl, key h1⟩
    | exit i => simp at h1
include hT hΓ hm in
theorem fok_tree {f : FuncId} {fn : Func} {x : Code} (hf : FnIs P f fn x) {args : List AV} {r : CRes} (hk : keysL args = []) (hlen : args.length ≤ fn.ntmps) (hpost : r.post = []) {forks : List Nat} (n : Nat) {t : ATree (List AV)}
    (hc : funT T Γ forks n fn x ⟨zipSlots 0 args, [], 0⟩ = some t) (h : r.need → t.all fun _ us => resOK us r.res) (K : Nat) (pre : Store) : FOK P f K args pre r :=
  fok_pure hT hf hk hlen hpost (fun hn _ _ => .ends hT hΓ hm n hf.dst hc (h hn)) K pre
end rules
end Go.Am

/- Weaker values; states by what is seen of them; contracts of functions that only read. -/
namespace Go.Am
open AV
theorem keysL_single {v : AV} : keysL [v] = keys v := by simp [keysL]
theorem avLe_of0 {ρ : Nat → Option Nat} {u v : AV} (hk : keys u = []) (h : avLe0 u v) : avLe ρ u v := by
  refine ⟨h.1, fun M w β cs hc => ?_⟩
  have := h.2 M w cs (keysL_noKeys hc (by rw [keysL_single, hk]))
  exact this.mono (fun b o h1 h2 => ⟨h2, h1⟩) _ fun k x hx => by simp [noKeys] at hx
theorem avLe_pure {ρ : Nat → Option Nat} {u : AV} (hk : keys u = []) : avLe ρ u u := avLe_of0 hk (.refl u)
theorem avLe_int {ρ : Nat → Option Nat} {k : IntKind} {a b : Int} (h : a = b) : avLe ρ (.int k a) (.int k b) := h ▸ avLe_pure (by simp [keys])
theorem avLe_own {ρ : Nat → Option Nat} {k k2 es s s2 n n2 : Nat} (h : ρ k2 = some k) (hs : s = s2) (hn : n = n2) : avLe ρ (.own k es s n) (.own k2 es s2 n2) := by
  subst hs hn
  refine ⟨rfl, fun M w β cs hc => ?_⟩
  cases hc with
  | own h1 h2 h3 h4 h5 h6 =>
    cases h6
    exact .own (by simp [h, h1]) h2 h3 h4 h5 .nil
theorem avLe_ptr {ρ : Nat → Option Nat} {k k2 idx es off : Nat} {p : List Nat} (h : ρ k2 = some k) : avLe ρ (.ptr k idx es off p) (.ptr k2 idx es off p) := by
  refine ⟨rfl, fun M w β cs hc => ?_⟩
  cases hc with
  | ptr h1 h6 =>
    cases h6
    exact .ptr (by simp only [h, Option.bind_some]; exact h1) .nil
theorem avLe0.trans {a b c : AV} (h : avLe0 a b) (h' : avLe0 b c) : avLe0 a c := ⟨h'.1.trans h.1, fun M w cs hc => h'.2 M w cs (h.2 M w cs hc)⟩
theorem avLe0_of_eq {a b : AV} (h : a = b) : avLe0 a b := h ▸ .refl a
theorem avLe0_int {k : IntKind} {a b : Int} (h : a = b) : avLe0 (.int k a) (.int k b) := h ▸ .refl _
theorem avLe0_bool {a b : Bool} (h : a = b) : avLe0 (.bool a) (.bool b) := h ▸ .refl _
theorem avLes0_cells {M : Nat → Prop} {w : World} : ∀ {us vs : List AV} {cs : List Value}, avLes0 us vs → CReps M w noKeys us cs → CReps M w noKeys vs cs
  | [], [], _, _, h => h
  | u :: us, v :: vs, cs, hl, h => by
    obtain ⟨c1, c2, rfl, h1, h2⟩ := h.split
    exact (hl.1.2 M w c1 h1).cons (avLes0_cells hl.2 h2)
  | [], _ :: _, _, h, _ => h.elim
  | _ :: _, [], _, h, _ => h.elim
theorem avLe0_agg {us vs : List AV} (h : avLes0 us vs) : avLe0 (.agg us) (.agg vs) := by
  refine ⟨rfl, fun M w cs hc => ?_⟩
  cases hc with
  | agg h1 h2 => cases h2; exact .agg (avLes0_cells h h1) .nil
theorem avLe0_tab {es n : Nat} {f g : Nat → AV} (h : ∀ i, i < n → avLe0 (f i) (g i)) : avLe0 (.tab es n f) (.tab es n g) := by
  refine ⟨rfl, fun M w cs hc => ?_⟩
  cases hc with
  | tab h1 h2 h3 h4 h5 h6 => cases h6; exact .tab h1 h2 h3 h4 (fun i hi => (h i hi).2 _ _ _ (h5 i hi)) .nil
theorem avLe0_tab_eq {es n m : Nat} {f g : Nat → AV} (hn : n = m) (h : ∀ i, i < n → f i = g i) : avLe0 (.tab es n f) (.tab es m g) := hn ▸ avLe0_tab fun i hi => avLe0_of_eq (h i hi)
theorem limbsV_inv {N i : Nat} {v : Value} (h : (limbsV N)[i]? = some v) : i < nl N ∧ v = .int .u32 (limb N i) := by
  simp only [limbsV, List.getElem?_map] at h
  rw [Option.map_eq_some_iff] at h
  obtain ⟨a, h1, h2⟩ := h
  by_cases hi : i < nl N
  · rw [List.getElem?_range hi] at h1
    simp only [Option.some.injEq] at h1
    subst h1
    exact ⟨hi, h2.symm⟩
  · rw [List.getElem?_eq_none (by simpa using hi)] at h1
    simp at h1
def limbsF (z : Nat → Nat) : Nat → AV := fun i => .int .u32 (z i : Nat)
theorem avLe0_tab_mag {n N : Nat} {f : Nat → AV} (hn : nl N = n) (hf : ∀ i, i < n → f i = .int .u32 (limb N i : Nat)) : avLe0 (.tab 1 n f) (.mag N) := by
  subst hn
  refine ⟨rfl, fun M w cs hc => ?_⟩
  cases hc with
  | tab h1 h2 h3 h4 h5 h6 =>
    rename_i base cap cs cf
    cases h6
    have hcf : ∀ i, i < nl N → cf i = [.int .u32 (limb N i)] := fun i hi => by
      have := h5 i hi
      rw [hf i hi] at this
      revert this
      generalize cf i = l
      intro this
      cases this with
      | int h => cases h; rfl
    refine .mag ?_ h3 .nil
    rcases h1 with h1 | ⟨b, o, rfl, hm⟩
    · refine .inl ?_
      unfold nl at h1
      split at h1
      · assumption
      · omega
    · by_cases h0 : nl N = 0
      · refine .inl ?_
        unfold nl at h0
        split at h0
        · assumption
        · omega
      · refine .inr ⟨b, o, rfl, ?_⟩
        obtain ⟨c, ty, fr, g1, g2, g3⟩ := hm 0 (by omega)
        refine ⟨c, ty, fr, g1, g2, fun i v hv => ?_⟩
        obtain ⟨hi, rfl⟩ := limbsV_inv hv
        obtain ⟨c', ty', fr', g1', g2', g3'⟩ := hm i hi
        rw [g1] at g1'
        simp only [Option.some.injEq, Obj.cells.injEq] at g1'
        obtain ⟨rfl, rfl, rfl⟩ := g1'
        have := g3' 0 _ (by rw [hcf i hi]; rfl)
        simpa using this
theorem avLe0_mag_tab {N n : Nat} {f : Nat → AV} (hn : n = nl N) (hf : ∀ i, i < n → f i = .int .u32 (limb N i : Nat)) : avLe0 (.mag N) (.tab 1 n f) := by
  subst hn
  refine ⟨rfl, fun M w cs hc => ?_⟩
  cases hc with
  | mag h1 h2 h3 =>
    cases h3
    refine .tab (cf := fun i => [.int .u32 (limb N i)]) ?_ (by omega) h2 (fun _ _ => rfl) (fun i hi => by rw [hf i hi]; exact .int .nil) .nil
    rcases h1 with rfl | ⟨b, o, rfl, c, ty, fr, g1, g2, g3⟩
    · exact .inl (by simp [nl])
    · refine .inr ⟨b, o, rfl, fun i hi => ⟨c, ty, fr, g1, g2, fun j v hj => ?_⟩⟩
      cases j with
      | zero =>
        simp only [List.getElem?_cons_zero, Option.some.injEq] at hj
        subst hj
        have := g3 i _ (limbsV_get hi)
        simpa using this
      | succ j => simp at hj
theorem avLe0_nil_tab {es : Nat} {f : Nat → AV} (h : 0 < es) : avLe0 .nil (.tab es 0 f) := by
  refine ⟨rfl, fun M w cs hc => ?_⟩
  cases hc with
  | vnil h1 =>
    cases h1
    exact .tab (cf := fun _ => []) (.inl rfl) h (by omega) (fun i hi => by omega) (fun i hi => by omega) .nil
theorem avLe0_nil_mag : avLe0 .nil (.mag 0) := (avLe0_nil_tab (es := 1) (f := fun _ => .nil) (by omega)).trans (avLe0_tab_mag (by simp [nl]) fun i hi => by omega)
theorem avLe0_rat {b : Bool} {x y : Nat} {q : Rat} {n : Nat} (hs : Sz q n) (hb : b = decide (q < 0)) (hx : x = q.num.natAbs) (hy : y = if q.den = 1 then 0 else q.den) : avLe0 (.agg [.bool b, .mag x, .mag y]) (.rat q n) := by
  subst hb hx
  refine ⟨rfl, fun M w cs hc => ?_⟩
  cases hc with
  | agg h1 h2 =>
    cases h2
    cases h1 with
    | bool h1 =>
      obtain ⟨c1, c2, rfl, h1, h2⟩ := h1.split
      have l1 := h1.length
      have l2 := h2.length
      simp only [sizes, size] at l1 l2
      match c1, c2, l1, l2 with
      | [x], [y], _, _ => exact .rat hs h1 (hy ▸ h2) .nil
theorem avLe0_rat_agg {q : Rat} {n : Nat} : avLe0 (.rat q n) (.agg (AV.kids (.rat q n))) := by
  refine ⟨rfl, fun M w cs hc => ?_⟩
  cases hc with
  | rat hs h1 h2 h3 => cases h3; exact .agg (.bool (h1.cons h2)) .nil
theorem avLe0_rat_more {q : Rat} {n m : Nat} (h : n ≤ m) : avLe0 (.rat q n) (.rat q m) := by
  refine ⟨rfl, fun M w cs hc => ?_⟩
  cases hc with
  | rat hs h1 h2 h3 =>
    cases h3
    exact .rat ⟨Nat.lt_of_lt_of_le hs.1 (Nat.pow_le_pow_right (by omega) h), Nat.lt_of_lt_of_le hs.2 (Nat.pow_le_pow_right (by omega) h)⟩ h1 h2 .nil
def zipL {α : Type} : List Nat → List α → List (Nat × α)
  | k :: ks, a :: l => (k, a) :: zipL ks l
  | _, _ => []
def avLes (ρ : Nat → Option Nat) : List AV → List AV → Prop
  | [], [] => True
  | u :: us, v :: vs => (u.isTuple = false ∧ avLe ρ u v) ∧ avLes ρ us vs
  | _, _ => False
def objLes (ρ : Nat → Option Nat) (os : Store) : Store → Prop
  | [] => True
  | (k2, o2) :: ps => (∃ k1 o1, ρ k2 = some k1 ∧ look k1 os = some o1 ∧ objLe ρ o1 o2) ∧ objLes ρ os ps
theorem slotOf_look {s : AState} {t : Nat} (h : (slotOf s t).isTuple = false) : look t s.slots = some (slotOf s t) := by
  unfold slotOf at h ⊢
  split
  · assumption
  · rename_i hn
    rw [hn] at h
    simp [isTuple] at h
theorem view_slots {s : AState} : ∀ {ls : List Nat} {vs : List AV} {ρ : Nat → Option Nat}, avLes ρ (allSlots s ls) vs → ∀ t v, look t (zipL ls vs) = some v → ∃ u, look t s.slots = some u ∧ u.isTuple = false ∧ avLe ρ u v
  | [], vs, ρ, _, t, v, h => by simp [zipL, look] at h
  | x :: ls, vs, ρ, hle, t, v, h => by
    cases vs with
    | nil => exact hle.elim
    | cons b vs =>
      simp only [zipL, look] at h
      split at h
      · rename_i he
        have : x = t := by simpa using he
        subst this
        simp only [Option.some.injEq] at h
        subst h
        exact ⟨_, slotOf_look hle.1.1, hle.1.1, hle.1.2⟩
      · exact view_slots hle.2 t v h
theorem view_objs {os : Store} : ∀ {ps : Store} {ρ : Nat → Option Nat}, objLes ρ os ps → ∀ k2 o2, look k2 ps = some o2 → ∃ k1 o1, ρ k2 = some k1 ∧ look k1 os = some o1 ∧ objLe ρ o1 o2
  | [], _, _, _, _, h => by simp [look] at h
  | (j, b) :: ps, ρ, hle, t, v, h => by
    simp only [look] at h
    split at h
    · rename_i he
      have : j = t := by simpa using he
      subst this
      simp only [Option.some.injEq] at h
      subst h
      exact hle.1
    · exact view_objs hle.2 t v h
def ren (l : List (Nat × Nat)) : Nat → Option Nat := fun k => look k l
def renOK (nx : Nat) (l : List (Nat × Nat)) : Bool := l.all fun p => decide (p.1 < nx) && l.all fun q => p.2 != q.2 || p.1 == q.1
theorem look_mem {α : Type} {k : Nat} {a : α} : ∀ {l : List (Nat × α)}, look k l = some a → (k, a) ∈ l
  | [], h => by simp [look] at h
  | (j, b) :: l, h => by
    simp only [look] at h
    split at h
    · rename_i he
      have : j = k := by simpa using he
      subst this
      simp only [Option.some.injEq] at h
      subst h
      simp
    · exact List.mem_cons_of_mem _ (look_mem h)
theorem le_viewK {c : Ctx} {s' : AState} {ls : List Nat} {us vs : List AV} {os ps : Store} {nx : Nat} (rl : List (Nat × Nat)) (hv : viewAV ls s' = some (us, os)) (hk0 : ∀ k x, c.k0 k = some x → look k rl = some k) (hr : renOK nx rl = true)
    (hs : avLes (ren rl) us vs) (ho : objLes (ren rl) os ps) : ∃ ρ, Le c ρ s' ⟨zipL ls vs, ps, nx⟩ := by
  unfold viewAV at hv
  · simp only [Option.some.injEq, Prod.mk.injEq] at hv
    obtain ⟨rfl, rfl⟩ := hv
    have hall : ∀ p ∈ rl, p.1 < nx ∧ ∀ q ∈ rl, p.2 = q.2 → p.1 = q.1 := fun p hp => by
      have := List.all_eq_true.1 hr p hp
      simp only [Bool.and_eq_true, decide_eq_true_eq] at this
      refine ⟨this.1, fun q hq he => ?_⟩
      have h3 := List.all_eq_true.1 this.2 q hq
      simpa [he] using h3
    refine ⟨ren rl, ?_, view_slots hs, fun k2 o2 hk => ?_, fun k2 k1 hk => (hall _ (look_mem hk)).1, hk0⟩
    · intro a b k ha hb
      exact (hall _ (look_mem ha)).2 _ (look_mem hb) rfl
    · obtain ⟨k1, o1, g1, g2, g3⟩ := view_objs ho k2 o2 hk
      refine ⟨k1, o1, g1, ?_, g3⟩
      rw [look_pick] at g2
      split at g2
      · exact g2
      · simp at g2
theorem le_view {c : Ctx} {s' : AState} {ls : List Nat} {us vs : List AV} {os ps : Store} {nx : Nat} (rl : List (Nat × Nat)) (hv : viewAV ls s' = some (us, os)) (hk0 : c.k0 = noKeys) (hr : renOK nx rl = true)
    (hs : avLes (ren rl) us vs) (ho : objLes (ren rl) os ps) : ∃ ρ, Le c ρ s' ⟨zipL ls vs, ps, nx⟩ :=
  le_viewK rl hv (fun k x hk => by rw [hk0] at hk; simp [noKeys] at hk) hr hs ho
theorem objLe_of {ρ : Nat → Option Nat} {r w : Bool} {es n m : Nat} {f g : Nat → AV} (hn : m = n) (h : ∀ i, i < n → avLe ρ (f i) (g i)) : objLe ρ ⟨r, w, es, n, f⟩ ⟨r, w, es, m, g⟩ := ⟨rfl, rfl, rfl, hn, h⟩
theorem fok_weak {P : Program} {f : FuncId} {K : Nat} {args args' : List AV} {r : CRes} (hf : FOK P f K args' [] r) (hk : keysL args = []) (h : avLes0 args args') (pre : Store) : FOK P f K args pre r := by
  refine FOK.frame (pre := []) ?_ (fun k o hk => by simp [look] at hk)
  intro need
  obtain ⟨h1, h2⟩ := hf need
  refine ⟨h1, fun c D D' β w vs hw0 hMw hrel hD hK hv => h2 c D D' β w vs hw0 hMw hrel hD hK ?_⟩
  have h3 := avLes0_ok h (hv.noKeys hk)
  exact h3.mono (fun b o h1 h2 => ⟨h2, h1⟩) fun k x hx => by simp [noKeys] at hx
def pureSpec (g : List AV → Option CRes) : Spec := fun _ args pre => match frzL pre args with
  | some ar => match g ar with
    | some r => match r.post with
      | [] => some r
      | _ => none
    | none => none
  | none => none
mutual
theorem frz_keys {pre : Store} : ∀ {v u : AV}, frz pre v = some u → keys u = []
  | .bool _, u, h => by simp only [frz, Option.some.injEq] at h; subst h; rfl
  | .int _ _, u, h => by simp only [frz, Option.some.injEq] at h; subst h; rfl
  | .rat _ _, u, h => by simp only [frz, Option.some.injEq] at h; subst h; rfl
  | .mag _, u, h => by simp only [frz, Option.some.injEq] at h; subst h; rfl
  | .tab _ _ _, u, h => by simp only [frz, Option.some.injEq] at h; subst h; rfl
  | .ntab _ _ _ _, u, h => by simp only [frz, Option.some.injEq] at h; subst h; rfl
  | .nil, u, h | .void, u, h | .str _, u, h => by simp only [frz, Option.some.injEq] at h; subst h; rfl
  | .cref _, u, h => by simp only [frz, Option.some.injEq] at h; subst h; rfl
  | .ptr _ _ _ _ _, u, h => by simp [frz] at h
  | .tuple _, u, h => by simp [frz] at h
  | .func f [], u, h => by simp only [frz, Option.some.injEq] at h; subst h; rfl
  | .func f (_ :: _), u, h => by simp [frz] at h
  | .own k es s n, u, h => by
    simp only [frz] at h
    split at h
    · split at h
      · simp only [Option.some.injEq] at h; subst h; rfl
      · simp at h
    · simp at h
  | .agg l, u, h => by
    simp only [frz] at h
    split at h
    · rename_i m hm
      simp only [Option.some.injEq] at h; subst h
      simp only [keys]; exact frzL_keys hm
    · simp at h
theorem frzL_keys {pre : Store} : ∀ {l m : List AV}, frzL pre l = some m → keysL m = []
  | [], m, h => by simp only [frzL, Option.some.injEq] at h; subst h; rfl
  | a :: l, m, h => by
    simp only [frzL] at h
    split at h
    · rename_i b m' h1 h2
      simp only [Option.some.injEq] at h; subst h
      simp only [keysL, frz_keys h1, frzL_keys h2, List.append_nil]
    · simp at h
end
theorem pureSpec_ok {P : Program} {f : FuncId} {g : List AV → Option CRes} (h : ∀ K args r, keysL args = [] → g args = some r → r.post = [] → FOK P f K args [] r) :
    ∀ K args pre r, pureSpec g K args pre = some r → FOK P f K args pre r := by
  intro K args pre r hg
  unfold pureSpec at hg
  split at hg
  · rename_i ar has
    split at hg
    · rename_i r' hr'
      split at hg
      · rename_i hp
        simp only [Option.some.injEq] at hg
        subst hg
        have hf := h K ar r' (frzL_keys has) hr' hp
        intro need
        obtain ⟨h1, h2⟩ := hf need
        refine ⟨fun k o ho => by rw [hp] at ho; simp [look] at ho, fun c D D' β w vs hw0 hMw hrel hD hK hv => ?_⟩
        have hv' : VReps (Mset c pre β) w noKeys ar vs := frzL_vreps hrel (fun _ _ h => h) has hv
        exact (hf.frame (pre' := pre) (fun k o hk => by simp [look] at hk)).use need hrel (fun _ _ h => h) hD hK (hv'.mono (fun b o h1 h2 => ⟨h2, h1⟩) fun k x hx => by simp [noKeys] at hx)
      · simp at hg
    · simp at hg
  · simp at hg
end Go.Am

/- Parts of code; a piece of code inside a chain; loops. -/
namespace Go.Am
def part : Code → List Nat → Code
  | c, [] => c
  | .seq x _, 0 :: p => part x p
  | .seq _ y, _ :: p => part y p
  | .cond _ x _, 0 :: p => part x p
  | .cond _ _ y, _ :: p => part y p
  | .block _ x, _ :: p => part x p
  | .loop x, _ :: p => part x p
  | _, _ => .skip
def before : Code → List Nat → List Code
  | .seq x _, 0 :: p => before x p
  | .seq x y, _ :: p => x :: before y p
  | _, _ => []
def behind : Code → List Nat → List Code
  | .seq x y, 0 :: p => behind x p ++ [y]
  | .seq _ y, _ :: p => behind y p
  | _, _ => []
def chain : Code → List Nat → Bool
  | _, [] => true
  | .seq x _, 0 :: p => chain x p
  | .seq _ y, _ :: p => chain y p
  | _, _ => false
def codeOf (fn : Func) : Code := match fn.body with
  | some x => x
  | none => .skip
def thenDo (k : AState → Prop) (Q : AEx → AState → Prop) : AEx → AState → Prop
  | .normal, s => k s
  | e, s => Q e s
def AWpL (P : Program) (c : Ctx) (nt : Nat) : List Code → AState → (AEx → AState → Prop) → Prop
  | [], s, Q => Q .normal s
  | x :: l, s, Q => AWp P c nt x s (thenDo (fun s' => AWpL P c nt l s' Q) Q)
section rules
variable {P : Program} {c : Ctx} {nt : Nat} {s : AState} {Q : AEx → AState → Prop}
theorem AWp.seq2 {x y : Code} (h : AWp P c nt x s (thenDo (fun s' => AWp P c nt y s' Q) Q)) : AWp P c nt (.seq x y) s Q :=
  .seq (h.mono fun e s' h => by cases e <;> exact h)
theorem AWpL.mono {Q Q' : AEx → AState → Prop} (hq : ∀ e s', Q e s' → Q' e s') : ∀ {l : List Code} {s : AState}, AWpL P c nt l s Q → AWpL P c nt l s Q'
  | [], _, h => hq _ _ h
  | x :: l, s, h => AWp.mono h fun e s' h => by
    cases e with
    | normal => exact AWpL.mono hq (l := l) h
    | exit i => exact hq _ _ h
    | ret => exact hq _ _ h
theorem AWpL.append {Q : AEx → AState → Prop} : ∀ {a b : List Code} {s : AState}, AWpL P c nt (a ++ b) s Q → AWpL P c nt a s (thenDo (fun s' => AWpL P c nt b s' Q) Q)
  | [], b, s, h => h
  | x :: a, b, s, h => AWp.mono h fun e s' h => by
    cases e with
    | normal => exact AWpL.append (a := a) h
    | exit i => exact h
    | ret => exact h
theorem AWp.hole : ∀ (p : List Nat) {x : Code} {s : AState} {Q : AEx → AState → Prop}, chain x p = true →
    AWpL P c nt (before x p) s (thenDo (fun s' => AWp P c nt (part x p) s' (thenDo (fun s'' => AWpL P c nt (behind x p) s'' Q) Q)) Q) → AWp P c nt x s Q
  | [], x, s, Q, _, h => by
    have hb : before x [] = [] := by cases x <;> rfl
    have hh : behind x [] = [] := by cases x <;> rfl
    have hp : part x [] = x := by cases x <;> rfl
    rw [hb, hh, hp] at h
    exact AWp.mono h fun e s' h => by cases e <;> exact h
  | 0 :: p, .seq x y, s, Q, hc, h => by
    refine .seq2 (AWp.hole p (x := x) hc ?_)
    refine AWpL.mono ?_ h
    intro e s' h1
    cases e with
    | normal =>
      refine AWp.mono h1 ?_
      intro e s'' h2
      cases e with
      | normal =>
        refine AWpL.mono ?_ (AWpL.append h2)
        intro e s3 h3
        cases e with
        | normal => exact AWp.mono h3 fun e s' h => by cases e <;> exact h
        | exit i => exact h3
        | ret => exact h3
      | exit i => exact h2
      | ret => exact h2
    | exit i => exact h1
    | ret => exact h1
  | (n + 1) :: p, .seq x y, s, Q, hc, h => by
    refine .seq2 (AWp.mono h ?_)
    intro e s' h1
    cases e with
    | normal => exact AWp.hole p (x := y) hc h1
    | exit i => exact h1
    | ret => exact h1
  | _ :: _, .cond _ _ _, _, _, hc, _ => by simp [chain] at hc
  | _ :: _, .block _ _, _, _, hc, _ => by simp [chain] at hc
  | _ :: _, .loop _, _, _, hc, _ => by simp [chain] at hc
  | _ :: _, .region _ _ _, _, _, hc, _ => by simp [chain] at hc
  | _ :: _, .skip, _, _, hc, _ => by simp [chain] at hc
  | _ :: _, .label _, _, _, hc, _ => by simp [chain] at hc
  | _ :: _, .exit _, _, _, hc, _ => by simp [chain] at hc
  | _ :: _, .ret, _, _, hc, _ => by simp [chain] at hc
  | _ :: _, .scope _, _, _, hc, _ => by simp [chain] at hc
  | _ :: _, .goto _, _, _, hc, _ => by simp [chain] at hc
  | _ :: _, .refuse _, _, _, hc, _ => by simp [chain] at hc
  | _ :: _, .rangeFunc _ _ _ _, _, _, hc, _ => by simp [chain] at hc
def inBlock (i : Nat) (Q : AEx → AState → Prop) : AEx → AState → Prop
  | .exit j, s => if j = i then Q .normal s else Q (.exit j) s
  | e, s => Q e s
theorem AWp.block2 {i : Nat} {x : Code} (h : AWp P c nt x s (inBlock i Q)) : AWp P c nt (.block i x) s Q :=
  .block (h.mono fun e s' h => by cases e <;> exact h)
theorem AWp.whileLe {x y : Code} {i : Nat} (hx : x = .block i (.loop y)) {α : Type} (S : α → AState) (I : α → Prop) (μ : α → Nat) (j : α) (hs : ∃ ρ, Le c ρ s (S j)) (h0 : I j)
    (round : ∀ j, I j → AWp P c nt y (S j) (thenDo (fun s' => ∃ k, (∃ ρ, Le c ρ s' (S k)) ∧ I k ∧ μ k < μ j) (inBlock i Q))) : AWp P c nt x s Q := by
  subst hx
  exact .block2 (.loopLe S I μ j hs h0 fun j hj => (round j hj).mono fun e s' h => by cases e <;> exact h)
variable {T : Types} (hT : TOK P T) {Γ : Contracts} (hΓ : GOK P Γ) (hm : P.follows .mixedOrders = true)
def treeL (T : Types) (Γ : Contracts) (forks : List Nat) (n : Nat) : List Code → AState → Option (ATree AState)
  | [], s => some (.leaf .normal s)
  | x :: l, s => match treeAV T Γ forks n x s with
    | some t => t.bind fun e s' => match e with
      | .normal => treeL T Γ forks n l s'
      | .exit i => some (.leaf (.exit i) s')
      | .ret => some (.leaf .ret s')
    | none => none
include hT hΓ hm in
theorem treeL_ok {forks : List Nat} {n : Nat} : ∀ {l : List Code} {s : AState} {t : ATree AState}, (l.all fun x => dstOK nt x) = true → treeL T Γ forks n l s = some t → t.all Q → AWpL P c nt l s Q
  | [], s, t, _, h, ht => by
    simp only [treeL, Option.some.injEq] at h
    subst h
    exact ht
  | x :: l, s, t, hd, h, ht => by
    simp only [List.all_cons, Bool.and_eq_true] at hd
    simp only [treeL] at h
    cases hx : treeAV T Γ forks n x s with
    | none => rw [hx] at h; simp at h
    | some u =>
      rw [hx] at h
      refine treeAV_ok hT hΓ hm n hd.1 hx (ATree.all_mono ?_ (ATree.bind_all h ht))
      rintro e s' ⟨v, h1, h2⟩
      cases e with
      | normal => exact treeL_ok hd.2 h1 h2
      | exit i => simp only [Option.some.injEq] at h1; subst h1; exact h2
      | ret => simp only [Option.some.injEq] at h1; subst h1; exact h2
def seeL (T : Types) (Γ : Contracts) (forks : List Nat) (n : Nat) (ls : List Nat) (l : List Code) (s : AState) : Option (ATree (List AV × Store)) :=
  match treeL T Γ forks n l s with
  | some t => t.bind (viewT ls)
  | none => none
include hT hΓ hm in
theorem AWpL.see {forks : List Nat} (n : Nat) (ls : List Nat) {l : List Code} {s : AState} {t : ATree (List AV × Store)} (hc : seeL T Γ forks n ls l s = some t) (hd : (l.all fun x => dstOK nt x) = true)
    (h : t.all fun e v => ∀ s', viewAV ls s' = some v → Q e s') : AWpL P c nt l s Q := by
  unfold seeL at hc
  split at hc
  · rename_i u hx
    refine treeL_ok hT hΓ hm hd hx (ATree.all_mono ?_ (ATree.bind_all hc h))
    rintro e s' ⟨v, h1, h2⟩
    unfold viewT at h1
    cases hv : viewAV ls s' with
    | none => rw [hv] at h1; simp at h1
    | some z =>
      rw [hv] at h1
      simp only [Option.some.injEq] at h1
      subst h1
      exact h2 s' hv
  · simp at hc
include hT hΓ hm in
theorem AWp.see {x : Code} {forks : List Nat} (n : Nat) (ls : List Nat) {t : ATree (List AV × Store)} (hc : seeL T Γ forks n ls [x] s = some t) (hd : dstOK nt x = true)
    (h : t.all fun e v => ∀ s', viewAV ls s' = some v → Q e s') : AWp P c nt x s Q := by
  have := AWpL.see (P := P) (c := c) (nt := nt) (l := [x]) (Q := Q) hT hΓ hm n ls hc (by simp [hd]) h
  exact AWp.mono this fun e s' h => by cases e <;> exact h
def endL (T : Types) (Γ : Contracts) (forks : List Nat) (n : Nat) (fn : Func) (l : List Code) (s : AState) : Option (ATree (List AV)) :=
  match treeL T Γ forks n l s with
  | some t => t.bind (endT T fn)
  | none => none
def Fin (T : Types) (fn : Func) (res : AV) (e : AEx) (s : AState) : Prop := (e = .normal ∨ e = .ret) ∧ Ends T fn res s
theorem endT_ok {fn : Func} {e : AEx} {s' : AState} {v : ATree (List AV)} {res : AV} (h1 : endT T fn e s' = some v) (h2 : v.all fun _ us => resOK us res) : Fin T fn res e s' := by
  unfold endT at h1
  have key : ∀ {e' : AEx}, (match resultsAV T s' fn.results.toList with
      | some (vs, q) => match frzL (freezeAll (pick s'.store (AV.keysL vs))) vs with
        | some us => some (ATree.need q (.leaf e' us))
        | none => none
      | none => none) = some v → Ends T fn res s' := by
    intro e' h1
    cases hr : resultsAV T s' fn.results.toList with
    | none => rw [hr] at h1; simp at h1
    | some p =>
      obtain ⟨vs, q⟩ := p
      rw [hr] at h1
      simp only at h1
      cases hf : frzL (freezeAll (pick s'.store (AV.keysL vs))) vs with
      | none => rw [hf] at h1; simp at h1
      | some us =>
        rw [hf] at h1
        simp only [Option.some.injEq] at h1
        subst h1
        obtain ⟨g1, g2⟩ := ATree.all_need.1 h2
        exact ⟨vs, q, us, hr, g1, hf, g2⟩
  cases e with
  | normal => exact ⟨.inl rfl, key h1⟩
  | ret => exact ⟨.inr rfl, key h1⟩
  | exit i => simp at h1
include hT hΓ hm in
theorem AWpL.fin {fn : Func} {forks : List Nat} (n : Nat) {l : List Code} {s : AState} {t : ATree (List AV)} (hc : endL T Γ forks n fn l s = some t) (hd : (l.all fun x => dstOK nt x) = true) {res : AV}
    (h : t.all fun _ us => resOK us res) : AWpL P c nt l s (Fin T fn res) := by
  unfold endL at hc
  split at hc
  · rename_i u hx
    refine treeL_ok hT hΓ hm hd hx (ATree.all_mono ?_ (ATree.bind_all hc h))
    rintro e s' ⟨v, h1, h2⟩
    exact endT_ok h1 h2
  · simp at hc
theorem AWpL.weak {l : List Code} {s2 : AState} (hl : l.isEmpty = false) (hle : ∃ ρ, Le c ρ s s2) (h : AWpL P c nt l s2 Q) : AWpL P c nt l s Q := by
  obtain ⟨ρ, hle⟩ := hle
  cases l with
  | nil => simp at hl
  | cons x l => exact AWp.weak hle h
theorem AWp.weakE {x : Code} {s2 : AState} (hle : ∃ ρ, Le c ρ s s2) (h : AWp P c nt x s2 Q) : AWp P c nt x s Q := by
  obtain ⟨ρ, hle⟩ := hle
  exact AWp.weak hle h
end rules
theorem fnIs {P : Program} {f : FuncId} {fn : Func} (h : P.funcs[f]? = some fn) (hb : fn.body.isSome = true) (hn : (fn.name == "runtime.NumGoroutine") = false) (hd : dstOK fn.ntmps (codeOf fn) = true) : FnIs P f fn (codeOf fn) := by
  refine ⟨h, ?_, hn, hd⟩
  unfold codeOf
  cases hbd : fn.body with
  | none => rw [hbd] at hb; simp at hb
  | some x => rfl
end Go.Am

/- Plain laws of limbs. -/
namespace Go.Am
def val : Nat → (Nat → Nat) → Nat
  | 0, _ => 0
  | n + 1, z => val n z + z n * 2 ^ (32 * n)
theorem val_lt {z : Nat → Nat} : ∀ {n : Nat}, (∀ i, i < n → z i < 2 ^ 32) → val n z < 2 ^ (32 * n)
  | 0, _ => by simp [val]
  | n + 1, h => by
    have ih := val_lt (z := z) (n := n) fun i hi => h i (by omega)
    have h1 := h n (by omega)
    have : z n * 2 ^ (32 * n) + 2 ^ (32 * n) ≤ 2 ^ 32 * 2 ^ (32 * n) := by
      rw [← Nat.succ_mul]; exact Nat.mul_le_mul_right _ h1
    have e : 2 ^ (32 * (n + 1)) = 2 ^ 32 * 2 ^ (32 * n) := by rw [← Nat.pow_add]; congr 1; omega
    rw [e, val]; omega
theorem val_congr {z y : Nat → Nat} : ∀ {n : Nat}, (∀ i, i < n → z i = y i) → val n z = val n y
  | 0, _ => rfl
  | n + 1, h => by rw [val, val, val_congr fun i hi => h i (by omega), h n (by omega)]
theorem val_trunc {z : Nat → Nat} {k : Nat} : ∀ {n : Nat}, k ≤ n → (∀ i, k ≤ i → i < n → z i = 0) → val n z = val k z
  | 0, h, _ => by have : k = 0 := by omega
                  subst this; rfl
  | n + 1, h, hz => by
    by_cases hk : k = n + 1
    · subst hk; rfl
    · rw [val, val_trunc (n := n) (by omega) fun i h1 h2 => hz i h1 (by omega), hz n (by omega) (by omega)]
      simp
theorem limb_val {z : Nat → Nat} : ∀ {n i : Nat}, (∀ j, j < n → z j < 2 ^ 32) → i < n → limb (val n z) i = z i
  | 0, i, _, hi => by omega
  | n + 1, i, h, hi => by
    unfold limb
    rw [val]
    by_cases he : i = n
    · subst he
      have := val_lt (z := z) (n := i) fun j hj => h j (by omega)
      rw [Nat.add_mul_div_right _ _ (Nat.two_pow_pos _), Nat.div_eq_of_lt this, Nat.zero_add]
      exact Nat.mod_eq_of_lt (h i (by omega))
    · have ih := limb_val (z := z) (n := n) (i := i) (fun j hj => h j (by omega)) (by omega)
      unfold limb at ih
      have e : 2 ^ (32 * n) = 2 ^ 32 * 2 ^ (32 * (n - i - 1)) * 2 ^ (32 * i) := by
        rw [← Nat.pow_add, ← Nat.pow_add]; congr 1; omega
      rw [e, ← Nat.mul_assoc, Nat.add_mul_div_right _ _ (Nat.two_pow_pos _), ← ih]
      rw [show z n * (2 ^ 32 * 2 ^ (32 * (n - i - 1))) = 2 ^ 32 * (z n * 2 ^ (32 * (n - i - 1))) by
        rw [← Nat.mul_assoc, Nat.mul_comm (z n), Nat.mul_assoc]]
      rw [Nat.add_mul_mod_self_left]
theorem limb_lt {N i : Nat} : limb N i < 2 ^ 32 := Nat.mod_lt _ (by decide)
theorem val_limb_mod {N : Nat} : ∀ {n : Nat}, val n (limb N) = N % 2 ^ (32 * n)
  | 0 => by simp [val, Nat.mod_one]
  | n + 1 => by
    rw [val, val_limb_mod, limb]
    have e : 2 ^ (32 * (n + 1)) = 2 ^ (32 * n) * 2 ^ 32 := by rw [← Nat.pow_add]; congr 1
    rw [e, Nat.mod_mul, Nat.mul_comm (2 ^ (32 * n))]
theorem val_limb {N n : Nat} (h : N < 2 ^ (32 * n)) : val n (limb N) = N := by rw [val_limb_mod, Nat.mod_eq_of_lt h]
theorem nl_spec {N n : Nat} : nl N ≤ n ↔ N < 2 ^ (32 * n) := by
  unfold nl
  by_cases h : N = 0
  · subst h; simp [Nat.two_pow_pos]
  · rw [if_neg h]
    rw [← Nat.log2_lt h]
    omega
theorem lt_nl {N : Nat} : N < 2 ^ (32 * nl N) := nl_spec.1 (Nat.le_refl _)
theorem val_nl {N : Nat} : val (nl N) (limb N) = N := val_limb lt_nl
theorem le_val {z : Nat → Nat} {n : Nat} (h0 : 0 < n) (h : z (n - 1) ≠ 0) : 2 ^ (32 * (n - 1)) ≤ val n z := by
  obtain ⟨m, rfl⟩ : ∃ m, n = m + 1 := ⟨n - 1, by omega⟩
  rw [val]
  simp only [Nat.add_sub_cancel] at h ⊢
  have : 1 * 2 ^ (32 * m) ≤ z m * 2 ^ (32 * m) := Nat.mul_le_mul_right _ (by omega)
  omega
theorem nl_val {z : Nat → Nat} {n : Nat} (hz : ∀ i, i < n → z i < 2 ^ 32) (h : n = 0 ∨ z (n - 1) ≠ 0) : nl (val n z) = n := by
  rcases Nat.eq_zero_or_pos n with rfl | h0
  · simp [val, nl]
  · have h1 : nl (val n z) ≤ n := nl_spec.2 (val_lt hz)
    have h2 : ¬ nl (val n z) ≤ n - 1 := by
      rw [nl_spec]
      have := le_val h0 (h.resolve_left (by omega))
      omega
    omega
theorem limb_top {N : Nat} (h : N ≠ 0) : limb N (nl N - 1) ≠ 0 := by
  intro h0
  have hn : 0 < nl N := by unfold nl; rw [if_neg h]; omega
  have h1 : val (nl N) (limb N) = val (nl N - 1) (limb N) := val_trunc (by omega) fun i h1 h2 => by
    have : i = nl N - 1 := by omega
    rw [this, h0]
  rw [val_nl] at h1
  have h3 : N < 2 ^ (32 * (nl N - 1)) := by
    exact Nat.lt_of_le_of_lt (Nat.le_of_eq h1) (val_lt (z := limb N) (n := nl N - 1) fun i _ => limb_lt)
  have h2 : nl N ≤ nl N - 1 := nl_spec.2 h3
  omega
theorem nl_pos {N : Nat} : 0 < nl N ↔ N ≠ 0 := by
  unfold nl
  split <;> simp_all
theorem nl_mono {a b : Nat} (h : a ≤ b) : nl a ≤ nl b := nl_spec.2 (Nat.lt_of_le_of_lt h lt_nl)
theorem wrap_i64 {x : Int} (h1 : -2 ^ 63 ≤ x) (h2 : x < 2 ^ 63) : IntKind.i64.wrap x = x := by
  simp [IntKind.wrap, IntKind.bits, IntKind.signed]; omega
theorem wrap_u64 {x : Int} (h1 : 0 ≤ x) (h2 : x < 2 ^ 64) : IntKind.u64.wrap x = x := by
  simp [IntKind.wrap, IntKind.bits, IntKind.signed]; omega
theorem wrap_u64_mod {x : Int} : IntKind.u64.wrap x = x % 2 ^ 64 := by
  simp [IntKind.wrap, IntKind.bits, IntKind.signed]
theorem wrap_u32_mod {x : Int} : IntKind.u32.wrap x = x % 2 ^ 32 := by
  simp [IntKind.wrap, IntKind.bits, IntKind.signed]
theorem wrap_u32 {x : Int} (h1 : 0 ≤ x) (h2 : x < 2 ^ 32) : IntKind.u32.wrap x = x := by
  rw [wrap_u32_mod]; omega
theorem wrap_u64_nat {x : Nat} : IntKind.u64.wrap (x : Int) = (x % 2 ^ 64 : Nat) := by
  rw [wrap_u64_mod]; omega
theorem wrap_u32_nat {x : Nat} : IntKind.u32.wrap (x : Int) = (x % 2 ^ 32 : Nat) := by
  rw [wrap_u32_mod]; omega
theorem or_u64 {a b : Nat} (ha : a < 2 ^ 64) (hb : b < 2 ^ 64) :
    IntKind.u64.wrap ((BitVec.ofInt IntKind.u64.bits (a : Int) ||| BitVec.ofInt IntKind.u64.bits (b : Int)).toNat : Int) = ((a ||| b : Nat) : Int) := by
  have e : (BitVec.ofInt IntKind.u64.bits (a : Int) ||| BitVec.ofInt IntKind.u64.bits (b : Int)).toNat = a ||| b := by
    rw [BitVec.toNat_or, BitVec.ofInt_natCast, BitVec.ofInt_natCast, BitVec.toNat_ofNat, BitVec.toNat_ofNat]
    rw [show IntKind.u64.bits = 64 from rfl, Nat.mod_eq_of_lt ha, Nat.mod_eq_of_lt hb]
  rw [e]
  have : a ||| b < 2 ^ 64 := Nat.or_lt_two_pow ha hb
  exact wrap_u64 (by omega) (by omega)
theorem and_u64 {a b : Nat} (ha : a < 2 ^ 64) (hb : b < 2 ^ 64) :
    IntKind.u64.wrap ((BitVec.ofInt IntKind.u64.bits (a : Int) &&& BitVec.ofInt IntKind.u64.bits (b : Int)).toNat : Int) = ((a &&& b : Nat) : Int) := by
  have e : (BitVec.ofInt IntKind.u64.bits (a : Int) &&& BitVec.ofInt IntKind.u64.bits (b : Int)).toNat = a &&& b := by
    rw [BitVec.toNat_and, BitVec.ofInt_natCast, BitVec.ofInt_natCast, BitVec.toNat_ofNat, BitVec.toNat_ofNat]
    rw [show IntKind.u64.bits = 64 from rfl, Nat.mod_eq_of_lt ha, Nat.mod_eq_of_lt hb]
  rw [e]
  have : a &&& b < 2 ^ 64 := Nat.and_lt_two_pow a hb
  exact wrap_u64 (by omega) (by omega)
theorem or_add {a b i : Nat} (h : b < 2 ^ i) : a * 2 ^ i ||| b = a * 2 ^ i + b := by
  rw [← Nat.shiftLeft_eq, ← Nat.shiftLeft_add_eq_or_of_lt h]
theorem fdiv32 {x : Int} : x.fdiv (2 ^ min (Int.toNat 32) IntKind.u64.bits) = x / 4294967296 := by
  have : min (Int.toNat 32) IntKind.u64.bits = 32 := rfl
  rw [this, Int.fdiv_eq_ediv_of_nonneg _ (by decide)]
  rfl
theorem fdiv63 {x : Int} : x.fdiv (2 ^ min (Int.toNat 63) IntKind.u64.bits) = x / 9223372036854775808 := by
  have : min (Int.toNat 63) IntKind.u64.bits = 63 := rfl
  rw [this, Int.fdiv_eq_ediv_of_nonneg _ (by decide)]
  rfl
theorem shl32 {x : Int} : x * 2 ^ min (Int.toNat 32) IntKind.u64.bits = x * 4294967296 := by
  have : min (Int.toNat 32) IntKind.u64.bits = 32 := rfl
  rw [this]; rfl
theorem carry_step {B c z y v t s : Nat} (hs : s = c + z + y) (h : v + c * B = t) : v + s % 4294967296 * B + s / 4294967296 * (4294967296 * B) = t + z * B + y * B := by
  have h1 := Nat.div_add_mod s 4294967296
  generalize s / 4294967296 = q at *
  generalize s % 4294967296 = r at *
  subst h1 h
  have : c * B + z * B + y * B = (4294967296 * q + r) * B := by rw [← Nat.add_mul, ← Nat.add_mul, hs]
  grind
theorem pow_succ32 {i : Nat} : 2 ^ (32 * (i + 1)) = 4294967296 * 2 ^ (32 * i) := by
  rw [show 32 * (i + 1) = 32 + 32 * i by omega, Nat.pow_add]
end Go.Am

/- Contracts over natural numbers. -/
namespace Go.Am
open AV
def numOf (v : AV) : Nat := match v with
  | .int _ z => z.toNat
  | _ => 0
def Limbs (n : Nat) (f : Nat → AV) : Prop := ∀ i, i < n → ∃ z : Nat, z < 2 ^ 32 ∧ f i = .int .u32 z
theorem numOf_limbsF {z : Nat → Nat} {i : Nat} : numOf (limbsF z i) = z i := by simp [numOf, limbsF]
theorem val_numOf {n : Nat} {z : Nat → Nat} : (val n fun i => numOf (limbsF z i)) = val n z := val_congr fun _ _ => numOf_limbsF
theorem limbs_limbsF {n : Nat} {z : Nat → Nat} (h : ∀ i, i < n → z i < 2 ^ 32) : Limbs n (limbsF z) := fun i hi => ⟨z i, h i hi, rfl⟩
def natOf : AV → Option (Nat × Nat × List Prop)
  | .mag N => some (N, nl N, [])
  | .nil => some (0, 0, [])
  | .tab es n f => if es == 1 then some (val n fun i => numOf (f i), n, [Limbs n f]) else none
  | _ => none
theorem natOf_ok {a : AV} {N n : Nat} {q : List Prop} (h : natOf a = some (N, n, q)) (hq : allP q) : ∃ z : Nat → Nat, (∀ i, i < n → z i < 2 ^ 32) ∧ val n z = N ∧ avLe0 a (.tab 1 n (limbsF z)) := by
  cases a <;> simp only [natOf, reduceCtorEq, Option.some.injEq, Prod.mk.injEq] at h
  case mag M =>
    obtain ⟨rfl, rfl, rfl⟩ := h
    exact ⟨limb M, fun i _ => limb_lt, val_nl, avLe0_mag_tab rfl fun i _ => rfl⟩
  case nil =>
    obtain ⟨rfl, rfl, rfl⟩ := h
    exact ⟨fun _ => 0, fun i hi => by omega, rfl, avLe0_nil_tab (by omega)⟩
  case tab es m f =>
    split at h
    · rename_i he
      simp only [Option.some.injEq, Prod.mk.injEq] at h
      obtain ⟨rfl, rfl, rfl⟩ := h
      have hq : Limbs m f := hq
      have he : es = 1 := by simpa using he
      subst he
      refine ⟨fun i => numOf (f i), fun i hi => ?_, rfl, avLe0_tab_eq rfl fun i hi => ?_⟩
      · obtain ⟨z, h1, h2⟩ := hq i hi
        simp only [h2, numOf]; omega
      · obtain ⟨z, h1, h2⟩ := hq i hi
        simp [h2, numOf, limbsF]
    · simp at h
def spec1 (g : Nat → Nat → CRes) : List AV → Option CRes
  | [a] => match natOf a with
    | some (N, n, q) => some ⟨(g N n).res, [], q ++ (g N n).needs⟩
    | none => none
  | _ => none
def spec2 (g : Nat → Nat → Nat → Nat → CRes) : List AV → Option CRes
  | [a, b] => match natOf a, natOf b with
    | some (A, n, p), some (B, m, q) => some ⟨(g A n B m).res, [], p ++ (q ++ (g A n B m).needs)⟩
    | _, _ => none
  | _ => none
def spec1u (g : Nat → Nat → Int → CRes) : List AV → Option CRes
  | [a, .int .u32 k] => match natOf a with
    | some (N, n, q) => some ⟨(g N n k).res, [], q ++ (g N n k).needs⟩
    | none => none
  | _ => none
abbrev pres (v : AV) (l : List Prop) : CRes := ⟨v, [], l⟩
section oks
variable {P : Program} {f : FuncId}
theorem spec1_ok {g : Nat → Nat → CRes} (h : ∀ z n K, (∀ i, i < n → z i < 2 ^ 32) → (g (val n z) n).need → FOK P f K [.tab 1 n (limbsF z)] [] (pres (g (val n z) n).res [])) :
    ∀ K args r, keysL args = [] → spec1 g args = some r → r.post = [] → FOK P f K args [] r := by
  intro K args r hk hs _ need
  match args, hs with
  | [a], hs =>
    simp only [spec1] at hs
    split at hs
    · rename_i N n q hn
      simp only [Option.some.injEq] at hs
      subst hs
      obtain ⟨n1, n2⟩ := allP_append.1 need
      obtain ⟨z, hz, rfl, hle⟩ := natOf_ok hn n1
      exact fok_weak (h z n K hz n2) hk ⟨hle, trivial⟩ [] trivial
    · simp at hs
theorem spec1u_ok {g : Nat → Nat → Int → CRes} (h : ∀ z n i K, (∀ i, i < n → z i < 2 ^ 32) → (g (val n z) n i).need → FOK P f K [.tab 1 n (limbsF z), .int .u32 i] [] (pres (g (val n z) n i).res [])) :
    ∀ K args r, keysL args = [] → spec1u g args = some r → r.post = [] → FOK P f K args [] r := by
  intro K args r hk hs _ need
  unfold spec1u at hs
  split at hs
  · rename_i a i
    split at hs
    · rename_i N n q hn
      simp only [Option.some.injEq] at hs
      subst hs
      obtain ⟨n1, n2⟩ := allP_append.1 need
      obtain ⟨z, hz, rfl, hle⟩ := natOf_ok hn n1
      exact fok_weak (h z n i K hz n2) hk ⟨hle, .refl _, trivial⟩ [] trivial
    · simp at hs
  · simp at hs
theorem spec2_ok {g : Nat → Nat → Nat → Nat → CRes} (h : ∀ z n y m K, (∀ i, i < n → z i < 2 ^ 32) → (∀ i, i < m → y i < 2 ^ 32) → (g (val n z) n (val m y) m).need →
      FOK P f K [.tab 1 n (limbsF z), .tab 1 m (limbsF y)] [] (pres (g (val n z) n (val m y) m).res [])) :
    ∀ K args r, keysL args = [] → spec2 g args = some r → r.post = [] → FOK P f K args [] r := by
  intro K args r hk hs _ need
  match args, hs with
  | [a, b], hs =>
    simp only [spec2] at hs
    split at hs
    · rename_i N n q M m p hn hm
      simp only [Option.some.injEq] at hs
      subst hs
      obtain ⟨n1, n4⟩ := allP_append.1 need
      obtain ⟨n2, n3⟩ := allP_append.1 n4
      obtain ⟨z, hz, rfl, hle⟩ := natOf_ok hn n1
      obtain ⟨y, hy, rfl, hle2⟩ := natOf_ok hm n2
      exact fok_weak (h z n y m K hz hy n3) hk ⟨hle, hle2, trivial⟩ [] trivial
    · simp at hs
theorem gok_nil {P : Program} : GOK P [] := fun f s h => by simp [look] at h
theorem gok_cons {f : FuncId} {s : Spec} {Γ : Contracts} (h : ∀ K args pre r, s K args pre = some r → FOK P f K args pre r) (hΓ : GOK P Γ) : GOK P ((f, s) :: Γ) := by
  intro f' s' hl
  simp only [look] at hl
  split at hl
  · rename_i he
    have : f = f' := by simpa using he
    subst this
    simp only [Option.some.injEq] at hl
    subst hl
    exact h
  · exact hΓ f' s' hl
end oks
def cmpI (a b : Nat) : Int := if a < b then -1 else if b < a then 1 else 0
def bitsN (N : Nat) : Nat := if N = 0 then 0 else N.log2 + 1
end Go.Am

/- Results that are seen; slices that may be nil. -/
namespace Go.Am
open AV
def resV (sl : List (Nat × AV)) : List ResultVar → Option (List AV)
  | [] => some []
  | .tmp t :: l => match look t sl, resV sl l with
    | some v, some m => if v.isTuple then none else some (v :: m)
    | _, _ => none
  | _ => none
def endV (fn : Func) (sl : List (Nat × AV)) : Option (List AV) :=
  match resV sl fn.results.toList with
  | some us => match keysL us with
    | [] => frzL [] us
    | _ => none
  | none => none
theorem look_view {s : AState} {t : Nat} {v : AV} (hv : v.isTuple = false) : ∀ {ls : List Nat}, look t (zipL ls (allSlots s ls)) = some v → look t s.slots = some v
  | [], h => by simp [zipL, look] at h
  | x :: ls, h => by
    simp only [allSlots, zipL, look] at h
    split at h
    · rename_i he
      have : x = t := by simpa using he
      subst this
      simp only [Option.some.injEq] at h
      subst h
      exact slotOf_look hv
    · exact look_view hv h
theorem resV_ok {T : Types} {s : AState} {ls : List Nat} : ∀ {l : List ResultVar} {us : List AV}, resV (zipL ls (allSlots s ls)) l = some us → resultsAV T s l = some (us, [])
  | [], us, h => by simp only [resV, Option.some.injEq] at h; subst h; rfl
  | .tmp t :: l, us, h => by
    simp only [resV] at h
    split at h
    · rename_i v m hv hm
      split at h
      · simp at h
      · rename_i ht
        simp only [Option.some.injEq] at h
        subst h
        simp only [resultsAV, resultAV, look_view (by simpa using ht) hv, resV_ok hm]
        simp [ht]
    · simp at h
  | .cell _ _ :: _, us, h => by simp [resV] at h
theorem fin_view {T : Types} {fn : Func} {ls : List Nat} {vs us : List AV} {os : Store} {e : AEx} {s' : AState} {res : AV} (he : e = .normal ∨ e = .ret) (hv : viewAV ls s' = some (vs, os)) (hr : endV fn (zipL ls vs) = some us) (hres : resOK us res) : Fin T fn res e s' := by
  unfold viewAV at hv
  simp only [Option.some.injEq, Prod.mk.injEq] at hv
  obtain ⟨rfl, _⟩ := hv
  unfold endV at hr
  split at hr
  · rename_i rs hrs
    split at hr
    · rename_i hk
      refine ⟨he, rs, [], us, resV_ok hrs, trivial, ?_, hres⟩
      rw [hk]; exact hr
    · simp at hr
  · simp at hr
theorem fok_nil1 {P : Program} {f : FuncId} {K es n : Nat} {g : Nat → AV} {l : List AV} {r : CRes} (h : ∀ b, (b = true → n = 0) → FOK P f K (.ntab b es n g :: l) [] r) : FOK P f K (.tab es n g :: l) [] r := by
  intro need
  refine ⟨((h false fun h => by simp at h) need).1, fun c D D' β w vs hw0 hMw hrel hD hK hv => ?_⟩
  match vs, hv with
  | x :: xs, hv =>
    obtain ⟨⟨cs, h1, h2⟩, h3⟩ := hv
    have : ∃ b, (b = true → n = 0) ∧ VRep1 (Mset c [] β) w β (.ntab b es n g) x := by
      cases h1 with
      | tab g1 g2 g3 g4 g5 g6 =>
        rename_i base cap cs' cf
        cases g6
        refine ⟨base.isNone, fun hb => ?_, _, .ntab rfl g1 g2 g3 g4 g5 .nil, h2⟩
        rcases g1 with g1 | ⟨b, o, rfl, _⟩
        · exact g1
        · simp at hb
    obtain ⟨b, hb0, hb⟩ := this
    exact ((h b hb0) need).2 c D D' β w (x :: xs) hw0 hMw hrel hD hK ⟨hb, h3⟩
theorem val_lt_of {z y : Nat → Nat} {k : Nat} : ∀ {n : Nat}, k < n → (∀ j, k < j → j < n → z j = y j) → z k < y k → (∀ i, i < n → z i < 2 ^ 32) → val n z < val n y
  | 0, h, _, _, _ => by omega
  | n + 1, h, he, hk, hz => by
    rw [val, val]
    by_cases hn : k = n
    · subst hn
      have h1 := val_lt (z := z) (n := k) fun i hi => hz i (by omega)
      have h2 : (z k + 1) * 2 ^ (32 * k) ≤ y k * 2 ^ (32 * k) := Nat.mul_le_mul_right _ hk
      rw [Nat.add_mul, Nat.one_mul] at h2
      omega
    · have := val_lt_of (n := n) (by omega) (fun j h1 h2 => he j h1 (by omega)) hk fun i hi => hz i (by omega)
      rw [he n (by omega) (by omega)]
      omega
theorem val_eq_of {A B : Nat} (hn : nl A = nl B) (h : ∀ i, i < nl A → limb A i = limb B i) : A = B := by
  rw [← val_nl (N := A), ← val_nl (N := B), ← hn]
  exact val_congr h
theorem limb_cmp {A B k : Nat} (hn : nl A = nl B) (hk : k < nl A) (h : ∀ j, k < j → j < nl A → limb A j = limb B j) (hlt : limb A k < limb B k) : A < B := by
  have := val_lt_of (z := limb A) (y := limb B) hk h hlt fun i _ => limb_lt
  rw [val_nl, hn, val_nl] at this
  exact this
theorem nl_cmp {A B : Nat} (h : nl A < nl B) : A < B := by
  rcases Nat.lt_or_ge A B with h1 | h1
  · exact h1
  · have := nl_mono h1; omega
theorem objLe_limbs {ρ : Nat → Option Nat} {r w : Bool} {n m : Nat} {f : Nat → AV} {o : Nat → Nat} (hn : m = n) (h : ∀ j, j < n → f j = limbsF o j) : objLe ρ ⟨r, w, 1, n, f⟩ ⟨r, w, 1, m, limbsF o⟩ :=
  objLe_of hn fun j hj => by rw [h j hj]; exact avLe_pure rfl
def setL (o : Nat → Nat) (i x : Nat) : Nat → Nat := fun j => if j = i then x else o j
theorem setL_same {o : Nat → Nat} {i x : Nat} : setL o i x i = x := if_pos rfl
theorem setL_ne {o : Nat → Nat} {i x j : Nat} (h : j ≠ i) : setL o i x j = o j := if_neg h
theorem setL_lt {o : Nat → Nat} {i x b : Nat} {n : Nat} (hx : x < b) (ho : ∀ j, j < n → o j < b) : ∀ j, j < n → setL o i x j < b := fun j hj => by
  unfold setL
  split
  · exact hx
  · exact ho j hj
theorem limbs_set {o : Nat → Nat} {i x : Nat} {v : Int} (hv : v = (x : Nat)) (j : Nat) : (if j = i then AV.int .u32 v else limbsF o j) = limbsF (setL o i x) j := by
  unfold limbsF setL
  split
  · rw [hv]
  · rfl
theorem val_setL {o : Nat → Nat} {i x : Nat} : ∀ {n : Nat}, i < n → o i = 0 → val n (setL o i x) = val n o + x * 2 ^ (32 * i)
  | 0, h, _ => by omega
  | n + 1, h, h0 => by
    rw [val, val]
    by_cases hn : i = n
    · subst hn
      rw [setL_same, h0, val_congr (y := o) fun j hj => setL_ne (by omega)]
      omega
    · rw [val_setL (n := n) (by omega) h0, setL_ne (by omega)]
      omega
theorem val_setL_end {o : Nat → Nat} {i x : Nat} : val (i + 1) (setL o i x) = val i o + x * 2 ^ (32 * i) := by
  rw [val, setL_same, val_congr (y := o) fun j hj => setL_ne (by omega)]
theorem bitsN_shift {x k : Nat} (h : 2 ^ k ≤ x) : bitsN x = k + bitsN (x / 2 ^ k) := by
  have hk := Nat.two_pow_pos k
  have h0 : x ≠ 0 := by omega
  have h1 : x / 2 ^ k ≠ 0 := by
    have := (Nat.le_div_iff_mul_le hk (x := 1) (y := x)).2 (by omega)
    omega
  unfold bitsN
  rw [if_neg h0, if_neg h1]
  have : x.log2 = k + (x / 2 ^ k).log2 := by
    obtain ⟨g1, g2⟩ := (Nat.log2_eq_iff h1).1 rfl
    rw [Nat.log2_eq_iff h0]
    refine ⟨?_, ?_⟩
    · rw [Nat.pow_add, Nat.mul_comm]
      exact (Nat.le_div_iff_mul_le hk).1 g1
    · rw [show k + (x / 2 ^ k).log2 + 1 = ((x / 2 ^ k).log2 + 1) + k by omega, Nat.pow_add]
      exact (Nat.div_lt_iff_lt_mul hk).1 g2
  omega
theorem bitsN_le {x k : Nat} : bitsN x ≤ k ↔ x < 2 ^ k := by
  unfold bitsN
  split
  · rename_i h; subst h; simp [Nat.two_pow_pos]
  · rename_i h; rw [← Nat.log2_lt h]; omega
theorem bitsN_limb {N : Nat} (h : N ≠ 0) : bitsN N = 32 * (nl N - 1) + bitsN (limb N (nl N - 1)) := by
  have hp := nl_pos.2 h
  have h1 : 2 ^ (32 * (nl N - 1)) ≤ N := by
    rcases Nat.lt_or_ge N (2 ^ (32 * (nl N - 1))) with h1 | h1
    · have := nl_spec.2 h1; omega
    · exact h1
  have h2 : N / 2 ^ (32 * (nl N - 1)) < 2 ^ 32 := by
    rw [Nat.div_lt_iff_lt_mul (Nat.two_pow_pos _), ← Nat.pow_add]
    have := lt_nl (N := N)
    rw [show 32 + 32 * (nl N - 1) = 32 * nl N by omega]
    exact this
  rw [bitsN_shift h1, limb, Nat.mod_eq_of_lt h2]
theorem val_setL_gen {o : Nat → Nat} {i x : Nat} : ∀ {n : Nat}, i < n → val n (setL o i x) + o i * 2 ^ (32 * i) = val n o + x * 2 ^ (32 * i)
  | 0, h => by omega
  | n + 1, h => by
    rw [val, val]
    by_cases hn : i = n
    · subst hn
      rw [setL_same, val_congr (y := o) fun j hj => setL_ne (by omega)]
      omega
    · have := val_setL_gen (o := o) (x := x) (n := n) (i := i) (by omega)
      rw [setL_ne (show n ≠ i by omega)]
      omega
theorem AWp.blockAt {P : Program} {c : Ctx} {nt : Nat} {s : AState} {Q : AEx → AState → Prop} {x y : Code} {i : Nat} (hx : x = .block i y) (h : AWp P c nt y s (inBlock i Q)) : AWp P c nt x s Q := hx ▸ .block2 h
theorem mac_u64 {c x y o : Nat} (hc : c < 2 ^ 32) (hx : x < 2 ^ 32) (hy : y < 2 ^ 32) (ho : o < 2 ^ 32) :
    IntKind.u64.wrap ((c : Int) + IntKind.u64.wrap (IntKind.u64.wrap (IntKind.u64.wrap (x : Int) * IntKind.u64.wrap (y : Int)) + IntKind.u64.wrap (o : Int))) = ((c + x * y + o : Nat) : Int) ∧
      c + x * y + o < 2 ^ 64 ∧ (c + x * y + o) / 4294967296 < 2 ^ 32 := by
  have h1 : x * y ≤ (2 ^ 32 - 1) * (2 ^ 32 - 1) := Nat.mul_le_mul (by omega) (by omega)
  have e : (x : Int) * (y : Int) = ((x * y : Nat) : Int) := by simp
  rw [wrap_u64 (x := (x : Int)) (by omega) (by omega), wrap_u64 (x := (y : Int)) (by omega) (by omega), wrap_u64 (x := (o : Int)) (by omega) (by omega), e]
  generalize x * y = p at *
  refine ⟨?_, by omega, by omega⟩
  rw [wrap_u64 (x := (p : Int)) (by omega) (by omega), wrap_u64 (x := (p : Int) + o) (by omega) (by omega), wrap_u64 (by omega) (by omega)]
  omega
theorem mac_step {vo vo' oi c x yj B s q r v Bi Bj vy : Nat} (hs : s = c + x * yj + oi) (hq : 4294967296 * q + r = s) (hset : vo' + oi * B = vo + r * B) (hB : B = Bi * Bj) (h : vo + c * B = v + x * vy * Bi) :
    vo' + q * (4294967296 * B) = v + x * (vy + yj * Bj) * Bi := by
  subst hB
  have e : (4294967296 * q + r) * (Bi * Bj) = (c + x * yj + oi) * (Bi * Bj) := by rw [hq, hs]
  grind
theorem fok_res {P : Program} {f : FuncId} {K : Nat} {args : List AV} {u v : AV} {l l' : List Prop} (hf : FOK P f K args [] ⟨u, [], l⟩) (hl : allP l' → allP l) (hk : keys u = []) (ht : u.isTuple = false) (hle : avLe0 u v) : FOK P f K args [] ⟨v, [], l'⟩ := by
  intro need
  obtain ⟨h1, h2⟩ := hf (hl need)
  refine ⟨fun k o ho => by simp [look] at ho, fun c D D' β w vs hw0 hMw hrel hD hK hv => (h2 c D D' β w vs hw0 hMw hrel hD hK hv).mono ?_⟩
  rintro x w' ⟨β', g1, g2, g3⟩
  refine ⟨β', g1, g2, ?_⟩
  have h3 : VReps _ w' β' [u] [x] := ⟨VRep.one g3 ht, trivial⟩
  have h4 := avLes0_ok (us := [u]) (vs := [v]) ⟨hle, trivial⟩ (h3.noKeys (by rw [keysL_single]; exact hk))
  have h5 := h4.mono (fun b o h1 h2 => ⟨h2, h1⟩) (β' := β') fun k x hx => by simp [noKeys] at hx
  exact VRep1.vrep h5.1
theorem inBlock_exit {i : Nat} {Q : AEx → AState → Prop} {s : AState} (h : Q .normal s) : inBlock i Q (.exit i) s := by
  simp only [inBlock, if_true]; exact h
theorem then_exit {i : Nat} {k : AState → Prop} {Q : AEx → AState → Prop} {s : AState} (h : Q .normal s) : thenDo k (inBlock i Q) (.exit i) s := by
  show inBlock i Q (.exit i) s
  exact inBlock_exit h
theorem then_pass {i : Nat} {k : AState → Prop} {Q : AEx → AState → Prop} {s : AState} (h : Q (.exit i) s) : thenDo k Q (.exit i) s := h
theorem loop_ret {i : Nat} {k : AState → Prop} {Q : AEx → AState → Prop} {s : AState} (h : Q .ret s) : thenDo k (inBlock i Q) .ret s := h
theorem then_ret {k : AState → Prop} {Q : AEx → AState → Prop} {s : AState} (h : Q .ret s) : thenDo k Q .ret s := h
theorem allSlots_append {s : AState} : ∀ {a b : List Nat}, allSlots s (a ++ b) = allSlots s a ++ allSlots s b
  | [], _ => rfl
  | x :: a, b => by simp only [List.cons_append, allSlots, allSlots_append]
theorem allSlots_length {s : AState} : ∀ {a : List Nat}, (allSlots s a).length = a.length
  | [] => rfl
  | x :: a => by simp only [allSlots, List.length_cons, allSlots_length]
theorem keysL_append {a b : List AV} : keysL (a ++ b) = keysL a ++ keysL b := by
  induction a with
  | nil => rfl
  | cons x a ih => simp only [List.cons_append, keysL, ih, List.append_assoc]
theorem view_take {s : AState} {ls l : List Nat} {vs us : List AV} {os : Store} (hv : viewAV (ls ++ l) s = some (vs ++ us, os)) (hl : vs.length = ls.length) (hk : keysL us = []) : viewAV ls s = some (vs, os) := by
  unfold viewAV at hv ⊢
  simp only [Option.some.injEq, Prod.mk.injEq, allSlots_append] at hv ⊢
  obtain ⟨h1, h2⟩ := hv
  obtain ⟨h3, h4⟩ := List.append_inj h1 (by rw [allSlots_length, hl])
  subst h3
  refine ⟨rfl, ?_⟩
  rw [← h2, h4, keysL_append, hk, List.append_nil]
end Go.Am

/- Tables of types: what has to be shown of an entry. -/
namespace Go.Am
open AV
mutual
/-- The cells of a zero value. -/
def zeroCells : AV → Option (List Value)
  | .bool b => some [.bool b]
  | .int k n => some [.int k n]
  | .nil => some [.slice none 0 0]
  | .rat q n => if q = 0 ∧ n = 1 then some [.bool false, .slice none 0 0, .slice none 0 0] else none
  | .agg l => zeroCellsL l
  | _ => none
def zeroCellsL : List AV → Option (List Value)
  | [] => some []
  | a :: l => match zeroCells a, zeroCellsL l with
    | some c, some d => some (c ++ d)
    | _, _ => none
end
mutual
theorem zeroCells_ok {M : Nat → Prop} {w : World} {β : KMap} : ∀ {v : AV} {cs : List Value}, zeroCells v = some cs → CReps M w β [v] cs
  | .bool b, cs, h => by simp only [zeroCells, Option.some.injEq] at h; subst h; exact .bool .nil
  | .int k n, cs, h => by simp only [zeroCells, Option.some.injEq] at h; subst h; exact .int .nil
  | .nil, cs, h => by simp only [zeroCells, Option.some.injEq] at h; subst h; exact .vnil .nil
  | .rat q n, cs, h => by
    simp only [zeroCells] at h
    split at h
    · rename_i hq
      obtain ⟨rfl, rfl⟩ := hq
      simp only [Option.some.injEq] at h
      subst h
      have h0 : CReps M w noKeys [.mag 0] [.slice none 0 0] := by
        have := CReps.mag (M := M) (w := w) (β := noKeys) (N := 0) (base := none) (cap := 0) (.inl rfl) (by simp [nl_zero]) .nil
        simpa [nl_zero] using this
      have := CReps.rat (M := M) (w := w) (β := β) (q := 0) (n := 1) (x := .slice none 0 0) (y := .slice none 0 0) (l := []) (cs := []) ⟨by decide, by decide⟩ (by simpa using h0) (by simpa using h0) .nil
      simpa using this
    · simp at h
  | .agg l, cs, h => by
    simp only [zeroCells] at h
    simpa using CReps.agg (zeroCellsL_ok h) .nil
  | .mag _, cs, h => by simp [zeroCells] at h
  | .tab _ _ _, cs, h => by simp [zeroCells] at h
  | .ntab _ _ _ _, cs, h => by simp [zeroCells] at h
  | .cref _, cs, h => by simp [zeroCells] at h
  | .ptr _ _ _ _ _, cs, h => by simp [zeroCells] at h
  | .own _ _ _ _, cs, h => by simp [zeroCells] at h
  | .func _ _, cs, h => by simp [zeroCells] at h
  | .tuple _, cs, h => by simp [zeroCells] at h
theorem zeroCellsL_ok {M : Nat → Prop} {w : World} {β : KMap} : ∀ {l : List AV} {cs : List Value}, zeroCellsL l = some cs → CReps M w β l cs
  | [], cs, h => by simp only [zeroCellsL, Option.some.injEq] at h; subst h; exact .nil
  | a :: l, cs, h => by
    simp only [zeroCellsL] at h
    cases ha : zeroCells a with
    | none => rw [ha] at h; simp at h
    | some c =>
      cases hl : zeroCellsL l with
      | none => rw [ha, hl] at h; simp at h
      | some d =>
        rw [ha, hl] at h
        simp only [Option.some.injEq] at h
        subst h
        exact (zeroCells_ok ha).cons (zeroCellsL_ok hl)
end
def zeroValueOf (v : AV) : Option Value :=
  match zeroCells v with
  | some cs => if v.isAgg then some (.agg cs.toArray) else match cs with
    | [x] => some x
    | _ => none
  | none => none
theorem tyOK {P : Program} {t : TypeId} {ti : TI} (h1 : P.underlying t = some ti.desc) (h2 : (P.info? t).map (fun i => (i.size, i.bytes, i.zero)) = some (ti.size, ti.bytes, zeroValueOf ti.zero))
    (h3 : (zeroValueOf ti.zero).isSome = true) : TyOK P t ti := by
  cases hi : P.info? t with
  | none => rw [hi] at h2; simp at h2
  | some i =>
    rw [hi] at h2
    simp only [Option.map_some, Option.some.injEq, Prod.mk.injEq] at h2
    refine ⟨h1, ⟨i, hi, h2.1, h2.2.1⟩, fun _ => ?_⟩
    obtain ⟨z, hz⟩ := Option.isSome_iff_exists.1 h3
    refine ⟨i, z, hi, by rw [h2.2.2, hz], fun M w β => ?_⟩
    unfold zeroValueOf at hz
    cases hc : zeroCells ti.zero with
    | none => rw [hc] at hz; simp at hz
    | some cs =>
      rw [hc] at hz
      simp only at hz
      split at hz
      · rename_i ha
        simp only [Option.some.injEq] at hz
        subst hz
        exact .of_cells (zeroCells_ok hc) ha
      · rename_i ha
        split at hz
        · simp only [Option.some.injEq] at hz
          subst hz
          exact .of_cell (zeroCells_ok hc) (by simpa using ha)
        · simp at hz
theorem tyOK' {P : Program} {t : TypeId} {ti : TI} (h1 : P.underlying t = some ti.desc) (h2 : (P.info? t).map (fun i => (i.size, i.bytes)) = some (ti.size, ti.bytes)) (h3 : ti.zero = .tuple []) : TyOK P t ti := by
  cases hi : P.info? t with
  | none => rw [hi] at h2; simp at h2
  | some i =>
    rw [hi] at h2
    simp only [Option.map_some, Option.some.injEq, Prod.mk.injEq] at h2
    exact ⟨h1, ⟨i, hi, h2.1, h2.2⟩, fun h => by rw [h3] at h; simp [isTuple] at h⟩
theorem tok_nil {P : Program} : TOK P [] := fun t ti h => by simp [look] at h
theorem tok_cons {P : Program} {t : TypeId} {ti : TI} {T : Types} (h : TyOK P t ti) (hT : TOK P T) : TOK P ((t, ti) :: T) := by
  intro t' ti' ht
  simp only [look] at ht
  split at ht
  · rename_i he
    have : t = t' := by simpa using he
    subst this
    simp only [Option.some.injEq] at ht
    subst ht
    exact h
  · exact hT t' ti' ht
end Go.Am
