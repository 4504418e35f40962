/- 'opAV' is right: all operations. -/
import Derived.Test.YtbghpkgbokbmlaaGreatZ0
import Derived.Laws.Cover3
import Derived.Laws.Strings
import Derived.Laws.BytesString
import Derived.Laws.Concat
import Derived.Below
set_option linter.unusedVariables false
namespace Go.Am
open AV
section ops
variable {P : Program} {T : Types} (hT : dh P T) {Γ : aP} (hΓ : aX P Γ)
variable {c : Ctx} {st pre : aC} {D D' : Nat → Prop} {β : aK} {w : World}
include hT hΓ in
theorem nJ (h : aW c st D β w) (hpre : ∀ k o, look k pre = some o → look k st = some o) (hD : ∀ k, D k → D' k) {K : Nat} (hK : ∀ k, K ≤ k → k < K + bL → ¬ D k ∧ D' k)
  {ρ : Operand → Option AV} {ev : Operand → Value} (hρ : ∀ x v, ρ x = some v → bg (aH c st β) w β v (ev x)) {o : Oper} {r : dD}
  (hr : dF T Γ K ρ pre o.op = some r) (need : r.need) : gz P (execOp ev o) w (dQ c st D' β w r.bz r.val) := by
 have hK0 : ¬ D K ∧ D' K := hK K (Nat.le_refl _) (by simp [bL])
 have hint : ∀ k n, bg (aH c st β) w β (.int k n) (.int k n) := fun k n => aS.br (.bK (.int .nil) rfl)
 have hbool : ∀ t, bg (aH c st β) w β (.bool t) (.bool t) := fun t => aS.br (.bK (.bool .nil) rfl)
 obtain ⟨dst, op, type, pos, after, guard⟩ := o
 cases op
 case call cl => exact OA hT hΓ h hpre hD hK hρ rfl (by simpa [dF] using hr) need
 all_goals simp only [dF, reduceCtorEq] at hr
 case move x =>
  cases hx : ρ x with
  | none => rw [hx] at hr; simp at hr
  | some v =>
   rw [hx] at hr
   simp only [bq, Option.some.injEq] at hr
   subst hr
   exact bW (x := ev x) (w' := w) rfl (cJ h hD (hρ x v hx))
 case assign x =>
  cases hx : ρ x with
  | none => rw [hx] at hr; simp at hr
  | some v =>
   rw [hx] at hr
   simp only [bq, Option.some.injEq] at hr
   subst hr
   exact bW (x := ev x) (w' := w) rfl (cJ h hD (hρ x v hx))
 case pick cnd a b =>
  cases hc : ρ cnd with
  | none => rw [hc] at hr; simp at hr
  | some cv =>
   rw [hc] at hr
   cases cv <;> simp only [reduceCtorEq] at hr
   case bool t =>
    have hev := (hρ cnd _ hc).bool
    cases ha : ρ a with
    | none => rw [ha] at hr; simp at hr
    | some av =>
     cases hb : ρ b with
     | none => rw [ha, hb] at hr; cases av <;> simp at hr
     | some bv =>
      rw [ha, hb] at hr
      have hrun : (execOp ev { dst := dst, op := Op.pick cnd a b, type := type, pos := pos, after := after, guard := guard }).run P w = .ok (.value (if t then ev a else ev b)) w := by
       simp [execOp, hev, asBool]
      cases t with
      | true =>
       have hr' : r = ⟨av, [], []⟩ := by cases av <;> cases bv <;> simp [bq] at hr <;> exact hr.symm
       subst hr'
       exact bW hrun (cJ h hD (by simpa using hρ a av ha))
      | false =>
       have hr' : r = ⟨bv, [], []⟩ := by cases av <;> cases bv <;> simp [bq] at hr <;> exact hr.symm
       subst hr'
       exact bW hrun (cJ h hD (by simpa using hρ b bv hb))
 case alloc t =>
  cases ht : look t T with
  | none => rw [ht] at hr; simp at hr
  | some ti =>
   rw [ht] at hr
   simp only at hr
   split at hr
   ·simp at hr
   ·rename_i hc
    simp only [Bool.or_eq_true, beq_iff_eq, bne_iff_ne, ne_eq, not_or, Bool.not_eq_true, Decidable.not_not] at hc
    simp only [Option.some.injEq] at hr
    subst hr
    obtain ⟨x, w', hrun, hR⟩ := RF hT h hD hK0.1 hK0.2 ht hc.1.1 hc.1.2 hc.2
    refine bW ?_ hR
    simp only [execOp, Sem.run_bind, hrun, Result.andThen_ok, Sem.run_pure]
 case box t x =>
  cases hx : ρ x with
  | none => rw [hx] at hr; simp at hr
  | some v =>
   rw [hx] at hr
   simp only at hr
   split at hr
   ·simp at hr
   ·rename_i hc
    simp only [Bool.or_eq_true, beq_iff_eq, not_or, Bool.not_eq_true] at hc
    simp only [Option.some.injEq] at hr
    subst hr
    obtain ⟨y, w', hrun, hR⟩ := TL (P := P) (t := t) h hD hK0.1 hK0.2 ((hρ x v hx).one hc.2) hc.1
    refine bW ?_ hR
    simp only [execOp, Sem.run_bind, hrun, Result.andThen_ok, Sem.run_pure]
 case build t ps =>
  cases ht : look t T with
  | none => rw [ht] at hr; simp at hr
  | some ti =>
   cases hp : fV ρ ps.toList with
   | none => rw [ht, hp] at hr; simp at hr
   | some l =>
    rw [ht, hp] at hr
    simp only at hr
    split at hr
    ·simp at hr
    ·rename_i hc
     simp only [Bool.or_eq_true, Bool.not_eq_true', not_or, Bool.not_eq_false] at hc
     cases hs : kZ T ti.desc ti.zero.kids l with
     | none => rw [hs] at hr; simp at hr
     | some m =>
      rw [hs] at hr
      simp only [bq, Option.some.injEq] at hr
      subst hr
      obtain ⟨y, hrun, hR⟩ := L2 hT (w := w) ht (bA.parts hρ hp) hc.2 hs hc.1
      refine bW (x := y) (w' := w) ?_ (cJ h hD hR.br)
      have e1 : (Array.map (fun x : Nat × Operand => match x with | (i, x) => (i, ev x)) ps) = (List.map (fun p : Nat × Operand => (p.1, ev p.2)) ps.toList).toArray := by
       apply Array.ext'; simp
      simp only [execOp, Sem.run_bind, e1, hrun, Result.andThen_ok, Sem.run_pure]
 case buildSlice t n ps =>
  cases ht : look t T with
  | none => rw [ht] at hr; simp at hr
  | some ti =>
   cases hp : fV ρ ps.toList with
   | none => rw [ht, hp] at hr; obtain ⟨d, _, _, _⟩ := ti; cases d <;> simp at hr
   | some l =>
    rw [ht, hp] at hr
    obtain ⟨d, sz, by', z⟩ := ti
    cases d <;> simp only [reduceCtorEq] at hr
    case slice e =>
     cases he : look e T with
     | none => rw [he] at hr; simp at hr
     | some ei =>
      rw [he] at hr
      simp only at hr
      split at hr
      ·simp at hr
      ·rename_i hc
       simp only [Bool.or_eq_true, beq_iff_eq, bne_iff_ne, ne_eq, not_or, Bool.not_eq_true, Decidable.not_not] at hc
       cases hs : mu ei.size (List.replicate n ei.zero) l with
       | none => rw [hs] at hr; simp at hr
       | some m =>
        rw [hs] at hr
        simp only at hr
        cases hf : dm pre m with
        | none => rw [hf] at hr; simp at hr
        | some m' =>
         rw [hf] at hr
         simp only [Option.some.injEq] at hr
         subst hr
         obtain ⟨y, w', hrun, hR⟩ := Ql hT h hpre hD hK0.1 hK0.2 ht rfl he hc.1.1 hc.1.2 hc.2 (bA.parts hρ hp) hs hf need
         refine bW ?_ hR
         have e1 : (Array.map (fun x : Nat × Operand => match x with | (i, x) => (i, ev x)) ps) = (List.map (fun p : Nat × Operand => (p.1, ev p.2)) ps.toList).toArray := by
          apply Array.ext'; simp
         simp only [execOp, Sem.run_bind, e1, hrun, Result.andThen_ok, Sem.run_pure]
 case load t a =>
  cases ht : look t T with
  | none => rw [ht] at hr; simp at hr
  | some ti =>
   cases ha : ρ a with
   | none => rw [ht, ha] at hr; simp at hr
   | some p =>
    rw [ht, ha] at hr
    simp only at hr
    obtain ⟨e1, y, hrun, hR⟩ := zl hT h hpre ht (hρ a p ha) hr need
    refine bW (x := y) (w' := w) ?_ (by rw [e1]; exact cJ h hD hR.br)
    simp only [execOp, Sem.run_bind, hrun, Result.andThen_ok, Sem.run_pure]
 case store t a x =>
  cases ht : look t T with
  | none => rw [ht] at hr; simp at hr
  | some ti =>
   cases ha : ρ a with
   | none => rw [ht, ha] at hr; simp at hr
   | some p =>
    cases hx : ρ x with
    | none => rw [ht, ha, hx] at hr; simp at hr
    | some v =>
     rw [ht, ha, hx] at hr
     simp only at hr
     obtain ⟨w', hrun, hR⟩ := MX hT h hpre hD ht (hρ a p ha) (hρ x v hx) hr need
     refine .inr (.inl ⟨w', ?_, hR⟩)
     simp only [execOp, Sem.run_bind, hrun, Result.andThen_ok, Sem.run_pure]
 case nilCheck x =>
  cases hx : ρ x with
  | none => rw [hx] at hr; simp at hr
  | some v =>
   rw [hx] at hr
   have hv := hρ x v hx
   cases v <;> simp only [bq, Option.some.injEq, reduceCtorEq] at hr
   case ptr =>
    subst hr
    obtain ⟨b, N, _, he⟩ := hv.ptr
    refine bW (x := ev x) (w' := w) ?_ (cJ h hD hv)
    simp [execOp, he]
   case bG =>
    subst hr
    obtain ⟨b, o, ps, he, _⟩ := hv.bG
    refine bW (x := ev x) (w' := w) ?_ (cJ h hD hv)
    simp [execOp, he]
   case func =>
    subst hr
    obtain ⟨vs, he, _⟩ := hv.func
    refine bW (x := ev x) (w' := w) ?_ (cJ h hD hv)
    simp [execOp, he]
 case binOp op t x y ty =>
  cases hx : ρ x with
  | none => rw [hx] at hr; simp at hr
  | some a =>
   cases hy : ρ y with
   | none => rw [hx, hy] at hr; simp at hr
   | some b =>
    rw [hx, hy] at hr
    simp only at hr
    obtain ⟨e1, z, hrun, hR⟩ := Nu hT (op := op) (t := t) (t' := t) (x := x) (y := y) (hρ x a hx) (hρ y b hy) hr need
    refine bW (x := z) (w' := w) ?_ (by rw [e1]; exact cJ h hD hR.br)
    simp only [execOp]
    rw [Sem.run_bind, hrun]
    rfl
 case unOp op t x =>
  cases hx : ρ x with
  | none => rw [hx] at hr; cases op <;> simp at hr
  | some v =>
   rw [hx] at hr
   have hv := hρ x v hx
   cases op <;> cases v <;> simp only [bq, Option.some.injEq, reduceCtorEq] at hr
   case not.bool b =>
    subst hr
    have := hv.bool
    refine bW (x := .bool (!b)) (w' := w) ?_ (cJ h hD (hbool _))
    simp [execOp, this, Op.unary]
   case neg.int k n =>
    subst hr
    have := hv.int
    refine bW (x := .int k (k.wrap (0 - n))) (w' := w) ?_ (cJ h hD (hint _ _))
    simp [execOp, this, Op.unary, Op.intArith]
   case xor.int k n =>
    subst hr
    have := hv.int
    refine bW (x := .int k (k.wrap ((BitVec.ofInt k.bits (if k.signed then -1 else k.max) ^^^ BitVec.ofInt k.bits n).toNat : Int))) (w' := w) ?_ (cJ h hD (hint _ _))
    simp only [execOp, this, Op.unary, Op.intBits]
    rfl
 case convert s d x =>
  cases hs : look s T with
  | none => rw [hs] at hr; simp at hr
  | some si =>
   cases hd : look d T with
   | none => rw [hs, hd] at hr; obtain ⟨sd, _, _, _⟩ := si; cases sd <;> simp at hr
   | some di =>
    rw [hs, hd] at hr
    obtain ⟨sd, _, _, _⟩ := si
    obtain ⟨dd, _, _, _⟩ := di
    cases sd <;> cases dd <;> try (simp only [reduceCtorEq] at hr; done)
    case int.int k1 k =>
     cases hx : ρ x with
     | none => rw [hx] at hr; simp at hr
     | some v =>
      rw [hx] at hr
      have hv := hρ x v hx
      cases v <;> simp only [bq, Option.some.injEq, reduceCtorEq] at hr
      case int k2 n =>
       subst hr
       have hev := hv.int
       have hus := (hT _ _ hs).cR
       have hud := (hT _ _ hd).cR
       refine bW (x := .int k (k.wrap n)) (w' := w) ?_ (cJ h hD (hint _ _))
       simp [execOp, hev, convert, run_underlying hus, run_underlying hud, Conv.intToInt]
 case sliceToArrayPointer t x =>
  cases ht : look t T with
  | none => rw [ht] at hr; simp at hr
  | some ti =>
   cases hx : ρ x with
   | none => rw [ht, hx] at hr; obtain ⟨d, _, _, _⟩ := ti; cases d <;> simp at hr
   | some v =>
    rw [ht, hx] at hr
    have hv := hρ x v hx
    obtain ⟨d, sz, by', z⟩ := ti
    cases d <;> try (simp only [reduceCtorEq] at hr; done)
    case array m e =>
     cases v <;> try (simp only [reduceCtorEq] at hr; done)
     case ak es n f =>
      simp only at hr
      cases he : look e T with
      | none => rw [he] at hr; simp at hr
      | some ei =>
       rw [he] at hr
       simp only at hr
       split at hr
       ·rename_i hc
        simp only [Bool.and_eq_true, beq_iff_eq, bne_iff_ne, ne_eq] at hc
        simp only [Option.some.injEq] at hr
        subst hr
        obtain ⟨zv, hrun, hR⟩ := OF hT h hD ht rfl hv hc.2 need
        refine bW ?_ hR
        simp only [execOp, Sem.run_bind, hrun, Result.andThen_ok, Sem.run_pure]
       ·simp at hr
 case makeSlice t l cp =>
  cases ht : look t T with
  | none => rw [ht] at hr; simp at hr
  | some ti =>
   cases hl : ρ l with
   | none => rw [ht, hl] at hr; obtain ⟨d, _, _, _⟩ := ti; cases d <;> simp at hr
   | some lv =>
    cases hc : ρ cp with
    | none => rw [ht, hl, hc] at hr; obtain ⟨d, _, _, _⟩ := ti; cases d <;> cases lv <;> (try (rename_i k _; cases k)) <;> simp at hr
    | some cv =>
     rw [ht, hl, hc] at hr
     obtain ⟨d, sz, by', z⟩ := ti
     cases d <;> try (simp only [reduceCtorEq] at hr; done)
     case slice e =>
      have hlv := hρ l lv hl
      have hcv := hρ cp cv hc
      cases lv <;> try (simp only [reduceCtorEq] at hr; done)
      case int k n =>
       cases k <;> try (simp only [reduceCtorEq] at hr; done)
       case i64 =>
        cases cv <;> try (simp only [reduceCtorEq] at hr; done)
        case int k m =>
         cases k <;> try (simp only [reduceCtorEq] at hr; done)
         case i64 =>
          simp only at hr
          cases he : look e T with
          | none => rw [he] at hr; simp at hr
          | some ei =>
           rw [he] at hr
           simp only at hr
           split at hr
           ·simp at hr
           ·rename_i hcc
            simp only [Bool.or_eq_true, beq_iff_eq, bne_iff_ne, ne_eq, not_or, Bool.not_eq_true, Decidable.not_not] at hcc
            simp only [Option.some.injEq] at hr
            subst hr
            obtain ⟨x, w', hrun, hR⟩ := NB hT h hD hK0.1 hK0.2 ht rfl he hcc.1.1 hcc.1.2 hcc.2 need.1 need.2.1 need.2.2.1 need.2.2.2
            refine bW ?_ hR
            simp only [execOp, Sem.run_bind, hlv.int, hcv.int, hrun, Result.andThen_ok, Sem.run_pure]
 case slice t x lo hi mx =>
  cases ht : look t T with
  | none => rw [ht] at hr; simp at hr
  | some ti =>
   cases hx : ρ x with
   | none => rw [ht, hx] at hr; obtain ⟨d, _, _, _⟩ := ti; cases d <;> simp at hr
   | some v =>
    rw [ht, hx] at hr
    obtain ⟨d, sz, by', z⟩ := ti
    cases d <;> simp only [reduceCtorEq] at hr
    case slice e =>
     cases he : look e T with
     | none => rw [he] at hr; simp at hr
     | some ei =>
      cases hn : lenOf v with
      | none => rw [he, hn] at hr; simp at hr
      | some n =>
       rw [he, hn] at hr
       simp only at hr
       cases hl : bV ρ 0 lo with
       | none => rw [hl] at hr; simp at hr
       | some l =>
        cases hh : bV ρ n hi with
        | none => rw [hl, hh] at hr; simp at hr
        | some hv =>
         rw [hl, hh] at hr
         simp only at hr
         cases hm : bV ρ hv mx with
         | none => rw [hm] at hr; simp at hr
         | some m =>
          rw [hm] at hr
          simp only at hr
          split at hr
          ·simp at hr
          ·rename_i hmx
           simp only [Bool.and_eq_true, not_and, Bool.not_eq_true] at hmx
           cases hs : mz ei.size v l.toNat hv.toNat with
           | none => rw [hs] at hr; simp at hr
           | some u =>
            rw [hs] at hr
            simp only [Option.some.injEq] at hr
            subst hr
            have hvt : v.isTuple = false := by cases v <;> first | rfl | simp [lenOf] at hn
            obtain ⟨y, hrun, hR⟩ := HG hT ht rfl he ((hρ x v hx).one hvt) hρ hn hl hh hm need.1 need.2.1 need.2.2.1 need.2.2.2 (fun h1 => by
             have := hmx h1
             cases hi <;> simp_all) u hs
            refine bW (x := y) (w' := w) ?_ (cJ h hD hR.br)
            simp only [execOp, Sem.run_bind, hrun, Result.andThen_ok, Sem.run_pure]
    case array n e =>
     cases mx with
     | some m => simp at hr
     | none =>
      simp only at hr
      cases he : look e T with
      | none => rw [he] at hr; simp at hr
      | some ei =>
       cases hl : bV ρ 0 lo with
       | none => rw [he, hl] at hr; simp at hr
       | some a =>
        cases hh : bV ρ n hi with
        | none => rw [he, hl, hh] at hr; simp at hr
        | some b =>
         rw [he, hl, hh] at hr
         simp only at hr
         obtain ⟨y, hrun, hR⟩ := Rt hT h hpre hD ht rfl he (hρ x v hx) hρ hl hh hr need
         refine bW (x := y) (w' := w) ?_ hR
         simp only [execOp, Sem.run_bind, Option.map_none, hrun, Result.andThen_ok, Sem.run_pure]
 case fieldAddr s x i =>
  cases hs : look s T with
  | none => rw [hs] at hr; simp at hr
  | some ti =>
   cases hx : ρ x with
   | none => rw [hs, hx] at hr; simp at hr
   | some p =>
    rw [hs, hx] at hr
    simp only at hr
    cases hf : iN ti.desc i with
    | none => rw [hf] at hr; simp at hr
    | some fd =>
     rw [hf] at hr
     simp only at hr
     have hp := hρ x p hx
     cases p <;> simp only [reduceCtorEq] at hr
     case bG v =>
      cases hk : fm T v i fd.offset fd.type with
      | none => rw [hk] at hr; simp at hr
      | some k =>
       rw [hk] at hr
       simp only [bq, Option.some.injEq] at hr
       subst hr
       obtain ⟨b, o, he, hR⟩ := Dl hk hp
       obtain ⟨fi, hfi, h0⟩ : ∃ fi, look fd.type T = some fi ∧ fi.size ≠ 0 := by
        obtain ⟨_, _, ps, _, hps, _⟩ := hp.bG
        obtain ⟨fi, _, _, _, q1, _, _, _, _, _, _, _, q2, _⟩ := s7 hk hps
        exact ⟨fi, q1, q2⟩
       refine bW (w' := w) ?_ (cJ h hD hR.br)
       simp only [execOp, Sem.run_bind, he, DE hT hs hf hfi h0, Result.andThen_ok, Sem.run_pure]
     case ptr k idx es off path =>
      cases hfi : look fd.type T with
      | none => rw [hfi] at hr; simp at hr
      | some fi =>
       rw [hfi] at hr
       simp only at hr
       split at hr
       ·simp at hr
       ·rename_i h0
        simp only [bq, Option.some.injEq] at hr
        subst hr
        obtain ⟨b, N, hb, he⟩ := hp.ptr
        refine bW (x := .pointer (some ⟨b, idx * es + off + fd.offset, none⟩)) (w' := w) ?_ (cJ h hD (aS.br (.bK ?_ rfl)))
        ·simp only [execOp, Sem.run_bind, he, DE hT hs hf hfi (by simpa using h0), Result.andThen_ok, Sem.run_pure]
        ·rw [Nat.add_assoc]; exact .ptr hb .nil
 case field s x i =>
  cases hs : look s T with
  | none => rw [hs] at hr; simp at hr
  | some ti =>
   cases hx : ρ x with
   | none => rw [hs, hx] at hr; simp at hr
   | some v =>
    rw [hs, hx] at hr
    simp only at hr
    cases hf : iN ti.desc i with
    | none => rw [hf] at hr; simp at hr
    | some fd =>
     rw [hf] at hr
     simp only at hr
     cases hk : fm T v i fd.offset fd.type with
     | none => rw [hk] at hr; simp at hr
     | some k =>
      rw [hk] at hr
      simp only [bq, Option.some.injEq] at hr
      subst hr
      have hvt : v.isTuple = false := by
       cases v <;> first | rfl | (simp [fm, AV.kids] at hk)
      obtain ⟨y, hrun, hR⟩ := Oo hT (w := w) hs ((hρ x v hx).one hvt) hf hk
      refine bW (x := y) (w' := w) ?_ (cJ h hD hR.br)
      simp only [execOp, Sem.run_bind, hrun, Result.andThen_ok, Sem.run_pure]
 case indexAddr t x ix =>
  cases ht : look t T with
  | none => rw [ht] at hr; simp at hr
  | some ti =>
   cases hx : ρ x with
   | none => rw [ht, hx] at hr; obtain ⟨d, _, _, _⟩ := ti; cases d <;> simp at hr
   | some p =>
    cases hi : ρ ix with
    | none => rw [ht, hx, hi] at hr; obtain ⟨d, _, _, _⟩ := ti; cases d <;> simp at hr
    | some iv =>
     rw [ht, hx, hi] at hr
     obtain ⟨d, sz, by', z⟩ := ti
     have hp := hρ x p hx
     have hiv := hρ ix iv hi
     cases d <;> try (simp only [reduceCtorEq] at hr; done)
     case array n e =>
      cases iv <;> simp only [reduceCtorEq] at hr
      case int kd i =>
       have hie := hiv.int
       cases he : look e T with
       | none => rw [he] at hr; simp at hr
       | some ei =>
        rw [he] at hr
        simp only at hr
        split at hr
        ·simp at hr
        ·rename_i h0
         cases p <;> simp only [reduceCtorEq] at hr
         case bG v =>
          cases hk : fm T v i.toNat (i.toNat * ei.size) e with
          | none => rw [hk] at hr; simp at hr
          | some k =>
           rw [hk] at hr
           simp only [Option.some.injEq] at hr
           subst hr
           obtain ⟨b, o, hev, hR⟩ := Dl hk hp
           refine bW (w' := w) ?_ (cJ h hD hR.br)
           simp only [execOp, Sem.run_bind, hev, hie, Dk hT ht rfl he need.1 need.2, Result.andThen_ok, Sem.run_pure]
         case ptr k idx es off path =>
          simp only [Option.some.injEq] at hr
          subst hr
          obtain ⟨b, N, hb, hev⟩ := hp.ptr
          refine bW (x := .pointer (some ⟨b, idx * es + off + i.toNat * ei.size, none⟩)) (w' := w) ?_ (cJ h hD (aS.br (.bK ?_ rfl)))
          ·simp only [execOp, Sem.run_bind, hev, hie, Dk hT ht rfl he need.1 need.2, Result.andThen_ok, Sem.run_pure]
          ·rw [Nat.add_assoc]; exact .ptr hb .nil
     case slice e =>
      cases iv <;> simp only [reduceCtorEq] at hr
      case int kd i =>
       have hie := hiv.int
       cases he : look e T with
       | none => rw [he] at hr; simp at hr
       | some ei =>
        rw [he] at hr
        simp only at hr
        split at hr
        ·simp at hr
        ·rename_i h0
         cases hel : elemAt pre ei.size p i.toNat with
         | none => rw [hel] at hr; simp at hr
         | some q =>
          obtain ⟨q, nd⟩ := q
          rw [hel] at hr
          simp only [Option.some.injEq] at hr
          subst hr
          obtain ⟨y, hrun, hR⟩ := IW hT h hpre (kd := kd) ht rfl he hp need.1 hel need.2
          refine bW (x := y) (w' := w) ?_ (cJ h hD hR.br)
          simp only [execOp, Sem.run_bind, hie, hrun, Result.andThen_ok, Sem.run_pure]
 case index t x ix =>
  cases ht : look t T with
  | none => rw [ht] at hr; simp at hr
  | some ti =>
   cases hx : ρ x with
   | none => rw [ht, hx] at hr; obtain ⟨d, _, _, _⟩ := ti; cases d <;> simp at hr
   | some v =>
    cases hi : ρ ix with
    | none => rw [ht, hx, hi] at hr; obtain ⟨d, _, _, _⟩ := ti; cases d <;> simp at hr
    | some iv =>
     rw [ht, hx, hi] at hr
     obtain ⟨d, sz, by', z⟩ := ti
     have hiv := hρ ix iv hi
     cases d <;> try (simp only [reduceCtorEq] at hr; done)
     case array n e =>
      cases iv <;> simp only [reduceCtorEq] at hr
      case int kd i =>
       have hie := hiv.int
       cases he : look e T with
       | none => rw [he] at hr; simp at hr
       | some ei =>
        rw [he] at hr
        simp only at hr
        cases hk : fm T v i.toNat (i.toNat * ei.size) e with
        | none => rw [hk] at hr; simp at hr
        | some k =>
         rw [hk] at hr
         simp only [Option.some.injEq] at hr
         subst hr
         have hvt : v.isTuple = false := by
          cases v <;> first | rfl | (simp [fm, AV.kids] at hk)
         obtain ⟨y, hrun, hR⟩ := PD hT (w := w) (kd := kd) ht rfl he ((hρ x v hx).one hvt) hk need.1 need.2
         refine bW (x := y) (w' := w) ?_ (cJ h hD hR.br)
         simp only [execOp, Sem.run_bind, hie, hrun, Result.andThen_ok, Sem.run_pure]
 case extract x i =>
  cases hx : ρ x with
  | none => rw [hx] at hr; simp at hr
  | some v =>
   rw [hx] at hr
   cases v <;> simp only [reduceCtorEq] at hr
   case tuple l =>
    cases hl : l[i]? with
    | none => rw [hl] at hr; simp at hr
    | some v =>
     rw [hl] at hr
     simp only [bq, Option.some.injEq] at hr
     subst hr
     obtain ⟨vs, hev, hvs⟩ := hρ x _ hx
     obtain ⟨y, hy, hR⟩ := hvs.get i v hl
     refine bW (x := y) (w' := w) ?_ (cJ h hD hR.br)
     simp [execOp, hev, Instr.extract, hy]
 case makeFunc fn first caps =>
  cases fn <;> simp only [reduceCtorEq] at hr
  case func f =>
   cases hc : dM ρ caps.toList with
   | none => rw [hc] at hr; cases first.toList <;> simp at hr
   | some l =>
    rw [hc] at hr
    cases hf : first.toList with
    | cons a b => rw [hf] at hr; simp at hr
    | nil =>
     rw [hf] at hr
     simp only at hr
     split at hr
     ·rename_i hall
      simp only [bq, Option.some.injEq] at hr
      subst hr
      have hfe : first = #[] := by apply Array.ext'; simpa using hf
      subst hfe
      have hcaps := (jN hρ hc).AD hall
      refine bW (x := .func (.func f) #[] (List.map ev caps.toList).toArray) (w' := w) ?_ (cJ h hD (aS.br (.bK (.func hcaps hall .nil) rfl)))
      have e1 : Array.map ev caps = (List.map ev caps.toList).toArray := by apply Array.ext'; simp
      simp [execOp, Instr.makeFunc, e1]
     ·simp at hr
theorem bg.bN {M : Nat → Prop} {v : AV} {x : Value} (h : bg M w β v x) : bg M w β (Am.bN v) x := by
 cases v with
 | cF b es n f =>
  obtain ⟨cs, h1, h2⟩ := bg.one h rfl
  cases h1 with
  | cF g0 g1 g2 g3 g4 g5 g6 =>
   cases g6
   exact aS.br ⟨_, .ak g1 g2 g3 g4 g5 .nil, h2⟩
 | _ => exact h
theorem KN {ρ : Operand → Option AV} {op : Op} {v : AV} (h : kU T ρ op = some v) : ∃ o t x y u b es n f z, op = .binOp o t x y u ∧ ρ x = some (.cF b es n f) ∧ ρ y = some .nil ∧ isSlice T t = true ∧ v = .bool z ∧ ((o = .eql ∧ z = b) ∨ (o = .neq ∧ z = !b)) := by
 cases op <;> simp only [kU, reduceCtorEq] at h
 case binOp o t x y u =>
  cases hx : ρ x with
  | none => rw [hx] at h; simp at h
  | some a =>
   cases hy : ρ y with
   | none => rw [hx, hy] at h; simp at h
   | some d =>
    rw [hx, hy] at h
    simp only at h
    cases hf : we a d with
    | none => rw [hf] at h; simp at h
    | some b =>
     cases hs : isSlice T t with
     | false => rw [hf, hs] at h; simp at h
     | true =>
      rw [hf, hs] at h
      have hab : ∃ es n f, a = .cF b es n f ∧ d = .nil := by
       cases a <;> simp only [we, reduceCtorEq] at hf
       case cF b' es n f =>
        cases d <;> simp only [reduceCtorEq, Option.some.injEq] at hf
        case nil => subst hf; exact ⟨es, n, f, rfl, rfl⟩
      obtain ⟨es, n, f, rfl, rfl⟩ := hab
      cases o <;> simp only [reduceCtorEq, Option.some.injEq] at h
      case eql => exact ⟨_, t, x, y, u, b, es, n, f, b, rfl, hx, hy, hs, h.symm, .inl ⟨rfl, rfl⟩⟩
      case neq => exact ⟨_, t, x, y, u, b, es, n, f, !b, rfl, hx, hy, hs, h.symm, .inr ⟨rfl, rfl⟩⟩
theorem DJ {f : Nat → AV} : ∀ {n : Nat} {l : List UInt8}, bytesOf f n = some l → ∃ ns : List Int, ns.length = n ∧ (∀ i, i < n → ∃ b, ns[i]? = some b ∧ f i = .int .u8 b) ∧ (ns.foldl (fun r n => r.push (UInt8.ofNat n.toNat)) ByteArray.empty) = ⟨l.toArray⟩
 | 0, l, h => by
  simp only [bytesOf, Option.some.injEq] at h
  subst h
  exact ⟨[], rfl, fun i hi => by omega, rfl⟩
 | n + 1, l, h => by
  simp only [bytesOf] at h
  split at h
  ·rename_i l' b h1 h2
   simp only [Option.some.injEq] at h
   subst h
   obtain ⟨ns, e1, e2, e3⟩ := DJ h1
   refine ⟨ns ++ [b], by simp [e1], fun i hi => ?_, ?_⟩
   ·by_cases hin : i < n
    ·obtain ⟨b', q1, q2⟩ := e2 i hin
     exact ⟨b', by rw [List.getElem?_append_left (by omega)]; exact q1, q2⟩
    ·have : i = n := by omega
     subst this
     exact ⟨b, by rw [List.getElem?_append_right (by omega), e1]; simp, h2⟩
   ·rw [List.foldl_append, e3]
    simp [ByteArray.push]
  ·simp at h
theorem T1 {w : World} {M : Nat → Prop} {f : Nat → AV} {n cap : Nat} {l : List UInt8} {base : Option Addr} {cf : Nat → List Value} (hl : bytesOf f n = some l)
  (g1 : n = 0 ∨ ∃ b o, base = some ⟨b, o, none⟩ ∧ ∀ i, i < n → w.rangeAt b (o + i * 1) (cf i)) (g3 : base = none → n = 0) (g4 : ∀ i, i < n → (cf i).length = 1 ∧ aF M w aQ [f i] (cf i)) :
  (Conv.bytesToString (.slice base n cap)).run P w = .ok (.string ⟨l.toArray⟩) w := by
 obtain ⟨ns, e1, e2, e3⟩ := DJ hl
 cases base with
 | none =>
  have := g3 rfl
  subst this
  simp only [bytesOf, Option.some.injEq] at hl
  subst hl
  rfl
 | some a =>
  rw [run_bytesToString w a n cap ns, e3]
  have hcell : ∀ j v, (ns.map (Value.int .u8))[j]? = some v → w.cell? (a.add j) = some v := by
   intro j v hv
   rw [List.getElem?_map, Option.map_eq_some_iff] at hv
   obtain ⟨b, hb, rfl⟩ := hv
   have hj : j < n := by
    have := (List.getElem?_eq_some_iff.1 hb).1
    omega
   rcases g1 with g1 | ⟨bl, o, hbo, g1⟩
   ·omega
   simp only [Option.some.injEq] at hbo
   subst hbo
   obtain ⟨b', q1, q2⟩ := e2 j hj
   rw [hb] at q1
   simp only [Option.some.injEq] at q1
   subst q1
   obtain ⟨q3, q4⟩ := g4 j hj
   rw [q2] at q4
   have hcf : cf j = [.int .u8 b] := by
    revert q4
    generalize cf j = z
    intro q4
    cases q4 with | int h => cases h; rfl
   have := g1 j hj
   rw [hcf] at this
   have := this 0 _ rfl
   rw [Addr.add_mid]
   simpa using this
  have := run_loadCells_list (P := P) (w := w) a (ns.map (Value.int .u8)) hcell
  rw [List.length_map, e1] at this
  exact this
include hT in
theorem Ke (h : aW c st D β w) (hpre : ∀ k o, look k pre = some o → look k st = some o) (hD : ∀ k, D k → D' k) {ρ : Operand → Option AV} {ev : Operand → Value} (hρ : ∀ x v, ρ x = some v → bg (aH c st β) w β v (ev x)) {o : Oper} {r : dD}
  (hev : ∀ v, ev (.const v) = v) (hr : kX T pre ρ o.op = some r) (need : r.need) : gz P (execOp ev o) w (dQ c st D' β w r.bz r.val) := by
 obtain ⟨dst, op, type, pos, after, guard⟩ := o
 cases op <;> simp only [kX, reduceCtorEq] at hr
 case binOp o t x y u =>
  have hbool : ∀ t, bg (aH c st β) w β (.bool t) (.bool t) := fun t => aS.br (.bK (.bool .nil) rfl)
  split at hr
  ·rename_i a b ha hb
   have ea := (hρ x _ ha).str
   have eb := (hρ y _ hb).str
   split at hr
   ·split at hr
    ·rename_i hl
     have hl := Nat.le_of_ble_eq_true hl
     simp only [bq, Option.some.injEq] at hr
     subst hr
     refine bW (x := .string ⟨(a ++ b).toArray⟩) (w' := w) ?_ (cJ h hD (aS.br (.bK (.str .nil) rfl)))
     simp only [execOp, ea, eb, eqGuard_at_string, binOp_string_add]
     simp only [Sem.run_bind, Sem.run_pure, Result.andThen_ok, run_string_add_lists w a b (by omega) (by omega)]
    ·simp at hr
   ·simp only [bq, Option.some.injEq] at hr
    subst hr
    refine bW (x := .bool (a == b)) (w' := w) ?_ (cJ h hD (hbool _))
    simp only [execOp, ea, eb, eqGuard_at_string, binOp_string_eql, ByteArray.toList_mk]
    simp
   ·simp only [bq, Option.some.injEq] at hr
    subst hr
    refine bW (x := .bool (!(a == b))) (w' := w) ?_ (cJ h hD (hbool _))
    simp only [execOp, ea, eb, eqGuard_at_string, binOp_string_neq, ByteArray.toList_mk]
    simp
   ·simp at hr
  ·simp at hr
 case convert s d x =>
  split at hr
  ·rename_i e _ _ _ _ _ _ v hs hd hx
   split at hr
   ·rename_i he
    split at hr
    ·rename_i n f hra
     split at hr
     ·rename_i l hl
      simp only [bq, Option.some.injEq] at hr
      subst hr
      obtain ⟨base, cap, cf, hev', g1, g2, g3, g4⟩ := sq h hpre (by omega) (hρ x _ hx) hra
      have hus := (hT _ _ hs).cR
      have hud := (hT _ _ hd).cR
      have hue := (hT _ _ he).cR
      refine bW (x := .string ⟨l.toArray⟩) (w' := w) ?_ (cJ h hD (aS.br (.bK (.str .nil) rfl)))
      simp only [execOp, hev', Sem.run_bind, run_convert_bytes_string w s d e base n cap hus hue hud]
      rw [T1 hl g1 g3 g4]
      rfl
     ·simp at hr
    ·simp at hr
   ·simp at hr
  ·simp at hr
 case index t x ix =>
  cases x <;> (try simp only [reduceCtorEq] at hr)
  case const v =>
   cases v <;> (try simp only [reduceCtorEq] at hr)
   case string s =>
    cases hi : ρ ix with
    | none => rw [hi] at hr; simp at hr
    | some iv =>
     cases ht : look t T with
     | none => rw [hi, ht] at hr; cases iv <;> simp at hr
     | some ti =>
      rw [hi, ht] at hr
      have hiv := hρ ix iv hi
      cases iv <;> simp only [reduceCtorEq] at hr
      case int kd i =>
       have hie := hiv.int
       split at hr
       ·rename_i hs
        simp only [Option.some.injEq] at hr
        subst hr
        have need : 0 ≤ i ∧ i < s.size := need
        have hu : P.underlying t = some .string := by
         have := (hT _ _ ht).cR
         cases hd : ti.desc <;> rw [hd] at hs this <;> simp only [isString, Bool.false_eq_true] at hs
         case string => exact this
        have hb : (iD s i.toNat : Int) = ((s[i.toNat]'(by omega)).toNat : Int) := by
         unfold iD
         have hlt : i.toNat < s.data.size := by have : s.size = s.data.size := rfl; omega
         rw [Array.getElem?_eq_getElem hlt]
         rfl
        refine bW (x := .int .u8 (iD s i.toNat)) (w' := w) ?_ (cJ h hD (aS.br (.bK (.int .nil) rfl)))
        simp only [execOp, hie, hev]
        rw [Sem.run_bind, run_index_string w t s kd i hu, dif_pos need, hb]
        rfl
       ·simp at hr
theorem Sv {K : Nat} {ρ : Operand → Option AV} {op : Op} {r : dD} (hc : oc T ρ pre op = true) (hr : dF T Γ K ρ pre op = some r) : r.need := by
 cases op <;> simp only [oc, Bool.false_eq_true] at hc
 case load t a =>
  split at hc
  ·rename_i k idx es off path ha
   split at hc
   ·rename_i o ho
    have hlt := Nat.blt_eq.mp hc
    simp only [dF, ha] at hr
    split at hr
    ·rename_i ti p ht hp
     simp only [Option.some.injEq] at hp
     subst hp
     simp only [kB, ho] at hr
     split at hr
     ·split at hr
      ·split at hr
       ·simp only [Option.some.injEq] at hr; subst hr; exact hlt
       ·simp at hr
      ·simp at hr
     ·simp at hr
    ·simp at hr
   ·simp at hc
  ·simp at hc
 case store t a x =>
  split at hc
  ·rename_i k idx es off path ha
   split at hc
   ·rename_i o ho
    have hlt := Nat.blt_eq.mp hc
    simp only [dF, ha] at hr
    split at hr
    ·rename_i ti p v ht hp hv
     simp only [Option.some.injEq] at hp
     subst hp
     simp only [qM, ho] at hr
     (repeat' split at hr) <;> first | (simp only [Option.some.injEq] at hr; subst hr; exact hlt) | simp at hr
    ·simp at hr
   ·simp at hc
  ·simp at hc
 case indexAddr t x ix =>
  split at hc
  ·rename_i n e _ _ _ _ i ht hi
   have hlt := of_decide_eq_true hc
   cases hx : ρ x with
   | none => simp only [dF, ht, hi, hx] at hr; simp at hr
   | some p =>
    simp only [dF, ht, hi, hx] at hr
    split at hr
    ·split at hr
     ·simp at hr
     ·split at hr
      ·split at hr
       ·simp only [Option.some.injEq] at hr; subst hr; exact hlt
       ·simp at hr
      ·simp only [Option.some.injEq] at hr; subst hr; exact hlt
      ·simp at hr
    ·simp at hr
  ·rename_i e _ _ _ v _ i ht hv hi
   split at hc
   ·rename_i n hn
    simp only [Bool.and_eq_true, decide_eq_true_eq, Nat.blt_eq] at hc
    simp only [dF, ht, hi, hv] at hr
    split at hr
    ·rename_i ti hti
     split at hr
     ·simp at hr
     ·split at hr
      ·rename_i r' nd hel
       simp only [Option.some.injEq] at hr
       subst hr
       refine ⟨hc.1, ?_⟩
       unfold elemAt at hel
       unfold lenOf at hn
       have hc2 := hc.2
       (repeat' split at hel) <;> simp_all <;> (obtain ⟨_, rfl⟩ := hel; exact hc2)
      ·simp at hr
    ·simp at hr
   ·simp at hc
  ·simp at hc
 case index t x ix =>
  split at hc
  ·rename_i n e _ _ _ _ i ht hi
   have hlt := of_decide_eq_true hc
   cases hx : ρ x with
   | none => simp only [dF, ht, hi, hx] at hr; simp at hr
   | some p =>
    simp only [dF, ht, hi, hx] at hr
    split at hr
    ·split at hr
     ·simp only [Option.some.injEq] at hr; subst hr; exact hlt
     ·simp at hr
    ·simp at hr
  ·simp at hc
 case slice t x lo hi mx =>
  split at hc
  ·rename_i v hv
   split at hc
   ·rename_i len hlen
    split at hc
    ·rename_i l h hl hh
     split at hc
     ·rename_i m hm
      have hlt := of_decide_eq_true hc
      cases ht : look t T with
      | none => simp only [dF, hv, ht] at hr; simp at hr
      | some ti0 =>
       obtain ⟨dd, _, _, _⟩ := ti0
       cases dd <;> try (simp only [dF, hv, ht] at hr; simp at hr; done)
       case array n e =>
        simp only [dF, hv, ht] at hr
        exfalso
        split at hr
        ·split at hr
         ·unfold uQ at hr
          cases v <;> simp [lenOf] at hlen <;> simp at hr
         ·simp at hr
        ·simp at hr
       case slice e =>
        cases he : look e T with
        | none => simp only [dF, hv, ht, he] at hr; simp at hr
        | some ti =>
         simp only [dF, hv, ht, he, hlen, hl, hh, hm] at hr
         split at hr
         ·simp at hr
         ·split at hr
          ·simp only [Option.some.injEq] at hr; subst hr; exact hlt
          ·simp at hr
     ·simp at hc
    ·simp at hc
   ·simp at hc
  ·simp at hc
 case buildSlice t n ps =>
  split at hc
  ·rename_i e _ _ _ ht
   split at hc
   ·rename_i ti hti
    have hlt := Nat.le_of_ble_eq_true hc
    cases hp : fV ρ ps.toList with
    | none => simp only [dF, ht, hti, hp] at hr; simp at hr
    | some l =>
     simp only [dF, ht, hti, hp] at hr
     split at hr
     ·simp at hr
     ·split at hr
      ·split at hr
       ·simp only [Option.some.injEq] at hr; subst hr; exact hlt
       ·simp at hr
      ·simp at hr
   ·simp at hc
  ·simp at hc
theorem x4 {k : IntKind} (h : uk k = true) : k = .i64 := by cases k <;> first | rfl | cases h
theorem wrap64 {n : Int} (h : -2 ^ 63 ≤ n ∧ n < 2 ^ 63) : IntKind.i64.wrap n = n := by
 obtain ⟨h1, h2⟩ := h
 simp [IntKind.wrap, IntKind.bits, IntKind.signed]; omega
theorem Nk {K : Nat} {ρ : Operand → Option AV} {op : Op} {n : Int} (hp : oy T ρ op = some n) (hn : -2 ^ 63 ≤ n ∧ n < 2 ^ 63) : dF T Γ K ρ pre op = some ⟨.int .i64 n, [], []⟩ := by
 cases op <;> simp only [oy, reduceCtorEq] at hp
 case binOp o t x y u =>
  split at hp
  ·rename_i k a j b hx hy
   split at hp
   ·rename_i hk hj
    obtain rfl := x4 hk
    obtain rfl := x4 hj
    simp only [dF, hx, hy]
    split at hp <;> simp only [Option.some.injEq, reduceCtorEq] at hp <;> subst hp <;> simp [jZ, isKind, y6, bq, wrap64 hn]
   ·simp at hp
  ·simp at hp
 case convert s d x =>
  split at hp
  ·rename_i k1 _ _ _ k _ _ _ k2 m hs hd hx
   split at hp
   ·rename_i hk
    obtain rfl := x4 hk
    simp only [Option.some.injEq] at hp
    subst hp
    simp only [dF, hs, hd, hx, bq, wrap64 hn]
   ·simp at hp
  ·simp at hp
include hT hΓ in
theorem IZ (h : aW c st D β w) (hpre : ∀ k o, look k pre = some o → look k st = some o) (hD : ∀ k, D k → D' k) {K : Nat} (hK : ∀ k, K ≤ k → k < K + bL → ¬ D k ∧ D' k)
  {ρ : Operand → Option AV} {ev : Operand → Value} (hρ : ∀ x v, ρ x = some v → bg (aH c st β) w β v (ev x)) {o : Oper} {r : dD}
  (hr : mE T Γ K ρ pre o.op = some r) (need : r.need) : gz P (execOp ev o) w (dQ c st D' β w r.bz r.val) := by
 unfold mE at hr
 split at hr
 ·split at hr
  ·rename_i hc
   split at hr
   ·rename_i r' hr'
    simp only [Option.some.injEq] at hr
    subst hr
    have := nJ hT hΓ h hpre hD hK hρ (r := r') hr' (Sv hc hr')
    exact this
   ·simp at hr
  ·exact nJ hT hΓ h hpre hD hK hρ hr need
 ·split at hr
  ·split at hr
   ·rename_i n hp
    simp only [Option.some.injEq] at hr
    subst hr
    have hn : -2 ^ 63 ≤ n ∧ n < 2 ^ 63 := need
    have := nJ hT hΓ h hpre hD hK hρ (r := ⟨.int .i64 n, [], []⟩) (Nk hp hn) trivial
    exact this
   ·exact nJ hT hΓ h hpre hD hK hρ hr need
  ·exact nJ hT hΓ h hpre hD hK hρ hr need
include hT hΓ in
theorem Fj (h : aW c st D β w) (hpre : ∀ k o, look k pre = some o → look k st = some o) (hD : ∀ k, D k → D' k) {K : Nat} (hK : ∀ k, K ≤ k → k < K + bL → ¬ D k ∧ D' k)
  {ρ : Operand → Option AV} {ev : Operand → Value} (hρ : ∀ x v, ρ x = some v → bg (aH c st β) w β v (ev x)) (hev : ∀ v, ev (.const v) = v) {o : Oper} {r : dD}
  (hr : hH T Γ K ρ pre o.op = some r) (need : r.need) : gz P (execOp ev o) w (dQ c st D' β w r.bz r.val) := by
 unfold hH at hr
 cases hn : kU T ρ o.op with
 | some v =>
  rw [hn] at hr
  simp only [bq, Option.some.injEq] at hr
  subst hr
  obtain ⟨dst, op, type, pos, after, guard⟩ := o
  obtain ⟨o, t, x, y, u, b, es, n, f, z, h1, hx, hy, hs, h2, h3⟩ := KN hn
  simp only at h1
  subst h1 h2
  obtain ⟨cs, hv, hv2⟩ := bg.one (hρ x _ hx) rfl
  have hnil := (hρ y _ hy).nil
  have hbool : ∀ t, bg (aH c st β) w β (.bool t) (.bool t) := fun t => aS.br (.bK (.bool .nil) rfl)
  have hsl : ∃ e, P.underlying t = some (.slice e) := by
   unfold isSlice at hs
   cases ht : look t T with
   | none => rw [ht] at hs; simp at hs
   | some ti =>
    rw [ht] at hs
    have hu := (hT _ _ ht).cR
    simp only at hs
    cases hd : ti.desc <;> rw [hd] at hs <;> simp only [Dg, Bool.false_eq_true] at hs
    case slice e => exact ⟨e, by rw [hu, hd]⟩
  obtain ⟨e, hu⟩ := hsl
  have hev' : ∃ base cap, ev x = .slice base n cap ∧ base.isNone = b := by
   cases hv with
   | cF g0 g1 g2 g3 g4 g5 g6 =>
    rename_i base cap cs' cf
    cases g6
    exact ⟨base, cap, by simpa [show (cF b es n f).isAgg = false from rfl, eq_comm] using hv2, g0⟩
  obtain ⟨base, cap, hev, hb⟩ := hev'
  refine bW (x := .bool z) (w' := w) ?_ (cJ h hD (hbool _))
  rcases h3 with ⟨rfl, rfl⟩ | ⟨rfl, rfl⟩
  ·simp only [execOp, hev, hnil, eqGuard_at_slice, binOp]
   simp [run_equal_slice_nil w t e base n cap hu, hb]
  ·simp only [execOp, hev, hnil, eqGuard_at_slice, binOp]
   simp [run_equal_slice_nil w t e base n cap hu, hb]
 | none =>
  rw [hn] at hr
  simp only at hr
  cases hstr : kX T pre ρ o.op with
  | some r' =>
   rw [hstr] at hr
   simp only [Option.some.injEq] at hr
   subst hr
   exact Ke hT h hpre hD hρ (o := o) hev hstr need
  | none =>
  rw [hstr] at hr
  simp only at hr
  split at hr
  ·exact nJ hT hΓ h hpre hD hK hρ hr need
  ·refine IZ hT hΓ h hpre hD hK (ρ := j5 ρ) (fun x v hx => ?_) hr need
   unfold j5 at hx
   cases hx' : ρ x with
   | none => rw [hx'] at hx; simp at hx
   | some u =>
    rw [hx'] at hx
    simp only [Option.some.injEq] at hx
    subst hx
    exact (hρ x u hx').bN
end ops
end Go.Am

/- One operation of a region, in a state. -/
namespace Go.Am
open AV
def qw (M : Nat → Prop) (w : World) (β : aK) (sl : List (Nat × AV)) (tmps : Array Value) : Prop := ∀ t v, look t sl = some v → ∃ x, tmps[t]? = some x ∧ bg M w β v x
def Rel (c : Ctx) (nt : Nat) (D : Nat → Prop) (sl : List (Nat × AV)) (st : aC) (a : Act) (w : World) : Prop :=
 a.defers = [] ∧ a.tmps.size = nt ∧ ∃ β, aW c st D β w ∧ qw (aH c st β) w β sl a.tmps
theorem wg {dst : Option Tmp} {v : AV} {sl : List (Nat × AV)} {t : Nat} : look t (mD dst v sl) = if dst = some t then some v else look t sl := by
 cases dst with
 | none => simp [mD]
 | some d =>
  simp only [mD, xU, Option.some.injEq]
  by_cases h : t = d
  ·simp [h]
  ·have : ¬ d = t := fun e => h e.symm
   simp [h, this]
theorem jC {st : aC} {k : Nat} : ∀ {ks : List Nat}, look k (pick st ks) = if k ∈ ks then look k st else none
 | [] => by simp [pick, look]
 | j :: ks => by
  simp only [pick]
  cases hj : look j st with
  | none =>
   simp only [jC (ks := ks), List.mem_cons]
   by_cases h : k = j
   ·subst h; simp [hj]
   ·simp [h]
  | some o =>
   simp only [xU, jC (ks := ks), List.mem_cons]
   by_cases h : k = j
   ·subst h; simp [hj]
   ·simp [h]
theorem pP {st : aC} : ∀ {ks : List Nat}, ((pick st ks).map (·.1)).Nodup
 | [] => by simp [pick]
 | j :: ks => by
  simp only [pick]
  cases hj : look j st with
  | none => exact pP
  | some o =>
   have := pP (st := st) (ks := ks)
   revert this
   generalize pick st ks = l
   intro hl
   induction l with
   | nil => simp [put]
   | cons p l ih =>
    obtain ⟨i, b⟩ := p
    simp only [List.map_cons, List.nodup_cons] at hl
    simp only [put]
    by_cases h : (i == j) = true
    ·have : i = j := by simpa using h
     subst this
     simp only [BEq.rfl, if_true, List.map_cons, List.nodup_cons]
     exact hl
    ·simp only [h, Bool.false_eq_true, if_false, List.map_cons, List.nodup_cons]
     refine ⟨fun hm => ?_, ih hl.2⟩
     have hmem : ∀ (l : aC), i ∈ (put j o l).map (·.1) → i = j ∨ i ∈ l.map (·.1) := by
      intro l
      induction l with
      | nil => simp [put]
      | cons q l ih2 =>
       obtain ⟨i2, b2⟩ := q
       simp only [put]
       by_cases h2 : (i2 == j) = true
       ·simp only [h2, if_true, List.map_cons, List.mem_cons]
        rintro (h3 | h3)
        ·exact .inl h3
        ·exact .inr (.inr h3)
       ·simp only [h2, Bool.false_eq_true, if_false, List.map_cons, List.mem_cons]
        rintro (h3 | h3)
        ·exact .inr (.inl h3)
        ·exact (ih2 h3).imp id .inr
     rcases hmem l hm with h3 | h3
     ·exact h (by simpa using h3)
     ·exact hl.1 h3
theorem yU {p : Prop} {l : List Prop} : ay (p :: l) ↔ p ∧ ay l := by
 cases l <;> simp [ay]
theorem dU {a b : List Prop} : ay (a ++ b) ↔ ay a ∧ ay b := by
 induction a with
 | nil => simp [ay]
 | cons p a ih => rw [List.cons_append, yU, yU, ih, and_assoc]
theorem CU {orc : List (Nat × Bool)} {i : Nat} {r : dD} (h : ay (guess orc i r).gX) : ay r.gX ∧ (guess orc i r).val = r.val ∧ (guess orc i r).bz = r.bz := by
 unfold guess at h ⊢
 split
 ·rename_i t ht
  rw [ht] at h
  simp only at h
  split
  ·rename_i b hb
   rw [hb] at h
   simp only at h
   obtain ⟨h1, h2⟩ := yU.1 h
   exact ⟨h2, by rw [hb, h1], rfl⟩
  ·rename_i hb
   split at h
   ·rename_i b hb2
    exact absurd hb2 (hb b)
   ·exact ⟨h, rfl, rfl⟩
 ·rename_i ht
  rw [ht] at h
  exact ⟨h, rfl, rfl⟩
section one
variable {c : Ctx} {st : aC} {D D' : Nat → Prop} {β : aK} {w : World}
theorem sS : ∀ {l : aC} {st : aC}, aW c st D β w → (∀ k o, look k l = some o → look k st = some o) → (l.map (·.1)).Nodup →
  aW c (bR (dA l) st) D β w ∧ bZ (aH c st β) w β (aH c (bR (dA l) st) β) w β ∧
   ∀ k o, look k (gl l) = some o → look k (bR (dA l) st) = some o
 | [], st, h, _, _ => ⟨h, bZ.refl _ _ _, fun k o hk => by simp [gl, look] at hk⟩
 | (j, o) :: l, st, h, hl, hn => by
  simp only [List.map_cons, List.nodup_cons] at hn
  have hj : look j st = some o := hl j o (by simp [look])
  have hne : ∀ k o', look k l = some o' → k ≠ j := fun k o' hk e => by
   subst e
   apply hn.1
   have : ∀ l : aC, look k l = some o' → k ∈ l.map (·.1) := by
    intro l
    induction l with
    | nil => simp [look]
    | cons q l ih =>
     obtain ⟨i, b⟩ := q
     simp only [look]
     split
     ·rename_i hh
      intro _
      have : i = k := by simpa using hh
      simp [this]
     ·intro h2
      simp only [List.map_cons, List.mem_cons]
      exact .inr (ih h2)
   exact this l hk
  by_cases hc : (o.row && o.wr) = true
  ·obtain ⟨q1, q2⟩ := h.freeze hj
   have hl' : ∀ k o', look k l = some o' → look k (put j { o with wr := false } st) = some o' := fun k o' hk => by
    rw [dJ (hne k o' hk)]
    refine hl k o' ?_
    have : ¬ j = k := fun e => hne k o' hk e.symm
    simp [look, this, hk]
   obtain ⟨r1, r2, r3⟩ := sS q1 hl' hn.2
   simp only [dA, hc, if_true, bR]
   refine ⟨r1, q2.trans r2, fun k o' hk => ?_⟩
   simp only [gl, List.map_cons, look] at hk
   split at hk
   ·rename_i hjk
    have hjk' : j = k := by simpa using hjk
    subst hjk'
    simp only [Bool.and_eq_true] at hc
    rw [if_pos hc.1] at hk
    simp only [Option.some.injEq] at hk
    subst hk
    rw [gO]
    have : ck (dA l) j = none := by
     cases he : ck (dA l) j with
     | none => rfl
     | some r =>
      exfalso
      have hmem : ∀ l : aC, ∀ r, ck (dA l) j = some r → ∃ o', look j l = some o' := by
       intro l
       induction l with
       | nil => intro r h; simp [dA, ck] at h
       | cons q l ih =>
        obtain ⟨i, b⟩ := q
        intro r h
        by_cases hij : i = j
        ·exact ⟨b, by simp [look, hij]⟩
        ·simp only [dA] at h
         split at h
         ·simp only [ck] at h
          cases h3 : ck (dA l) j with
          | some r' =>
           obtain ⟨o', ho'⟩ := ih r' h3
           exact ⟨o', by simp [look, hij, ho']⟩
          | none => rw [h3] at h; simp [hij] at h
         ·obtain ⟨o', ho'⟩ := ih r h
          exact ⟨o', by simp [look, hij, ho']⟩
      obtain ⟨o', ho'⟩ := hmem l r he
      exact hne j o' ho' rfl
    rw [this]
    simp only [fz]
   ·exact r3 k o' (by simpa [gl] using hk)
  ·have hl' : ∀ k o', look k l = some o' → look k st = some o' := fun k o' hk => by
    refine hl k o' ?_
    have : ¬ j = k := fun e => hne k o' hk e.symm
    simp [look, this, hk]
   obtain ⟨r1, r2, r3⟩ := sS h hl' hn.2
   have hf : dA ((j, o) :: l) = dA l := by simp [dA, hc]
   rw [hf]
   refine ⟨r1, r2, fun k o' hk => ?_⟩
   simp only [gl, List.map_cons, look] at hk
   split at hk
   ·rename_i hjk
    have hjk' : j = k := by simpa using hjk
    subst hjk'
    have ho : (if o.row = true then { o with wr := false } else o) = o := by
     split
     ·rename_i hr
      simp only [hr, Bool.true_and, Bool.not_eq_true] at hc
      cases o; simp_all
     ·rfl
    rw [ho] at hk
    simp only [Option.some.injEq] at hk
    subst hk
    rw [gO]
    have : ck (dA l) j = none := by
     cases he : ck (dA l) j with
     | none => rfl
     | some r =>
      exfalso
      have hmem : ∀ l : aC, ∀ r, ck (dA l) j = some r → ∃ o', look j l = some o' := by
       intro l
       induction l with
       | nil => intro r h; simp [dA, ck] at h
       | cons q l ih =>
        obtain ⟨i, b⟩ := q
        intro r h
        by_cases hij : i = j
        ·exact ⟨b, by simp [look, hij]⟩
        ·simp only [dA] at h
         split at h
         ·simp only [ck] at h
          cases h3 : ck (dA l) j with
          | some r' =>
           obtain ⟨o', ho'⟩ := ih r' h3
           exact ⟨o', by simp [look, hij, ho']⟩
          | none => rw [h3] at h; simp [hij] at h
         ·obtain ⟨o', ho'⟩ := ih r h
          exact ⟨o', by simp [look, hij, ho']⟩
      obtain ⟨o', ho'⟩ := hmem l r he
      exact hne j o' ho' rfl
    rw [this]
    exact hj
   ·exact r3 k o' (by simpa [gl] using hk)
theorem sD : ∀ (e f : List (Nat × Option aJ)) (st : aC), bR (e ++ f) st = bR f (bR e st)
 | [], f, st => rfl
 | (k, some o) :: e, f, st => by simp only [List.cons_append, bR, sD e]
 | (k, none) :: e, f, st => by simp only [List.cons_append, bR, sD e]
theorem Mq {M : Nat → Prop} {x : Value} {v : AV} (h : ofConst x = some v) : bg M w β v x := by
 unfold ofConst at h
 split at h
 ·simp only [Option.some.injEq] at h; subst h; exact aS.br (.bK (.bool .nil) rfl)
 ·simp only [Option.some.injEq] at h; subst h; exact aS.br (.bK (.int .nil) rfl)
 ·simp only [Option.some.injEq] at h; subst h; exact aS.br (.bK (.vnil .nil) rfl)
 ·simp only [Option.some.injEq] at h; subst h; exact aS.br (.bK (.void rfl .nil) rfl)
 ·simp only [Option.some.injEq] at h; subst h; exact aS.br (.bK (.str .nil) rfl)
 ·simp at h
theorem B3 {M : Nat → Prop} {s : aA} {a : Act} (h : qw M w β s.bO a.tmps) : ∀ x v, s.ew x = some v → bg M w β v (a.eval x) := by
 intro x v hx
 cases x with
 | tmp t =>
  obtain ⟨y, hy, hv⟩ := h t v hx
  simp only [Act.eval, Array.getD_eq_getD_getElem?, hy, Option.getD_some]
  exact hv
 | const y => exact Mq hx
 | global g => simp [aA.ew] at hx
 | func f =>
  simp only [aA.ew, Option.some.injEq] at hx
  subst hx
  exact aS.br (.bK (.func (vs := []) .nil rfl .nil) rfl)
theorem PJ {M : Nat → Prop} {ops : Array Oper} {sl : List (Nat × AV)} {a : Act} (h : qw M w β sl a.tmps) {o : Oper} {b : Bool} (hw : kT ops.toList sl o = some b) :
  Region.wanted o (yielded ops a.tmps) = b := by
 unfold kT at hw
 unfold Region.wanted
 cases hg : o.guard with
 | none => rw [hg] at hw; simp only [Option.some.injEq] at hw; simp [hw]
 | some gw =>
  obtain ⟨g, want⟩ := gw
  rw [hg] at hw
  simp only at hw ⊢
  cases hp : ops.toList[g]? with
  | none => rw [hp] at hw; simp at hw
  | some p =>
   rw [hp] at hw
   simp only at hw
   cases hd : p.dst with
   | none => rw [hd] at hw; simp at hw
   | some d =>
    rw [hd] at hw
    simp only at hw
    cases hl : look d sl with
    | none => rw [hl] at hw; simp at hw
    | some v =>
     rw [hl] at hw
     cases v <;> try simp only [reduceCtorEq] at hw
     case tuple l =>
      cases l with
      | cons _ _ => simp at hw
      | nil =>
       simp only [Option.some.injEq] at hw
       subst hw
       obtain ⟨x, hx, hv⟩ := h d _ hl
       obtain ⟨xs, h1, h2⟩ := hv
       subst h1
       have hy : yielded ops a.tmps g = none := by
        have hp' : ops[g]? = some p := by simpa using hp
        simp [yielded, hp', hd, hx]
       rw [hy]
       simp
     case bool t =>
      obtain ⟨x, hx, hv⟩ := h d _ hl
      have := hv.bool
      subst this
      have hy : yielded ops a.tmps g = some t := by
       have hp' : ops[g]? = some p := by simpa using hp
       simp [yielded, hp', hd, hx]
      rw [hy]
      cases t <;> cases want <;> simp_all
variable {P : Program} {T : Types} (hT : dh P T) {Γ : aP} (hΓ : aX P Γ) {orc : List (Nat × Bool)}
include hT hΓ in
theorem z3 {ops : Array Oper} {nt N0 i : Nat} {sl : List (Nat × AV)} {a : Act} (hrel : Rel c nt D sl st a w) {o : Oper} {r : Rec} (hr : iS T Γ orc ops.toList ⟨sl, st, N0⟩ i o = some r) (need : r.res.need)
  (hdst : ∀ d, o.dst = some d → d < nt) (hD : ∀ k, D k → D' k) (hK : ∀ k, N0 + bL * i ≤ k → k < N0 + bL * i + bL → ¬ D k ∧ D' k) {K : Act → World → Prop} {Q : Exit → Act → World → Prop}
  (hn : ∀ a' w', Rel c nt D' (mD o.dst r.res.val sl) (bR r.res.bz st) a' w' → K a' w') :
  if Region.wanted o (yielded ops a.tmps) then o.wp P a w K Q else K (a.put o.dst undef) w := by
 obtain ⟨hdef, hsz, β, hw, hs⟩ := hrel
 have hfin : ∀ {bz : List (Nat × Option aJ)} {v : AV} {x : Value} {w' : World}, dQ c st D' β w bz v x w' → Rel c nt D' (mD o.dst v sl) (bR bz st) (a.put o.dst x) w' := by
  rintro bz v x w' ⟨β', q1, q2, q3⟩
  refine ⟨?_, ?_, β', q1, fun t u ht => ?_⟩
  ·cases o.dst <;> simpa [Act.put] using hdef
  ·cases o.dst <;> simpa [Act.put] using hsz
  ·rw [wg] at ht
   split at ht
   ·rename_i hd
    simp only [Option.some.injEq] at ht
    subst ht
    have := hdst t hd
    refine ⟨x, ?_, q3⟩
    simp only [hd, Act.put]
    exact Array.getElem?_setIfInBounds_self_of_lt (by rw [hsz]; exact this)
   ·rename_i hd
    obtain ⟨y, hy, hv⟩ := hs t u ht
    refine ⟨y, ?_, hv.gp q2⟩
    cases hdd : o.dst with
    | none => simpa [Act.put] using hy
    | some d =>
     have hne : d ≠ t := fun e => hd (by rw [hdd, e])
     simp only [Act.put]
     rw [Array.getElem?_setIfInBounds_ne hne]; exact hy
 unfold iS at hr
 simp only [force_eq] at hr
 cases hwa : kT ops.toList sl o with
 | none => rw [hwa] at hr; simp at hr
 | some b =>
  rw [hwa] at hr
  rw [PJ hs hwa]
  cases b with
  | false =>
   simp only [Option.some.injEq] at hr
   subst hr
   simp only [Bool.false_eq_true, if_false]
   exact hn _ _ (hfin (cJ hw hD ⟨[], by simp [undef], trivial⟩))
  | true =>
   simp only [if_true]
   simp only at hr
   have hρ := B3 (s := ⟨sl, st, N0⟩) hs
   cases hop : hH T Γ (N0 + bL * i) (aA.ew ⟨sl, st, N0⟩) (pick st (jy (aA.ew ⟨sl, st, N0⟩) o.op)) o.op with
   | some q =>
    rw [hop] at hr
    simp only [Option.some.injEq] at hr
    subst hr
    obtain ⟨need, e1, e2⟩ := CU need
    simp only [e1, e2] at hn
    refine (Fj hT hΓ hw (fun k o hk => ?_) hD hK hρ (fun _ => rfl) hop need).wp fun x w' hx => hn _ _ (hfin hx)
    rw [jC] at hk
    split at hk
    ·exact hk
    ·simp at hk
   | none =>
    rw [hop] at hr
    simp only at hr
    cases hfe : dA (pick st (jy (aA.ew ⟨sl, st, N0⟩) o.op)) with
    | nil => rw [hfe] at hr; simp at hr
    | cons e1 e2 =>
     rw [hfe] at hr
     simp only at hr
     cases hop2 : hH T Γ (N0 + bL * i) (aA.ew ⟨sl, st, N0⟩) (gl (pick st (jy (aA.ew ⟨sl, st, N0⟩) o.op))) o.op with
     | none => rw [hop2] at hr; simp at hr
     | some q =>
      rw [hop2] at hr
      simp only [Option.some.injEq] at hr
      subst hr
      obtain ⟨need, e1', _⟩ := CU need
      simp only [e1'] at hn
      obtain ⟨f1, f2, f3⟩ := sS (l := pick st (jy (aA.ew ⟨sl, st, N0⟩) o.op)) hw (fun k o hk => by
       rw [jC] at hk
       split at hk
       ·exact hk
       ·simp at hk) pP
      refine (Fj hT hΓ f1 f3 hD hK (fun x v hx => (hρ x v hx).gp f2) (fun _ => rfl) hop2 need).wp fun x w' hx => hn _ _ (hfin ?_)
      obtain ⟨β', q1, q2, q3⟩ := hx
      rw [← hfe]
      refine ⟨β', ?_, ?_, ?_⟩
      ·rw [sD]; exact q1
      ·rw [sD]; exact f2.trans q2
      ·rw [sD]; exact q3
end one
end Go.Am

/- Regions, in whatever order their edges allow. -/
namespace Go.Am
open AV
section locality
variable {T : Types} {Γ : aP} {orc : List (Nat × Bool)}
theorem tq {ρ ρ' : Operand → Option AV} : ∀ {l : List Operand}, (∀ x ∈ l, ρ x = ρ' x) → dM ρ l = dM ρ' l
 | [], _ => rfl
 | x :: l, h => by
  have e : dM ρ l = dM ρ' l := tq fun y hy => h y (List.mem_cons_of_mem _ hy)
  simp only [dM, h x (by simp), e]
theorem vO {ρ ρ' : Operand → Option AV} : ∀ {l : List (Nat × Operand)}, (∀ x ∈ l, ρ x.2 = ρ' x.2) → fV ρ l = fV ρ' l
 | [], _ => rfl
 | (i, x) :: l, h => by
  have e : fV ρ l = fV ρ' l := vO fun y hy => h y (List.mem_cons_of_mem _ hy)
  simp only [fV, h (i, x) (by simp), e]
theorem zg {ρ ρ' : Operand → Option AV} : ∀ {l : List Operand}, (∀ x ∈ l, ρ x = ρ' x) → jO ρ l = jO ρ' l
 | [], _ => rfl
 | x :: l, h => by
  have e : jO ρ l = jO ρ' l := zg fun y hy => h y (List.mem_cons_of_mem _ hy)
  simp only [jO, h x (by simp), e]
theorem SN {ρ ρ' : Operand → Option AV} {op : Op} (h : ∀ x ∈ op.operands.toList, ρ x = ρ' x) : jy ρ op = jy ρ' op := by
 have e := zg h
 unfold jy
 split
 ·rfl
 ·cases op <;> simp only [Dy] <;> try exact e
  case fieldAddr t x i hmv =>
   rw [h x (by simp [Op.operands])]
   split
   ·rfl
   ·exact e
  case indexAddr t x i hmv =>
   rw [h x (by simp [Op.operands])]
   split
   ·rfl
   ·exact e
theorem DO {K : Nat} {ρ ρ' : Operand → Option AV} {st : aC} {op : Op} (h : ∀ x ∈ op.operands.toList, ρ x = ρ' x) : dF T Γ K ρ st op = dF T Γ K ρ' st op := by
 cases op <;> simp only [Op.operands] at h <;> simp only [dF]
 case move x => rw [h x (by simp)]
 case assign x => rw [h x (by simp)]
 case pick a b c => rw [h a (by simp), h b (by simp), h c (by simp)]
 case box t x => rw [h x (by simp)]
 case build t ps => rw [vO fun p hp => h p.2 (by simp; exact ⟨p.1, by simpa using hp⟩)]
 case buildSlice t n ps => rw [vO fun p hp => h p.2 (by simp; exact ⟨p.1, by simpa using hp⟩)]
 case load t a => rw [h a (by simp)]
 case store t a x => rw [h a (by simp), h x (by simp)]
 case nilCheck x => rw [h x (by simp)]
 case binOp o t x y u => rw [h x (by simp), h y (by simp)]
 case unOp o t x => rw [h x (by simp)]
 case convert a b x => rw [h x (by simp)]
 case sliceToArrayPointer t x => rw [h x (by simp)]
 case makeFunc f a b =>
  have e : dM ρ b.toList = dM ρ' b.toList := tq fun x hx => h x (by simp at hx ⊢; exact .inr hx)
  cases f <;> simp only [e]
 case makeSlice t a b => rw [h a (by simp), h b (by simp)]
 case slice t x lo hi mx =>
  have e1 : ∀ d, bV ρ d lo = bV ρ' d lo := fun d => by
   cases lo with
   | none => rfl
   | some y => simp only [bV, h y (by simp)]
  have e2 : ∀ d, bV ρ d hi = bV ρ' d hi := fun d => by
   cases hi with
   | none => rfl
   | some y => simp only [bV, h y (by simp)]
  have e3 : ∀ d, bV ρ d mx = bV ρ' d mx := fun d => by
   cases mx with
   | none => rfl
   | some y => simp only [bV, h y (by simp)]
  simp only [h x (by simp), e1, e2, e3]
 case fieldAddr t x i => rw [h x (by simp)]
 case field t x i => rw [h x (by simp)]
 case indexAddr t x i => rw [h x (by simp), h i (by simp)]
 case index t x i => rw [h x (by simp), h i (by simp)]
 case extract x i => rw [h x (by simp)]
 case call c =>
  have ha : ∀ x ∈ c.args.toList, ρ x = ρ' x := fun x hx => h x (by simp [Call.operands]; right; simpa using hx)
  obtain ⟨callee, args, argTypes⟩ := c
  cases callee with
  | value f => simp only [j6, tq ha, h f (by simp [Call.operands])]
  | invoke r m => simp [j6]
  | builtin b => cases b <;> simp only [j6, tq ha]
theorem xM {ρ ρ' : Operand → Option AV} {d : Int} {x : Option Operand} (h : ∀ y, x = some y → ρ y = ρ' y) : bV ρ d x = bV ρ' d x := by
 cases x with
 | none => rfl
 | some y => simp only [bV, h y rfl]
theorem Sk {ρ ρ' : Operand → Option AV} {st : aC} {op : Op} (h : ∀ x ∈ op.operands.toList, ρ x = ρ' x) : oc T ρ st op = oc T ρ' st op := by
 cases op <;> simp only [oc]
 case load t a => rw [h a (by simp [Op.operands])]
 case store t a x => rw [h a (by simp [Op.operands])]
 case indexAddr t x ix => rw [h x (by simp [Op.operands]), h ix (by simp [Op.operands])]
 case index t x ix => rw [h ix (by simp [Op.operands])]
 case slice t x lo hi mx =>
  rw [h x (by simp [Op.operands])]
  have e1 : ∀ d, bV ρ d lo = bV ρ' d lo := fun d => xM fun y hy => h y (by simp [Op.operands, hy])
  have e2 : ∀ d, bV ρ d hi = bV ρ' d hi := fun d => xM fun y hy => h y (by simp [Op.operands, hy])
  have e3 : ∀ d, bV ρ d mx = bV ρ' d mx := fun d => xM fun y hy => h y (by simp [Op.operands, hy])
  simp only [e1, e2, e3]
theorem NN {ρ ρ' : Operand → Option AV} {op : Op} (h : ∀ x ∈ op.operands.toList, ρ x = ρ' x) : oy T ρ op = oy T ρ' op := by
 cases op <;> simp only [oy]
 case binOp o t x y u => rw [h x (by simp [Op.operands]), h y (by simp [Op.operands])]
 case convert s d x => rw [h x (by simp [Op.operands])]
theorem zG {K : Nat} {ρ ρ' : Operand → Option AV} {st : aC} {op : Op} (h : ∀ x ∈ op.operands.toList, ρ x = ρ' x) : hH T Γ K ρ st op = hH T Γ K ρ' st op := by
 have h1 : kU T ρ op = kU T ρ' op := by
  cases op <;> simp only [kU]
  case binOp o t x y u => rw [h x (by simp [Op.operands]), h y (by simp [Op.operands])]
 have h2 : mE T Γ K (j5 ρ) st op = mE T Γ K (j5 ρ') st op := by
  have e : ∀ x ∈ op.operands.toList, j5 ρ x = j5 ρ' x := fun x hx => by simp only [j5, h x hx]
  simp only [mE, DO e, Sk e, NN e]
 have h3 : kX T st ρ op = kX T st ρ' op := by
  cases op <;> simp only [kX]
  case binOp o t x y u => rw [h x (by simp [Op.operands]), h y (by simp [Op.operands])]
  case convert s d x => rw [h x (by simp [Op.operands])]
  case index t x ix =>
   have e := h ix (by simp [Op.operands])
   cases x <;> (try rfl)
   case const v => cases v <;> (try rfl); simp only [e]
 unfold hH
 rw [h1, h2, h3, DO h]
theorem Fo {st st' : aC} : ∀ {ks : List Nat}, (∀ k ∈ ks, look k st = look k st') → pick st ks = pick st' ks
 | [], _ => rfl
 | k :: ks, h => by
  have e : pick st ks = pick st' ks := Fo fun j hj => h j (List.mem_cons_of_mem _ hj)
  simp only [pick, h k (by simp), e]
theorem Jh {opsL : List Oper} {s s' : aA} {i : Nat} {o : Oper} {r : Rec} (h : iS T Γ orc opsL s i o = some r) (hsl : ∀ t ∈ s8 opsL o, look t s.bO = look t s'.bO)
  (hk : ∀ k ∈ r.asks, look k s.store = look k s'.store) (hn : s.next = s'.next) : iS T Γ orc opsL s' i o = some r := by
 have hw : kT opsL s.bO o = kT opsL s'.bO o := by
  unfold kT
  cases hg : o.guard with
  | none => rfl
  | some gw =>
   obtain ⟨g, want⟩ := gw
   simp only
   cases hp : opsL[g]? with
   | none => rfl
   | some p =>
    simp only
    cases hd : p.dst with
    | none => rfl
    | some d =>
     simp only
     rw [hsl d (by simp [s8, hg, hp, hd])]
 have hρ : ∀ x ∈ o.op.operands.toList, s.ew x = s'.ew x := fun x hx => by
  cases x with
  | tmp t => exact hsl t (by
    simp only [s8, List.mem_append, List.mem_filterMap]
    exact .inl ⟨_, hx, rfl⟩)
  | _ => rfl
 unfold iS at h ⊢
 simp only [force_eq] at h ⊢
 rw [← hw]
 cases hb : kT opsL s.bO o with
 | none => rw [hb] at h; simp at h
 | some b =>
  rw [hb] at h
  cases b with
  | false => exact h
  | true =>
   simp only at h ⊢
   rw [← SN hρ, ← hn]
   have hasks : r.asks = jy s.ew o.op := by
    split at h
    ·simp only [Option.some.injEq] at h; subst h; rfl
    ·split at h
     ·simp at h
     ·split at h
      ·simp only [Option.some.injEq] at h; subst h; rfl
      ·simp at h
   rw [hasks] at hk
   rw [← Fo hk, ← zG hρ]
   have : ∀ st', hH T Γ (s.next + bL * i) s'.ew st' o.op = hH T Γ (s.next + bL * i) s.ew st' o.op := fun st' => (zG hρ).symm
   simp only [this]
   exact h
end locality
def cC {α : Type} (W : Nat → Option α) (S : Nat → Bool) : Nat → Option α
 | 0 => none
 | n + 1 => if S n then (match W n with
  | some v => some v
  | none => cC W S n) else cC W S n
theorem jF {α : Type} {W : Nat → Option α} {S S' : Nat → Bool} : ∀ {n : Nat}, (∀ j, j < n → W j ≠ none → S j = S' j) → cC W S n = cC W S' n
 | 0, _ => rfl
 | n + 1, h => by
  have ih := jF (W := W) (S := S) (S' := S') (n := n) fun j hj => h j (by omega)
  simp only [cC]
  cases hW : W n with
  | none => cases S n <;> cases S' n <;> simp [ih]
  | some v => rw [h n (by omega) (by simp [hW]), ih]
theorem vM {α : Type} {W : Nat → Option α} {S : Nat → Bool} {i : Nat} (hi : S i = false) : ∀ {n : Nat}, i < n → (∀ j, i < j → j < n → S j = true → W j = none) →
  cC W (fun j => S j || j == i) n = match W i with
   | some v => some v
   | none => cC W S n
 | 0, h, _ => by omega
 | n + 1, h, hl => by
  simp only [cC]
  by_cases hn : n = i
  ·subst hn
   have : cC W (fun j => S j || j == n) n = cC W S n := jF fun j hj _ => by
    have : (j == n) = false := by simp; omega
    simp [this]
   simp [hi, this]
  ·have ih := vM (W := W) hi (n := n) (by omega) fun j h1 h2 => hl j h1 (by omega)
   have hni : (n == i) = false := by simpa using hn
   simp only [hni, Bool.or_false]
   cases hS : S n with
   | false => simpa [hS] using ih
   | true =>
    have := hl n (by omega) (by omega) hS
    simp [this, ih]
def fW (S : Nat → Bool) : Nat → Nat
 | 0 => 0
 | n + 1 => fW S n + if S n then 0 else 1
theorem ze {S : Nat → Bool} : ∀ {n : Nat}, fW S n = 0 → ∀ i, i < n → S i = true
 | 0, _, i, h => by omega
 | n + 1, h, i, hi => by
  simp only [fW] at h
  by_cases hn : i = n
  ·subst hn
   cases hs : S i with
   | true => rfl
   | false => rw [hs] at h; simp at h
  ·exact ze (n := n) (by omega) i (by omega)
theorem Fs {S : Nat → Bool} {i : Nat} (hi : S i = false) : ∀ {n : Nat}, i < n → fW (fun j => S j || j == i) n + 1 = fW S n
 | 0, h => by omega
 | n + 1, h => by
  simp only [fW]
  by_cases hn : n = i
  ·subst hn
   have : fW (fun j => S j || j == n) n = fW S n := by
    have : ∀ m, m ≤ n → fW (fun j => S j || j == n) m = fW S m := by
     intro m
     induction m with
     | zero => intro _; rfl
     | succ m ih =>
      intro hm
      have h1 : (m == n) = false := by simp; omega
      simp only [fW, h1, Bool.or_false, ih (by omega)]
    exact this n (Nat.le_refl _)
   simp [hi, this]
  ·have ih := Fs (S := S) hi (n := n) (by omega)
   have hni : (n == i) = false := by simpa using hn
   simp only [hni, Bool.or_false]
   omega
theorem Jo {n : Nat} : fW (fun _ => false) n = n := by
 induction n with
 | zero => rfl
 | succ n ih => simp [fW, ih]
theorem nP {a b : List Nat} {x : Nat} (ha : x ∈ a) (hb : x ∈ b) : meet a b = true := by
 simp only [meet, List.any_eq_true]
 exact ⟨x, ha, x, hb, by simp⟩
def Down (opsL : List Oper) (S : Nat → Bool) : Prop := ∀ (i : Nat) (o : Oper), opsL[i]? = some o → S i = true → ∀ e ∈ o.after.toList, Region.binds .any e = true → S e.on = true
theorem zb {acc : List Nat} {j : Nat} : ∀ (es : List Edge) (m : Nat), (es.foldl (fun m e => if Region.binds .any e then m ||| (1 <<< e.on) ||| acc.getD e.on 0 else m) m).testBit j = true →
  m.testBit j = true ∨ ∃ e ∈ es, Region.binds .any e = true ∧ (j = e.on ∨ (acc.getD e.on 0).testBit j = true)
 | [], m, h => .inl h
 | e :: es, m, h => by
  simp only [List.foldl_cons] at h
  rcases zb es _ h with h1 | ⟨e', h1, h2, h3⟩
  ·split at h1
   ·rename_i hb
    simp only [Nat.testBit_or, Bool.or_eq_true] at h1
    rcases h1 with (h1 | h1) | h1
    ·exact .inl h1
    ·refine .inr ⟨e, by simp, hb, .inl ?_⟩
     simp only [Nat.one_shiftLeft, Nat.testBit_two_pow, decide_eq_true_eq] at h1
     exact h1.symm
    ·exact .inr ⟨e, by simp, hb, .inr h1⟩
   ·exact .inl h1
  ·exact .inr ⟨e', by simp [h1], h2, h3⟩
theorem CH {opsL : List Oper} {S : Nat → Bool} (hd : Down opsL S) : ∀ (l done : List Oper) (acc : List Nat), opsL = done ++ l → acc.length = done.length →
  (∀ (i m : Nat) (o : Oper), acc[i]? = some m → opsL[i]? = some o → (∀ e ∈ o.after.toList, Region.binds .any e = true → S e.on = true) → ∀ j, m.testBit j = true → S j = true) →
  (kF l acc).length = opsL.length ∧ ∀ (i m : Nat) (o : Oper), (kF l acc)[i]? = some m → opsL[i]? = some o → (∀ e ∈ o.after.toList, Region.binds .any e = true → S e.on = true) → ∀ j, m.testBit j = true → S j = true
 | [], done, acc, he, hl, h => by simp only [kF]; exact ⟨by rw [hl, he]; simp, h⟩
 | o :: l, done, acc, he, hl, h => by
  simp only [kF]
  refine CH hd l (done ++ [o]) _ (by simp [he]) (by simp [hl]) fun i m p hi hp hedge j hj => ?_
  by_cases hlt : i < acc.length
  ·rw [List.getElem?_append_left hlt] at hi
   exact h i m p hi hp hedge j hj
  ·have hil : i < (acc ++ [o.after.toList.foldl (fun m e => if Region.binds .any e then m ||| (1 <<< e.on) ||| acc.getD e.on 0 else m) 0]).length := (List.getElem?_eq_some_iff.1 hi).1
   simp only [List.length_append, List.length_cons, List.length_nil] at hil
   have hi' : i = acc.length := by omega
   subst hi'
   simp only [List.getElem?_concat_length, Option.some.injEq] at hi
   subst hi
   have hpo : p = o := by
    rw [he, hl] at hp
    simpa using hp.symm
   subst hpo
   rcases zb _ _ hj with h1 | ⟨e, h1, h2, h3⟩
   ·simp at h1
   ·rcases h3 with rfl | h3
    ·exact hedge e h1 h2
    ·rw [List.getD_eq_getElem?_getD] at h3
     cases hm : acc[e.on]? with
     | none => rw [hm] at h3; simp at h3
     | some m' =>
      rw [hm] at h3
      have hlt2 := (List.getElem?_eq_some_iff.1 hm).1
      have ho : ∃ p', opsL[e.on]? = some p' := by
       rw [he]
       exact ⟨_, List.getElem?_eq_getElem (by simp; omega)⟩
      obtain ⟨p', hp'⟩ := ho
      exact h e.on m' p' hm hp' (hd e.on p' hp' (hedge e h1 h2)) j h3
theorem pM {ops : List Oper} : ∀ {l : List Oper} {rs : List Rec} {as' : List Nat} {i : Nat} {o : Oper} {r : Rec} {a : Nat}, l[i]? = some o → rs[i]? = some r → as'[i]? = some a →
  (nL l rs as' ops)[i]? = some (gM ops o r, a)
 | o' :: l, r' :: rs, a' :: as', 0, o, r, a, h1, h2, h3 => by simp at h1 h2 h3; subst h1; subst h2; subst h3; simp [nL]
 | o' :: l, r' :: rs, a' :: as', i + 1, o, r, a, h1, h2, h3 => by
  simp only [nL, List.getElem?_cons_succ]
  exact pM (by simpa using h1) (by simpa using h2) (by simpa using h3)
 | [], _, _, i, o, r, a, h1, _, _ => by simp at h1
 | _ :: _, [], _, i, o, r, a, _, h2, _ => by simp at h2
 | _ :: _, _ :: _, [], i, o, r, a, _, _, h3 => by simp at h3
theorem B0 {i : Nat} {t : Touch} : ∀ {l : List (Touch × Nat)} {j : Nat} {u : Touch} {a : Nat}, qy i t l = true → l[j]? = some (u, a) → t.iz u = true → a.testBit i = true
 | [], j, u, a, _, h, _ => by simp at h
 | (u', a') :: l, 0, u, a, h, hj, hc => by
  simp at hj
  obtain ⟨rfl, rfl⟩ := hj
  simp only [qy, Bool.and_eq_true, Bool.or_eq_true, Bool.not_eq_true'] at h
  rcases h.1 with h1 | h1
  ·rw [hc] at h1; simp at h1
  ·exact h1
 | (u', a') :: l, j + 1, u, a, h, hj, hc => by
  simp only [qy, Bool.and_eq_true] at h
  exact B0 h.2 (by simpa using hj) hc
theorem wV : ∀ {l : List (Touch × Nat)} {b i j : Nat} {t u : Touch} {a a' : Nat}, nO l b = true → l[i]? = some (t, a) → l[j]? = some (u, a') → i < j → t.iz u = true → a'.testBit (b + i) = true
 | [], b, i, j, t, u, a, a', _, h, _, _, _ => by simp at h
 | (t', x) :: l, b, 0, j, t, u, a, a', h, hi, hj, hij, hc => by
  simp at hi
  obtain ⟨rfl, rfl⟩ := hi
  simp only [nO, Bool.and_eq_true] at h
  cases j with
  | zero => omega
  | succ j => simpa using B0 h.1 (by simpa using hj) hc
 | (t', x) :: l, b, i + 1, j, t, u, a, a', h, hi, hj, hij, hc => by
  simp only [nO, Bool.and_eq_true] at h
  cases j with
  | zero => omega
  | succ j =>
   have := wV h.2 (by simpa using hi) (by simpa using hj) (by omega) hc
   have e : b + 1 + i = b + (i + 1) := by omega
   rwa [e] at this
theorem AK : ∀ {l : List Oper} {b i : Nat} {o : Oper}, oa l b = true → l[i]? = some o → ∀ e ∈ o.after.toList, Region.binds .any e = true → e.on < b + i
 | [], b, i, o, _, h, _, _, _ => by simp at h
 | o' :: l, b, 0, o, h, hi, e, he, hb => by
  simp at hi
  subst hi
  simp only [oa, Bool.and_eq_true, List.all_eq_true, Bool.or_eq_true, Bool.not_eq_true', decide_eq_true_eq] at h
  rcases h.1 e he with h1 | h1
  ·rw [hb] at h1; simp at h1
  ·simpa using h1
 | o' :: l, b, i + 1, o, h, hi, e, he, hb => by
  simp only [oa, Bool.and_eq_true] at h
  have := AK h.2 (by simpa using hi) e he hb
  omega
end Go.Am

/- Regions. -/
namespace Go.Am
open AV
theorem wH {α : Type} {W : Nat → Option α} : ∀ {n : Nat}, cC W (fun _ => true) (n + 1) = match cC (fun q => W (q + 1)) (fun _ => true) n with
  | some v => some v
  | none => W 0
 | 0 => by simp only [cC, if_true]; cases W 0 <;> rfl
 | n + 1 => by
  have ih := wH (W := W) (n := n)
  rw [cC, if_pos rfl, ih]
  simp only [cC, if_true]
  cases W (n + 1) <;> rfl
def fM (l : List Oper) (rs : List Rec) (t : Nat) (q : Nat) : Option AV :=
 match l[q]?, rs[q]? with
 | some o, some r => if o.dst = some t then some r.res.val else none
 | _, _ => none
def fI (l : List Oper) (rs : List Rec) (k : Nat) (q : Nat) : Option (Option aJ) :=
 match l[q]?, rs[q]? with
 | some _, some r => ck r.res.bz k
 | _, _ => none
def orElse {α : Type} (a : Option α) (b : Option α) : Option α := match a with
 | some v => some v
 | none => b
def mS (a : Option (Option aJ)) (b : Option aJ) : Option aJ := match a with
 | some r => r
 | none => b
section trace
variable {T : Types} {Γ : aP} {orc : List (Nat × Bool)}
theorem xV {opsL : List Oper} : ∀ (l : List Oper) (i : Nat) (s s' : aA) (need : List Prop) (rs : List Rec), gx T Γ orc opsL l i s = some (s', need, rs) →
  rs.length = l.length ∧ (ay need → ∀ r ∈ rs, r.res.need) ∧ s'.next = s.next ∧
  (∀ t, look t s'.bO = orElse (cC (fM l rs t) (fun _ => true) l.length) (look t s.bO)) ∧ (∀ k, look k s'.store = mS (cC (fI l rs k) (fun _ => true) l.length) (look k s.store)) ∧
  ∀ (p : Nat) (o : Oper) (r : Rec), l[p]? = some o → rs[p]? = some r → ∃ sp : aA, iS T Γ orc opsL sp (i + p) o = some r ∧ sp.next = s.next ∧
   (∀ t, look t sp.bO = orElse (cC (fM l rs t) (fun _ => true) p) (look t s.bO)) ∧ (∀ k, look k sp.store = mS (cC (fI l rs k) (fun _ => true) p) (look k s.store))
 | [], i, s, s', need, rs, h => by
  simp only [gx, Option.some.injEq, Prod.mk.injEq] at h
  obtain ⟨rfl, rfl, rfl⟩ := h
  exact ⟨rfl, fun _ r hr => by simp at hr, rfl, fun t => rfl, fun k => rfl, fun p o r hp => by simp at hp⟩
 | o :: l, i, s, s', need, rs, h => by
  simp only [gx] at h
  cases hr : iS T Γ orc opsL s i o with
  | none => rw [hr] at h; simp at h
  | some r =>
   rw [hr] at h
   simp only at h
   cases ht : gx T Γ orc opsL l (i + 1) (jM s o r.res) with
   | none => rw [ht] at h; simp at h
   | some q =>
    obtain ⟨s1, n1, rs1⟩ := q
    rw [ht] at h
    simp only [Option.some.injEq, Prod.mk.injEq] at h
    obtain ⟨rfl, rfl, rfl⟩ := h
    obtain ⟨h1, h2, h3, h4, h5, h6⟩ := xV l (i + 1) (jM s o r.res) s1 n1 rs1 ht
    have eS : ∀ t, (fun q => fM (o :: l) (r :: rs1) t (q + 1)) = fM l rs1 t := fun t => by funext q; simp [fM]
    have eK : ∀ k, (fun q => fI (o :: l) (r :: rs1) k (q + 1)) = fI l rs1 k := fun k => by funext q; simp [fI]
    have gS : ∀ t n, orElse (cC (fM l rs1 t) (fun _ => true) n) (look t (jM s o r.res).bO) = orElse (cC (fM (o :: l) (r :: rs1) t) (fun _ => true) (n + 1)) (look t s.bO) := fun t n => by
     rw [wH, eS]
     cases cC (fM l rs1 t) (fun _ => true) n with
     | some v => rfl
     | none =>
      simp only [orElse, jM, wg, fM, List.getElem?_cons_zero]
      split <;> rfl
    have gK : ∀ k n, mS (cC (fI l rs1 k) (fun _ => true) n) (look k (jM s o r.res).store) = mS (cC (fI (o :: l) (r :: rs1) k) (fun _ => true) (n + 1)) (look k s.store) := fun k n => by
     rw [wH, eK]
     cases cC (fI l rs1 k) (fun _ => true) n with
     | some v => rfl
     | none =>
      simp only [mS, jM, gO, fI, List.getElem?_cons_zero]
      cases ck r.res.bz k <;> rfl
    refine ⟨by simp [h1], fun hn r' hr' => ?_, h3, fun t => ?_, fun k => ?_, fun p o' r' hp hrp => ?_⟩
    ·rcases List.mem_cons.1 hr' with rfl | hr'
     ·exact (dU.1 hn).1
     ·exact h2 (dU.1 hn).2 r' hr'
    ·rw [h4 t, gS]; rfl
    ·rw [h5 k, gK]; rfl
    ·cases p with
     | zero =>
      simp only [List.getElem?_cons_zero, Option.some.injEq] at hp hrp
      subst hp; subst hrp
      exact ⟨s, hr, rfl, fun t => rfl, fun k => rfl⟩
     | succ p =>
      obtain ⟨sp, a1, a2, a3, a4⟩ := h6 p o' r' (by simpa using hp) (by simpa using hrp)
      refine ⟨sp, by rw [← a1]; congr 1; omega, a2, fun t => ?_, fun k => ?_⟩
      ·rw [a3 t, gS]
      ·rw [a4 k, gK]
end trace
section region
variable {c : Ctx} {P : Program} {T : Types} (hT : dh P T) {Γ : aP} (hΓ : aX P Γ) {orc : List (Nat × Bool)}
theorem aW.ext {st st' : aC} {D : Nat → Prop} {β : aK} {w : World} (h : aW c st D β w) (he : ∀ k, look k st = look k st') : aW c st' D β w ∧ aH c st' β = aH c st β := by
 have hM : aH c st' β = aH c st β := by
  funext b
  simp only [aH, he]
 refine ⟨?_, hM⟩
 refine { h with obj := fun k o hk x hx => ?_, cA := fun k o hk => h.cA k o (by rw [he]; exact hk), inj := fun k k' o o' b N N' h1 h2 => ?_, new := fun k o b N h1 => ?_ }
 ·rw [hM]; exact h.obj k o (by rw [he]; exact hk) x hx
 ·exact h.inj k k' o o' b N N' (by rw [he]; exact h1) (by rw [he]; exact h2)
 ·exact h.new k o b N (by rw [he]; exact h1)
theorem Rel.ext {nt : Nat} {D D' : Nat → Prop} {sl sl' : List (Nat × AV)} {st st' : aC} {a : Act} {w : World} (h : Rel c nt D sl st a w) (h1 : ∀ t, look t sl = look t sl') (h2 : ∀ k, look k st = look k st')
  (hD : ∀ k, D k → D' k) : Rel c nt D' sl' st' a w := by
 obtain ⟨a1, a2, β, a3, a4⟩ := h
 obtain ⟨b1, b2⟩ := a3.ext h2
 refine ⟨a1, a2, β, b1.jR hD, fun t v ht => ?_⟩
 rw [b2]
 exact a4 t v (by rw [h1]; exact ht)
theorem Em {ops : Array Oper} {i : Nat} {o : Oper} (ho : ops[i]? = some o) {a : Act} {w : World} {K : Act → World → Prop} {Q : Exit → Act → World → Prop}
  (h : if Region.wanted o (yielded ops a.tmps) then o.wp P a w K Q else K (a.put o.dst undef) w) : wpOp P ops Q i K a w := by
 unfold wpOp
 simp only [ho]
 split
 ·rename_i hw; rw [if_pos hw] at h; exact .inl h
 ·rename_i hw; rw [if_neg hw] at h; exact h
def zO (N0 n : Nat) (S : Nat → Bool) (k : Nat) : Prop := k < N0 ∨ ∃ i, i < n ∧ S i = true ∧ N0 + bL * i ≤ k ∧ k < N0 + bL * i + bL
theorem S3 {N0 i j k : Nat} (h1 : N0 + bL * i ≤ k) (h2 : k < N0 + bL * i + bL) (h3 : N0 + bL * j ≤ k) (h4 : k < N0 + bL * j + bL) : i = j := by
 simp only [bL] at *
 omega
include hT hΓ in
theorem Es {ops : Array Oper} {nt N0 : Nat} (hdst : ∀ o ∈ ops.toList, ∀ d, o.dst = some d → d < nt) {Q : Exit → Act → World → Prop} :
  ∀ (l done : List Oper) (s s' : aA) (need : List Prop) (rs : List Rec) (a : Act) (w : World), ops.toList = done ++ l → s.next = N0 → gx T Γ orc ops.toList l done.length s = some (s', need, rs) → ay need →
   Rel c nt (fun k => k < N0 + bL * done.length) s.bO s.store a w →
   (∀ a' w', Rel c nt (fun k => k < N0 + bL * ops.size) s'.bO s'.store a' w' → Q .normal a' w') → wpOps P ops Q (List.range' done.length l.length) a w
 | [], done, s, s', need, rs, a, w, hops, hN, hr, hn, hrel, hQ => by
  simp only [gx, Option.some.injEq, Prod.mk.injEq] at hr
  obtain ⟨rfl, rfl, rfl⟩ := hr
  simp only [List.length_nil, List.range'_zero, wpOps]
  refine hQ a w (hrel.ext (fun _ => rfl) (fun _ => rfl) fun k hk => ?_)
  have : ops.size = done.length := by rw [← Array.length_toList, hops]; simp
  rw [this]; exact hk
 | o :: l, done, s, s', need, rs, a, w, hops, hN, hr, hn, hrel, hQ => by
  simp only [gx] at hr
  cases hrec : iS T Γ orc ops.toList s done.length o with
  | none => rw [hrec] at hr; simp at hr
  | some r =>
   rw [hrec] at hr
   simp only at hr
   cases ht : gx T Γ orc ops.toList l (done.length + 1) (jM s o r.res) with
   | none => rw [ht] at hr; simp at hr
   | some q =>
    obtain ⟨s1, n1, rs1⟩ := q
    rw [ht] at hr
    simp only [Option.some.injEq, Prod.mk.injEq] at hr
    obtain ⟨rfl, rfl, rfl⟩ := hr
    rw [List.length_cons, List.range'_succ, wpOps_cons]
    have ho : ops[done.length]? = some o := by rw [← Array.getElem?_toList, hops]; simp
    refine Em ho (z3 (D' := fun k => k < N0 + bL * (done ++ [o]).length) hT hΓ (N0 := s.next) (i := done.length) hrel (by cases s; exact hrec) (dU.1 hn).1
     (fun d hd => hdst o (by rw [hops]; simp) d hd) (fun k hk => ?_) (fun k h1 h2 => ?_) fun a' w' hrel' => ?_)
    ·simp only [List.length_append, List.length_cons, List.length_nil, bL] at hk ⊢; omega
    ·simp only [List.length_append, List.length_cons, List.length_nil, bL] at h1 h2 ⊢; omega
    ·have := Es hdst l (done ++ [o]) (jM s o r.res) s1 n1 rs1 a' w' (by simp [hops]) hN (by simpa using ht) (dU.1 hn).2 hrel' hQ
     simpa using this
theorem xF {α : Type} {W : Nat → Option α} {i : Nat} : ∀ {n : Nat}, i ≤ n → cC W (fun j => decide (j < i)) n = cC W (fun _ => true) i
 | 0, h => by
    have : i = 0 := by omega
    subst this; rfl
 | n + 1, h => by
  by_cases hn : i = n + 1
  ·subst hn
   exact jF fun j hj _ => by simpa using hj
  ·have ih := xF (W := W) (i := i) (n := n) (by omega)
   have : decide (n < i) = false := by simp; omega
   simp only [cC, this, Bool.false_eq_true, if_false]
   exact ih
theorem u9 {k : Nat} : ∀ {bz : List (Nat × Option aJ)} {r : Option aJ}, ck bz k = some r → k ∈ bz.map (·.1)
 | [], r, h => by simp [ck] at h
 | (j, o) :: l, r, h => by
  simp only [ck] at h
  cases he : ck l k with
  | some r' => simp only [List.map_cons, List.mem_cons]; exact .inr (u9 he)
  | none =>
   rw [he] at h
   simp only at h
   split at h
   ·rename_i hjk
    have : j = k := by simpa using hjk
    simp [this]
   ·simp at h
theorem O5 {l : Array Bool} {i j : Nat} (hi : i < l.size) : (l.setIfInBounds i true).getD j false = (l.getD j false || j == i) := by
 simp only [Array.getD_eq_getD_getElem?, Array.getElem?_setIfInBounds]
 by_cases h : i = j
 ·subst h; simp [hi]
 ·have : (j == i) = false := by simp; omega
  simp [h, this]
include hT hΓ in
theorem Ve {ops : Array Oper} {nt : Nat} (hdst : ∀ o ∈ ops.toList, ∀ d, o.dst = some d → d < nt) {Q : Exit → Act → World → Prop} {s s' : aA} {need : List Prop} {rs : List Rec}
  (hrun : gx T Γ orc ops.toList ops.toList 0 s = some (s', need, rs)) (hneed : ay need) (hE : oa ops.toList 0 = true) (hA : nO (nL ops.toList rs (kF ops.toList []) ops.toList) 0 = true)
  (hQ : ∀ a' w', Rel c nt (fun k => k < s.next + bL * ops.size) s'.bO s'.store a' w' → Q .normal a' w') {a : Act} {w : World} (hrel : Rel c nt (fun k => k < s.next) s.bO s.store a w) :
  wpAny P .any ops Q ops.size (Array.replicate ops.size false) a w := by
 obtain ⟨t1, t2, t3, t4, t5, t6⟩ := xV ops.toList 0 s s' need rs hrun
 have hsz : ops.toList.length = ops.size := Array.length_toList
 -- the invariant
 let Inv : (Nat → Bool) → Act → World → Prop := fun S a w => ∃ sl st, (∀ t, look t sl = orElse (cC (fM ops.toList rs t) S ops.size) (look t s.bO)) ∧
  (∀ k, look k st = mS (cC (fI ops.toList rs k) S ops.size) (look k s.store)) ∧ Rel c nt (zO s.next ops.size S) sl st a w
 have hend : ∀ (S : Nat → Bool) (a : Act) (w : World), (∀ i, i < ops.size → S i = true) → Inv S a w → Q .normal a w := by
  rintro S a w hall ⟨sl, st, h1, h2, h3⟩
  refine hQ a w (h3.ext (fun t => ?_) (fun k => ?_) fun k hk => ?_)
  ·rw [h1 t, t4 t, hsz]
   congr 1
   exact jF fun j hj _ => hall j hj
  ·rw [h2 k, t5 k, hsz]
   congr 1
   exact jF fun j hj _ => hall j hj
  ·rcases hk with hk | ⟨i, hi, _, _, hk⟩
   ·simp only [bL] at *; omega
   ·simp only [bL] at *; omega
 have main : ∀ (fuel : Nat) (listed : Array Bool) (a : Act) (w : World), listed.size = ops.size → Down ops.toList (fun i => listed.getD i false) → fW (fun i => listed.getD i false) ops.size ≤ fuel →
   Inv (fun i => listed.getD i false) a w → wpAny P .any ops Q fuel listed a w := by
  intro fuel
  induction fuel with
  | zero =>
   intro listed a w hl hd hlk hinv
   have hall := ze (show fW (fun i => listed.getD i false) ops.size = 0 by omega)
   refine ⟨?_, hend _ a w hall hinv⟩
   simp only [Region.ready, List.filter_eq_nil_iff, List.mem_range, Bool.and_eq_true, Bool.not_eq_true', not_and]
   intro i hi h
   have := hall i hi
   simp only [Array.getD_eq_getD_getElem?] at this h
   rw [Array.getElem?_eq_getElem (by omega)] at this h
   simp at this h
   rw [this] at h; simp at h
  | succ fuel ih =>
   intro listed a w hl hd hlk hinv
   have hgd : ∀ i, i < ops.size → listed.getD i true = listed.getD i false := fun i hi => by
    simp only [Array.getD_eq_getD_getElem?]
    rw [Array.getElem?_eq_getElem (by omega)]; rfl
   have hready : ∀ i, i ∈ Region.ready .any ops listed ↔ i < ops.size ∧ listed.getD i false = false ∧ ∀ o, ops.toList[i]? = some o → ∀ e ∈ o.after.toList, Region.binds .any e = true → listed.getD e.on false = true := fun i => by
    simp only [Region.ready, List.mem_filter, List.mem_range, Bool.and_eq_true, Bool.not_eq_true']
    constructor
    ·rintro ⟨h1, h2, h3⟩
     refine ⟨h1, by rw [← hgd i h1]; exact h2, fun o ho e he hb => ?_⟩
     have ho' : ops[i]? = some o := by simpa using ho
     rw [ho'] at h3
     simp only [Option.map_some, Option.getD_some, Array.all_eq_true_iff_forall_mem, Bool.or_eq_true, Bool.not_eq_true'] at h3
     rcases h3 e (by simpa using he) with h4 | h4
     ·rw [hb] at h4; simp at h4
     ·exact h4
    ·rintro ⟨h1, h2, h3⟩
     refine ⟨h1, by rw [hgd i h1]; exact h2, ?_⟩
     have ho' : ops[i]? = some ops[i] := Array.getElem?_eq_getElem h1
     rw [ho']
     simp only [Option.map_some, Option.getD_some, Array.all_eq_true_iff_forall_mem, Bool.or_eq_true, Bool.not_eq_true']
     intro e he
     cases hb : Region.binds .any e with
     | false => exact .inl rfl
     | true => exact .inr (h3 ops[i] (by simp [h1]) e (by simpa using he) hb)
   refine ⟨fun hnil => ?_, fun i hi => ?_⟩
   ·refine hend _ a w (fun i => ?_) hinv
    induction i using Nat.strongRecOn with
    | _ i ihi =>
     intro hi
     cases hl' : listed.getD i false with
     | true => rfl
     | false =>
      have : i ∈ Region.ready .any ops listed := (hready i).2 ⟨hi, hl', fun o ho e he hb => by
       have hlt := AK hE ho e he hb
       exact ihi e.on (by omega) (by omega)⟩
      rw [hnil] at this
      simp at this
   ·obtain ⟨h1, h2, h3⟩ := (hready i).1 hi
    have ho : ops.toList[i]? = some ops[i] := by simp [h1]
    generalize ops[i] = o at ho
    obtain ⟨r, hr⟩ : ∃ r, rs[i]? = some r := ⟨_, List.getElem?_eq_getElem (by omega)⟩
    obtain ⟨sp, q1, q2, q3, q4⟩ := t6 i o r ho hr
    rw [Nat.zero_add] at q1
    have hi2 : listed.getD i false = false := h2
    have hanc := CH hd ops.toList [] [] rfl rfl (fun i m o h => by simp at h)
    -- order of what clashes
    have hclash : ∀ (j : Nat) (o' : Oper) (r' : Rec), ops.toList[j]? = some o' → rs[j]? = some r' → j ≠ i →
      ((gM ops.toList o' r').iz (gM ops.toList o r) = true ∧ j < i ∨ (gM ops.toList o r).iz (gM ops.toList o' r') = true ∧ i < j) → listed.getD j false = decide (j < i) := by
     intro j o' r' hj hrj hne hc
     have hai : ∀ q (o : Oper), ops.toList[q]? = some o → ∃ m, (kF ops.toList [])[q]? = some m := fun q o hq =>
      ⟨_, List.getElem?_eq_getElem (by rw [hanc.1]; exact (List.getElem?_eq_some_iff.1 hq).1)⟩
     obtain ⟨mi, hmi⟩ := hai i o ho
     obtain ⟨mj, hmj⟩ := hai j o' hj
     rcases hc with ⟨hc, hlt⟩ | ⟨hc, hlt⟩
     ·have hb := wV hA (pM hj hrj hmj) (pM ho hr hmi) hlt hc
      rw [Nat.zero_add] at hb
      have := hanc.2 i mi o hmi ho (h3 o ho) j hb
      simp only [hlt, decide_true]; exact this
     ·have hb := wV hA (pM ho hr hmi) (pM hj hrj hmj) hlt hc
      rw [Nat.zero_add] at hb
      have : decide (j < i) = false := by simp; omega
      rw [this]
      cases hS : listed.getD j false with
      | false => rfl
      | true =>
       have := hanc.2 j mj o' hmj hj (hd j o' hj hS) i hb
       simp only [hi2] at this
       simp at this
    obtain ⟨sl, st, v1, v2, v3⟩ := hinv
    -- the operation C0 here what it did in the order of the text
    have hloc : iS T Γ orc ops.toList ⟨sl, st, s.next⟩ i o = some r := by
     refine Jh q1 (fun t ht => ?_) (fun k hk => ?_) q2
     ·rw [q3 t, v1 t]
      congr 1
      rw [← xF (show i ≤ ops.size by omega)]
      refine jF fun j hj hW => ?_
      by_cases hji : j = i
      ·subst hji; simp only [hi2]; simp
      ·unfold fM at hW
       cases hoj : ops.toList[j]? with
       | none => simp [hoj] at hW
       | some o' =>
        cases hrj : rs[j]? with
        | none => simp [hoj, hrj] at hW
        | some r' =>
         have hdj : o'.dst = some t := by
          simp only [hoj, hrj] at hW
          by_cases hd : o'.dst = some t
          ·exact hd
          ·simp [hd] at hW
         refine (hclash j o' r' hoj hrj hji ?_).symm
         rcases Nat.lt_or_gt_of_ne hji with hlt | hgt
         ·refine .inl ⟨?_, hlt⟩
          simp only [Touch.iz, gM, Bool.or_eq_true]
          exact .inl (.inl (.inl (.inl (.inl (nP (x := t) (by simp [hdj]) ht)))))
         ·refine .inr ⟨?_, hgt⟩
          simp only [Touch.iz, gM, Bool.or_eq_true]
          exact .inl (.inl (.inl (.inr (nP (x := t) ht (by simp [hdj])))))
     ·rw [q4 k, v2 k]
      congr 1
      rw [← xF (show i ≤ ops.size by omega)]
      refine jF fun j hj hW => ?_
      by_cases hji : j = i
      ·subst hji; simp only [hi2]; simp
      ·unfold fI at hW
       cases hoj : ops.toList[j]? with
       | none => simp [hoj] at hW
       | some o' =>
        cases hrj : rs[j]? with
        | none => simp [hoj, hrj] at hW
        | some r' =>
         have hkj : k ∈ r'.res.bz.map (·.1) := by
          simp only [hoj, hrj] at hW
          cases he : ck r'.res.bz k with
          | none => simp [he] at hW
          | some x => exact u9 he
         refine (hclash j o' r' hoj hrj hji ?_).symm
         rcases Nat.lt_or_gt_of_ne hji with hlt | hgt
         ·refine .inl ⟨?_, hlt⟩
          simp only [Touch.iz, gM, Bool.or_eq_true]
          exact .inl (.inl (.inr (nP (x := k) hkj hk)))
         ·refine .inr ⟨?_, hgt⟩
          simp only [Touch.iz, gM, Bool.or_eq_true]
          exact .inr (nP (x := k) hk hkj)
    have hmem : r ∈ rs := List.mem_of_getElem? hr
    refine Em (by simpa using ho) (z3 (D' := zO s.next ops.size (fun j => listed.getD j false || j == i)) hT hΓ v3 hloc (t2 hneed r hmem) (hdst o (List.mem_of_getElem? ho)) (fun k hk => ?_) (fun k k1 k2 => ?_) fun a' w' hrel' => ?_)
    ·rcases hk with hk | ⟨j, g1, g2, g3, g4⟩
     ·exact .inl hk
     ·exact .inr ⟨j, g1, by simp only [g2, Bool.true_or], g3, g4⟩
    ·refine ⟨?_, .inr ⟨i, h1, by simp, k1, k2⟩⟩
     rintro (hk | ⟨j, g1, g2, g3, g4⟩)
     ·omega
     ·have := S3 g3 g4 k1 k2
      subst this
      simp only [hi2] at g2
      simp at g2
    ·have hS : (fun j => (listed.setIfInBounds i true).getD j false) = fun j => listed.getD j false || j == i := by
      funext j
      exact O5 (by omega)
     refine ih (listed.setIfInBounds i true) a' w' (by simpa using hl) ?_ ?_ ?_
     ·rw [hS]
      intro j o' hoj hSj e he hb
      by_cases hji : j = i
      ·subst hji
       rw [ho] at hoj
       simp only [Option.some.injEq] at hoj
       subst hoj
       simp only [h3 o ho e he hb, Bool.true_or]
      ·have : (j == i) = false := by simpa using hji
       simp only [this, Bool.or_false] at hSj
       have := hd j o' hoj hSj e he hb
       simp only at this
       simp only [this, Bool.true_or]
     ·rw [hS]
      have := Fs (S := fun j => listed.getD j false) (i := i) hi2 h1
      omega
     ·rw [hS]
      refine ⟨_, _, fun t => ?_, fun k => ?_, hrel'⟩
      ·rw [wg, v1 t]
       cases hWi : fM ops.toList rs t i with
       | none =>
        have hnd : ¬ o.dst = some t := by
         simp only [fM, ho, hr] at hWi
         intro hd
         simp [hd] at hWi
        rw [if_neg hnd]
        congr 1
        refine jF fun j hj hW => ?_
        have : (j == i) = false := by
         simp only [beq_eq_false_iff_ne, ne_eq]
         rintro rfl
         exact hW hWi
        simp only [this, Bool.or_false]
       | some v =>
        have hd' : o.dst = some t ∧ r.res.val = v := by
         simp only [fM, ho, hr] at hWi
         by_cases hd : o.dst = some t
         ·simp only [hd, if_true, Option.some.injEq] at hWi; exact ⟨hd, hWi⟩
         ·simp [hd] at hWi
        rw [if_pos hd'.1, vM hi2 h1 fun j hij hjn hSj => ?_, hWi, hd'.2]
        ·rfl
        ·cases hWj : fM ops.toList rs t j with
         | none => rfl
         | some v' =>
          exfalso
          unfold fM at hWj
          cases hoj : ops.toList[j]? with
          | none => simp [hoj] at hWj
          | some o' =>
           cases hrj : rs[j]? with
           | none => simp [hoj, hrj] at hWj
           | some r' =>
            have hdj : o'.dst = some t := by
             simp only [hoj, hrj] at hWj
             by_cases hd : o'.dst = some t
             ·exact hd
             ·simp [hd] at hWj
            have := hclash j o' r' hoj hrj (by omega) (.inr ⟨by
             simp only [Touch.iz, gM, Bool.or_eq_true]
             exact .inl (.inl (.inl (.inl (.inr (nP (x := t) (by simp [hd'.1]) (by simp [hdj])))))), hij⟩)
            have h5 : decide (j < i) = false := by simp; omega
            rw [h5] at this
            simp only [this] at hSj
            simp at hSj
      ·rw [gO, v2 k]
       cases hWi : fI ops.toList rs k i with
       | none =>
        have hnd : ck r.res.bz k = none := by simpa only [fI, ho, hr] using hWi
        rw [hnd]
        simp only
        congr 1
        refine jF fun j hj hW => ?_
        have : (j == i) = false := by
         simp only [beq_eq_false_iff_ne, ne_eq]
         rintro rfl
         exact hW hWi
        simp only [this, Bool.or_false]
       | some v =>
        have hd' : ck r.res.bz k = some v := by simpa only [fI, ho, hr] using hWi
        rw [hd', vM hi2 h1 fun j hij hjn hSj => ?_, hWi]
        ·rfl
        ·cases hWj : fI ops.toList rs k j with
         | none => rfl
         | some v' =>
          exfalso
          unfold fI at hWj
          cases hoj : ops.toList[j]? with
          | none => simp [hoj] at hWj
          | some o' =>
           cases hrj : rs[j]? with
           | none => simp [hoj, hrj] at hWj
           | some r' =>
            simp only [hoj, hrj] at hWj
            have := hclash j o' r' hoj hrj (by omega) (.inr ⟨by
             simp only [Touch.iz, gM, Bool.or_eq_true]
             exact .inl (.inr (nP (x := k) (u9 hd') (u9 hWj))), hij⟩)
            have h5 : decide (j < i) = false := by simp; omega
            rw [h5] at this
            simp only [this] at hSj
            simp at hSj
 have h0 : (fun i => (Array.replicate ops.size false).getD i false) = fun _ => false := by
  funext i
  simp only [Array.getD_eq_getD_getElem?, Array.getElem?_replicate]
  split <;> rfl
 refine main ops.size _ a w (by simp) ?_ ?_ ?_
 ·rw [h0]; intro i o _ h; simp at h
 ·rw [h0, Jo]; exact Nat.le_refl _
 ·rw [h0]
  have hnone : ∀ {α : Type} (W : Nat → Option α) (n : Nat), cC W (fun _ => false) n = none := fun W n => by
   induction n with
   | zero => rfl
   | succ n ih => simp [cC, ih]
  refine ⟨s.bO, s.store, fun t => by rw [hnone]; rfl, fun k => by rw [hnone]; rfl, hrel.ext (fun _ => rfl) (fun _ => rfl) fun k hk => .inl hk⟩
include hT hΓ in
theorem Jt {id : Nat} {ops : Array Oper} {draws : Bool} {nt : Nat} (hm : P.follows .mixedOrders = true) (hdst : (ops.toList.all fun o => match o.dst with | some d => decide (d < nt) | none => true) = true)
  {Q : Exit → Act → World → Prop} {s s' : aA} {need : List Prop} (hrun : me T Γ orc ops draws s = some (s', need)) (hneed : ay need) {a : Act} {w : World} (hrel : Rel c nt (fun k => k < s.next) s.bO s.store a w)
  (hQ : ∀ a' w', Rel c nt (fun k => k < s'.next) s'.bO s'.store a' w' → Q .normal a' w') : (Code.region id ops draws).wp P Q a w := by
 have hdst' : ∀ o ∈ ops.toList, ∀ d, o.dst = some d → d < nt := fun o ho d hd => by
  have := (List.all_eq_true.1 hdst) o ho
  simpa [hd] using this
 unfold me at hrun
 simp only [force_eq] at hrun
 cases hr : gx T Γ orc ops.toList ops.toList 0 s with
 | none => rw [hr] at hrun; simp at hrun
 | some q =>
  obtain ⟨s1, n1, rs⟩ := q
  rw [hr] at hrun
  simp only at hrun
  split at hrun
  ·rename_i hc
   simp only [Option.some.injEq, Prod.mk.injEq] at hrun
   obtain ⟨rfl, rfl⟩ := hrun
   have hnx : s1.next = s.next := (xV ops.toList 0 s s1 n1 rs hr).2.2.1
   cases draws with
   | false =>
    refine wp_region ?_
    have := Es hT hΓ hdst' (Q := Q) ops.toList [] s s1 n1 rs a w rfl rfl hr hneed (by simpa using hrel) (fun a' w' h => hQ a' w' (by simpa [hnx] using h))
    simpa [List.range_eq_range'] using this
   | true =>
    simp only [Bool.not_true, Bool.false_or, Bool.and_eq_true] at hc
    refine wp_region_any hm (Ve hT hΓ hdst' hr hneed hc.1 hc.2 (fun a' w' h => hQ a' w' (by simpa [hnx] using h)) ?_)
    obtain ⟨a1, a2, β, a3, a4⟩ := hrel
    exact ⟨a1, a2, β, a3.drew, fun t v ht => by
     obtain ⟨x, hx, hv⟩ := a4 t v ht
     exact ⟨x, hx, hv.gp bZ.drew⟩⟩
  ·simp at hrun
end region
end Go.Am

/- Code: the rules. -/
namespace Go.Am
open AV
def ah.jW : ah → Exit
 | .normal => .normal
 | .exit i => .exit i
 | .ret => .ret
def bP (nt : Nat) : Code → Bool
 | .region _ ops _ => ops.toList.all fun o => match o.dst with
  | some d => decide (d < nt)
  | none => true
 | .seq x y => bP nt x && bP nt y
 | .cond _ x y => bP nt x && bP nt y
 | .block _ x => bP nt x
 | .loop x => bP nt x
 | .scope x => bP nt x
 | .rangeFunc _ _ x y => bP nt x && bP nt y
 | _ => true
def aq (P : Program) (c : Ctx) (nt : Nat) (x : Code) (s : aA) (Q : ah → aA → Prop) : Prop :=
 ∀ a w, Rel c nt (fun k => k < s.next) s.bO s.store a w → x.wp P (fun e a' w' => ∃ ae s', e = ae.jW ∧ Rel c nt (fun k => k < s'.next) s'.bO s'.store a' w' ∧ Q ae s') a w
section rules
variable {P : Program} {c : Ctx} {nt : Nat} {x y : Code} {s : aA} {Q Q' : ah → aA → Prop}
theorem aq.mono (h : aq P c nt x s Q) (hq : ∀ e s', Q e s' → Q' e s') : aq P c nt x s Q' :=
 fun a w hr => wp_mono (h a w hr) fun _ _ _ ⟨ae, s', h1, h2, h3⟩ => ⟨ae, s', h1, h2, hq _ _ h3⟩
theorem aq.skip (h : Q .normal s) : aq P c nt .skip s Q := fun _ _ hr => wp_skip ⟨.normal, s, rfl, hr, h⟩
theorem aq.label {l : Nat} (h : Q .normal s) : aq P c nt (.label l) s Q := fun _ _ hr => wp_label ⟨.normal, s, rfl, hr, h⟩
theorem aq.exit {i : Nat} (h : Q (.exit i) s) : aq P c nt (.exit i) s Q := fun _ _ hr => wp_exit ⟨.exit i, s, rfl, hr, h⟩
theorem aq.ret (h : Q .ret s) : aq P c nt .ret s Q := fun _ _ hr => wp_ret ⟨.ret, s, rfl, hr, h⟩
theorem aq.seq (h : aq P c nt x s fun e s' => match e with
  | .normal => aq P c nt y s' Q
  | e => Q e s') : aq P c nt (.seq x y) s Q := by
 intro a w hr
 refine wp_seq (wp_mono (h a w hr) ?_)
 rintro e a' w' ⟨ae, s', rfl, h2, h3⟩
 cases ae with
 | normal => exact h3 a' w' h2
 | exit i => exact ⟨.exit i, s', rfl, h2, h3⟩
 | ret => exact ⟨.ret, s', rfl, h2, h3⟩
theorem aq.cond {b : Operand} {t : Bool} (hb : s.ew b = some (.bool t)) (h1 : t = true → aq P c nt x s Q) (h2 : t = false → aq P c nt y s Q) : aq P c nt (.cond b x y) s Q := by
 intro a w hr
 obtain ⟨_, _, β, _, hs⟩ := id hr
 have := (B3 hs b _ hb).bool
 cases t
 ·exact wp_cond_false this (h2 rfl a w hr)
 ·exact wp_cond_true this (h1 rfl a w hr)
theorem aq.block {i : Nat} (h : aq P c nt x s fun e s' => match e with
  | .exit j => if j = i then Q .normal s' else Q (.exit j) s'
  | e => Q e s') : aq P c nt (.block i x) s Q := by
 intro a w hr
 refine wp_block (wp_mono (h a w hr) ?_)
 rintro e a' w' ⟨ae, s', rfl, h2, h3⟩
 cases ae with
 | normal => exact ⟨.normal, s', rfl, h2, h3⟩
 | exit j =>
  simp only [ah.jW, Exit.inBlock]
  simp only at h3
  split
  ·rename_i hj; rw [if_pos hj] at h3; exact ⟨.normal, s', rfl, h2, h3⟩
  ·rename_i hj; rw [if_neg hj] at h3; exact ⟨.exit j, s', rfl, h2, h3⟩
 | ret => exact ⟨.ret, s', rfl, h2, h3⟩
theorem BD {α : Type} {b : Code} {R : Exit → Act → World → Prop} (I : α → Act → World → Prop) (μ : α → Nat)
  (round : ∀ s a w, I s a w → b.wp P (Exit.then (fun a' w' => ∃ s', I s' a' w' ∧ μ s' < μ s) R) a w) {s : α} {a : Act} {w : World} (h0 : I s a w) : (Code.loop b).wp P R a w := by
 intro fr k cs
 have key : ∀ n s a w, μ s = n → I s a w →
   ∃ e a' w', R e a' w' ∧ Arrives P (lone (fr.at a (.code b :: .inLoop b :: k)) cs w) fr k cs e a' w' := by
  intro n
  induction n using Nat.strongRecOn with
  | _ n ih =>
   intro s a w hn hI
   obtain ⟨e, a₁, w₁, hq, harr⟩ := round s a w hI fr (.inLoop b :: k) cs
   cases e with
   | normal =>
    obtain ⟨s', hI₁, hlt⟩ := hq
    obtain ⟨e₂, a₂, w₂, hq₂, harr₂⟩ := ih (μ s') (hn ▸ hlt) s' a₁ w₁ rfl hI₁
    exact ⟨e₂, a₂, w₂, hq₂, .of_steps (Steps.trans harr (.one step_inLoop)) harr₂⟩
   | exit id => exact ⟨_, a₁, w₁, hq, .pass (x := .inLoop b) rfl (fun _ _ => .inl (by simp)) harr⟩
   | goto l => exact ⟨_, a₁, w₁, hq, .pass (x := .inLoop b) rfl (fun _ _ => .inl (by simp)) harr⟩
   | ret => exact ⟨_, a₁, w₁, hq, .pass (x := .inLoop b) rfl (fun _ _ => .inl (by simp)) harr⟩
   | panic ch => exact ⟨_, a₁, w₁, hq, .pass (x := .inLoop b) rfl (fun _ _ => .inl (by simp)) harr⟩
   | outgrown => exact ⟨_, a₁, w₁, hq, .pass (x := .inLoop b) rfl (fun _ _ => .inl (by simp)) harr⟩
 obtain ⟨e, a', w', hq, harr⟩ := key _ s a w rfl h0
 exact ⟨e, a', w', hq, .of_steps (.one step_loop) harr⟩
theorem aq.loop {α : Type} (S : α → aA) (I : α → Prop) (μ : α → Nat) (i : α) (hs : s = S i) (h0 : I i)
  (round : ∀ i, I i → aq P c nt x (S i) fun e s' => match e with
   | .normal => ∃ j, s' = S j ∧ I j ∧ μ j < μ i
   | e => Q e s') : aq P c nt (.loop x) s Q := by
 intro a w hr
 refine BD (fun i a w => I i ∧ Rel c nt (fun k => k < (S i).next) (S i).bO (S i).store a w) μ (s := i) ?_ ⟨h0, by rw [← hs]; exact hr⟩
 rintro i a w ⟨hi, hr⟩
 refine wp_mono (round i hi a w hr) ?_
 rintro e a' w' ⟨ae, s', rfl, h2, h3⟩
 cases ae with
 | normal =>
  obtain ⟨j, rfl, hj, hlt⟩ := h3
  exact ⟨j, ⟨hj, h2⟩, hlt⟩
 | exit i => exact ⟨.exit i, s', rfl, h2, h3⟩
 | ret => exact ⟨.ret, s', rfl, h2, h3⟩
variable {T : Types} (hT : dh P T) {Γ : aP} (hΓ : aX P Γ) (hm : P.follows .mixedOrders = true)
include hT hΓ hm in
theorem aq.region {orc : List (Nat × Bool)} {id : Nat} {ops : Array Oper} {d : Bool} (hd : bP nt (.region id ops d) = true) {s' : aA} {need : List Prop} (hr : me T Γ orc ops d s = some (s', need)) (hn : ay need) (h : Q .normal s') :
  aq P c nt (.region id ops d) s Q :=
 fun _ _ hrel => Jt hT hΓ hm hd hr hn hrel fun _ _ h' => ⟨.normal, s', rfl, h', h⟩
include hT hΓ hm in
theorem aq.run : ∀ (n : Nat) {x : Code} {s : aA}, bP nt x = true → ∀ {e : ah} {s' : aA} {need : List Prop}, dw T Γ n x s = some (e, s', need) → ay need →
  aq P c nt x s fun e' t => e' = e ∧ t = s'
 | 0, x, s, _, e, s', need, h, _ => by simp [dw] at h
 | n + 1, .skip, s, _, e, s', need, h, hn => by
  simp only [dw, Option.some.injEq, Prod.mk.injEq] at h
  obtain ⟨rfl, rfl, rfl⟩ := h
  exact .skip ⟨rfl, rfl⟩
 | n + 1, .label l, s, _, e, s', need, h, hn => by
  simp only [dw, Option.some.injEq, Prod.mk.injEq] at h
  obtain ⟨rfl, rfl, rfl⟩ := h
  exact .label ⟨rfl, rfl⟩
 | n + 1, .exit i, s, _, e, s', need, h, hn => by
  simp only [dw, Option.some.injEq, Prod.mk.injEq] at h
  obtain ⟨rfl, rfl, rfl⟩ := h
  exact .exit ⟨rfl, rfl⟩
 | n + 1, .ret, s, _, e, s', need, h, hn => by
  simp only [dw, Option.some.injEq, Prod.mk.injEq] at h
  obtain ⟨rfl, rfl, rfl⟩ := h
  exact .ret ⟨rfl, rfl⟩
 | n + 1, .region i ops d, s, hd, e, s', need, h, hn => by
  simp only [dw] at h
  cases hr : me T Γ [] ops d s with
  | none => rw [hr] at h; simp at h
  | some q =>
   obtain ⟨s1, p⟩ := q
   rw [hr] at h
   simp only [Option.some.injEq, Prod.mk.injEq] at h
   obtain ⟨rfl, rfl, rfl⟩ := h
   exact aq.region hT hΓ hm hd hr hn ⟨rfl, rfl⟩
 | n + 1, .seq x y, s, hd, e, s', need, h, hn => by
  simp only [bP, Bool.and_eq_true] at hd
  simp only [dw] at h
  cases hx : dw T Γ n x s with
  | none => rw [hx] at h; simp at h
  | some q =>
   obtain ⟨e1, s1, p⟩ := q
   rw [hx] at h
   cases e1 with
   | normal =>
    simp only at h
    cases hy : dw T Γ n y s1 with
    | none => rw [hy] at h; simp at h
    | some q2 =>
     obtain ⟨e2, s2, p2⟩ := q2
     rw [hy] at h
     simp only [Option.some.injEq, Prod.mk.injEq] at h
     obtain ⟨rfl, rfl, rfl⟩ := h
     refine .seq ((aq.run n hd.1 hx (dU.1 hn).1).mono ?_)
     rintro e' t ⟨rfl, rfl⟩
     exact aq.run n hd.2 hy (dU.1 hn).2
   | exit i =>
    simp only [Option.some.injEq, Prod.mk.injEq] at h
    obtain ⟨rfl, rfl, rfl⟩ := h
    refine .seq ((aq.run n hd.1 hx hn).mono ?_)
    rintro e' t ⟨rfl, rfl⟩
    exact ⟨rfl, rfl⟩
   | ret =>
    simp only [Option.some.injEq, Prod.mk.injEq] at h
    obtain ⟨rfl, rfl, rfl⟩ := h
    refine .seq ((aq.run n hd.1 hx hn).mono ?_)
    rintro e' t ⟨rfl, rfl⟩
    exact ⟨rfl, rfl⟩
 | n + 1, .cond b x y, s, hd, e, s', need, h, hn => by
  simp only [bP, Bool.and_eq_true] at hd
  simp only [dw] at h
  cases hb : s.ew b with
  | none => rw [hb] at h; simp at h
  | some v =>
   rw [hb] at h
   cases v <;> simp only [reduceCtorEq] at h
   case bool t =>
    cases t with
    | true => exact .cond hb (fun _ => aq.run n hd.1 h hn) (fun h => by simp at h)
    | false => exact .cond hb (fun h => by simp at h) (fun _ => aq.run n hd.2 h hn)
 | n + 1, .block i x, s, hd, e, s', need, h, hn => by
  simp only [bP] at hd
  simp only [dw] at h
  cases hx : dw T Γ n x s with
  | none => rw [hx] at h; simp at h
  | some q =>
   obtain ⟨e1, s1, p⟩ := q
   rw [hx] at h
   cases e1 with
   | normal =>
    simp only [Option.some.injEq, Prod.mk.injEq] at h
    obtain ⟨rfl, rfl, rfl⟩ := h
    refine .block ((aq.run n hd hx hn).mono ?_)
    rintro e' t ⟨rfl, rfl⟩
    exact ⟨rfl, rfl⟩
   | exit j =>
    simp only at h
    split at h
    ·rename_i hj
     have hj' : j = i := by simpa using hj
     simp only [Option.some.injEq, Prod.mk.injEq] at h
     obtain ⟨rfl, rfl, rfl⟩ := h
     refine .block ((aq.run n hd hx hn).mono ?_)
     rintro e' t ⟨rfl, rfl⟩
     simp [hj']
    ·rename_i hj
     have hj' : ¬ j = i := by simpa using hj
     simp only [Option.some.injEq, Prod.mk.injEq] at h
     obtain ⟨rfl, rfl, rfl⟩ := h
     refine .block ((aq.run n hd hx hn).mono ?_)
     rintro e' t ⟨rfl, rfl⟩
     simp [hj']
   | ret =>
    simp only [Option.some.injEq, Prod.mk.injEq] at h
    obtain ⟨rfl, rfl, rfl⟩ := h
    refine .block ((aq.run n hd hx hn).mono ?_)
    rintro e' t ⟨rfl, rfl⟩
    exact ⟨rfl, rfl⟩
 | n + 1, .loop x, s, hd, e, s', need, h, hn => by
  have key : ∀ (m : Nat) (s : aA) (e : ah) (s' : aA) (need : List Prop), m ≤ n + 1 → dw T Γ m (.loop x) s = some (e, s', need) → ay need →
    ∀ (a : Act) (w : World) (fr : Frame) (k : List Item) (cs : List Frame), Rel c nt (fun k => k < s.next) s.bO s.store a w →
     ∃ e' a' w', (∃ ae t, e' = ah.jW ae ∧ Rel c nt (fun k => k < t.next) t.bO t.store a' w' ∧ ae = e ∧ t = s') ∧ Arrives P (lone (fr.at a (.code x :: .inLoop x :: k)) cs w) fr k cs e' a' w' := by
   intro m
   induction m with
   | zero => intro s e s' need _ h; simp [dw] at h
   | succ m ihm =>
    intro s e s' need hmn h hn a w fr k cs hrel
    simp only [dw] at h
    cases hx : dw T Γ m x s with
    | none => rw [hx] at h; simp at h
    | some q =>
     obtain ⟨e1, s1, p⟩ := q
     rw [hx] at h
     have hlen : m ≤ n := by omega
     have hrunx : ay p → aq P c nt x s fun e' t => e' = e1 ∧ t = s1 := fun hp => aq.run m (by simpa [bP] using hd) hx hp
     cases e1 with
     | normal =>
      simp only at h
      cases hy : dw T Γ m (.loop x) s1 with
      | none => rw [hy] at h; simp at h
      | some q2 =>
       obtain ⟨e2, s2, p2⟩ := q2
       rw [hy] at h
       simp only [Option.some.injEq, Prod.mk.injEq] at h
       obtain ⟨rfl, rfl, rfl⟩ := h
       obtain ⟨e', a1, w1, ⟨ae, t, rfl, g1, rfl, rfl⟩, harr⟩ := hrunx (dU.1 hn).1 a w hrel fr (.inLoop x :: k) cs
       obtain ⟨e'', a2, w2, g2, harr2⟩ := ihm t e2 s2 p2 (by omega) hy (dU.1 hn).2 a1 w1 fr k cs g1
       exact ⟨e'', a2, w2, g2, .of_steps (Steps.trans harr (.one step_inLoop)) harr2⟩
     | exit i =>
      simp only [Option.some.injEq, Prod.mk.injEq] at h
      obtain ⟨rfl, rfl, rfl⟩ := h
      obtain ⟨e', a1, w1, ⟨ae, t, rfl, g1, rfl, rfl⟩, harr⟩ := hrunx hn a w hrel fr (.inLoop x :: k) cs
      exact ⟨_, a1, w1, ⟨_, t, rfl, g1, rfl, rfl⟩, .pass (x := .inLoop x) rfl (fun _ _ => .inl (by simp [ah.jW])) harr⟩
     | ret =>
      simp only [Option.some.injEq, Prod.mk.injEq] at h
      obtain ⟨rfl, rfl, rfl⟩ := h
      obtain ⟨e', a1, w1, ⟨ae, t, rfl, g1, rfl, rfl⟩, harr⟩ := hrunx hn a w hrel fr (.inLoop x :: k) cs
      exact ⟨_, a1, w1, ⟨_, t, rfl, g1, rfl, rfl⟩, .pass (x := .inLoop x) rfl (fun _ _ => .inl (by simp [ah.jW])) harr⟩
  intro a w hrel fr k cs
  obtain ⟨e', a', w', g1, harr⟩ := key (n + 1) s e s' need (Nat.le_refl _) h hn a w fr k cs hrel
  exact ⟨e', a', w', g1, .of_steps (.one step_loop) harr⟩
 | n + 1, .scope x, s, _, e, s', need, h, _ => by simp [dw] at h
 | n + 1, .goto l, s, _, e, s', need, h, _ => by simp [dw] at h
 | n + 1, .refuse l, s, _, e, s', need, h, _ => by simp [dw] at h
 | n + 1, .rangeFunc _ _ _ _, s, _, e, s', need, h, _ => by simp [dw] at h
include hT hΓ hm in
theorem aq.step (n : Nat) (hd : bP nt x = true) {e : ah} {s' : aA} {need : List Prop} (hc : dw T Γ n x s = some (e, s', need)) (hn : ay need) (h : Q e s') : aq P c nt x s Q :=
 (aq.run hT hΓ hm n hd hc hn).mono fun _ _ ⟨h1, h2⟩ => by subst h1; subst h2; exact h
end rules
end Go.Am

/- Weaker states; whole functions. -/
namespace Go.Am
open AV
def fo (ρ : Nat → Option Nat) (u v : AV) : Prop := v.isAgg = u.isAgg ∧ ∀ M w β cs, aF M w β [u] cs → aF M w (fun k => (ρ k).bind β) [v] cs
structure cL (ρ : Nat → Option Nat) (o1 o2 : aJ) : Prop where
 row : o2.row = o1.row
 wr : o2.wr = o1.wr
 es : o2.es = o1.es
 len : o2.len = o1.len
 f : ∀ i, i < o1.len → fo ρ (o1.f i) (o2.f i)
def nQ (o : aJ) : Prop := o.row = true ∧ o.len = 0 ∧ 0 < o.es
theorem PB {ρ : Nat → Option Nat} : (fun k => (ρ k).bind aQ) = aQ := by
 funext k
 cases ρ k <;> rfl
section weak
variable {c c' : Ctx} {st st2 : aC} {D D2 : Nat → Prop} {β β2 : aK} {w : World} {ρ : Nat → Option Nat}
theorem uT (hMf : c'.Mf = c.Mf) (hst : ∀ k2 o2, look k2 st2 = some o2 → (∃ k1 o1, ρ k2 = some k1 ∧ look k1 st = some o1 ∧ cL ρ o1 o2) ∨ β2 k2 = none) (hβ : ∀ k2 k1, ρ k2 = some k1 → β2 k2 = β k1) :
  ∀ b, aH c' st2 β2 b → aH c st β b := by
 rintro b (hb | ⟨k2, o2, N, h1, h2, h3⟩)
 ·exact .inl (hMf ▸ hb)
 ·rcases hst k2 o2 h1 with ⟨k1, o1, g1, g2, g3⟩ | g
  ·exact .inr ⟨k1, o1, N, g2, by rw [← g3.wr]; exact h2, by rw [← hβ k2 k1 g1]; exact h3⟩
  ·rw [g] at h3; simp at h3
theorem aF.weak {u v : AV} {cs : List Value} {M M' : Nat → Prop} (hM : ∀ b, M' b → M b) (hβ : ∀ k2 k1, ρ k2 = some k1 → β2 k2 = β k1) (hle : fo ρ u v) (h : aF M w β [u] cs) : aF M' w β2 [v] cs := by
 refine (hle.2 M w β cs h).mono (fun b o h1 h2 => ⟨h2, fun h3 => h1 (hM b h3)⟩) β2 fun k x hk => ?_
 cases hr : ρ k with
 | none => rw [hr] at hk; simp at hk
 | some k1 =>
  rw [hr] at hk
  rw [hβ k k1 hr]; exact hk
theorem aS.weak {u v : AV} {x : Value} {M M' : Nat → Prop} (hM : ∀ b, M' b → M b) (hβ : ∀ k2 k1, ρ k2 = some k1 → β2 k2 = β k1) (hle : fo ρ u v) (h : aS M w β u x) : aS M' w β2 v x := by
 obtain ⟨cs, h1, h2⟩ := h
 exact ⟨cs, h1.weak hM hβ hle, by rw [hle.1]; exact h2⟩
theorem aW.weak (h : aW c st D β w) (hMf : c'.Mf = c.Mf) (hw0 : c'.w0 = c.w0) (hMw : c'.Mw = c.Mw) (hinj : ∀ a b k, ρ a = some k → ρ b = some k → a = b)
  (hst : ∀ k2 o2, look k2 st2 = some o2 → (∃ k1 o1, ρ k2 = some k1 ∧ look k1 st = some o1 ∧ cL ρ o1 o2) ∨ (β2 k2 = none ∧ nQ o2 ∧ D2 k2)) (hβ : ∀ k2 k1, ρ k2 = some k1 → β2 k2 = β k1) (hd2 : ∀ k2 k1, ρ k2 = some k1 → D2 k2)
  (hdom : ∀ k2 x, β2 k2 = some x → D2 k2) (hlt : ∀ k2 b (N : Nat × Nat), β2 k2 = some (b, N) → b < w.heap.size) (hkeep : ∀ k x, c'.k0 k = some x → β2 k = some x) : aW c' st2 D2 β2 w := by
 have hM := uT hMf (fun k2 o2 h => (hst k2 o2 h).imp id (·.1)) hβ
 have hst' : ∀ k2 o2 x, look k2 st2 = some o2 → β2 k2 = some x → ∃ k1 o1, ρ k2 = some k1 ∧ look k1 st = some o1 ∧ cL ρ o1 o2 := fun k2 o2 x h hb => (hst k2 o2 h).resolve_right fun g => by rw [g.1] at hb; simp at hb
 refine { obj := fun k2 o2 hk x hx => ?_, cA := fun k2 o2 hk hb => ?_, inj := fun k k' o o' b N N' h1 h2 hw hb hb' => ?_, dom := hdom, keep := hkeep, lt := hlt, os := (by rw [hw0]; exact h.os), tape := (by rw [hw0]; exact h.tape), output := (by rw [hw0]; exact h.output), size := (by rw [hw0]; exact h.size), block := fun b => by rw [hw0, hMw]; exact h.block b, fj := fun b => by rw [hw0, hMf, hMw]; exact h.fj b, new := fun k o b N hk hw hb => ?_ }
 ·obtain ⟨k1, o1, g1, g2, g3⟩ := hst' k2 o2 x hk hx
  obtain ⟨b, N, cs, ty, a1, a2, a3, a4, ⟨a5, a5'⟩, a6, a7, a8⟩ := h.obj k1 o1 g2 x (by rw [← hβ k2 k1 g1]; exact hx)
  have e2 : β2 k2 = some (b, N) := by rw [hβ k2 k1 g1]; exact a1
  refine ⟨b, N, cs, ty, e2, a2, by rw [g3.es]; exact a3, by rw [g3.es]; exact a4, ⟨by rw [g3.len]; exact a5, by rw [g3.len]; exact a5'⟩,
   fun hw => .inr ⟨k2, o2, N, hk, hw, e2⟩, fun hw hm => a7 (by rw [← g3.wr]; exact hw) (hM b hm), fun i hi => ?_⟩
  rw [g3.len] at hi
  obtain ⟨ps, p1, p2, p3⟩ := a8 i hi
  refine ⟨ps, by rw [g3.es]; exact p1, ?_, by rw [g3.es]; exact p3⟩
  rw [g3.row]
  cases hr : o1.row with
  | true =>
   rw [hr] at p2
   simp only [if_true] at p2 ⊢
   have := (g3.f i hi).2 _ _ _ _ p2
   rw [PB] at this
   exact this.mono (fun b o h1 h2 => ⟨h2, fun h3 => h1 (hM b h3)⟩) _ fun _ _ h => h
  | false =>
   rw [hr] at p2
   simp only [Bool.false_eq_true, if_false] at p2 ⊢
   exact p2.weak hM hβ (g3.f i hi)
 ·rcases hst k2 o2 hk with ⟨k1, o1, g1, g2, g3⟩ | ⟨g1, g2, g3⟩
  ·have := (h.cA k1 o1 g2 (by rw [← hβ k2 k1 g1]; exact hb)).1
   exact ⟨by rw [g3.row, g3.len, g3.es]; exact this, hd2 k2 k1 g1⟩
  ·exact ⟨g2, g3⟩
 ·obtain ⟨k1, o1, g1, g2, g3⟩ := hst' k o _ h1 hb
  obtain ⟨k1', o1', g1', g2', g3'⟩ := hst' k' o' _ h2 hb'
  rw [hβ k k1 g1] at hb
  rw [hβ k' k1' g1'] at hb'
  have := h.inj k1 k1' o1 o1' b N N' g2 g2' (by rw [← g3.wr]; exact hw) hb hb'
  subst this
  exact hinj k k' k1 g1 g1'
 ·obtain ⟨k1, o1, g1, g2, g3⟩ := hst' k o _ hk hb
  rw [hw0, hMw]
  exact h.new k1 o1 b N g2 (by rw [← g3.wr]; exact hw) (by rw [← hβ k k1 g1]; exact hb)
structure Le (c : Ctx) (ρ : Nat → Option Nat) (s s2 : aA) : Prop where
 inj : ∀ a b k, ρ a = some k → ρ b = some k → a = b
 bO : ∀ t v, look t s2.bO = some v → ∃ u, look t s.bO = some u ∧ u.isTuple = false ∧ fo ρ u v
 store : ∀ k2 o2, look k2 s2.store = some o2 → (∃ k1 o1, ρ k2 = some k1 ∧ look k1 s.store = some o1 ∧ cL ρ o1 o2) ∨ (ρ k2 = none ∧ nQ o2 ∧ k2 < s2.next)
 dom : ∀ k2 k1, ρ k2 = some k1 → k2 < s2.next
 keep : ∀ k x, c.k0 k = some x → ρ k = some k
theorem Le.rel {nt : Nat} {s s2 : aA} (hle : Le c ρ s s2) {a : Act} (h : Rel c nt (fun k => k < s.next) s.bO s.store a w) : Rel c nt (fun k => k < s2.next) s2.bO s2.store a w := by
 obtain ⟨a1, a2, β, a3, a4⟩ := h
 have hβ : ∀ k2 k1, ρ k2 = some k1 → (fun k => (ρ k).bind β) k2 = β k1 := fun k2 k1 h => by simp [h]
 have hst : ∀ k2 o2, look k2 s2.store = some o2 → (∃ k1 o1, ρ k2 = some k1 ∧ look k1 s.store = some o1 ∧ cL ρ o1 o2) ∨ ((ρ k2).bind β = none ∧ nQ o2 ∧ k2 < s2.next) := fun k2 o2 h => (hle.store k2 o2 h).imp id fun ⟨g1, g2⟩ => ⟨by rw [g1]; rfl, g2⟩
 refine ⟨a1, a2, fun k => (ρ k).bind β, a3.weak rfl rfl rfl hle.inj hst hβ hle.dom (fun k2 x hk => ?_) (fun k2 b N hk => ?_) (fun k x hk => ?_), fun t v ht => ?_⟩
 ·cases hr : ρ k2 with
  | none => simp [hr] at hk
  | some k1 => exact hle.dom k2 k1 hr
 ·cases hr : ρ k2 with
  | none => simp [hr] at hk
  | some k1 => simp [hr] at hk; exact a3.lt k1 b N hk
 ·simp only [hle.keep k x hk, Option.bind_some]; exact a3.keep k x hk
 ·obtain ⟨u, hu, htu, huv⟩ := hle.bO t v ht
  obtain ⟨x, hx, hv⟩ := a4 t u hu
  exact ⟨x, hx, ((hv.one htu).weak (uT rfl (fun k2 o2 h => (hst k2 o2 h).imp id (·.1)) hβ) hβ huv).br⟩
theorem aq.weak {P : Program} {nt : Nat} {x : Code} {s s2 : aA} {Q : ah → aA → Prop} (hle : Le c ρ s s2) (h : aq P c nt x s2 Q) : aq P c nt x s Q :=
 fun a w hr => h a w (hle.rel hr)
theorem aq.Q1 {P : Program} {nt : Nat} {x : Code} {s : aA} {Q : ah → aA → Prop} {α : Type} (S : α → aA) (I : α → Prop) (μ : α → Nat) (i : α) (hs : ∃ ρ, Le c ρ s (S i)) (h0 : I i)
  (round : ∀ i, I i → aq P c nt x (S i) fun e s' => match e with
   | .normal => ∃ j, (∃ ρ, Le c ρ s' (S j)) ∧ I j ∧ μ j < μ i
   | e => Q e s') : aq P c nt (.loop x) s Q := by
 intro a w hr
 obtain ⟨ρ, hle⟩ := hs
 refine BD (fun i a w => I i ∧ Rel c nt (fun k => k < (S i).next) (S i).bO (S i).store a w) μ (s := i) ?_ ⟨h0, hle.rel hr⟩
 rintro i a w ⟨hi, hr⟩
 refine wp_mono (round i hi a w hr) ?_
 rintro e a' w' ⟨ae, s', rfl, h2, h3⟩
 cases ae with
 | normal =>
  obtain ⟨j, ⟨ρ, hle⟩, hj, hlt⟩ := h3
  exact ⟨j, ⟨hj, hle.rel h2⟩, hlt⟩
 | exit i => exact ⟨.exit i, s', rfl, h2, h3⟩
 | ret => exact ⟨.ret, s', rfl, h2, h3⟩
end weak
theorem bA.aQ {M : Nat → Prop} {w : World} {β : aK} : ∀ {l : List AV} {xs : List Value}, bA M w β l xs → aT l = [] → bA M w Am.aQ l xs
 | [], [], _, _ => trivial
 | a :: l, x :: xs, h, hk => by
  simp only [aT, List.append_eq_nil_iff] at hk
  obtain ⟨⟨cs, h1, h2⟩, h3⟩ := h
  exact ⟨⟨cs, vY h1 (by simp [aT, hk.1]), h2⟩, bA.aQ h3 hk.2⟩
 | [], _ :: _, h, _ => h.elim
 | _ :: _, [], h, _ => h.elim
theorem yh {M : Nat → Prop} {w : World} {β : aK} : ∀ {l : List AV} {xs : List Value} {i : Nat} {pre post : Array Value}, bA M w β l xs → pre.size = i → qw M w β (aM i l) (pre ++ xs.toArray ++ post)
 | [], [], i, pre, post, _, _ => fun t v h => by simp [aM, look] at h
 | a :: l, x :: xs, i, pre, post, h, hp => by
  intro t v ht
  simp only [aM, look] at ht
  split at ht
  ·rename_i hit
   have hit' : i = t := by simpa using hit
   simp only [Option.some.injEq] at ht
   subst ht; subst hit'
   exact ⟨x, by rw [Array.append_assoc, Array.getElem?_append_right (by omega), ← hp, Nat.sub_self, Array.getElem?_append_left (by simp)]; simp, h.1.br⟩
  ·have := yh (pre := pre.push x) (post := post) h.2 (i := i + 1) (by simp [hp]) t v ht
   have e : pre.push x ++ xs.toArray ++ post = pre ++ (x :: xs).toArray ++ post := by
    apply Array.ext'; simp
   rwa [e] at this
 | [], _ :: _, _, _, _, h, _ => h.elim
 | _ :: _, [], _, _, _, h, _ => h.elim
def bp (u v : AV) : Prop := v.isAgg = u.isAgg ∧ ∀ M w cs, aF M w aQ [u] cs → aF M w aQ [v] cs
theorem bp.refl (u : AV) : bp u u := ⟨rfl, fun _ _ _ h => h⟩
def dj : List AV → List AV → Prop
 | [], [] => True
 | u :: us, v :: vs => bp u v ∧ dj us vs
 | _, _ => False
theorem dj.refl : ∀ l : List AV, dj l l
 | [] => trivial
 | u :: l => ⟨.refl u, dj.refl l⟩
def dL (us : List AV) (res : AV) : Prop :=
 match us, res with
 | [u], v => bp u v
 | us, .tuple vs => dj us vs
 | _, _ => False
def Ends (T : Types) (fn : Func) (res : AV) (s : aA) : Prop :=
 ∃ vs q us, eP T s fn.results.toList = some (vs, q) ∧ ay q ∧ dm (gl (pick s.store (aT vs))) vs = some us ∧ dL us res
section funcs
variable {P : Program} {T : Types} (hT : dh P T) {c : Ctx} {w : World}
include hT in
theorem xD {D : Nat → Prop} {β : aK} {s : aA} {a : Act} (hw : aW c s.store D β w) (hs : qw (aH c s.store β) w β s.bO a.tmps) {g : ResultVar → Sem Value}
  (hg1 : ∀ t, g (.tmp t) = pure (a.tmps.getD t undef)) (hg2 : ∀ r t, g (.cell r t) = (do let x ← asAddr (a.tmps.getD r undef); loadVar t x)) :
  ∀ {l : List ResultVar} {vs : List AV} {q : List Prop}, eP T s l = some (vs, q) → ay q → ∃ xs, (l.mapM g).run P w = .ok xs w ∧ bA (aH c s.store β) w β vs xs ∧ xs.length = l.length
 | [], vs, q, h, hq => by
  simp only [eP, Option.some.injEq, Prod.mk.injEq] at h
  obtain ⟨rfl, rfl⟩ := h
  exact ⟨[], by simp, trivial, rfl⟩
 | x :: l, vs, q, h, hq => by
  simp only [eP] at h
  cases hx : rK T s x with
  | none => rw [hx] at h; simp at h
  | some p =>
   obtain ⟨v, p1⟩ := p
   cases hl : eP T s l with
   | none => rw [hx, hl] at h; simp at h
   | some p2 =>
    obtain ⟨vs', q'⟩ := p2
    rw [hx, hl] at h
    simp only [Option.some.injEq, Prod.mk.injEq] at h
    obtain ⟨rfl, rfl⟩ := h
    obtain ⟨xs, hxs, hv, hlen⟩ := xD hw hs hg1 hg2 hl (dU.1 hq).2
    have hone : ∃ y, (g x).run P w = .ok y w ∧ aS (aH c s.store β) w β v y := by
     cases x with
     | tmp t =>
      simp only [rK] at hx
      cases ht : look t s.bO with
      | none => rw [ht] at hx; simp at hx
      | some u =>
       rw [ht] at hx
       simp only at hx
       split at hx
       ·simp at hx
       ·rename_i htu
        simp only [Option.some.injEq, Prod.mk.injEq] at hx
        obtain ⟨rfl, _⟩ := hx
        obtain ⟨y, hy, hvy⟩ := hs t u ht
        refine ⟨y, ?_, hvy.one (by simpa using htu)⟩
        rw [hg1]
        simp [Array.getD_eq_getD_getElem?, hy]
     | cell r t =>
      simp only [rK] at hx
      cases ht : look t T with
      | none => rw [ht] at hx; simp at hx
      | some ti =>
       cases hr : look r s.bO with
       | none => rw [ht, hr] at hx; simp at hx
       | some pv =>
        rw [ht, hr] at hx
        simp only at hx
        cases hld : kB s.store ti pv with
        | none => rw [hld] at hx; simp at hx
        | some ld =>
         rw [hld] at hx
         simp only [Option.some.injEq, Prod.mk.injEq] at hx
         obtain ⟨rfl, rfl⟩ := hx
         obtain ⟨y, hy, hvy⟩ := hs r pv hr
         obtain ⟨_, z, hz, hvz⟩ := zl hT hw (fun _ _ h => h) ht hvy hld (dU.1 hq).1
         refine ⟨z, ?_, hvz⟩
         rw [hg2]
         simp only [Array.getD_eq_getD_getElem?, hy, Option.getD_some]
         cases y with
         | pointer ad =>
          cases ad with
          | some ad => simpa [Instr.loadAt, Instr.sureAddr, asAddr] using hz
          | none => simp [Instr.loadAt, Instr.sureAddr] at hz
         | _ => simp [Instr.loadAt, Instr.sureAddr] at hz
    obtain ⟨y, hy, hvy⟩ := hone
    exact ⟨y :: xs, by simp [List.mapM_cons, hy, hxs], ⟨hvy, hv⟩, by simp [hlen]⟩
theorem uo {M : Nat → Prop} : ∀ {us vs : List AV} {xs : List Value}, dj us vs → bA M w aQ us xs → bA M w aQ vs xs
 | [], [], [], _, _ => trivial
 | u :: us, v :: vs, x :: xs, h, hv => by
  obtain ⟨⟨cs, h1, h2⟩, h3⟩ := hv
  exact ⟨⟨cs, h.1.2 _ _ _ h1, by rw [h.1.1]; exact h2⟩, uo h.2 h3⟩
 | [], _ :: _, _, h, _ => h.elim
 | _ :: _, [], _, h, _ => h.elim
 | _ :: _, _ :: _, [], _, h => h.elim
 | [], [], _ :: _, _, h => h.elim
theorem ua {st pre : aC} {D : Nat → Prop} {β : aK} (h : aW c st D β w) (hpre : ∀ k o, look k pre = some o → look k st = some o) : ∀ {l m : List AV} {xs : List Value}, dm pre l = some m → bA (aH c st β) w β l xs →
  bA (aH c st β) w aQ m xs
 | [], m, [], hf, _ => by simp only [dm, Option.some.injEq] at hf; subst hf; trivial
 | a :: l, m, x :: xs, hf, hv => by
  simp only [dm] at hf
  cases ha : b6 pre a with
  | none => rw [ha] at hf; simp at hf
  | some b =>
   cases hl : dm pre l with
   | none => rw [ha, hl] at hf; simp at hf
   | some m' =>
    rw [ha, hl] at hf
    simp only [Option.some.injEq] at hf
    subst hf
    obtain ⟨⟨cs, h1, h2⟩, h3⟩ := hv
    obtain ⟨g1, g2⟩ := xl h hpre ha h1
    exact ⟨⟨cs, g1, by rw [g2]; exact h2⟩, ua h hpre hl h3⟩
 | [], _, _ :: _, _, h => h.elim
 | _ :: _, _, [], _, h => h.elim
include hT in
theorem Ci {fn : Func} {res : AV} {nt : Nat} {s : aA} {a : Act} (he : Ends T fn res s) (hr : Rel c nt (fun k => k < s.next) s.bO s.store a w) :
  a.defers = [] ∧ ∃ x β st', (results fn a.tmps).run P w = .ok x w ∧ aW c st' (fun k => k < s.next) β w ∧ bg (aH c st' β) w aQ res x ∧
   ∀ k o, look k s.store = some o → o.row = false → look k st' = some o := by
 obtain ⟨vs, q, us, h1, hq, h2, h3⟩ := he
 obtain ⟨a1, a2, β, a3, a4⟩ := hr
 refine ⟨a1, ?_⟩
 obtain ⟨xs, hxs, hv, hlen⟩ := xD hT a3 a4 (g := fun x => match x with
  | ResultVar.tmp t => pure (a.tmps.getD t undef)
  | ResultVar.cell r t => do let y ← asAddr (a.tmps.getD r undef); loadVar t y) (fun _ => rfl) (fun _ _ => rfl) h1 hq
 obtain ⟨f1, f2, f3⟩ := sS (l := pick s.store (aT vs)) a3 (fun k o hk => by
  rw [jC] at hk
  split at hk
  ·exact hk
  ·simp at hk) pP
 have hvs : bA (aH c (bR (dA (pick s.store (aT vs))) s.store) β) w β vs xs := hv.mono f2.heap f2.keys
 have hus := ua f1 f3 h2 hvs
 have hx : ∃ x, (results fn a.tmps).run P w = .ok x w ∧ bg (aH c (bR (dA (pick s.store (aT vs))) s.store) β) w aQ res x := by
  refine ⟨if h : xs.length = 1 then xs.toArray[0]'(by simpa using (show 0 < xs.length by omega)) else .tuple xs.toArray, ?_, ?_⟩
  ·have key : results fn a.tmps = (do
     let vs ← fn.results.mapM fun x => match x with
      | ResultVar.tmp t => pure (a.tmps.getD t undef)
      | ResultVar.cell r t => do let y ← asAddr (a.tmps.getD r undef); loadVar t y
     pure (if h : vs.size = 1 then vs[0] else Value.tuple vs)) := rfl
   rw [key, Sem.run_bind, Array.mapM_eq_mapM_toList, Sem.run_map, hxs]
   simp only [Result.andThen_ok, Sem.run_pure]
   congr 1
  ·unfold dL at h3
   split at h3
   ·rename_i u
    obtain ⟨x, rfl, hx⟩ := hus.single
    simp only [List.length_cons, List.length_nil, Nat.zero_add, dite_true, List.getElem_toArray, List.getElem_cons_zero]
    obtain ⟨cs, g1, g2⟩ := hx
    exact aS.br ⟨cs, h3.2 _ _ _ g1, by rw [h3.1]; exact g2⟩
   ·rename_i us' vs' hne
    have hl1 : ¬ xs.length = 1 := by
     intro hl1
     have : ∀ {us : List AV} {xs : List Value}, bA (aH c (bR (dA (pick s.store (aT vs))) s.store) β) w aQ us xs → us.length = xs.length := by
      intro us
      induction us with
      | nil => intro xs h; cases xs with
       | nil => rfl
       | cons _ _ => exact h.elim
      | cons u us ih => intro xs h; cases xs with
       | nil => exact h.elim
       | cons x xs => simp [ih h.2]
     have hl2 := this hus
     rw [hl1] at hl2
     match us, hl2, hne with
     | [u], _, hne => exact hne u rfl
    simp only [hl1, dite_false]
    exact ⟨xs, rfl, uo h3 hus⟩
   ·exact h3.elim
 obtain ⟨x, hx1, hx2⟩ := hx
 refine ⟨x, β, _, hx1, f1, hx2, fun k o hk hrow => ?_⟩
 rw [gO]
 have : ck (dA (pick s.store (aT vs))) k = none := by
  have gen : ∀ l : aC, (∀ o', look k l = some o' → o'.row = false) → (l.map (·.1)).Nodup → ck (dA l) k = none := by
   intro l
   induction l with
   | nil => intros; rfl
   | cons p l ih =>
    obtain ⟨j, oj⟩ := p
    intro h hn
    simp only [List.map_cons, List.nodup_cons] at hn
    by_cases hjk : j = k
    ·subst hjk
     have hrow' := h oj (by simp [look])
     simp only [dA, hrow', Bool.false_and, Bool.false_eq_true, if_false]
     have hnl : look j l = none := by
      cases hl : look j l with
      | none => rfl
      | some o' =>
       exfalso
       apply hn.1
       have : ∀ l : aC, look j l = some o' → j ∈ l.map (·.1) := by
        intro l
        induction l with
        | nil => simp [look]
        | cons q l ih =>
         obtain ⟨i, b⟩ := q
         simp only [look]
         split
         ·rename_i hh
          intro _
          have : i = j := by simpa using hh
          simp [this]
         ·intro h2
          simp only [List.map_cons, List.mem_cons]
          exact .inr (ih h2)
       exact this l hl
     exact ih (fun o' ho' => by rw [hnl] at ho'; simp at ho') hn.2
    ·have ih' := ih (fun o' ho' => h o' (by simp [look, hjk, ho'])) hn.2
     simp only [dA]
     split
     ·simp only [ck, ih']
      simp [hjk]
     ·exact ih'
  refine gen _ (fun o' ho' => ?_) pP
  rw [jC] at ho'
  split at ho'
  ·rw [hk] at ho'; simp only [Option.some.injEq] at ho'; subst ho'; exact hrow
  ·simp at ho'
 rw [this]; exact hk
structure aO (P : Program) (f : FuncId) (fn : Func) (x : Code) : Prop where
 get : P.funcs[f]? = some fn
 body : fn.body = some x
 name : (fn.name == "runtime.NumGoroutine") = false
 dst : bP fn.ntmps x = true
include hT in
theorem fY {f : FuncId} {fn : Func} {x : Code} (hf : aO P f fn x) {args : List AV} {r : b7} (hk : aT args = []) (hlen : args.length ≤ fn.ntmps) (hpost : r.post = [])
  (h : r.need → ∀ c : Ctx, c.k0 = aQ → aq P c fn.ntmps x ⟨aM 0 args, [], 0⟩ fun e s' => (e = .normal ∨ e = .ret) ∧ Ends T fn r.res s') (K : Nat) (pre : aC) : az P f K args pre r := by
 refine az.frame (pre := []) ?_ (fun k o hk => by simp [look] at hk)
 intro need
 refine ⟨fun k o ho => by rw [hpost] at ho; simp [look] at ho, fun c D D' β w vs hw0 hMw hrel hD hK hv => .inl ⟨fn, hf.get, hf.name, by simp [hf.body], ?_⟩⟩
 have hv0 := hv.aQ hk
 have hM0 : aH { c with k0 := aQ } [] aQ = aH c [] β := by
  funext b
  simp [aH, look]
 have hlv : vs.length = args.length := by
  have : ∀ {l : List AV} {xs : List Value}, bA (aH c [] β) w β l xs → xs.length = l.length := by
   intro l
   induction l with
   | nil => intro xs h; cases xs with
    | nil => rfl
    | cons _ _ => exact h.elim
   | cons u us ih => intro xs h; cases xs with
    | nil => exact h.elim
    | cons x xs => simp [ih h.2]
  exact this hv
 have hstart : Rel { c with k0 := aQ } fn.ntmps (fun k => k < 0) (aM 0 args) [] { tmps := vs.toArray ++ Array.replicate (fn.ntmps - vs.toArray.size) undef, defers := [] } w := by
  refine ⟨rfl, by simp; omega, aQ, ?_, ?_⟩
  ·exact { obj := fun k o h => by simp [look] at h, cA := fun k o h => by simp [look] at h, inj := fun k k' o o' b N N' h => by simp [look] at h, dom := fun k x h => by simp [aQ] at h, keep := fun k x h => h, lt := fun k b N h => by simp [aQ] at h, os := hrel.os, tape := hrel.tape, output := hrel.output, size := hrel.size, block := hrel.block, fj := hrel.fj, new := fun k o b N h => by simp [look] at h }
  ·rw [hM0]
   have := yh (pre := #[]) (post := Array.replicate (fn.ntmps - vs.toArray.size) undef) hv0 rfl
   simpa using this
 refine calls_of_wp hf.get hf.body (wp_mono (h need { c with k0 := aQ } rfl _ w hstart) ?_)
 rintro e a' w' ⟨ae, s', rfl, hr', hex, hends⟩
 obtain ⟨hdef, x, β', st', hrun, hw', hvx, _⟩ := Ci hT hends hr'
 have hO : dQ c [] D' β w (ec r.post) r.res x w' := by
  rw [hpost]
  refine ⟨β, ?_, ?_, ?_⟩
  ·exact { obj := fun k o h => by simp [look, ec, bR] at h, cA := fun k o h => by simp [look, ec, bR] at h, inj := fun k k' o o' b N N' h => by simp [look, ec, bR] at h, dom := fun k x h => hD _ (hrel.dom k x h), keep := hrel.keep, lt := fun k b N h => Nat.lt_of_lt_of_le (hrel.lt k b N h) (by have := hw'.size; rw [← hw0]; exact this), os := hw'.os, tape := hw'.tape, output := hw'.output, size := hw'.size, block := hw'.block, fj := hw'.fj, new := fun k o b N h => by simp [look, ec, bR] at h }
  ·refine ⟨fun b o hb ho => ⟨?_, hb⟩, fun k x hk => hk⟩
   have hlt : b < c.w0.heap.size := by rw [hw0]; exact ve ho
   have := hw'.block b hlt (fun hm => hb (hMw b hm))
   rw [this]
   show c.w0.heap[b]? = _
   rw [hw0]; exact ho
  ·refine hvx.mono (fun b o hb ho => ⟨ho, fun hm => hb ?_⟩) (fun k x hk => by simp [aQ] at hk)
   rcases hm with hm | ⟨k, o, N, h1, _⟩
   ·exact .inl hm
   ·simp [look, ec, bR] at h1
 rcases hex with rfl | rfl
 ·exact ⟨hdef, x, hrun, x, rfl, hO⟩
 ·exact ⟨hdef, x, hrun, x, rfl, hO⟩
end funcs
end Go.Am

/- From a law's contract to the call that the row speaks of. -/
namespace Go.Am
open AV
end Go.Am

/- The evaluator with forks: where a condition is not known, both ways. -/
namespace Go.Am
open AV
inductive aa (α : Type) where
 | leaf (e : ah) (a : α)
 | af (l : List Prop) (t : aa α)
 | fork (b : Bool) (t u : aa α)
namespace aa
variable {α β : Type}
def all (Q : ah → α → Prop) : aa α → Prop
 | leaf e a => Q e a
 | af l t => ay l ∧ t.all Q
 | fork b t u => (b = true → t.all Q) ∧ (b = false → u.all Q)
def need (l : List Prop) (t : aa α) : aa α := match l with
 | [] => t
 | l => af l t
def bind (f : ah → α → Option (aa β)) : aa α → Option (aa β)
 | leaf e a => f e a
 | af l t => match t.bind f with
  | some u => some (af l u)
  | none => none
 | fork b t u => match t.bind f, u.bind f with
  | some t', some u' => some (fork b t' u')
  | _, _ => none
theorem tV {Q : ah → α → Prop} {l : List Prop} {t : aa α} : (need l t).all Q ↔ ay l ∧ t.all Q := by
 cases l with
 | nil => simp [need, ay]
 | cons p l => exact Iff.rfl
theorem gL {f : ah → α → Option (aa β)} {Q : ah → β → Prop} : ∀ {t : aa α} {u : aa β}, t.bind f = some u → u.all Q → t.all fun e a => ∃ v, f e a = some v ∧ v.all Q
 | leaf e a, u, h, hu => ⟨u, h, hu⟩
 | af l t, u, h, hu => by
  simp only [bind] at h
  cases ht : t.bind f with
  | none => rw [ht] at h; simp at h
  | some v =>
   rw [ht] at h
   simp only [Option.some.injEq] at h
   subst h
   exact ⟨hu.1, gL ht hu.2⟩
 | fork b t u, v, h, hv => by
  simp only [bind] at h
  cases ht : t.bind f with
  | none => rw [ht] at h; simp at h
  | some t' =>
   cases hu : u.bind f with
   | none => rw [ht, hu] at h; simp at h
   | some u' =>
    rw [ht, hu] at h
    simp only [Option.some.injEq] at h
    subst h
    exact ⟨fun hb => gL ht (hv.1 hb), fun hb => gL hu (hv.2 hb)⟩
theorem eW {Q Q' : ah → α → Prop} (h : ∀ e a, Q e a → Q' e a) : ∀ {t : aa α}, t.all Q → t.all Q'
 | leaf _ _, ht => h _ _ ht
 | af _ _, ht => ⟨ht.1, eW h ht.2⟩
 | fork _ _ _, ht => ⟨fun hb => eW h (ht.1 hb), fun hb => eW h (ht.2 hb)⟩
end aa
def tG (forks : List Nat) (ops : List Oper) : List Oper → Nat → List (Nat × Nat)
 | [], _ => []
 | o :: l, i => match o.dst with
  | some d => if (forks.contains d || (forks.contains (d + 100000) || forks.contains (d + 200000))) && ops.any (fun p => match p.guard with
    | some (g, _) => g == i
    | none => false) then (i, if forks.contains d then d else if forks.contains (d + 100000) then d + 100000 else d + 200000) :: tG forks ops l (i + 1) else tG forks ops l (i + 1)
  | none => tG forks ops l (i + 1)
def jL (T : Types) (Γ : aP) (ops : Array Oper) (d : Bool) (s : aA) : List (Nat × Nat) → List (Nat × Bool) → Option (aa aA)
 | [], orc => match me T Γ orc ops d s with
  | some (s', need) => some (.need need (.leaf .normal s'))
  | none => none
 | (g, t) :: gs, orc => match Nat.blt t 100000 with
  | false => match Nat.blt t 200000 with
   | true => jL T Γ ops d s gs ((g, true) :: orc)
   | false => jL T Γ ops d s gs ((g, false) :: orc)
  | true => match gx T Γ orc ops.toList (ops.toList.take (g + 1)) 0 s with
   | some (s', _, _) => match look t s'.bO with
    | some (.bool b) => match jL T Γ ops d s gs ((g, true) :: orc), jL T Γ ops d s gs ((g, false) :: orc) with
     | some x, some y => some (.fork b x y)
     | _, _ => none
    | _ => jL T Γ ops d s gs orc
   | none => none
def IM (forks : List Nat) : Operand → Nat
 | .tmp t => if forks.contains t then 1 else if forks.contains (t + 100000) then 2 else if forks.contains (t + 200000) then 3 else 0
 | _ => 0
def cE (T : Types) (Γ : aP) (forks : List Nat) : Nat → Code → aA → Option (aa aA)
 | 0, _, _ => none
 | n + 1, c, s => match c with
  | .skip => some (.leaf .normal s)
  | .label _ => some (.leaf .normal s)
  | .region _ ops d => jL T Γ ops d s (tG forks ops.toList ops.toList 0) []
  | .seq x y => match cE T Γ forks n x s with
   | some t => t.bind fun e s' => match e with
    | .normal => cE T Γ forks n y s'
    | .exit i => some (.leaf (.exit i) s')
    | .ret => some (.leaf .ret s')
   | none => none
  | .cond b x y => match s.ew b with
   | some (.bool t) => match IM forks b with
    | 1 => match cE T Γ forks n x s, cE T Γ forks n y s with
     | some u, some v => some (.fork t u v)
     | _, _ => none
    | 2 => match cE T Γ forks n x s with
     | some u => some (.af [t = true] u)
     | none => none
    | 3 => match cE T Γ forks n y s with
     | some u => some (.af [t = false] u)
     | none => none
    | _ => match t with
     | true => cE T Γ forks n x s
     | false => cE T Γ forks n y s
   | _ => none
  | .block id x => match cE T Γ forks n x s with
   | some t => t.bind fun e s' => match e with
    | .normal => some (.leaf .normal s')
    | .exit j => match j == id with
     | true => some (.leaf .normal s')
     | false => some (.leaf (.exit j) s')
    | .ret => some (.leaf .ret s')
   | none => none
  | .loop x => match cE T Γ forks n x s with
   | some t => t.bind fun e s' => match e with
    | .normal => cE T Γ forks n (.loop x) s'
    | .exit j => some (.leaf (.exit j) s')
    | .ret => some (.leaf .ret s')
   | none => none
  | .exit id => some (.leaf (.exit id) s)
  | .ret => some (.leaf .ret s)
  | _ => none
section rules
variable {P : Program} {c : Ctx} {nt : Nat} {Q : ah → aA → Prop} {T : Types} (hT : dh P T) {Γ : aP} (hΓ : aX P Γ) (hm : P.follows .mixedOrders = true)
include hT hΓ hm in
theorem m0 {id : Nat} {ops : Array Oper} {d : Bool} (hd : bP nt (.region id ops d) = true) {s : aA} : ∀ (gs : List (Nat × Nat)) (orc : List (Nat × Bool)) {t : aa aA}, jL T Γ ops d s gs orc = some t → t.all Q →
  aq P c nt (.region id ops d) s Q
 | [], orc, t, h, ht => by
  simp only [jL] at h
  cases hr : me T Γ orc ops d s with
  | none => rw [hr] at h; simp at h
  | some q =>
   obtain ⟨s', need⟩ := q
   rw [hr] at h
   simp only [Option.some.injEq] at h
   subst h
   obtain ⟨h1, h2⟩ := aa.tV.1 ht
   exact .region hT hΓ hm hd hr h1 h2
 | (g, k) :: gs, orc, t, h, ht => by
  simp only [jL] at h
  split at h
  ·split at h
   ·exact m0 hd gs _ h ht
   ·exact m0 hd gs _ h ht
  ·split at h
   ·split at h
    ·split at h
     ·rename_i x y hx hy
      simp only [Option.some.injEq] at h
      subst h
      exact (Bool.eq_false_or_eq_true _).elim (fun hb => m0 hd gs _ hx (ht.1 hb)) (fun hb => m0 hd gs _ hy (ht.2 hb))
     ·simp at h
    ·exact m0 hd gs _ h ht
   ·simp at h
def ow (P : Program) (c : Ctx) (nt : Nat) (x : Code) (s : aA) (Q : ah → aA → Prop) : Prop :=
 ∀ a w, Rel c nt (fun k => k < s.next) s.bO s.store a w → ∀ fr k cs, ∃ e a' w', (∃ ae t, e = ah.jW ae ∧ Rel c nt (fun k => k < t.next) t.bO t.store a' w' ∧ Q ae t) ∧
  Arrives P (lone (fr.at a (.code x :: .inLoop x :: k)) cs w) fr k cs e a' w'
theorem ow.loop {x : Code} {s : aA} (h : ow P c nt x s Q) : aq P c nt (.loop x) s Q := by
 intro a w hrel fr k cs
 obtain ⟨e, a', w', g, harr⟩ := h a w hrel fr k cs
 exact ⟨e, a', w', g, .of_steps (.one step_loop) harr⟩
theorem ow.round {x : Code} {s : aA} (h : aq P c nt x s fun e s' => match e with
  | .normal => ow P c nt x s' Q
  | e => Q e s') : ow P c nt x s Q := by
 intro a w hrel fr k cs
 obtain ⟨e, a1, w1, ⟨ae, t, rfl, g1, g2⟩, harr⟩ := h a w hrel fr (.inLoop x :: k) cs
 cases ae with
 | normal =>
  obtain ⟨e2, a2, w2, hq2, harr2⟩ := g2 a1 w1 g1 fr k cs
  exact ⟨e2, a2, w2, hq2, .of_steps (Steps.trans harr (.one step_inLoop)) harr2⟩
 | exit i => exact ⟨_, a1, w1, ⟨.exit i, t, rfl, g1, g2⟩, .pass (x := .inLoop x) rfl (fun _ _ => .inl (by simp [ah.jW])) harr⟩
 | ret => exact ⟨_, a1, w1, ⟨.ret, t, rfl, g1, g2⟩, .pass (x := .inLoop x) rfl (fun _ _ => .inl (by simp [ah.jW])) harr⟩
include hT hΓ hm in
theorem gB {forks : List Nat} : ∀ (n : Nat) {x : Code} {s : aA} {Q : ah → aA → Prop}, bP nt x = true → ∀ {t : aa aA}, cE T Γ forks n x s = some t → t.all Q → aq P c nt x s Q
 | 0, x, s, Q, _, t, h, _ => by simp [cE] at h
 | n + 1, .skip, s, Q, _, t, h, ht => by
  simp only [cE, Option.some.injEq] at h
  subst h; exact .skip ht
 | n + 1, .label l, s, Q, _, t, h, ht => by
  simp only [cE, Option.some.injEq] at h
  subst h; exact .label ht
 | n + 1, .exit i, s, Q, _, t, h, ht => by
  simp only [cE, Option.some.injEq] at h
  subst h; exact .exit ht
 | n + 1, .ret, s, Q, _, t, h, ht => by
  simp only [cE, Option.some.injEq] at h
  subst h; exact .ret ht
 | n + 1, .region i ops d, s, Q, hd, t, h, ht => by
  simp only [cE] at h
  exact m0 hT hΓ hm hd _ _ h ht
 | n + 1, .seq x y, s, Q, hd, t, h, ht => by
  simp only [bP, Bool.and_eq_true] at hd
  simp only [cE] at h
  cases hx : cE T Γ forks n x s with
  | none => rw [hx] at h; simp at h
  | some u =>
   rw [hx] at h
   refine .seq (gB n hd.1 hx (aa.eW ?_ (aa.gL h ht)))
   rintro e s' ⟨v, h1, h2⟩
   cases e with
   | normal => exact gB n hd.2 h1 h2
   | exit i => simp only [Option.some.injEq] at h1; subst h1; exact h2
   | ret => simp only [Option.some.injEq] at h1; subst h1; exact h2
 | n + 1, .cond b x y, s, Q, hd, t, h, ht => by
  simp only [bP, Bool.and_eq_true] at hd
  simp only [cE] at h
  split at h
  ·rename_i t' hb
   split at h
   ·split at h
    ·rename_i u v hu hv
     simp only [Option.some.injEq] at h
     subst h
     exact .cond hb (fun h' => gB n hd.1 hu (ht.1 h')) (fun h' => gB n hd.2 hv (ht.2 h'))
    ·simp at h
   ·split at h
    ·rename_i u hu
     simp only [Option.some.injEq] at h
     subst h
     have hb' : t' = true := ht.1
     exact .cond hb (fun _ => gB n hd.1 hu ht.2) (fun h' => by rw [hb'] at h'; simp at h')
    ·simp at h
   ·split at h
    ·rename_i u hu
     simp only [Option.some.injEq] at h
     subst h
     have hb' : t' = false := ht.1
     exact .cond hb (fun h' => by rw [hb'] at h'; simp at h') (fun _ => gB n hd.2 hu ht.2)
    ·simp at h
   ·split at h
    ·exact .cond hb (fun _ => gB n hd.1 h ht) (fun h' => by simp at h')
    ·exact .cond hb (fun h' => by simp at h') (fun _ => gB n hd.2 h ht)
  ·simp at h
 | n + 1, .block id x, s, Q, hd, t, h, ht => by
  simp only [bP] at hd
  simp only [cE] at h
  cases hx : cE T Γ forks n x s with
  | none => rw [hx] at h; simp at h
  | some u =>
   rw [hx] at h
   refine .block (gB n hd hx (aa.eW ?_ (aa.gL h ht)))
   rintro e s' ⟨v, h1, h2⟩
   cases e with
   | normal => simp only [Option.some.injEq] at h1; subst h1; exact h2
   | exit j =>
    simp only at h1 ⊢
    cases hj : j == id with
    | true =>
     rw [hj] at h1
     simp only [Option.some.injEq] at h1; subst h1
     rw [if_pos (by simpa using hj)]; exact h2
    | false =>
     rw [hj] at h1
     simp only [Option.some.injEq] at h1; subst h1
     rw [if_neg (by simpa using hj)]; exact h2
   | ret => simp only [Option.some.injEq] at h1; subst h1; exact h2
 | n + 1, .loop x, s, Q, hd, t, h, ht => by
  have key : ∀ (m : Nat) (s : aA) (t : aa aA), m ≤ n + 1 → cE T Γ forks m (.loop x) s = some t → t.all Q → ow P c nt x s Q := by
   intro m
   induction m with
   | zero => intro s t _ h; simp [cE] at h
   | succ m ihm =>
    intro s t hmn h ht
    simp only [cE] at h
    cases hx : cE T Γ forks m x s with
    | none => rw [hx] at h; simp at h
    | some u =>
     rw [hx] at h
     have hlen : m ≤ n := by omega
     refine .round (gB m (by simpa [bP] using hd) hx (aa.eW ?_ (aa.gL h ht)))
     rintro e s' ⟨v, h1, h2⟩
     cases e with
     | normal => exact ihm s' v (by omega) h1 h2
     | exit i => simp only [Option.some.injEq] at h1; subst h1; exact h2
     | ret => simp only [Option.some.injEq] at h1; subst h1; exact h2
  exact (key (n + 1) s t (Nat.le_refl _) h ht).loop
 | n + 1, .scope x, s, Q, _, t, h, _ => by simp [cE] at h
 | n + 1, .goto l, s, Q, _, t, h, _ => by simp [cE] at h
 | n + 1, .refuse l, s, Q, _, t, h, _ => by simp [cE] at h
 | n + 1, .rangeFunc _ _ _ _, s, Q, _, t, h, _ => by simp [cE] at h
def uu (s : aA) (t : Nat) : AV := match look t s.bO with
 | some v => v
 | none => .tuple []
def gE (s : aA) : List Nat → List AV
 | [] => []
 | t :: l => uu s t :: gE s l
def uO (st : aC) : List Nat → List Nat
 | [] => []
 | k :: l => match look k st with
  | some o => if o.row then uO st l else keys (o.f 0) ++ uO st l
  | none => uO st l
def IG (st : aC) (ks : List Nat) : List Nat := ks ++ uO st ks
def aR (ls : List Nat) (s : aA) : Option (List AV × aC) :=
 some (gE s ls, pick s.store (IG s.store (aT (gE s ls))))
def De (ls : List Nat) (e : ah) (s : aA) : Option (aa (List AV × aC)) :=
 match aR ls s with
 | some v => some (.leaf e v)
 | none => none
def gI (T : Types) (fn : Func) (e : ah) (s : aA) : Option (aa (List AV)) :=
 match e with
 | .exit _ => none
 | e => match eP T s fn.results.toList with
  | some (vs, q) => match dm (gl (pick s.store (aT vs))) vs with
   | some us => some (.need q (.leaf e us))
   | none => none
  | none => none
def bw (T : Types) (Γ : aP) (forks : List Nat) (n : Nat) (fn : Func) (x : Code) (s : aA) : Option (aa (List AV)) :=
 match cE T Γ forks n x s with
 | some t => t.bind (gI T fn)
 | none => none
include hT hΓ hm in
theorem aq.ends {fn : Func} {x : Code} {s : aA} {forks : List Nat} (n : Nat) (hd : bP nt x = true) {t : aa (List AV)} (hc : bw T Γ forks n fn x s = some t) {res : AV} (h : t.all fun _ us => dL us res) :
  aq P c nt x s fun e s' => (e = .normal ∨ e = .ret) ∧ Ends T fn res s' := by
 unfold bw at hc
 cases hx : cE T Γ forks n x s with
 | none => rw [hx] at hc; simp at hc
 | some u =>
  rw [hx] at hc
  refine gB hT hΓ hm n hd hx (aa.eW ?_ (aa.gL hc h))
  rintro e s' ⟨v, h1, h2⟩
  unfold gI at h1
  have key : ∀ {e' : ah}, (match eP T s' fn.results.toList with
    | some (vs, q) => match dm (gl (pick s'.store (aT vs))) vs with
     | some us => some (aa.need q (.leaf e' us))
     | none => none
    | none => none) = some v → Ends T fn res s' := by
   intro e' h1
   cases hr : eP T s' fn.results.toList with
   | none => rw [hr] at h1; simp at h1
   | some p =>
    obtain ⟨vs, q⟩ := p
    rw [hr] at h1
    simp only at h1
    cases hf : dm (gl (pick s'.store (aT vs))) vs with
    | none => rw [hf] at h1; simp at h1
    | some us =>
     rw [hf] at h1
     simp only [Option.some.injEq] at h1
     subst h1
     obtain ⟨g1, g2⟩ := aa.tV.1 h2
     exact ⟨vs, q, us, hr, g1, hf, g2⟩
  cases e with
  | normal => exact ⟨.inl rfl, key h1⟩
  | ret => exact ⟨.inr rfl, key h1⟩
  | exit i => simp at h1
include hT hΓ hm in
theorem bC {f : FuncId} {fn : Func} {x : Code} (hf : aO P f fn x) {args : List AV} {r : b7} (hk : aT args = []) (hlen : args.length ≤ fn.ntmps) (hpost : r.post = []) {forks : List Nat} (n : Nat) {t : aa (List AV)}
  (hc : bw T Γ forks n fn x ⟨aM 0 args, [], 0⟩ = some t) (h : r.need → t.all fun _ us => dL us r.res) (K : Nat) (pre : aC) : az P f K args pre r :=
 fY hT hf hk hlen hpost (fun hn _ _ => .ends hT hΓ hm n hf.dst hc (h hn)) K pre
end rules
end Go.Am

/- Weaker values; states by what is seen of them; contracts of functions that only read. -/
namespace Go.Am
open AV
theorem yz {v : AV} : aT [v] = keys v := by simp [aT]
theorem p5 {ρ : Nat → Option Nat} {u v : AV} (hk : keys u = []) (h : bp u v) : fo ρ u v := by
 refine ⟨h.1, fun M w β cs hc => ?_⟩
 have := h.2 M w cs (vY hc (by rw [yz, hk]))
 exact this.mono (fun b o h1 h2 => ⟨h2, h1⟩) _ fun k x hx => by simp [aQ] at hx
theorem aD {ρ : Nat → Option Nat} {u : AV} (hk : keys u = []) : fo ρ u u := p5 hk (.refl u)
theorem dY {ρ : Nat → Option Nat} {k : IntKind} {a b : Int} (h : a = b) : fo ρ (.int k a) (.int k b) := h ▸ aD (by simp [keys])
theorem cw {ρ : Nat → Option Nat} {k k2 es s s2 n n2 : Nat} (h : ρ k2 = some k) (hs : s = s2) (hn : n = n2) : fo ρ (.own k es s n) (.own k2 es s2 n2) := by
 subst hs hn
 refine ⟨rfl, fun M w β cs hc => ?_⟩
 cases hc with
 | own h1 h2 h3 h4 h5 h6 =>
  cases h6
  exact .own (by simp [h, h1]) h2 h3 h4 h5 .nil
 | own0 h5 h6 => cases h6; exact .own0 h5 .nil
theorem xx {ρ : Nat → Option Nat} {k es : Nat} (h : 0 < es) : fo ρ .nil (.own k es 0 0) := by
 refine ⟨rfl, fun M w β cs hc => ?_⟩
 cases hc with
 | vnil h1 => cases h1; exact .own0 h .nil
theorem je {ρ : Nat → Option Nat} {k k2 idx es off : Nat} {p : List Nat} (h : ρ k2 = some k) : fo ρ (.ptr k idx es off p) (.ptr k2 idx es off p) := by
 refine ⟨rfl, fun M w β cs hc => ?_⟩
 cases hc with
 | ptr h1 h6 =>
  cases h6
  exact .ptr (by simp only [h, Option.bind_some]; exact h1) .nil
theorem bp.trans {a b c : AV} (h : bp a b) (h' : bp b c) : bp a c := ⟨h'.1.trans h.1, fun M w cs hc => h'.2 M w cs (h.2 M w cs hc)⟩
theorem cI {a b : AV} (h : a = b) : bp a b := h ▸ .refl a
theorem bf {k : IntKind} {a b : Int} (h : a = b) : bp (.int k a) (.int k b) := h ▸ .refl _
theorem fZ {a b : Bool} (h : a = b) : bp (.bool a) (.bool b) := h ▸ .refl _
theorem zA {M : Nat → Prop} {w : World} : ∀ {us vs : List AV} {cs : List Value}, dj us vs → aF M w aQ us cs → aF M w aQ vs cs
 | [], [], _, _, h => h
 | u :: us, v :: vs, cs, hl, h => by
  obtain ⟨c1, c2, rfl, h1, h2⟩ := h.split
  exact (hl.1.2 M w c1 h1).cons (zA hl.2 h2)
 | [], _ :: _, _, h, _ => h.elim
 | _ :: _, [], _, h, _ => h.elim
theorem cN {us vs : List AV} (h : dj us vs) : bp (.agg us) (.agg vs) := by
 refine ⟨rfl, fun M w cs hc => ?_⟩
 cases hc with
 | agg h1 h2 => cases h2; exact .agg (zA h h1) .nil
theorem iV {es n : Nat} {f g : Nat → AV} (h : ∀ i, i < n → bp (f i) (g i)) : bp (.ak es n f) (.ak es n g) := by
 refine ⟨rfl, fun M w cs hc => ?_⟩
 cases hc with
 | ak h1 h2 h3 h4 h5 h6 => cases h6; exact .ak h1 h2 h3 h4 (fun i hi => (h i hi).2 _ _ _ (h5 i hi)) .nil
theorem xJ {es n m : Nat} {f g : Nat → AV} (hn : n = m) (h : ∀ i, i < n → f i = g i) : bp (.ak es n f) (.ak es m g) := hn ▸ iV fun i hi => cI (h i hi)
theorem Tq {N i : Nat} {v : Value} (h : (mP N)[i]? = some v) : i < nl N ∧ v = .int .u32 (aj N i) := by
 simp only [mP, List.getElem?_map] at h
 rw [Option.map_eq_some_iff] at h
 obtain ⟨a, h1, h2⟩ := h
 by_cases hi : i < nl N
 ·rw [List.getElem?_range hi] at h1
  simp only [Option.some.injEq] at h1
  subst h1
  exact ⟨hi, h2.symm⟩
 ·rw [List.getElem?_eq_none (by simpa using hi)] at h1
  simp at h1
def ag (z : Nat → Nat) : Nat → AV := fun i => .int .u32 (z i : Nat)
theorem gQ {n N : Nat} {f : Nat → AV} (hn : nl N = n) (hf : ∀ i, i < n → f i = .int .u32 (aj N i : Nat)) : bp (.ak 1 n f) (.mag N) := by
 subst hn
 refine ⟨rfl, fun M w cs hc => ?_⟩
 cases hc with
 | ak h1 h2 h3 h4 h5 h6 =>
  rename_i base cap cs cf
  cases h6
  have hcf : ∀ i, i < nl N → cf i = [.int .u32 (aj N i)] := fun i hi => by
   have := h5 i hi
   rw [hf i hi] at this
   revert this
   generalize cf i = l
   intro this
   cases this with
   | int h => cases h; rfl
  refine .mag ?_ h3 .nil
  rcases h1 with h1 | ⟨b, o, rfl, hm⟩
  ·refine .inl ?_
   unfold nl at h1
   split at h1
   ·assumption
   ·omega
  ·by_cases h0 : nl N = 0
   ·refine .inl ?_
    unfold nl at h0
    split at h0
    ·assumption
    ·omega
   ·refine .inr ⟨b, o, rfl, ?_⟩
    obtain ⟨c, ty, fr, g1, g2, g3⟩ := hm 0 (by omega)
    refine ⟨c, ty, fr, g1, g2, fun i v hv => ?_⟩
    obtain ⟨hi, rfl⟩ := Tq hv
    obtain ⟨c', ty', fr', g1', g2', g3'⟩ := hm i hi
    rw [g1] at g1'
    simp only [Option.some.injEq, Obj.cells.injEq] at g1'
    obtain ⟨rfl, rfl, rfl⟩ := g1'
    have := g3' 0 _ (by rw [hcf i hi]; rfl)
    simpa using this
theorem Ae {N n : Nat} {f : Nat → AV} (hn : n = nl N) (hf : ∀ i, i < n → f i = .int .u32 (aj N i : Nat)) : bp (.mag N) (.ak 1 n f) := by
 subst hn
 refine ⟨rfl, fun M w cs hc => ?_⟩
 cases hc with
 | mag h1 h2 h3 =>
  cases h3
  refine .ak (cf := fun i => [.int .u32 (aj N i)]) ?_ (by omega) h2 (fun _ _ => rfl) (fun i hi => by rw [hf i hi]; exact .int .nil) .nil
  rcases h1 with rfl | ⟨b, o, rfl, c, ty, fr, g1, g2, g3⟩
  ·exact .inl (by simp [nl])
  ·refine .inr ⟨b, o, rfl, fun i hi => ⟨c, ty, fr, g1, g2, fun j v hj => ?_⟩⟩
   cases j with
   | zero =>
    simp only [List.getElem?_cons_zero, Option.some.injEq] at hj
    subst hj
    have := g3 i _ (uB hi)
    simpa using this
   | succ j => simp at hj
theorem fK {es : Nat} {f : Nat → AV} (h : 0 < es) : bp .nil (.ak es 0 f) := by
 refine ⟨rfl, fun M w cs hc => ?_⟩
 cases hc with
 | vnil h1 =>
  cases h1
  exact .ak (cf := fun _ => []) (.inl rfl) h (by omega) (fun i hi => by omega) (fun i hi => by omega) .nil
theorem gy : bp .nil (.mag 0) := (fK (es := 1) (f := fun _ => .nil) (by omega)).trans (gQ (by simp [nl]) fun i hi => by omega)
theorem kD {b : Bool} {x y : Nat} {q : Rat} {n : Nat} (hs : Sz q n) (hb : b = decide (q < 0)) (hx : x = q.num.natAbs) (hy : y = if q.den = 1 then 0 else q.den) : bp (.agg [.bool b, .mag x, .mag y]) (.rat q n) := by
 subst hb hx
 refine ⟨rfl, fun M w cs hc => ?_⟩
 cases hc with
 | agg h1 h2 =>
  cases h2
  cases h1 with
  | bool h1 =>
   obtain ⟨c1, c2, rfl, h1, h2⟩ := h1.split
   have l1 := h1.length
   have l2 := h2.length
   simp only [sizes, size] at l1 l2
   match c1, c2, l1, l2 with
   | [x], [y], _, _ => exact .rat hs h1 (hy ▸ h2) .nil
theorem DX {q : Rat} {n : Nat} : bp (.rat q n) (.agg (AV.kids (.rat q n))) := by
 refine ⟨rfl, fun M w cs hc => ?_⟩
 cases hc with
 | rat hs h1 h2 h3 => cases h3; exact .agg (.bool (h1.cons h2)) .nil
theorem dZ {q : Rat} {n m : Nat} (h : n ≤ m) : bp (.rat q n) (.rat q m) := by
 refine ⟨rfl, fun M w cs hc => ?_⟩
 cases hc with
 | rat hs h1 h2 h3 =>
  cases h3
  exact .rat ⟨Nat.lt_of_lt_of_le hs.1 (Nat.pow_le_pow_right (by omega) h), Nat.lt_of_lt_of_le hs.2 (Nat.pow_le_pow_right (by omega) h)⟩ h1 h2 .nil
def aB {α : Type} : List Nat → List α → List (Nat × α)
 | k :: ks, a :: l => (k, a) :: aB ks l
 | _, _ => []
def ey (ρ : Nat → Option Nat) : List AV → List AV → Prop
 | [], [] => True
 | u :: us, v :: vs => (u.isTuple = false ∧ fo ρ u v) ∧ ey ρ us vs
 | _, _ => False
def kr (ρ : Nat → Option Nat) (os : aC) : aC → Prop
 | [] => True
 | (k2, o2) :: ps => (∃ k1 o1, ρ k2 = some k1 ∧ look k1 os = some o1 ∧ cL ρ o1 o2) ∧ kr ρ os ps
theorem BE {s : aA} {t : Nat} (h : (uu s t).isTuple = false) : look t s.bO = some (uu s t) := by
 unfold uu at h ⊢
 split
 ·assumption
 ·rename_i hn
  rw [hn] at h
  simp [isTuple] at h
theorem wN {s : aA} : ∀ {ls : List Nat} {vs : List AV} {ρ : Nat → Option Nat}, ey ρ (gE s ls) vs → ∀ t v, look t (aB ls vs) = some v → ∃ u, look t s.bO = some u ∧ u.isTuple = false ∧ fo ρ u v
 | [], vs, ρ, _, t, v, h => by simp [aB, look] at h
 | x :: ls, vs, ρ, hle, t, v, h => by
  cases vs with
  | nil => exact hle.elim
  | cons b vs =>
   simp only [aB, look] at h
   split at h
   ·rename_i he
    have : x = t := by simpa using he
    subst this
    simp only [Option.some.injEq] at h
    subst h
    exact ⟨_, BE hle.1.1, hle.1.1, hle.1.2⟩
   ·exact wN hle.2 t v h
theorem vU {os : aC} : ∀ {ps : aC} {ρ : Nat → Option Nat}, kr ρ os ps → ∀ k2 o2, look k2 ps = some o2 → ∃ k1 o1, ρ k2 = some k1 ∧ look k1 os = some o1 ∧ cL ρ o1 o2
 | [], _, _, _, _, h => by simp [look] at h
 | (j, b) :: ps, ρ, hle, t, v, h => by
  simp only [look] at h
  split at h
  ·rename_i he
   have : j = t := by simpa using he
   subst this
   simp only [Option.some.injEq] at h
   subst h
   exact hle.1
  ·exact vU hle.2 t v h
def aY (l : List (Nat × Nat)) : Nat → Option Nat := fun k => look k l
def gU (nx : Nat) (l : List (Nat × Nat)) : Bool := l.all fun p => decide (p.1 < nx) && l.all fun q => p.2 != q.2 || p.1 == q.1
theorem lT {α : Type} {k : Nat} {a : α} : ∀ {l : List (Nat × α)}, look k l = some a → (k, a) ∈ l
 | [], h => by simp [look] at h
 | (j, b) :: l, h => by
  simp only [look] at h
  split at h
  ·rename_i he
   have : j = k := by simpa using he
   subst this
   simp only [Option.some.injEq] at h
   subst h
   simp
  ·exact List.mem_cons_of_mem _ (lT h)
def o3 (nx : Nat) (ρ : Nat → Option Nat) (os : aC) : aC → Prop
 | [] => True
 | (k2, o2) :: ps => ((∃ k1 o1, ρ k2 = some k1 ∧ look k1 os = some o1 ∧ cL ρ o1 o2) ∨ (ρ k2 = none ∧ nQ o2 ∧ k2 < nx)) ∧ o3 nx ρ os ps
theorem kr.Fl {nx : Nat} {ρ : Nat → Option Nat} {os : aC} : ∀ {ps : aC}, kr ρ os ps → o3 nx ρ os ps
 | [], _ => trivial
 | (_, _) :: _, h => ⟨.inl h.1, kr.Fl h.2⟩
theorem FW {nx : Nat} {os : aC} : ∀ {ps : aC} {ρ : Nat → Option Nat}, o3 nx ρ os ps → ∀ k2 o2, look k2 ps = some o2 → (∃ k1 o1, ρ k2 = some k1 ∧ look k1 os = some o1 ∧ cL ρ o1 o2) ∨ (ρ k2 = none ∧ nQ o2 ∧ k2 < nx)
 | [], _, _, _, _, h => by simp [look] at h
 | (j, b) :: ps, ρ, hle, t, v, h => by
  simp only [look] at h
  split at h
  ·rename_i he
   have : j = t := by simpa using he
   subst this
   simp only [Option.some.injEq] at h
   subst h
   exact hle.1
  ·exact FW hle.2 t v h
theorem Cz {c : Ctx} {s' : aA} {ls : List Nat} {us vs : List AV} {os ps : aC} {nx : Nat} (rl : List (Nat × Nat)) (hv : aR ls s' = some (us, os)) (hk0 : ∀ k x, c.k0 k = some x → look k rl = some k) (hr : gU nx rl = true)
  (hs : ey (aY rl) us vs) (ho : o3 nx (aY rl) os ps) : ∃ ρ, Le c ρ s' ⟨aB ls vs, ps, nx⟩ := by
 unfold aR at hv
 ·simp only [Option.some.injEq, Prod.mk.injEq] at hv
  obtain ⟨rfl, rfl⟩ := hv
  have hall : ∀ p ∈ rl, p.1 < nx ∧ ∀ q ∈ rl, p.2 = q.2 → p.1 = q.1 := fun p hp => by
   have := List.all_eq_true.1 hr p hp
   simp only [Bool.and_eq_true, decide_eq_true_eq] at this
   refine ⟨this.1, fun q hq he => ?_⟩
   have h3 := List.all_eq_true.1 this.2 q hq
   simpa [he] using h3
  refine ⟨aY rl, ?_, wN hs, fun k2 o2 hk => ?_, fun k2 k1 hk => (hall _ (lT hk)).1, hk0⟩
  ·intro a b k ha hb
   exact (hall _ (lT ha)).2 _ (lT hb) rfl
  ·refine (FW ho k2 o2 hk).imp (fun ⟨k1, o1, g1, g2, g3⟩ => ⟨k1, o1, g1, ?_, g3⟩) id
   rw [jC] at g2
   split at g2
   ·exact g2
   ·simp at g2
theorem bY {c : Ctx} {s' : aA} {ls : List Nat} {us vs : List AV} {os ps : aC} {nx : Nat} (rl : List (Nat × Nat)) (hv : aR ls s' = some (us, os)) (hk0 : c.k0 = aQ) (hr : gU nx rl = true)
  (hs : ey (aY rl) us vs) (ho : kr (aY rl) os ps) : ∃ ρ, Le c ρ s' ⟨aB ls vs, ps, nx⟩ :=
 Cz rl hv (fun k x hk => by rw [hk0] at hk; simp [aQ] at hk) hr hs ho.Fl
theorem gi {ρ : Nat → Option Nat} {r w : Bool} {es n m : Nat} {f g : Nat → AV} (hn : m = n) (h : ∀ i, i < n → fo ρ (f i) (g i)) : cL ρ ⟨r, w, es, n, f⟩ ⟨r, w, es, m, g⟩ := ⟨rfl, rfl, rfl, hn, h⟩
theorem eF {P : Program} {f : FuncId} {K : Nat} {args args' : List AV} {r : b7} (hf : az P f K args' [] r) (hk : aT args = []) (h : dj args args') (pre : aC) : az P f K args pre r := by
 refine az.frame (pre := []) ?_ (fun k o hk => by simp [look] at hk)
 intro need
 obtain ⟨h1, h2⟩ := hf need
 refine ⟨h1, fun c D D' β w vs hw0 hMw hrel hD hK hv => h2 c D D' β w vs hw0 hMw hrel hD hK ?_⟩
 have h3 := uo h (hv.aQ hk)
 exact h3.mono (fun b o h1 h2 => ⟨h2, h1⟩) fun k x hx => by simp [aQ] at hx
def bk (g : List AV → Option b7) : Spec := fun _ args pre => match dm pre args with
 | some ar => match g ar with
  | some r => match r.post with
   | [] => some r
   | _ => none
  | none => none
 | none => none
mutual
theorem LA {pre : aC} : ∀ {v u : AV}, b6 pre v = some u → keys u = []
 | .bool _, u, h => by simp only [b6, Option.some.injEq] at h; subst h; rfl
 | .int _ _, u, h => by simp only [b6, Option.some.injEq] at h; subst h; rfl
 | .rat _ _, u, h => by simp only [b6, Option.some.injEq] at h; subst h; rfl
 | .mag _, u, h => by simp only [b6, Option.some.injEq] at h; subst h; rfl
 | .ak _ _ _, u, h => by simp only [b6, Option.some.injEq] at h; subst h; rfl
 | .cF _ _ _ _, u, h => by simp only [b6, Option.some.injEq] at h; subst h; rfl
 | .nil, u, h | .void, u, h | .str _, u, h => by simp only [b6, Option.some.injEq] at h; subst h; rfl
 | .bG _, u, h => by simp only [b6, Option.some.injEq] at h; subst h; rfl
 | .ptr _ _ _ _ _, u, h => by simp [b6] at h
 | .tuple _, u, h => by simp [b6] at h
 | .func f [], u, h => by simp only [b6, Option.some.injEq] at h; subst h; rfl
 | .func f (_ :: _), u, h => by simp [b6] at h
 | .own k es s n, u, h => by
  simp only [b6] at h
  split at h
  ·split at h
   ·simp only [Option.some.injEq] at h; subst h; rfl
   ·simp at h
  ·simp at h
 | .agg l, u, h => by
  simp only [b6] at h
  split at h
  ·rename_i m hm
   simp only [Option.some.injEq] at h; subst h
   simp only [keys]; exact tN hm
  ·simp at h
theorem tN {pre : aC} : ∀ {l m : List AV}, dm pre l = some m → aT m = []
 | [], m, h => by simp only [dm, Option.some.injEq] at h; subst h; rfl
 | a :: l, m, h => by
  simp only [dm] at h
  split at h
  ·rename_i b m' h1 h2
   simp only [Option.some.injEq] at h; subst h
   simp only [aT, LA h1, tN h2, List.append_nil]
  ·simp at h
end
theorem bD {P : Program} {f : FuncId} {g : List AV → Option b7} (h : ∀ K args r, aT args = [] → g args = some r → r.post = [] → az P f K args [] r) :
  ∀ K args pre r, bk g K args pre = some r → az P f K args pre r := by
 intro K args pre r hg
 unfold bk at hg
 split at hg
 ·rename_i ar has
  split at hg
  ·rename_i r' hr'
   split at hg
   ·rename_i hp
    simp only [Option.some.injEq] at hg
    subst hg
    have hf := h K ar r' (tN has) hr' hp
    intro need
    obtain ⟨h1, h2⟩ := hf need
    refine ⟨fun k o ho => by rw [hp] at ho; simp [look] at ho, fun c D D' β w vs hw0 hMw hrel hD hK hv => ?_⟩
    have hv' : bA (aH c pre β) w aQ ar vs := ua hrel (fun _ _ h => h) has hv
    exact (hf.frame (pre' := pre) (fun k o hk => by simp [look] at hk)).use need hrel (fun _ _ h => h) hD hK (hv'.mono (fun b o h1 h2 => ⟨h2, h1⟩) fun k x hx => by simp [aQ] at hx)
   ·simp at hg
  ·simp at hg
 ·simp at hg
end Go.Am

/- Parts of code; a piece of code inside a chain; loops. -/
namespace Go.Am
def part : Code → List Nat → Code
 | c, [] => c
 | .seq x _, 0 :: p => part x p
 | .seq _ y, _ :: p => part y p
 | .cond _ x _, 0 :: p => part x p
 | .cond _ _ y, _ :: p => part y p
 | .block _ x, _ :: p => part x p
 | .loop x, _ :: p => part x p
 | _, _ => .skip
def before : Code → List Nat → List Code
 | .seq x _, 0 :: p => before x p
 | .seq x y, _ :: p => x :: before y p
 | _, _ => []
def behind : Code → List Nat → List Code
 | .seq x y, 0 :: p => behind x p ++ [y]
 | .seq _ y, _ :: p => behind y p
 | _, _ => []
def chain : Code → List Nat → Bool
 | _, [] => true
 | .seq x _, 0 :: p => chain x p
 | .seq _ y, _ :: p => chain y p
 | _, _ => false
def au (fn : Func) : Code := match fn.body with
 | some x => x
 | none => .skip
def cU (k : aA → Prop) (Q : ah → aA → Prop) : ah → aA → Prop
 | .normal, s => k s
 | e, s => Q e s
def ax (P : Program) (c : Ctx) (nt : Nat) : List Code → aA → (ah → aA → Prop) → Prop
 | [], s, Q => Q .normal s
 | x :: l, s, Q => aq P c nt x s (cU (fun s' => ax P c nt l s' Q) Q)
section rules
variable {P : Program} {c : Ctx} {nt : Nat} {s : aA} {Q : ah → aA → Prop}
theorem aq.FV {x y : Code} (h : aq P c nt x s (cU (fun s' => aq P c nt y s' Q) Q)) : aq P c nt (.seq x y) s Q :=
 .seq (h.mono fun e s' h => by cases e <;> exact h)
theorem ax.mono {Q Q' : ah → aA → Prop} (hq : ∀ e s', Q e s' → Q' e s') : ∀ {l : List Code} {s : aA}, ax P c nt l s Q → ax P c nt l s Q'
 | [], _, h => hq _ _ h
 | x :: l, s, h => aq.mono h fun e s' h => by
  cases e with
  | normal => exact ax.mono hq (l := l) h
  | exit i => exact hq _ _ h
  | ret => exact hq _ _ h
theorem ax.append {Q : ah → aA → Prop} : ∀ {a b : List Code} {s : aA}, ax P c nt (a ++ b) s Q → ax P c nt a s (cU (fun s' => ax P c nt b s' Q) Q)
 | [], b, s, h => h
 | x :: a, b, s, h => aq.mono h fun e s' h => by
  cases e with
  | normal => exact ax.append (a := a) h
  | exit i => exact h
  | ret => exact h
theorem aq.hole : ∀ (p : List Nat) {x : Code} {s : aA} {Q : ah → aA → Prop}, chain x p = true →
  ax P c nt (before x p) s (cU (fun s' => aq P c nt (part x p) s' (cU (fun s'' => ax P c nt (behind x p) s'' Q) Q)) Q) → aq P c nt x s Q
 | [], x, s, Q, _, h => by
  have hb : before x [] = [] := by cases x <;> rfl
  have hh : behind x [] = [] := by cases x <;> rfl
  have hp : part x [] = x := by cases x <;> rfl
  rw [hb, hh, hp] at h
  exact aq.mono h fun e s' h => by cases e <;> exact h
 | 0 :: p, .seq x y, s, Q, hc, h => by
  refine .FV (aq.hole p (x := x) hc ?_)
  refine ax.mono ?_ h
  intro e s' h1
  cases e with
  | normal =>
   refine aq.mono h1 ?_
   intro e s'' h2
   cases e with
   | normal =>
    refine ax.mono ?_ (ax.append h2)
    intro e s3 h3
    cases e with
    | normal => exact aq.mono h3 fun e s' h => by cases e <;> exact h
    | exit i => exact h3
    | ret => exact h3
   | exit i => exact h2
   | ret => exact h2
  | exit i => exact h1
  | ret => exact h1
 | (n + 1) :: p, .seq x y, s, Q, hc, h => by
  refine .FV (aq.mono h ?_)
  intro e s' h1
  cases e with
  | normal => exact aq.hole p (x := y) hc h1
  | exit i => exact h1
  | ret => exact h1
 | _ :: _, .cond _ _ _, _, _, hc, _ => by simp [chain] at hc
 | _ :: _, .block _ _, _, _, hc, _ => by simp [chain] at hc
 | _ :: _, .loop _, _, _, hc, _ => by simp [chain] at hc
 | _ :: _, .region _ _ _, _, _, hc, _ => by simp [chain] at hc
 | _ :: _, .skip, _, _, hc, _ => by simp [chain] at hc
 | _ :: _, .label _, _, _, hc, _ => by simp [chain] at hc
 | _ :: _, .exit _, _, _, hc, _ => by simp [chain] at hc
 | _ :: _, .ret, _, _, hc, _ => by simp [chain] at hc
 | _ :: _, .scope _, _, _, hc, _ => by simp [chain] at hc
 | _ :: _, .goto _, _, _, hc, _ => by simp [chain] at hc
 | _ :: _, .refuse _, _, _, hc, _ => by simp [chain] at hc
 | _ :: _, .rangeFunc _ _ _ _, _, _, hc, _ => by simp [chain] at hc
def inBlock (i : Nat) (Q : ah → aA → Prop) : ah → aA → Prop
 | .exit j, s => if j = i then Q .normal s else Q (.exit j) s
 | e, s => Q e s
theorem aq.E7 {i : Nat} {x : Code} (h : aq P c nt x s (inBlock i Q)) : aq P c nt (.block i x) s Q :=
 .block (h.mono fun e s' h => by cases e <;> exact h)
theorem aq.fN {x y : Code} {i : Nat} (hx : x = .block i (.loop y)) {α : Type} (S : α → aA) (I : α → Prop) (μ : α → Nat) (j : α) (hs : ∃ ρ, Le c ρ s (S j)) (h0 : I j)
  (round : ∀ j, I j → aq P c nt y (S j) (cU (fun s' => ∃ k, (∃ ρ, Le c ρ s' (S k)) ∧ I k ∧ μ k < μ j) (inBlock i Q))) : aq P c nt x s Q := by
 subst hx
 exact .E7 (.Q1 S I μ j hs h0 fun j hj => (round j hj).mono fun e s' h => by cases e <;> exact h)
variable {T : Types} (hT : dh P T) {Γ : aP} (hΓ : aX P Γ) (hm : P.follows .mixedOrders = true)
def mV (T : Types) (Γ : aP) (forks : List Nat) (n : Nat) : List Code → aA → Option (aa aA)
 | [], s => some (.leaf .normal s)
 | x :: l, s => match cE T Γ forks n x s with
  | some t => t.bind fun e s' => match e with
   | .normal => mV T Γ forks n l s'
   | .exit i => some (.leaf (.exit i) s')
   | .ret => some (.leaf .ret s')
  | none => none
include hT hΓ hm in
theorem yf {forks : List Nat} {n : Nat} : ∀ {l : List Code} {s : aA} {t : aa aA}, (l.all fun x => bP nt x) = true → mV T Γ forks n l s = some t → t.all Q → ax P c nt l s Q
 | [], s, t, _, h, ht => by
  simp only [mV, Option.some.injEq] at h
  subst h
  exact ht
 | x :: l, s, t, hd, h, ht => by
  simp only [List.all_cons, Bool.and_eq_true] at hd
  simp only [mV] at h
  cases hx : cE T Γ forks n x s with
  | none => rw [hx] at h; simp at h
  | some u =>
   rw [hx] at h
   refine gB hT hΓ hm n hd.1 hx (aa.eW ?_ (aa.gL h ht))
   rintro e s' ⟨v, h1, h2⟩
   cases e with
   | normal => exact yf hd.2 h1 h2
   | exit i => simp only [Option.some.injEq] at h1; subst h1; exact h2
   | ret => simp only [Option.some.injEq] at h1; subst h1; exact h2
def aI (T : Types) (Γ : aP) (forks : List Nat) (n : Nat) (ls : List Nat) (l : List Code) (s : aA) : Option (aa (List AV × aC)) :=
 match mV T Γ forks n l s with
 | some t => t.bind (De ls)
 | none => none
include hT hΓ hm in
theorem ax.aV {forks : List Nat} (n : Nat) (ls : List Nat) {l : List Code} {s : aA} {t : aa (List AV × aC)} (hc : aI T Γ forks n ls l s = some t) (hd : (l.all fun x => bP nt x) = true)
  (h : t.all fun e v => ∀ s', aR ls s' = some v → Q e s') : ax P c nt l s Q := by
 unfold aI at hc
 split at hc
 ·rename_i u hx
  refine yf hT hΓ hm hd hx (aa.eW ?_ (aa.gL hc h))
  rintro e s' ⟨v, h1, h2⟩
  unfold De at h1
  cases hv : aR ls s' with
  | none => rw [hv] at h1; simp at h1
  | some z =>
   rw [hv] at h1
   simp only [Option.some.injEq] at h1
   subst h1
   exact h2 s' hv
 ·simp at hc
include hT hΓ hm in
theorem aq.aV {x : Code} {forks : List Nat} (n : Nat) (ls : List Nat) {t : aa (List AV × aC)} (hc : aI T Γ forks n ls [x] s = some t) (hd : bP nt x = true)
  (h : t.all fun e v => ∀ s', aR ls s' = some v → Q e s') : aq P c nt x s Q := by
 have := ax.aV (P := P) (c := c) (nt := nt) (l := [x]) (Q := Q) hT hΓ hm n ls hc (by simp [hd]) h
 exact aq.mono this fun e s' h => by cases e <;> exact h
def cr (T : Types) (Γ : aP) (forks : List Nat) (n : Nat) (fn : Func) (l : List Code) (s : aA) : Option (aa (List AV)) :=
 match mV T Γ forks n l s with
 | some t => t.bind (gI T fn)
 | none => none
def Fin (T : Types) (fn : Func) (res : AV) (e : ah) (s : aA) : Prop := (e = .normal ∨ e = .ret) ∧ Ends T fn res s
theorem yF {fn : Func} {e : ah} {s' : aA} {v : aa (List AV)} {res : AV} (h1 : gI T fn e s' = some v) (h2 : v.all fun _ us => dL us res) : Fin T fn res e s' := by
 unfold gI at h1
 have key : ∀ {e' : ah}, (match eP T s' fn.results.toList with
   | some (vs, q) => match dm (gl (pick s'.store (AV.aT vs))) vs with
    | some us => some (aa.need q (.leaf e' us))
    | none => none
   | none => none) = some v → Ends T fn res s' := by
  intro e' h1
  cases hr : eP T s' fn.results.toList with
  | none => rw [hr] at h1; simp at h1
  | some p =>
   obtain ⟨vs, q⟩ := p
   rw [hr] at h1
   simp only at h1
   cases hf : dm (gl (pick s'.store (AV.aT vs))) vs with
   | none => rw [hf] at h1; simp at h1
   | some us =>
    rw [hf] at h1
    simp only [Option.some.injEq] at h1
    subst h1
    obtain ⟨g1, g2⟩ := aa.tV.1 h2
    exact ⟨vs, q, us, hr, g1, hf, g2⟩
 cases e with
 | normal => exact ⟨.inl rfl, key h1⟩
 | ret => exact ⟨.inr rfl, key h1⟩
 | exit i => simp at h1
include hT hΓ hm in
theorem ax.fin {fn : Func} {forks : List Nat} (n : Nat) {l : List Code} {s : aA} {t : aa (List AV)} (hc : cr T Γ forks n fn l s = some t) (hd : (l.all fun x => bP nt x) = true) {res : AV}
  (h : t.all fun _ us => dL us res) : ax P c nt l s (Fin T fn res) := by
 unfold cr at hc
 split at hc
 ·rename_i u hx
  refine yf hT hΓ hm hd hx (aa.eW ?_ (aa.gL hc h))
  rintro e s' ⟨v, h1, h2⟩
  exact yF h1 h2
 ·simp at hc
theorem ax.weak {l : List Code} {s2 : aA} (hl : l.isEmpty = false) (hle : ∃ ρ, Le c ρ s s2) (h : ax P c nt l s2 Q) : ax P c nt l s Q := by
 obtain ⟨ρ, hle⟩ := hle
 cases l with
 | nil => simp at hl
 | cons x l => exact aq.weak hle h
theorem aq.nW {x : Code} {s2 : aA} (hle : ∃ ρ, Le c ρ s s2) (h : aq P c nt x s2 Q) : aq P c nt x s Q := by
 obtain ⟨ρ, hle⟩ := hle
 exact aq.weak hle h
end rules
theorem aL {P : Program} {f : FuncId} {fn : Func} (h : P.funcs[f]? = some fn) (hb : fn.body.isSome = true) (hn : (fn.name == "runtime.NumGoroutine") = false) (hd : bP fn.ntmps (au fn) = true) : aO P f fn (au fn) := by
 refine ⟨h, ?_, hn, hd⟩
 unfold au
 cases hbd : fn.body with
 | none => rw [hbd] at hb; simp at hb
 | some x => rfl
end Go.Am

/- Plain laws of limbs. -/
namespace Go.Am
def val : Nat → (Nat → Nat) → Nat
 | 0, _ => 0
 | n + 1, z => val n z + z n * 2 ^ (32 * n)
theorem dO {z : Nat → Nat} : ∀ {n : Nat}, (∀ i, i < n → z i < 2 ^ 32) → val n z < 2 ^ (32 * n)
 | 0, _ => by simp [val]
 | n + 1, h => by
  have ih := dO (z := z) (n := n) fun i hi => h i (by omega)
  have h1 := h n (by omega)
  have : z n * 2 ^ (32 * n) + 2 ^ (32 * n) ≤ 2 ^ 32 * 2 ^ (32 * n) := by
   rw [← Nat.succ_mul]; exact Nat.mul_le_mul_right _ h1
  have e : 2 ^ (32 * (n + 1)) = 2 ^ 32 * 2 ^ (32 * n) := by rw [← Nat.pow_add]; congr 1; omega
  rw [e, val]; omega
theorem val_congr {z y : Nat → Nat} : ∀ {n : Nat}, (∀ i, i < n → z i = y i) → val n z = val n y
 | 0, _ => rfl
 | n + 1, h => by rw [val, val, val_congr fun i hi => h i (by omega), h n (by omega)]
theorem iX {z : Nat → Nat} {k : Nat} : ∀ {n : Nat}, k ≤ n → (∀ i, k ≤ i → i < n → z i = 0) → val n z = val k z
 | 0, h, _ => by
    have : k = 0 := by omega
    subst this; rfl
 | n + 1, h, hz => by
  by_cases hk : k = n + 1
  ·subst hk; rfl
  ·rw [val, iX (n := n) (by omega) fun i h1 h2 => hz i h1 (by omega), hz n (by omega) (by omega)]
   simp
theorem j3 {z : Nat → Nat} : ∀ {n i : Nat}, (∀ j, j < n → z j < 2 ^ 32) → i < n → aj (val n z) i = z i
 | 0, i, _, hi => by omega
 | n + 1, i, h, hi => by
  unfold aj
  rw [val]
  by_cases he : i = n
  ·subst he
   have := dO (z := z) (n := i) fun j hj => h j (by omega)
   rw [Nat.add_mul_div_right _ _ (Nat.two_pow_pos _), Nat.div_eq_of_lt this, Nat.zero_add]
   exact Nat.mod_eq_of_lt (h i (by omega))
  ·have ih := j3 (z := z) (n := n) (i := i) (fun j hj => h j (by omega)) (by omega)
   unfold aj at ih
   have e : 2 ^ (32 * n) = 2 ^ 32 * 2 ^ (32 * (n - i - 1)) * 2 ^ (32 * i) := by
    rw [← Nat.pow_add, ← Nat.pow_add]; congr 1; omega
   rw [e, ← Nat.mul_assoc, Nat.add_mul_div_right _ _ (Nat.two_pow_pos _), ← ih]
   rw [show z n * (2 ^ 32 * 2 ^ (32 * (n - i - 1))) = 2 ^ 32 * (z n * 2 ^ (32 * (n - i - 1))) by
    rw [← Nat.mul_assoc, Nat.mul_comm (z n), Nat.mul_assoc]]
   rw [Nat.add_mul_mod_self_left]
theorem b9 {N i : Nat} : aj N i < 2 ^ 32 := Nat.mod_lt _ (by decide)
theorem C2 {N : Nat} : ∀ {n : Nat}, val n (aj N) = N % 2 ^ (32 * n)
 | 0 => by simp [val, Nat.mod_one]
 | n + 1 => by
  rw [val, C2, aj]
  have e : 2 ^ (32 * (n + 1)) = 2 ^ (32 * n) * 2 ^ 32 := by rw [← Nat.pow_add]; congr 1
  rw [e, Nat.mod_mul, Nat.mul_comm (2 ^ (32 * n))]
theorem j8 {N n : Nat} (h : N < 2 ^ (32 * n)) : val n (aj N) = N := by rw [C2, Nat.mod_eq_of_lt h]
theorem bX {N n : Nat} : nl N ≤ n ↔ N < 2 ^ (32 * n) := by
 unfold nl
 by_cases h : N = 0
 ·subst h; simp [Nat.two_pow_pos]
 ·rw [if_neg h]
  rw [← Nat.log2_lt h]
  omega
theorem iR {N : Nat} : N < 2 ^ (32 * nl N) := bX.1 (Nat.le_refl _)
theorem dX {N : Nat} : val (nl N) (aj N) = N := j8 iR
theorem MM {z : Nat → Nat} {n : Nat} (h0 : 0 < n) (h : z (n - 1) ≠ 0) : 2 ^ (32 * (n - 1)) ≤ val n z := by
 obtain ⟨m, rfl⟩ : ∃ m, n = m + 1 := ⟨n - 1, by omega⟩
 rw [val]
 simp only [Nat.add_sub_cancel] at h ⊢
 have : 1 * 2 ^ (32 * m) ≤ z m * 2 ^ (32 * m) := Nat.mul_le_mul_right _ (by omega)
 omega
theorem tr {z : Nat → Nat} {n : Nat} (hz : ∀ i, i < n → z i < 2 ^ 32) (h : n = 0 ∨ z (n - 1) ≠ 0) : nl (val n z) = n := by
 rcases Nat.eq_zero_or_pos n with rfl | h0
 ·simp [val, nl]
 ·have h1 : nl (val n z) ≤ n := bX.2 (dO hz)
  have h2 : ¬ nl (val n z) ≤ n - 1 := by
   rw [bX]
   have := MM h0 (h.resolve_left (by omega))
   omega
  omega
theorem x9 {N : Nat} (h : N ≠ 0) : aj N (nl N - 1) ≠ 0 := by
 intro h0
 have hn : 0 < nl N := by unfold nl; rw [if_neg h]; omega
 have h1 : val (nl N) (aj N) = val (nl N - 1) (aj N) := iX (by omega) fun i h1 h2 => by
  have : i = nl N - 1 := by omega
  rw [this, h0]
 rw [dX] at h1
 have h3 : N < 2 ^ (32 * (nl N - 1)) := by
  exact Nat.lt_of_le_of_lt (Nat.le_of_eq h1) (dO (z := aj N) (n := nl N - 1) fun i _ => b9)
 have h2 : nl N ≤ nl N - 1 := bX.2 h3
 omega
theorem dS {N : Nat} : 0 < nl N ↔ N ≠ 0 := by
 unfold nl
 split <;> simp_all
theorem eJ {a b : Nat} (h : a ≤ b) : nl a ≤ nl b := bX.2 (Nat.lt_of_le_of_lt h iR)
theorem wrap_i64 {x : Int} (h1 : -2 ^ 63 ≤ x) (h2 : x < 2 ^ 63) : IntKind.i64.wrap x = x := by
 simp [IntKind.wrap, IntKind.bits, IntKind.signed]; omega
theorem bn {x : Int} (h1 : 0 ≤ x) (h2 : x < 2 ^ 64) : IntKind.u64.wrap x = x := by
 simp [IntKind.wrap, IntKind.bits, IntKind.signed]; omega
theorem ju {x : Int} : IntKind.u64.wrap x = x % 2 ^ 64 := by
 simp [IntKind.wrap, IntKind.bits, IntKind.signed]
theorem gN {x : Int} : IntKind.u32.wrap x = x % 2 ^ 32 := by
 simp [IntKind.wrap, IntKind.bits, IntKind.signed]
theorem wrap_u32 {x : Int} (h1 : 0 ≤ x) (h2 : x < 2 ^ 32) : IntKind.u32.wrap x = x := by
 rw [gN]; omega
theorem qT {x : Nat} : IntKind.u64.wrap (x : Int) = (x % 2 ^ 64 : Nat) := by
 rw [ju]; omega
theorem fX {x : Nat} : IntKind.u32.wrap (x : Int) = (x % 2 ^ 32 : Nat) := by
 rw [gN]; omega
theorem mR {a b : Nat} (ha : a < 2 ^ 64) (hb : b < 2 ^ 64) :
  IntKind.u64.wrap ((BitVec.ofInt IntKind.u64.bits (a : Int) ||| BitVec.ofInt IntKind.u64.bits (b : Int)).toNat : Int) = ((a ||| b : Nat) : Int) := by
 have e : (BitVec.ofInt IntKind.u64.bits (a : Int) ||| BitVec.ofInt IntKind.u64.bits (b : Int)).toNat = a ||| b := by
  rw [BitVec.toNat_or, BitVec.ofInt_natCast, BitVec.ofInt_natCast, BitVec.toNat_ofNat, BitVec.toNat_ofNat]
  rw [show IntKind.u64.bits = 64 from rfl, Nat.mod_eq_of_lt ha, Nat.mod_eq_of_lt hb]
 rw [e]
 have : a ||| b < 2 ^ 64 := Nat.or_lt_two_pow ha hb
 exact bn (by omega) (by omega)
theorem Io {a b : Nat} (ha : a < 2 ^ 64) (hb : b < 2 ^ 64) :
  IntKind.u64.wrap ((BitVec.ofInt IntKind.u64.bits (a : Int) &&& BitVec.ofInt IntKind.u64.bits (b : Int)).toNat : Int) = ((a &&& b : Nat) : Int) := by
 have e : (BitVec.ofInt IntKind.u64.bits (a : Int) &&& BitVec.ofInt IntKind.u64.bits (b : Int)).toNat = a &&& b := by
  rw [BitVec.toNat_and, BitVec.ofInt_natCast, BitVec.ofInt_natCast, BitVec.toNat_ofNat, BitVec.toNat_ofNat]
  rw [show IntKind.u64.bits = 64 from rfl, Nat.mod_eq_of_lt ha, Nat.mod_eq_of_lt hb]
 rw [e]
 have : a &&& b < 2 ^ 64 := Nat.and_lt_two_pow a hb
 exact bn (by omega) (by omega)
theorem lD {a b i : Nat} (h : b < 2 ^ i) : a * 2 ^ i ||| b = a * 2 ^ i + b := by
 rw [← Nat.shiftLeft_eq, ← Nat.shiftLeft_add_eq_or_of_lt h]
theorem gZ {x : Int} : x.fdiv (2 ^ min (Int.toNat 32) IntKind.u64.bits) = x / 4294967296 := by
 have : min (Int.toNat 32) IntKind.u64.bits = 32 := rfl
 rw [this, Int.fdiv_eq_ediv_of_nonneg _ (by decide)]
 rfl
theorem yt {x : Int} : x.fdiv (2 ^ min (Int.toNat 63) IntKind.u64.bits) = x / 9223372036854775808 := by
 have : min (Int.toNat 63) IntKind.u64.bits = 63 := rfl
 rw [this, Int.fdiv_eq_ediv_of_nonneg _ (by decide)]
 rfl
theorem qJ {x : Int} : x * 2 ^ min (Int.toNat 32) IntKind.u64.bits = x * 4294967296 := by
 have : min (Int.toNat 32) IntKind.u64.bits = 32 := rfl
 rw [this]; rfl
theorem xu {B c z y v t s : Nat} (hs : s = c + z + y) (h : v + c * B = t) : v + s % 4294967296 * B + s / 4294967296 * (4294967296 * B) = t + z * B + y * B := by
 have h1 := Nat.div_add_mod s 4294967296
 generalize s / 4294967296 = q at *
 generalize s % 4294967296 = r at *
 subst h1 h
 have : c * B + z * B + y * B = (4294967296 * q + r) * B := by rw [← Nat.add_mul, ← Nat.add_mul, hs]
 grind
theorem eI {i : Nat} : 2 ^ (32 * (i + 1)) = 4294967296 * 2 ^ (32 * i) := by
 rw [show 32 * (i + 1) = 32 + 32 * i by omega, Nat.pow_add]
end Go.Am

/- aP over natural numbers. -/
namespace Go.Am
open AV
def numOf (v : AV) : Nat := match v with
 | .int _ z => z.toNat
 | _ => 0
def cB (n : Nat) (f : Nat → AV) : Prop := ∀ i, i < n → ∃ z : Nat, z < 2 ^ 32 ∧ f i = .int .u32 z
theorem wK {z : Nat → Nat} {i : Nat} : numOf (ag z i) = z i := by simp [numOf, ag]
theorem fS {n : Nat} {z : Nat → Nat} : (val n fun i => numOf (ag z i)) = val n z := val_congr fun _ _ => wK
theorem ef {n : Nat} {z : Nat → Nat} (h : ∀ i, i < n → z i < 2 ^ 32) : cB n (ag z) := fun i hi => ⟨z i, h i hi, rfl⟩
def lM : AV → Option (Nat × Nat × List Prop)
 | .mag N => some (N, nl N, [])
 | .nil => some (0, 0, [])
 | .ak es n f => if es == 1 then some (val n fun i => numOf (f i), n, [cB n f]) else none
 | _ => none
theorem oH {a : AV} {N n : Nat} {q : List Prop} (h : lM a = some (N, n, q)) (hq : ay q) : ∃ z : Nat → Nat, (∀ i, i < n → z i < 2 ^ 32) ∧ val n z = N ∧ bp a (.ak 1 n (ag z)) := by
 cases a <;> simp only [lM, reduceCtorEq, Option.some.injEq, Prod.mk.injEq] at h
 case mag M =>
  obtain ⟨rfl, rfl, rfl⟩ := h
  exact ⟨aj M, fun i _ => b9, dX, Ae rfl fun i _ => rfl⟩
 case nil =>
  obtain ⟨rfl, rfl, rfl⟩ := h
  exact ⟨fun _ => 0, fun i hi => by omega, rfl, fK (by omega)⟩
 case ak es m f =>
  split at h
  ·rename_i he
   simp only [Option.some.injEq, Prod.mk.injEq] at h
   obtain ⟨rfl, rfl, rfl⟩ := h
   have hq : cB m f := hq
   have he : es = 1 := by simpa using he
   subst he
   refine ⟨fun i => numOf (f i), fun i hi => ?_, rfl, xJ rfl fun i hi => ?_⟩
   ·obtain ⟨z, h1, h2⟩ := hq i hi
    simp only [h2, numOf]; omega
   ·obtain ⟨z, h1, h2⟩ := hq i hi
    simp [h2, numOf, ag]
  ·simp at h
def iw (g : Nat → Nat → b7) : List AV → Option b7
 | [a] => match lM a with
  | some (N, n, q) => some ⟨(g N n).res, [], q ++ (g N n).gX⟩
  | none => none
 | _ => none
def fe (g : Nat → Nat → Nat → Nat → b7) : List AV → Option b7
 | [a, b] => match lM a, lM b with
  | some (A, n, p), some (B, m, q) => some ⟨(g A n B m).res, [], p ++ (q ++ (g A n B m).gX)⟩
  | _, _ => none
 | _ => none
def uC (g : Nat → Nat → Int → b7) : List AV → Option b7
 | [a, .int .u32 k] => match lM a with
  | some (N, n, q) => some ⟨(g N n k).res, [], q ++ (g N n k).gX⟩
  | none => none
 | _ => none
abbrev aG (v : AV) (l : List Prop) : b7 := ⟨v, [], l⟩
section oks
variable {P : Program} {f : FuncId}
theorem mK {g : Nat → Nat → b7} (h : ∀ z n K, (∀ i, i < n → z i < 2 ^ 32) → (g (val n z) n).need → az P f K [.ak 1 n (ag z)] [] (aG (g (val n z) n).res [])) :
  ∀ K args r, aT args = [] → iw g args = some r → r.post = [] → az P f K args [] r := by
 intro K args r hk hs _ need
 match args, hs with
 | [a], hs =>
  simp only [iw] at hs
  split at hs
  ·rename_i N n q hn
   simp only [Option.some.injEq] at hs
   subst hs
   obtain ⟨n1, n2⟩ := dU.1 need
   obtain ⟨z, hz, rfl, hle⟩ := oH hn n1
   exact eF (h z n K hz n2) hk ⟨hle, trivial⟩ [] trivial
  ·simp at hs
theorem OK {g : Nat → Nat → Int → b7} (h : ∀ z n i K, (∀ i, i < n → z i < 2 ^ 32) → (g (val n z) n i).need → az P f K [.ak 1 n (ag z), .int .u32 i] [] (aG (g (val n z) n i).res [])) :
  ∀ K args r, aT args = [] → uC g args = some r → r.post = [] → az P f K args [] r := by
 intro K args r hk hs _ need
 unfold uC at hs
 split at hs
 ·rename_i a i
  split at hs
  ·rename_i N n q hn
   simp only [Option.some.injEq] at hs
   subst hs
   obtain ⟨n1, n2⟩ := dU.1 need
   obtain ⟨z, hz, rfl, hle⟩ := oH hn n1
   exact eF (h z n i K hz n2) hk ⟨hle, .refl _, trivial⟩ [] trivial
  ·simp at hs
 ·simp at hs
theorem nK {g : Nat → Nat → Nat → Nat → b7} (h : ∀ z n y m K, (∀ i, i < n → z i < 2 ^ 32) → (∀ i, i < m → y i < 2 ^ 32) → (g (val n z) n (val m y) m).need →
   az P f K [.ak 1 n (ag z), .ak 1 m (ag y)] [] (aG (g (val n z) n (val m y) m).res [])) :
  ∀ K args r, aT args = [] → fe g args = some r → r.post = [] → az P f K args [] r := by
 intro K args r hk hs _ need
 match args, hs with
 | [a, b], hs =>
  simp only [fe] at hs
  split at hs
  ·rename_i N n q M m p hn hm
   simp only [Option.some.injEq] at hs
   subst hs
   obtain ⟨n1, n4⟩ := dU.1 need
   obtain ⟨n2, n3⟩ := dU.1 n4
   obtain ⟨z, hz, rfl, hle⟩ := oH hn n1
   obtain ⟨y, hy, rfl, hle2⟩ := oH hm n2
   exact eF (h z n y m K hz hy n3) hk ⟨hle, hle2, trivial⟩ [] trivial
  ·simp at hs
theorem aZ {P : Program} : aX P [] := fun f s h => by simp [look] at h
theorem aE {f : FuncId} {s : Spec} {Γ : aP} (h : ∀ K args pre r, s K args pre = some r → az P f K args pre r) (hΓ : aX P Γ) : aX P ((f, s) :: Γ) := by
 intro f' s' hl
 simp only [look] at hl
 split at hl
 ·rename_i he
  have : f = f' := by simpa using he
  subst this
  simp only [Option.some.injEq] at hl
  subst hl
  exact h
 ·exact hΓ f' s' hl
end oks
def bB (a b : Nat) : Int := if a < b then -1 else if b < a then 1 else 0
def aN (N : Nat) : Nat := if N = 0 then 0 else N.log2 + 1
end Go.Am

/- Results that are seen; slices that may be nil. -/
namespace Go.Am
open AV
def iu (sl : List (Nat × AV)) : List ResultVar → Option (List AV)
 | [] => some []
 | .tmp t :: l => match look t sl, iu sl l with
  | some v, some m => if v.isTuple then none else some (v :: m)
  | _, _ => none
 | _ => none
def vG (fn : Func) (sl : List (Nat × AV)) : Option (List AV) :=
 match iu sl fn.results.toList with
 | some us => match aT us with
  | [] => dm [] us
  | _ => none
 | none => none
theorem wD {s : aA} {t : Nat} {v : AV} (hv : v.isTuple = false) : ∀ {ls : List Nat}, look t (aB ls (gE s ls)) = some v → look t s.bO = some v
 | [], h => by simp [aB, look] at h
 | x :: ls, h => by
  simp only [gE, aB, look] at h
  split at h
  ·rename_i he
   have : x = t := by simpa using he
   subst this
   simp only [Option.some.injEq] at h
   subst h
   exact BE hv
  ·exact wD hv h
theorem x5 {T : Types} {s : aA} {ls : List Nat} : ∀ {l : List ResultVar} {us : List AV}, iu (aB ls (gE s ls)) l = some us → eP T s l = some (us, [])
 | [], us, h => by simp only [iu, Option.some.injEq] at h; subst h; rfl
 | .tmp t :: l, us, h => by
  simp only [iu] at h
  split at h
  ·rename_i v m hv hm
   split at h
   ·simp at h
   ·rename_i ht
    simp only [Option.some.injEq] at h
    subst h
    simp only [eP, rK, wD (by simpa using ht) hv, x5 hm]
    simp [ht]
  ·simp at h
 | .cell _ _ :: _, us, h => by simp [iu] at h
theorem en {T : Types} {fn : Func} {ls : List Nat} {vs us : List AV} {os : aC} {e : ah} {s' : aA} {res : AV} (he : e = .normal ∨ e = .ret) (hv : aR ls s' = some (vs, os)) (hr : vG fn (aB ls vs) = some us) (hres : dL us res) : Fin T fn res e s' := by
 unfold aR at hv
 simp only [Option.some.injEq, Prod.mk.injEq] at hv
 obtain ⟨rfl, _⟩ := hv
 unfold vG at hr
 split at hr
 ·rename_i rs hrs
  split at hr
  ·rename_i hk
   refine ⟨he, rs, [], us, x5 hrs, trivial, ?_, hres⟩
   rw [hk]; exact hr
  ·simp at hr
 ·simp at hr
theorem O8 {P : Program} {f : FuncId} {K es n : Nat} {g : Nat → AV} {l : List AV} {r : b7} (h : ∀ b, (b = true → n = 0) → az P f K (.cF b es n g :: l) [] r) : az P f K (.ak es n g :: l) [] r := by
 intro need
 refine ⟨((h false fun h => by simp at h) need).1, fun c D D' β w vs hw0 hMw hrel hD hK hv => ?_⟩
 match vs, hv with
 | x :: xs, hv =>
  obtain ⟨⟨cs, h1, h2⟩, h3⟩ := hv
  have : ∃ b, (b = true → n = 0) ∧ aS (aH c [] β) w β (.cF b es n g) x := by
   cases h1 with
   | ak g1 g2 g3 g4 g5 g6 =>
    rename_i base cap cs' cf
    cases g6
    refine ⟨base.isNone, fun hb => ?_, _, .cF rfl g1 g2 g3 g4 g5 .nil, h2⟩
    rcases g1 with g1 | ⟨b, o, rfl, _⟩
    ·exact g1
    ·simp at hb
  obtain ⟨b, hb0, hb⟩ := this
  exact ((h b hb0) need).2 c D D' β w (x :: xs) hw0 hMw hrel hD hK ⟨hb, h3⟩
theorem Ao {z y : Nat → Nat} {k : Nat} : ∀ {n : Nat}, k < n → (∀ j, k < j → j < n → z j = y j) → z k < y k → (∀ i, i < n → z i < 2 ^ 32) → val n z < val n y
 | 0, h, _, _, _ => by omega
 | n + 1, h, he, hk, hz => by
  rw [val, val]
  by_cases hn : k = n
  ·subst hn
   have h1 := dO (z := z) (n := k) fun i hi => hz i (by omega)
   have h2 : (z k + 1) * 2 ^ (32 * k) ≤ y k * 2 ^ (32 * k) := Nat.mul_le_mul_right _ hk
   rw [Nat.add_mul, Nat.one_mul] at h2
   omega
  ·have := Ao (n := n) (by omega) (fun j h1 h2 => he j h1 (by omega)) hk fun i hi => hz i (by omega)
   rw [he n (by omega) (by omega)]
   omega
theorem xK {A B : Nat} (hn : nl A = nl B) (h : ∀ i, i < nl A → aj A i = aj B i) : A = B := by
 rw [← dX (N := A), ← dX (N := B), ← hn]
 exact val_congr h
theorem ur {A B k : Nat} (hn : nl A = nl B) (hk : k < nl A) (h : ∀ j, k < j → j < nl A → aj A j = aj B j) (hlt : aj A k < aj B k) : A < B := by
 have := Ao (z := aj A) (y := aj B) hk h hlt fun i _ => b9
 rw [dX, hn, dX] at this
 exact this
theorem td {A B : Nat} (h : nl A < nl B) : A < B := by
 rcases Nat.lt_or_ge A B with h1 | h1
 ·exact h1
 ·have := eJ h1; omega
theorem dH {ρ : Nat → Option Nat} {r w : Bool} {n m : Nat} {f : Nat → AV} {o : Nat → Nat} (hn : m = n) (h : ∀ j, j < n → f j = ag o j) : cL ρ ⟨r, w, 1, n, f⟩ ⟨r, w, 1, m, ag o⟩ :=
 gi hn fun j hj => by rw [h j hj]; exact aD rfl
def bt (o : Nat → Nat) (i x : Nat) : Nat → Nat := fun j => if j = i then x else o j
theorem gb {o : Nat → Nat} {i x : Nat} : bt o i x i = x := if_pos rfl
theorem dI {o : Nat → Nat} {i x j : Nat} (h : j ≠ i) : bt o i x j = o j := if_neg h
theorem eZ {o : Nat → Nat} {i x b : Nat} {n : Nat} (hx : x < b) (ho : ∀ j, j < n → o j < b) : ∀ j, j < n → bt o i x j < b := fun j hj => by
 unfold bt
 split
 ·exact hx
 ·exact ho j hj
theorem eA {o : Nat → Nat} {i x : Nat} {v : Int} (hv : v = (x : Nat)) (j : Nat) : (if j = i then AV.int .u32 v else ag o j) = ag (bt o i x) j := by
 unfold ag bt
 split
 ·rw [hv]
 ·rfl
theorem k9 {o : Nat → Nat} {i x : Nat} : ∀ {n : Nat}, i < n → o i = 0 → val n (bt o i x) = val n o + x * 2 ^ (32 * i)
 | 0, h, _ => by omega
 | n + 1, h, h0 => by
  rw [val, val]
  by_cases hn : i = n
  ·subst hn
   rw [gb, h0, val_congr (y := o) fun j hj => dI (by omega)]
   omega
  ·rw [k9 (n := n) (by omega) h0, dI (by omega)]
   omega
theorem lW {o : Nat → Nat} {i x : Nat} : val (i + 1) (bt o i x) = val i o + x * 2 ^ (32 * i) := by
 rw [val, gb, val_congr (y := o) fun j hj => dI (by omega)]
theorem oC {x k : Nat} (h : 2 ^ k ≤ x) : aN x = k + aN (x / 2 ^ k) := by
 have hk := Nat.two_pow_pos k
 have h0 : x ≠ 0 := by omega
 have h1 : x / 2 ^ k ≠ 0 := by
  have := (Nat.le_div_iff_mul_le hk (x := 1) (y := x)).2 (by omega)
  omega
 unfold aN
 rw [if_neg h0, if_neg h1]
 have : x.log2 = k + (x / 2 ^ k).log2 := by
  obtain ⟨g1, g2⟩ := (Nat.log2_eq_iff h1).1 rfl
  rw [Nat.log2_eq_iff h0]
  refine ⟨?_, ?_⟩
  ·rw [Nat.pow_add, Nat.mul_comm]
   exact (Nat.le_div_iff_mul_le hk).1 g1
  ·rw [show k + (x / 2 ^ k).log2 + 1 = ((x / 2 ^ k).log2 + 1) + k by omega, Nat.pow_add]
   exact (Nat.div_lt_iff_lt_mul hk).1 g2
 omega
theorem fH {x k : Nat} : aN x ≤ k ↔ x < 2 ^ k := by
 unfold aN
 split
 ·rename_i h; subst h; simp [Nat.two_pow_pos]
 ·rename_i h; rw [← Nat.log2_lt h]; omega
theorem B5 {N : Nat} (h : N ≠ 0) : aN N = 32 * (nl N - 1) + aN (aj N (nl N - 1)) := by
 have hp := dS.2 h
 have h1 : 2 ^ (32 * (nl N - 1)) ≤ N := by
  rcases Nat.lt_or_ge N (2 ^ (32 * (nl N - 1))) with h1 | h1
  ·have := bX.2 h1; omega
  ·exact h1
 have h2 : N / 2 ^ (32 * (nl N - 1)) < 2 ^ 32 := by
  rw [Nat.div_lt_iff_lt_mul (Nat.two_pow_pos _), ← Nat.pow_add]
  have := iR (N := N)
  rw [show 32 + 32 * (nl N - 1) = 32 * nl N by omega]
  exact this
 rw [oC h1, aj, Nat.mod_eq_of_lt h2]
theorem wk {o : Nat → Nat} {i x : Nat} : ∀ {n : Nat}, i < n → val n (bt o i x) + o i * 2 ^ (32 * i) = val n o + x * 2 ^ (32 * i)
 | 0, h => by omega
 | n + 1, h => by
  rw [val, val]
  by_cases hn : i = n
  ·subst hn
   rw [gb, val_congr (y := o) fun j hj => dI (by omega)]
   omega
  ·have := wk (o := o) (x := x) (n := n) (i := i) (by omega)
   rw [dI (show n ≠ i by omega)]
   omega
theorem aq.kW {P : Program} {c : Ctx} {nt : Nat} {s : aA} {Q : ah → aA → Prop} {x y : Code} {i : Nat} (hx : x = .block i y) (h : aq P c nt y s (inBlock i Q)) : aq P c nt x s Q := hx ▸ .E7 h
theorem EZ {c x y o : Nat} (hc : c < 2 ^ 32) (hx : x < 2 ^ 32) (hy : y < 2 ^ 32) (ho : o < 2 ^ 32) :
  IntKind.u64.wrap ((c : Int) + IntKind.u64.wrap (IntKind.u64.wrap (IntKind.u64.wrap (x : Int) * IntKind.u64.wrap (y : Int)) + IntKind.u64.wrap (o : Int))) = ((c + x * y + o : Nat) : Int) ∧
   c + x * y + o < 2 ^ 64 ∧ (c + x * y + o) / 4294967296 < 2 ^ 32 := by
 have h1 : x * y ≤ (2 ^ 32 - 1) * (2 ^ 32 - 1) := Nat.mul_le_mul (by omega) (by omega)
 have e : (x : Int) * (y : Int) = ((x * y : Nat) : Int) := by simp
 rw [bn (x := (x : Int)) (by omega) (by omega), bn (x := (y : Int)) (by omega) (by omega), bn (x := (o : Int)) (by omega) (by omega), e]
 generalize x * y = p at *
 refine ⟨?_, by omega, by omega⟩
 rw [bn (x := (p : Int)) (by omega) (by omega), bn (x := (p : Int) + o) (by omega) (by omega), bn (by omega) (by omega)]
 omega
theorem Dm {vo vo' oi c x yj B s q r v Bi Bj vy : Nat} (hs : s = c + x * yj + oi) (hq : 4294967296 * q + r = s) (hset : vo' + oi * B = vo + r * B) (hB : B = Bi * Bj) (h : vo + c * B = v + x * vy * Bi) :
  vo' + q * (4294967296 * B) = v + x * (vy + yj * Bj) * Bi := by
 subst hB
 have e : (4294967296 * q + r) * (Bi * Bj) = (c + x * yj + oi) * (Bi * Bj) := by rw [hq, hs]
 grind
theorem Fa {P : Program} {f : FuncId} {K : Nat} {args : List AV} {u v : AV} {l l' : List Prop} (hf : az P f K args [] ⟨u, [], l⟩) (hl : ay l' → ay l) (hk : keys u = []) (ht : u.isTuple = false) (hle : bp u v) : az P f K args [] ⟨v, [], l'⟩ := by
 intro need
 obtain ⟨h1, h2⟩ := hf (hl need)
 refine ⟨fun k o ho => by simp [look] at ho, fun c D D' β w vs hw0 hMw hrel hD hK hv => (h2 c D D' β w vs hw0 hMw hrel hD hK hv).mono ?_⟩
 rintro x w' ⟨β', g1, g2, g3⟩
 refine ⟨β', g1, g2, ?_⟩
 have h3 : bA _ w' β' [u] [x] := ⟨bg.one g3 ht, trivial⟩
 have h4 := uo (us := [u]) (vs := [v]) ⟨hle, trivial⟩ (h3.aQ (by rw [yz]; exact hk))
 have h5 := h4.mono (fun b o h1 h2 => ⟨h2, h1⟩) (β' := β') fun k x hx => by simp [aQ] at hx
 exact aS.br h5.1
theorem AT {i : Nat} {Q : ah → aA → Prop} {s : aA} (h : Q .normal s) : inBlock i Q (.exit i) s := by
 simp only [inBlock, if_true]; exact h
theorem dr {i : Nat} {k : aA → Prop} {Q : ah → aA → Prop} {s : aA} (h : Q .normal s) : cU k (inBlock i Q) (.exit i) s := by
 show inBlock i Q (.exit i) s
 exact AT h
theorem lI {i : Nat} {k : aA → Prop} {Q : ah → aA → Prop} {s : aA} (h : Q (.exit i) s) : cU k Q (.exit i) s := h
theorem Au {i : Nat} {k : aA → Prop} {Q : ah → aA → Prop} {s : aA} (h : Q .ret s) : cU k (inBlock i Q) .ret s := h
theorem dx {k : aA → Prop} {Q : ah → aA → Prop} {s : aA} (h : Q .ret s) : cU k Q .ret s := h
theorem y2 {s : aA} : ∀ {a b : List Nat}, gE s (a ++ b) = gE s a ++ gE s b
 | [], _ => rfl
 | x :: a, b => by simp only [List.cons_append, gE, y2]
theorem yX {s : aA} : ∀ {a : List Nat}, (gE s a).length = a.length
 | [] => rfl
 | x :: a => by simp only [gE, List.length_cons, yX]
theorem zf {a b : List AV} : aT (a ++ b) = aT a ++ aT b := by
 induction a with
 | nil => rfl
 | cons x a ih => simp only [List.cons_append, aT, ih, List.append_assoc]
theorem fA {s : aA} {ls l : List Nat} {vs us : List AV} {os : aC} (hv : aR (ls ++ l) s = some (vs ++ us, os)) (hl : vs.length = ls.length) (hk : aT us = []) : aR ls s = some (vs, os) := by
 unfold aR at hv ⊢
 simp only [Option.some.injEq, Prod.mk.injEq, y2] at hv ⊢
 obtain ⟨h1, h2⟩ := hv
 obtain ⟨h3, h4⟩ := List.append_inj h1 (by rw [yX, hl])
 subst h3
 refine ⟨rfl, ?_⟩
 rw [← h2, h4, zf, hk, List.append_nil]
end Go.Am

/- Tables of types: what has to be shown of an entry. -/
namespace Go.Am
open AV
mutual
/-- The cells of a zero value. -/
def zeroCells : AV → Option (List Value)
 | .bool b => some [.bool b]
 | .int k n => some [.int k n]
 | .nil => some [.slice none 0 0]
 | .rat q n => if q = 0 ∧ n = 1 then some [.bool false, .slice none 0 0, .slice none 0 0] else none
 | .agg l => mI l
 | _ => none
def mI : List AV → Option (List Value)
 | [] => some []
 | a :: l => match zeroCells a, mI l with
  | some c, some d => some (c ++ d)
  | _, _ => none
end
mutual
theorem vN {M : Nat → Prop} {w : World} {β : aK} : ∀ {v : AV} {cs : List Value}, zeroCells v = some cs → aF M w β [v] cs
 | .bool b, cs, h => by simp only [zeroCells, Option.some.injEq] at h; subst h; exact .bool .nil
 | .int k n, cs, h => by simp only [zeroCells, Option.some.injEq] at h; subst h; exact .int .nil
 | .nil, cs, h => by simp only [zeroCells, Option.some.injEq] at h; subst h; exact .vnil .nil
 | .rat q n, cs, h => by
  simp only [zeroCells] at h
  split at h
  ·rename_i hq
   obtain ⟨rfl, rfl⟩ := hq
   simp only [Option.some.injEq] at h
   subst h
   have h0 : aF M w aQ [.mag 0] [.slice none 0 0] := by
    have := aF.mag (M := M) (w := w) (β := aQ) (N := 0) (base := none) (cap := 0) (.inl rfl) (by simp [nS]) .nil
    simpa [nS] using this
   have := aF.rat (M := M) (w := w) (β := β) (q := 0) (n := 1) (x := .slice none 0 0) (y := .slice none 0 0) (l := []) (cs := []) ⟨by decide, by decide⟩ (by simpa using h0) (by simpa using h0) .nil
   simpa using this
  ·simp at h
 | .agg l, cs, h => by
  simp only [zeroCells] at h
  simpa using aF.agg (Bg h) .nil
 | .mag _, cs, h => by simp [zeroCells] at h
 | .ak _ _ _, cs, h => by simp [zeroCells] at h
 | .cF _ _ _ _, cs, h => by simp [zeroCells] at h
 | .bG _, cs, h => by simp [zeroCells] at h
 | .ptr _ _ _ _ _, cs, h => by simp [zeroCells] at h
 | .own _ _ _ _, cs, h => by simp [zeroCells] at h
 | .func _ _, cs, h => by simp [zeroCells] at h
 | .tuple _, cs, h => by simp [zeroCells] at h
theorem Bg {M : Nat → Prop} {w : World} {β : aK} : ∀ {l : List AV} {cs : List Value}, mI l = some cs → aF M w β l cs
 | [], cs, h => by simp only [mI, Option.some.injEq] at h; subst h; exact .nil
 | a :: l, cs, h => by
  simp only [mI] at h
  cases ha : zeroCells a with
  | none => rw [ha] at h; simp at h
  | some c =>
   cases hl : mI l with
   | none => rw [ha, hl] at h; simp at h
   | some d =>
    rw [ha, hl] at h
    simp only [Option.some.injEq] at h
    subst h
    exact (vN ha).cons (Bg hl)
end
def wF (v : AV) : Option Value :=
 match zeroCells v with
 | some cs => if v.isAgg then some (.agg cs.toArray) else match cs with
  | [x] => some x
  | _ => none
 | none => none
theorem bE {P : Program} {t : TypeId} {ti : TI} (h1 : P.underlying t = some ti.desc) (h2 : (P.info? t).map (fun i => (i.size, i.bytes, i.zero)) = some (ti.size, ti.bytes, wF ti.zero))
  (h3 : (wF ti.zero).isSome = true) : bh P t ti := by
 cases hi : P.info? t with
 | none => rw [hi] at h2; simp at h2
 | some i =>
  rw [hi] at h2
  simp only [Option.map_some, Option.some.injEq, Prod.mk.injEq] at h2
  refine ⟨h1, ⟨i, hi, h2.1, h2.2.1⟩, fun _ => ?_⟩
  obtain ⟨z, hz⟩ := Option.isSome_iff_exists.1 h3
  refine ⟨i, z, hi, by rw [h2.2.2, hz], fun M w β => ?_⟩
  unfold wF at hz
  cases hc : zeroCells ti.zero with
  | none => rw [hc] at hz; simp at hz
  | some cs =>
   rw [hc] at hz
   simp only at hz
   split at hz
   ·rename_i ha
    simp only [Option.some.injEq] at hz
    subst hz
    exact .sN (vN hc) ha
   ·rename_i ha
    split at hz
    ·simp only [Option.some.injEq] at hz
     subst hz
     exact .bK (vN hc) (by simpa using ha)
    ·simp at hz
theorem fc {P : Program} {t : TypeId} {ti : TI} (h1 : P.underlying t = some ti.desc) (h2 : (P.info? t).map (fun i => (i.size, i.bytes)) = some (ti.size, ti.bytes)) (h3 : ti.zero = .tuple []) : bh P t ti := by
 cases hi : P.info? t with
 | none => rw [hi] at h2; simp at h2
 | some i =>
  rw [hi] at h2
  simp only [Option.map_some, Option.some.injEq, Prod.mk.injEq] at h2
  exact ⟨h1, ⟨i, hi, h2.1, h2.2⟩, fun h => by rw [h3] at h; simp [isTuple] at h⟩
theorem RT {P : Program} : dh P [] := fun t ti h => by simp [look] at h
theorem bm {P : Program} {t : TypeId} {ti : TI} {T : Types} (h : bh P t ti) (hT : dh P T) : dh P ((t, ti) :: T) := by
 intro t' ti' ht
 simp only [look] at ht
 split at ht
 ·rename_i he
  have : t = t' := by simpa using he
  subst this
  simp only [Option.some.injEq] at ht
  subst ht
  exact h
 ·exact hT t' ti' ht
end Go.Am

/- aP of functions that are handed objects to write to, or give back such; loops by what is seen. -/
namespace Go.Am
open AV
theorem bA.length {M : Nat → Prop} {w : World} {β : aK} : ∀ {us : List AV} {xs : List Value}, bA M w β us xs → us.length = xs.length
 | [], [], _ => rfl
 | _ :: _, _ :: _, h => by simp [bA.length h.2]
 | [], _ :: _, h => h.elim
 | _ :: _, [], h => h.elim
theorem bA.weak {c c' : Ctx} {β β2 : aK} {w : World} {ρ : Nat → Option Nat} {M M' : Nat → Prop} (hM : ∀ b, M' b → M b) (hβ : ∀ k2 k1, ρ k2 = some k1 → β2 k2 = β k1) : ∀ {us vs : List AV} {xs : List Value}, ey ρ us vs → bA M w β us xs → bA M' w β2 vs xs
 | [], [], [], _, _ => trivial
 | u :: us, v :: vs, x :: xs, h, hv => ⟨hv.1.weak hM hβ h.1.2, bA.weak (c := c) (c' := c') hM hβ h.2 hv.2⟩
 | [], _ :: _, _, h, _ => h.elim
 | _ :: _, [], _, h, _ => h.elim
 | _ :: _, _ :: _, [], _, h => h.elim
 | [], [], _ :: _, _, h => h.elim
theorem OP {nx : Nat} {rl : List (Nat × Nat)} (hr : gU nx rl = true) : ∀ a b k, aY rl a = some k → aY rl b = some k → a = b := by
 intro a b k ha hb
 have := List.all_eq_true.1 hr _ (lT ha)
 simp only [Bool.and_eq_true, decide_eq_true_eq] at this
 simpa using List.all_eq_true.1 this.2 _ (lT hb)
theorem DI {nx : Nat} {rl : List (Nat × Nat)} (hr : gU nx rl = true) {a k : Nat} (ha : aY rl a = some k) : a < nx := by
 have := List.all_eq_true.1 hr _ (lT ha)
 simp only [Bool.and_eq_true, decide_eq_true_eq] at this
 exact this.1
theorem HW {M : Nat → Prop} {w : World} {β : aK} {us : List AV} {xs : List Value} (h : bA M w β us xs) : bg M w β (jr us) (if h : xs.length = 1 then xs.toArray[0]'(by simpa using (show 0 < xs.length by omega)) else .tuple xs.toArray) := by
 have hl := h.length
 match us, xs, h, hl with
 | [], [], _, _ => exact ⟨[], rfl, trivial⟩
 | [u], [x], h, _ => exact h.1.br
 | u :: u' :: us, x :: x' :: xs, h, _ => simp only [List.length_cons, Nat.add_eq_right, Nat.add_eq_zero_iff, Nat.succ_ne_zero, and_false, dite_false]; exact ⟨_, rfl, h⟩
section core
variable {P : Program} {T : Types}
structure xT (T : Types) (fn : Func) (τ : Nat → Option Nat) (pre : aC) (r : b7) (s : aA) : Prop where
 ends : Ends T fn r.res s
 vR : ∀ k o, look k (bR (ec r.post) pre) = some o → ∃ k1 o1, τ k = some k1 ∧ look k1 s.store = some o1 ∧ o1.row = false ∧ cL τ o1 o
structure tf (T : Types) (fn : Func) (τ : Nat → Option Nat) (pre : aC) (r : b7) (s : aA) : Prop where
 ends : ∃ vs q us, eP T s fn.results.toList = some (vs, q) ∧ ay q ∧ ey τ vs us ∧ r.res = jr us
 vR : ∀ k o, look k (bR (ec r.post) pre) = some o → ∃ k1 o1, τ k = some k1 ∧ look k1 s.store = some o1 ∧ cL τ o1 o
structure qP (rl : List (Nat × Nat)) (K : Nat) (pre : aC) (τ : Nat → Option Nat) : Prop where
 inj : ∀ a b k, τ a = some k → τ b = some k → a = b
 dom : ∀ k a, τ k = some a → aY rl a = some k ∨ (K ≤ k ∧ k < K + bL)
theorem nw (hT : dh P T) {f : FuncId} {fn : Func} {x : Code} (hf : aO P f fn x) {args args0 : List AV} {pre pre0 : aC} {r : b7} {K nx : Nat} (rl : List (Nat × Nat)) (hlen : args0.length ≤ fn.ntmps) (hr : gU nx rl = true)
  (ha : ey (aY rl) args args0) (hp : kr (aY rl) pre pre0) (hrl : ∀ a k, aY rl a = some k → ∃ o, look k pre = some o)
  (hpost : ∀ k o, look k r.post = some o → (∃ o', look k pre = some o') ∨ (K ≤ k ∧ k < K + bL))
  (h : r.need → ∀ c : Ctx, (∀ k x, c.k0 k = some x → (aY rl k).isSome = true) → aq P c fn.ntmps x ⟨aM 0 args0, pre0, nx⟩ fun e s' => (e = .normal ∨ e = .ret) ∧ ∃ τ, qP rl K pre τ ∧ (xT T fn τ pre r s' ∨ tf T fn τ pre r s')) : az P f K args pre r := by
 intro need
 refine ⟨hpost, fun c D D' β w vs hw0 hMw hrel hD hK hv => .inl ⟨fn, hf.get, hf.name, by simp [hf.body], ?_⟩⟩
 have hobj0 := vU hp
 have hβ0 : ∀ k2 k1, aY rl k2 = some k1 → (fun a => (aY rl a).bind β) k2 = β k1 := fun k2 k1 h => by simp [h]
 have hW : aW { c with k0 := fun a => (aY rl a).bind β } pre0 (fun k => k < nx) (fun a => (aY rl a).bind β) w := by
  refine hrel.weak (c' := { c with k0 := fun a => (aY rl a).bind β }) (ρ := aY rl) rfl rfl rfl (OP hr) (fun k o h => .inl (hobj0 k o h)) hβ0 (fun k2 k1 h => DI hr h) (fun k2 x hk => ?_) (fun k2 b N hk => ?_) (fun k x hk => hk)
  ·cases h1 : aY rl k2 with
   | none => simp [h1] at hk
   | some k1 => exact DI hr h1
  ·cases h1 : aY rl k2 with
   | none => simp [h1] at hk
   | some k1 => simp [h1] at hk; exact hrel.lt k1 b N hk
 have hv0 : bA (aH { c with k0 := fun a => (aY rl a).bind β } pre0 (fun a => (aY rl a).bind β)) w (fun a => (aY rl a).bind β) args0 vs :=
  hv.weak (c := c) (c' := c) (ρ := aY rl) (uT rfl (fun k o h => .inl (hobj0 k o h)) hβ0) hβ0 ha
 have hl0 := hv0.length
 have hstart : Rel { c with k0 := fun a => (aY rl a).bind β } fn.ntmps (fun k => k < nx) (aM 0 args0) pre0 { tmps := vs.toArray ++ Array.replicate (fn.ntmps - vs.toArray.size) undef, defers := [] } w := by
  refine ⟨rfl, by simp; omega, _, hW, ?_⟩
  have := yh (pre := #[]) (post := Array.replicate (fn.ntmps - vs.toArray.size) undef) hv0 rfl
  simpa using this
 refine calls_of_wp hf.get hf.body (wp_mono (h need { c with k0 := fun a => (aY rl a).bind β } (fun k x hk => by
  cases h1 : aY rl k with
  | none => simp [h1] at hk
  | some k1 => rfl) _ w hstart) ?_)
 rintro e a' w' ⟨ae, s', rfl, hr', hex, τ, hτ, hends⟩
 -- what the end gives, in the function's own keys
 have hfin : a'.defers = [] ∧ ∃ x β1 st1, (results fn a'.tmps).run P w' = .ok x w' ∧ aW { c with k0 := fun a => (aY rl a).bind β } st1 (fun k => k < s'.next) β1 w' ∧
   (∀ k o, look k (bR (ec r.post) pre) = some o → ∃ k1 o1, τ k = some k1 ∧ look k1 st1 = some o1 ∧ cL τ o1 o) ∧
   bg (aH { c with k0 := fun a => (aY rl a).bind β } st1 β1) w' (fun k => (τ k).bind β1) r.res x := by
  rcases hends with hends | hends
  ·obtain ⟨hdef, x, β1, st1, hrun, hw1, hvx, hrow⟩ := Ci hT hends.ends hr'
   refine ⟨hdef, x, β1, st1, hrun, hw1, fun k o hk => ?_, hvx.mono (fun b o h1 h2 => ⟨h2, h1⟩) fun k x hk => by simp [aQ] at hk⟩
   obtain ⟨k1, o1, g1, g2, g3, g4⟩ := hends.vR k o hk
   exact ⟨k1, o1, g1, hrow k1 o1 g2 g3, g4⟩
  ·obtain ⟨a1, a2, β1, a3, a4⟩ := hr'
   obtain ⟨vs1, q, us, h1, hq, h2, h3⟩ := hends.ends
   obtain ⟨xs, hxs, hv, hlen⟩ := xD hT a3 a4 (g := fun x => match x with
    | ResultVar.tmp t => pure (a'.tmps.getD t undef)
    | ResultVar.cell r t => do let y ← asAddr (a'.tmps.getD r undef); loadVar t y) (fun _ => rfl) (fun _ _ => rfl) h1 hq
   refine ⟨a1, if h : xs.length = 1 then xs.toArray[0]'(by simpa using (show 0 < xs.length by omega)) else .tuple xs.toArray, β1, s'.store, ?_, a3, hends.vR, ?_⟩
   ·have key : results fn a'.tmps = (do
      let vs ← fn.results.mapM fun x => match x with
       | ResultVar.tmp t => pure (a'.tmps.getD t undef)
       | ResultVar.cell r t => do let y ← asAddr (a'.tmps.getD r undef); loadVar t y
      pure (if h : vs.size = 1 then vs[0] else Value.tuple vs)) := rfl
    rw [key, Sem.run_bind, Array.mapM_eq_mapM_toList, Sem.run_map, hxs]
    simp only [Result.andThen_ok, Sem.run_pure]
    congr 1
   ·rw [h3]
    exact HW (hv.weak (c := c) (c' := c) (ρ := τ) (fun _ h => h) (fun k2 k1 h => by simp [h]) h2)
 obtain ⟨hdef, x, β1, st1, hrun, hw1, hobj1, hvx⟩ := hfin
 have hkeep1 : ∀ k a, τ k = some a → ∀ y, β k = some y → β1 a = some y := by
  intro k a hka y hy
  rcases hτ.dom k a hka with h1 | ⟨h1, h2⟩
  ·exact hw1.keep a y (by simp only [h1, Option.bind_some]; exact hy)
  ·exact absurd (hrel.dom k y hy) (hK k h1 h2).1
 have hβ2 : ∀ k2 k1, τ k2 = some k1 → (fun k => match τ k with
   | some a => β1 a
   | none => β k) k2 = β1 k1 := fun k2 k1 h => by simp [h]
 have hW2 : aW c (bR (ec r.post) pre) D' (fun k => match τ k with
   | some a => β1 a
   | none => β k) w' := by
  have hd2 : ∀ k2 a, τ k2 = some a → D' k2 := fun k2 a ha => by
   rcases hτ.dom k2 a ha with h1 | ⟨h1, h2⟩
   ·obtain ⟨o, ho⟩ := hrl a k2 h1
    cases hb : β k2 with
    | some x => exact hD _ (hrel.dom k2 _ hb)
    | none => exact hD _ (hrel.cA k2 o ho hb).2
   ·exact (hK k2 h1 h2).2
  refine hw1.weak (c' := c) (ρ := τ) rfl rfl rfl hτ.inj (fun k o h => .inl (hobj1 k o h)) hβ2 hd2 (fun k2 y hk => ?_) (fun k2 b N hk => ?_) (fun k y hk => ?_)
  ·split at hk
   ·rename_i a ha
    exact hd2 k2 a ha
   ·exact hD _ (hrel.dom k2 y hk)
  ·split at hk
   ·exact hw1.lt _ b N hk
   ·exact Nat.lt_of_lt_of_le (hrel.lt k2 b N hk) (by have := hw1.size; rw [← hw0]; exact this)
  ·have hy := hrel.keep k y hk
   split
   ·rename_i a ha
    exact hkeep1 k a ha y hy
   ·exact hy
 have hO : dQ c pre D' β w (ec r.post) r.res x w' := by
  refine ⟨_, hW2, ⟨fun b o hb ho => ?_, fun k y hk => ?_⟩, ?_⟩
  ·have hlt : b < c.w0.heap.size := by rw [hw0]; exact ve ho
   have hmw : ¬ c.Mw b := fun hm => hb (hMw b hm)
   refine ⟨?_, ?_⟩
   ·rw [hw1.block b hlt hmw]
    show c.w0.heap[b]? = _
    rw [hw0]; exact ho
   ·rintro (hm | ⟨k, o', N, h1, h2, h3⟩)
    ·exact hb (.inl hm)
    ·rcases hW2.new k o' b N h1 h2 h3 with h4 | h4
     ·omega
     ·exact hmw h4
  ·split
   ·rename_i a ha
    exact hkeep1 k a ha y hk
   ·exact hk
  ·refine hvx.mono (fun b o h1 h2 => ⟨h2, fun h3 => h1 (uT (c := { c with k0 := fun a => (aY rl a).bind β }) rfl (fun k o h => .inl (hobj1 k o h)) hβ2 b h3)⟩) (fun k y hk => ?_)
   cases h1 : τ k with
   | none => simp [h1] at hk
   | some a => simpa [h1] using hk
 rcases hex with rfl | rfl
 ·exact ⟨hdef, x, hrun, x, rfl, hO⟩
 ·exact ⟨hdef, x, hrun, x, rfl, hO⟩
end core
def fR (nx : Nat) (vs : List AV) : Bool := (vs.all fun v => !v.isTuple) && (aT vs).all fun k => decide (k < nx)
def eH (nx : Nat) : aC → Prop
 | [] => True
 | (k, o) :: l => (k < nx ∧ ∀ i, i < o.len → keys (o.f i) = []) ∧ eH nx l
theorem Fk {nx : Nat} : ∀ {os : aC}, eH nx os → ∀ {k : Nat} {o : aJ}, look k os = some o → k < nx ∧ ∀ i, i < o.len → keys (o.f i) = []
 | [], _, k, o, h => by simp [look] at h
 | (j, b) :: l, h, k, o, hk => by
  simp only [look] at hk
  split at hk
  ·rename_i he
   have : j = k := by simpa using he
   subst this
   simp only [Option.some.injEq] at hk
   subst hk
   exact h.1
  ·exact Fk h.2 hk
theorem EL {nx : Nat} {u : AV} (hk : ∀ k ∈ keys u, k < nx) : fo (fun k => if k < nx then some k else none) u u := by
 refine ⟨rfl, fun M w β cs hc => ?_⟩
 have gen : ∀ {l : List AV} {cs : List Value}, aF M w β l cs → (∀ k ∈ aT l, k < nx) → aF M w (fun k => (if k < nx then some k else none).bind β) l cs := by
  intro l cs h
  generalize hβ : β = β' at h
  induction h with
  | nil => exact fun _ => .nil
  | bool _ ih => exact fun h => .bool (ih hβ (by simpa [aT, keys] using h))
  | int _ ih => exact fun h => .int (ih hβ (by simpa [aT, keys] using h))
  | rat hs h1 h2 _ _ _ ih => exact fun h => .rat hs h1 h2 (ih hβ (by simpa [aT, keys] using h))
  | mag h1 h2 _ ih => exact fun h => .mag h1 h2 (ih hβ (by simpa [aT, keys] using h))
  | agg _ _ ih1 ih2 => exact fun h => .agg (ih1 hβ fun k hk => h k (by simp only [aT, keys]; exact List.mem_append_left _ hk)) (ih2 hβ fun k hk => h k (by simp only [aT]; exact List.mem_append_right _ hk))
  | ak h1 h2 h3 h4 h5 _ _ ih => exact fun h => .ak h1 h2 h3 h4 h5 (ih hβ (by simpa [aT, keys] using h))
  | cF hq h1 h2 h3 h4 h5 _ _ ih => exact fun h => .cF hq h1 h2 h3 h4 h5 (ih hβ (by simpa [aT, keys] using h))
  | vnil _ ih => exact fun h => .vnil (ih hβ (by simpa [aT, keys] using h))
  | void hx _ ih => exact fun h => .void hx (ih hβ (by simpa [aT, keys] using h))
  | str _ ih => exact fun h => .str (ih hβ (by simpa [aT, keys] using h))
  | bG h1 h2 _ _ ih => exact fun h => .bG h1 h2 (ih hβ (by simpa [aT, keys] using h))
  | @ptr _ k _ _ _ _ _ _ _ _ hk _ ih =>
   intro h
   have : k < nx := h k (by simp [aT, keys])
   exact .ptr (by simp only [this, if_true, Option.bind_some]; rw [← hβ] at hk ⊢; exact hk) (ih hβ fun k hk => h k (by simp only [aT]; exact List.mem_append_right _ hk))
  | @own _ k _ _ _ _ _ _ _ _ _ hk h1 h2 h4 h3 _ ih =>
   intro h
   have : k < nx := h k (by simp [aT, keys])
   exact .own (by simp only [this, if_true, Option.bind_some]; rw [← hβ] at hk ⊢; exact hk) h1 h2 h4 h3 (ih hβ fun k hk => h k (by simp only [aT]; exact List.mem_append_right _ hk))
  | own0 h3 _ ih => exact fun h => .own0 h3 (ih hβ fun k hk => h k (by simp only [aT]; exact List.mem_append_right _ hk))
  | func _ hc _ ih1 ih2 => exact fun h => .func (ih1 hβ fun k hk => h k (by simp only [aT, keys]; exact List.mem_append_left _ hk)) hc (ih2 hβ fun k hk => h k (by simp only [aT]; exact List.mem_append_right _ hk))
 exact gen hc fun k h => hk k (by rw [yz] at h; exact h)
theorem BZ {nx : Nat} : ∀ {vs : List AV}, fR nx vs = true → ey (fun k => if k < nx then some k else none) vs vs
 | [], _ => trivial
 | v :: vs, h => by
  simp only [fR, List.all_cons, aT, List.all_append, Bool.and_eq_true, Bool.not_eq_true'] at h
  obtain ⟨⟨h1, h2⟩, h3, h4⟩ := h
  refine ⟨⟨h1, EL fun k hk => by simpa using List.all_eq_true.1 h3 k hk⟩, BZ ?_⟩
  simp only [fR, Bool.and_eq_true]
  exact ⟨h2, h4⟩
theorem jK {c : Ctx} {s' : aA} {ls : List Nat} {vs : List AV} {os : aC} {nx : Nat} (hv : aR ls s' = some (vs, os)) (h0 : ∀ k x, c.k0 k = some x → k < nx) (hok : fR nx vs = true) (ho : eH nx os) : ∃ ρ, Le c ρ s' ⟨aB ls vs, os, nx⟩ := by
 unfold aR at hv
 simp only [Option.some.injEq, Prod.mk.injEq] at hv
 obtain ⟨rfl, rfl⟩ := hv
 refine ⟨fun k => if k < nx then some k else none, ?_, wN (BZ hok), fun k2 o2 hk => ?_, fun k2 k1 hk => ?_, fun k x hk => by simp [h0 k x hk]⟩
 ·intro a b k ha hb
  split at ha <;> split at hb <;> simp_all
 ·obtain ⟨h1, h2⟩ := Fk ho hk
  refine .inl ⟨k2, o2, by simp [h1], ?_, ⟨rfl, rfl, rfl, rfl, fun i hi => EL fun k hk => by rw [h2 i hi] at hk; simp at hk⟩⟩
  rw [jC] at hk
  split at hk
  ·exact hk
  ·simp at hk
 ·split at hk
  ·assumption
  ·simp at hk
section rules
variable {P : Program} {c : Ctx} {nt : Nat} {s : aA} {Q : ah → aA → Prop} {T : Types} {Γ : aP}
theorem aq.eM {x y : Code} {i : Nat} (hx : x = .block i (.loop y)) (ls : List Nat) (nx : Nat) (h0 : ∀ k x, c.k0 k = some x → k < nx) {α : Type} (vs : α → List AV) (os : α → aC) (hok : ∀ a, fR nx (vs a) = true) (ho : ∀ a, eH nx (os a)) (I : α → Prop) (μ : α → Nat) (j : α)
  (hv : aR ls s = some (vs j, os j)) (hI : I j)
  (round : ∀ j, I j → aq P c nt y ⟨aB ls (vs j), os j, nx⟩ (cU (fun s' => ∃ k, aR ls s' = some (vs k, os k) ∧ I k ∧ μ k < μ j) (inBlock i Q))) : aq P c nt x s Q :=
 aq.fN hx (fun a => ⟨aB ls (vs a), os a, nx⟩) I μ j (jK hv h0 (hok j) (ho j)) hI fun j hj => (round j hj).mono fun e s' h => by
  cases e with
  | normal =>
   obtain ⟨k, h1, h2, h3⟩ := h
   exact ⟨k, jK h1 h0 (hok k) (ho k), h2, h3⟩
  | exit i => exact h
  | ret => exact h
theorem aq.gu {x : Code} {ls : List Nat} {nx : Nat} {vs : List AV} {os : aC} (hv : aR ls s = some (vs, os)) (h0 : ∀ k x, c.k0 k = some x → k < nx) (hok : fR nx vs = true) (ho : eH nx os) (h : aq P c nt x ⟨aB ls vs, os, nx⟩ Q) : aq P c nt x s Q :=
 .nW (jK hv h0 hok ho) h
theorem ax.gu {l : List Code} {ls : List Nat} {nx : Nat} {vs : List AV} {os : aC} (hv : aR ls s = some (vs, os)) (h0 : ∀ k x, c.k0 k = some x → k < nx) (hl : l.isEmpty = false) (hok : fR nx vs = true) (ho : eH nx os) (h : ax P c nt l ⟨aB ls vs, os, nx⟩ Q) : ax P c nt l s Q :=
 .weak hl (jK hv h0 hok ho) h
theorem ax.tF (hT : dh P T) (hΓ : aX P Γ) (hm : P.follows .mixedOrders = true) {fn : Func} {forks : List Nat} (n : Nat) {l : List Code} {ls : List Nat} {nx : Nat} {vs : List AV} {os : aC} (hv : aR ls s = some (vs, os)) (h0 : ∀ k x, c.k0 k = some x → k < nx)
  (hok : fR nx vs = true) (ho : eH nx os) {t : aa (List AV)} (hc : cr T Γ forks n fn l ⟨aB ls vs, os, nx⟩ = some t) (hd : (l.all fun x => bP nt x) = true) (hl : l.isEmpty = false) {res : AV} (h : t.all fun _ us => dL us res) : ax P c nt l s (Fin T fn res) :=
 .gu hv h0 hl hok ho (.fin hT hΓ hm n hc hd h)
theorem ax.dn (hT : dh P T) (hΓ : aX P Γ) (hm : P.follows .mixedOrders = true) {forks : List Nat} (n : Nat) {l : List Code} {ls : List Nat} {nx : Nat} {vs : List AV} {os : aC} (hv : aR ls s = some (vs, os)) (h0 : ∀ k x, c.k0 k = some x → k < nx)
  (hok : fR nx vs = true) (ho : eH nx os) (ls2 : List Nat) {t : aa (List AV × aC)} (hc : aI T Γ forks n ls2 l ⟨aB ls vs, os, nx⟩ = some t) (hd : (l.all fun x => bP nt x) = true) (hl : l.isEmpty = false) (h : t.all fun e v => ∀ s', aR ls2 s' = some v → Q e s') : ax P c nt l s Q :=
 .gu hv h0 hl hok ho (.aV hT hΓ hm n ls2 hc hd h)
theorem aq.dn (hT : dh P T) (hΓ : aX P Γ) (hm : P.follows .mixedOrders = true) {x : Code} {forks : List Nat} (n : Nat) {ls : List Nat} {nx : Nat} {vs : List AV} {os : aC} (hv : aR ls s = some (vs, os)) (h0 : ∀ k x, c.k0 k = some x → k < nx)
  (hok : fR nx vs = true) (ho : eH nx os) (ls2 : List Nat) {t : aa (List AV × aC)} (hc : aI T Γ forks n ls2 [x] ⟨aB ls vs, os, nx⟩ = some t) (hd : bP nt x = true) (h : t.all fun e v => ∀ s', aR ls2 s' = some v → Q e s') : aq P c nt x s Q :=
 .gu hv h0 hok ho (.aV hT hΓ hm n ls2 hc hd h)
end rules
theorem r6 {T : Types} {fn : Func} {ls : List Nat} {vs us ws : List AV} {os ps pre : aC} {s' : aA} {τ : Nat → Option Nat} {r : b7} (hv : aR ls s' = some (vs, os)) (hr : iu (aB ls vs) fn.results.toList = some us) (hle : ey τ us ws) (hres : r.res = jr ws)
  (he : bR (ec r.post) pre = ps) (ho : kr τ os ps) : tf T fn τ pre r s' := by
 unfold aR at hv
 simp only [Option.some.injEq, Prod.mk.injEq] at hv
 obtain ⟨rfl, rfl⟩ := hv
 refine ⟨⟨us, [], ws, x5 hr, trivial, hle, hres⟩, fun k o hk => ?_⟩
 rw [he] at hk
 obtain ⟨k1, o1, g1, g2, g3⟩ := vU ho k o hk
 refine ⟨k1, o1, g1, ?_, g3⟩
 rw [jC] at g2
 split at g2
 ·exact g2
 ·simp at g2
def nI (g : Nat → List AV → Option b7) : Spec := fun K args pre => match dm pre args with
 | some as => g K as
 | none => none
theorem ue {P : Program} {f : FuncId} {g : Nat → List AV → Option b7} (h : ∀ K args r, aT args = [] → g K args = some r → az P f K args [] r) :
  ∀ K args pre r, nI g K args pre = some r → az P f K args pre r := by
 intro K args pre r hg
 unfold nI at hg
 split at hg
 ·rename_i as has
  have hf := h K as r (tN has) hg
  intro need
  obtain ⟨h1, h2⟩ := hf need
  refine ⟨fun k o ho => .inr ((h1 k o ho).resolve_left fun ⟨o', h⟩ => by simp [look] at h), fun c D D' β w vs hw0 hMw hrel hD hK hv => ?_⟩
  have hv' : bA (aH c pre β) w aQ as vs := ua hrel (fun _ _ h => h) has hv
  exact (hf.frame (pre' := pre) (fun k o hk => by simp [look] at hk)).use need hrel (fun _ _ h => h) hD hK (hv'.mono (fun b o h1 h2 => ⟨h2, h1⟩) fun k x hx => by simp [aQ] at hx)
 ·simp at hg
theorem xw {K k a : Nat} {pre : aC} (h : K ≤ k ∧ k < K + bL) : qP [] K pre (aY [(k, a)]) :=
 ⟨fun x y z hx hy => by
  simp only [aY, look] at hx hy
  split at hx <;> split at hy <;> simp_all, fun x y hx => by
  simp only [aY, look] at hx
  split at hx
  ·rename_i he
   have : k = x := by simpa using he
   subst this
   exact .inr h
  ·simp at hx⟩
theorem vQ {K k a : Nat} {pre : aC} : qP [(a, k)] K pre (aY [(k, a)]) :=
 ⟨fun x y z hx hy => by
  simp only [aY, look] at hx hy
  split at hx <;> split at hy <;> simp_all, fun x y hx => by
  simp only [aY, look] at hx ⊢
  split at hx
  ·rename_i he
   have : k = x := by simpa using he
   subst this
   simp only [Option.some.injEq] at hx
   subst hx
   exact .inl (by simp)
  ·simp at hx⟩
theorem gr {c : Ctx} (h : c.k0 = aQ) {nx : Nat} : ∀ k x, c.k0 k = some x → k < nx := fun k x hk => by rw [h] at hk; simp [aQ] at hk
theorem cm {ls : List Nat} {s' : aA} {vs us : List AV} {os ps : aC} (hv : aR ls s' = some (vs, os)) (h1 : vs = us) (h2 : os = ps) : aR ls s' = some (us, ps) := by rw [hv, h1, h2]
end Go.Am

/- Rational numbers: signs, sizes, quotients of natural numbers. -/
namespace Go.Am
open AV
def dP (b : Bool) (n : Nat) : Int := if b then -(n : Int) else n
def sQ (b : Bool) (n d : Nat) : Rat := mkRat (dP b n) d
def bH (q : Rat) : Nat := max (aN q.num.natAbs) (aN q.den)
theorem uD {b : Bool} {n : Nat} : (dP b n).natAbs = n := by unfold dP; split <;> simp
theorem MP {b : Bool} : dP b 0 = 0 := by unfold dP; split <;> simp
theorem JT {b : Bool} {n g : Nat} (h : g ∣ n) : dP b n / (g : Int) = dP b (n / g) := by
 unfold dP
 split
 ·rw [Int.neg_ediv_of_dvd (Int.natCast_dvd_natCast.2 h)]; simp
 ·simp
theorem eE {q : Rat} : q < 0 ↔ q.num < 0 := by rw [Rat.lt_iff]; simp
theorem uU {b : Bool} {n d : Nat} (hd : d ≠ 0) : (sQ b n d).num = dP b (n / Nat.gcd n d) := by
 unfold sQ
 rw [Rat.num_mkRat, if_neg hd, uD, Nat.gcd_comm, JT (Nat.gcd_dvd_left n d)]
theorem zZ {b : Bool} {n d : Nat} (hd : d ≠ 0) : (sQ b n d).den = d / Nat.gcd n d := by
 unfold sQ
 rw [Rat.den_mkRat, if_neg hd, uD, Nat.gcd_comm]
theorem wu {b : Bool} {d : Nat} : sQ b 0 d = 0 := by unfold sQ; rw [MP]; simp
theorem GK {b : Bool} {n d : Nat} (hn : n ≠ 0) (hd : d ≠ 0) : decide (sQ b n d < 0) = b := by
 have h1 : 0 < n / Nat.gcd n d := Nat.div_pos (Nat.le_of_dvd (by omega) (Nat.gcd_dvd_left n d)) (Nat.gcd_pos_of_pos_left _ (by omega))
 cases b
 ·simp only [decide_eq_false_iff_not, eE, uU hd, dP]; simp; omega
 ·simp only [decide_eq_true_eq, eE, uU hd, dP]; simp; omega
theorem pW {q : Rat} : Sz q (bH q) :=
 ⟨Nat.lt_of_lt_of_le (fH.1 (Nat.le_refl _)) (Nat.pow_le_pow_right (by omega) (Nat.le_max_left _ _)), Nat.lt_of_lt_of_le (fH.1 (Nat.le_refl _)) (Nat.pow_le_pow_right (by omega) (Nat.le_max_right _ _))⟩
theorem eG {q r : Rat} {n k : Nat} (h : q = r) (hs : Sz r k) : bp (.rat q n) (.rat r k) := by
 subst h
 refine ⟨rfl, fun M w cs hc => ?_⟩
 cases hc with
 | rat _ h1 h2 h3 => cases h3; exact .rat hs h1 h2 .nil
theorem xY {b : Bool} {n d k : Nat} (hd : d ≠ 0) (hn : n < 2 ^ k) (hdk : d < 2 ^ k) : Sz (sQ b n d) k := by
 refine ⟨?_, ?_⟩
 ·rw [uU hd, uD]; exact Nat.lt_of_le_of_lt (Nat.div_le_self _ _) hn
 ·rw [zZ hd]; exact Nat.lt_of_le_of_lt (Nat.div_le_self _ _) hdk
theorem gH (q : Rat) : sQ (decide (q < 0)) q.num.natAbs q.den = q := by
 unfold sQ
 have : dP (decide (q < 0)) q.num.natAbs = q.num := by
  unfold dP
  by_cases h : q < 0
  ·have := eE.1 h; simp [h]; omega
  ·have : ¬ q.num < 0 := fun h' => h (eE.2 h')
   simp [h]; omega
 rw [this, Rat.mkRat_self]
theorem mG {b : Bool} {x y n d k : Nat} (hn : n ≠ 0) (hd : d ≠ 0) (hx : x = n / Nat.gcd n d) (hy : y = if d / Nat.gcd n d = 1 then 0 else d / Nat.gcd n d) (hs : Sz (sQ b n d) k) : bp (.agg [.bool b, .mag x, .mag y]) (.rat (sQ b n d) k) :=
 kD hs (GK hn hd).symm (by rw [uU hd, uD, hx]) (by rw [zZ hd, hy])
theorem hJ {k : Nat} : bp (.agg [.bool false, .mag 0, .mag 0]) (.rat 0 (k + 1)) :=
 kD ⟨by simp [Nat.two_pow_pos], by simp⟩ (by decide) rfl rfl
section down
variable {P : Program} {c : Ctx} {nt : Nat} {s : aA} {Q : ah → aA → Prop} {T : Types}
def de (c : Ctx) (Q : ah → aA → Prop) (e : ah) (s' : aA) : Prop := Q e s' ∨ ∃ s2 ρ, Le c ρ s' s2 ∧ Q e s2
theorem aq.down {x : Code} (h : aq P c nt x s (de c Q)) : aq P c nt x s Q := by
 intro a w hr
 refine wp_mono (h a w hr) ?_
 rintro e a' w' ⟨ae, s', h1, h2, hq | ⟨s2, ρ, hle, hq⟩⟩
 ·exact ⟨ae, s', h1, h2, hq⟩
 ·exact ⟨ae, s2, h1, hle.rel h2, hq⟩
theorem qQ {fn : Func} {ls : List Nat} {vs : List AV} {os : aC} {nx : Nat} {s' : aA} {e : ah} {t : aa (List AV)} {res : AV} (he : gI T fn e ⟨aB ls vs, os, nx⟩ = some t) (hv : aR ls s' = some (vs, os)) (h0 : ∀ k x, c.k0 k = some x → k < nx) (hok : fR nx vs = true) (ho : eH nx os)
  (h : t.all fun _ us => dL us res) : de c (Fin T fn res) e s' := by
 obtain ⟨ρ, hle⟩ := jK hv h0 hok ho
 exact .inr ⟨_, ρ, hle, yF he h⟩
theorem ax.gh (hT : dh P T) {Γ : aP} (hΓ : aX P Γ) (hm : P.follows .mixedOrders = true) {fn : Func} {forks : List Nat} (n : Nat) {l : List Code} {ls : List Nat} {nx : Nat} {vs : List AV} {os : aC} (hv : aR ls s = some (vs, os)) (h0 : ∀ k x, c.k0 k = some x → k < nx)
  (hok : fR nx vs = true) (ho : eH nx os) {t : aa (List AV)} (hc : cr T Γ forks n fn l ⟨aB ls vs, os, nx⟩ = some t) (hd : (l.all fun x => bP nt x) = true) (hl : l.isEmpty = false) {res : AV} (h : t.all fun _ us => dL us res) : ax P c nt l s (de c (Fin T fn res)) :=
 (ax.tF hT hΓ hm n hv h0 hok ho hc hd hl h).mono fun _ _ h => .inl h
end down
theorem fk {P : Program} {T : Types} (hT : dh P T) {f : FuncId} {fn : Func} {x : Code} (hf : aO P f fn x) {args : List AV} {r : b7} (hk : aT args = []) (hlen : args.length ≤ fn.ntmps) (hpost : r.post = [])
  (h : r.need → ∀ c : Ctx, (∀ nx k x, c.k0 k = some x → k < nx) → aq P c fn.ntmps x ⟨aM 0 args, [], 0⟩ (de c (Fin T fn r.res))) (K : Nat) (pre : aC) : az P f K args pre r :=
 fY hT hf hk hlen hpost (fun need c h0 => .down (h need c fun _ => gr h0)) K pre
mutual
/-- What is known of the sizes of numbers in values. -/
def KI : AV → Prop
 | .rat q n => Sz q n
 | .agg l => mU l
 | _ => True
def mU : List AV → Prop
 | [] => True
 | a :: l => KI a ∧ mU l
end
theorem aF.sz {M : Nat → Prop} {w : World} {β : aK} {l : List AV} {cs : List Value} (h : aF M w β l cs) : mU l := by
 induction h with
 | nil => trivial
 | rat hs _ _ _ _ _ ih => exact ⟨hs, ih⟩
 | agg _ _ ih1 ih2 => exact ⟨ih1, ih2⟩
 | ak _ _ _ _ _ _ _ ih => exact ⟨trivial, ih⟩
 | cF _ _ _ _ _ _ _ _ ih => exact ⟨trivial, ih⟩
 | bG _ _ _ _ ih => exact ⟨trivial, ih⟩
 | func _ _ _ _ ih => exact ⟨trivial, ih⟩
 | _ => rename_i ih; exact ⟨trivial, ih⟩
theorem bA.sz {M : Nat → Prop} {w : World} {β : aK} : ∀ {l : List AV} {xs : List Value}, bA M w β l xs → mU l
 | [], [], _ => trivial
 | a :: l, x :: xs, h => by
  obtain ⟨⟨cs, h1, _⟩, h2⟩ := h
  exact ⟨h1.sz.1, h2.sz⟩
 | [], _ :: _, h => h.elim
 | _ :: _, [], h => h.elim
theorem RN {P : Program} {f : FuncId} {K : Nat} {args : List AV} {pre : aC} {r : b7} (hp : ∀ k o, look k r.post = some o → (∃ o', look k pre = some o') ∨ (K ≤ k ∧ k < K + bL)) (h : mU args → az P f K args pre r) : az P f K args pre r :=
 fun need => ⟨hp, fun c D D' β w vs h1 h2 h3 h4 h5 hv => (h hv.sz need).2 c D D' β w vs h1 h2 h3 h4 h5 hv⟩
theorem gk {P : Program} {f : FuncId} {K : Nat} {args : List AV} {pre : aC} {v : AV} {l : List Prop} (h : mU args → az P f K args pre ⟨v, [], l⟩) : az P f K args pre ⟨v, [], l⟩ :=
 RN (fun k o hk => by simp [look] at hk) h
theorem gm {N n : Nat} (h : N < 2 ^ n) (hn : n < 2 ^ 44) : nl N < 2 ^ 40 := by
 have h1 : N < 2 ^ (32 * (n / 32 + 1)) := Nat.lt_of_lt_of_le h (Nat.pow_le_pow_right (by omega) (by omega))
 have := bX.2 h1
 omega
theorem OQ {q : Rat} : (if q.den = 1 then 0 else q.den) ≤ q.den := by split <;> omega
theorem Sz.gd {q : Rat} {n : Nat} (h : Sz q n) (hn : n < 2 ^ 44) : nl q.num.natAbs < 2 ^ 40 ∧ nl q.den < 2 ^ 40 ∧ nl (if q.den = 1 then 0 else q.den) < 2 ^ 40 :=
 ⟨gm h.1 hn, gm h.2 hn, Nat.lt_of_le_of_lt (eJ OQ) (gm h.2 hn)⟩
theorem Sz.pos {q : Rat} {n : Nat} (h : Sz q n) : 0 < n := by
 rcases Nat.eq_zero_or_pos n with h1 | h1
 ·subst h1; have := h.2; have := q.den_nz; omega
 ·exact h1
theorem Sz.E4 {q : Rat} {n m : Nat} (h : Sz q n) (hm : n ≤ m) : Sz q m :=
 ⟨Nat.lt_of_lt_of_le h.1 (Nat.pow_le_pow_right (by omega) hm), Nat.lt_of_lt_of_le h.2 (Nat.pow_le_pow_right (by omega) hm)⟩
theorem F0 {a : Int} {d : Nat} : (mkRat a d).num.natAbs ≤ a.natAbs := by
 rw [Rat.num_mkRat]
 split
 ·simp
 ·rw [Int.natAbs_ediv_of_dvd]
  ·exact Nat.div_le_self _ _
  ·exact Int.ofNat_dvd_left.2 (Nat.gcd_dvd_right _ _)
theorem EB {a : Int} {d : Nat} (h : d ≠ 0) : (mkRat a d).den ≤ d := by
 rw [Rat.den_mkRat, if_neg h]
 exact Nat.div_le_self _ _
theorem Sz.add {q r : Rat} {n m : Nat} (h : Sz q n) (h' : Sz r m) : Sz (q + r) (n + m + 1) := by
 rw [Rat.add_def']
 have d0 : q.den * r.den ≠ 0 := Nat.mul_ne_zero q.den_nz r.den_nz
 have e : 2 ^ (n + m + 1) = 2 ^ n * 2 ^ m + 2 ^ n * 2 ^ m := by rw [Nat.pow_succ, Nat.pow_add]; omega
 have b1 : q.num.natAbs * r.den ≤ 2 ^ n * 2 ^ m := Nat.mul_le_mul (Nat.le_of_lt h.1) (Nat.le_of_lt h'.2)
 have b2 : r.num.natAbs * q.den < 2 ^ m * 2 ^ n := Nat.mul_lt_mul'' h'.1 h.2
 have b3 : q.den * r.den ≤ 2 ^ n * 2 ^ m := Nat.mul_le_mul (Nat.le_of_lt h.2) (Nat.le_of_lt h'.2)
 have b4 : 0 < 2 ^ n * 2 ^ m := Nat.mul_pos (Nat.two_pow_pos _) (Nat.two_pow_pos _)
 rw [Nat.mul_comm (2 ^ m)] at b2
 refine ⟨Nat.lt_of_le_of_lt F0 ?_, Nat.lt_of_le_of_lt (EB d0) (by omega)⟩
 have b5 := Int.natAbs_add_le (q.num * r.den) (r.num * q.den)
 rw [Int.natAbs_mul, Int.natAbs_mul, Int.natAbs_natCast, Int.natAbs_natCast] at b5
 omega
theorem Sz.neg {q : Rat} {n : Nat} (h : Sz q n) : Sz (-q) n := by
 refine ⟨?_, ?_⟩
 ·rw [Rat.neg_num, Int.natAbs_neg]; exact h.1
 ·rw [Rat.neg_den]; exact h.2
theorem Sz.sub {q r : Rat} {n m : Nat} (h : Sz q n) (h' : Sz r m) : Sz (q - r) (n + m + 1) := by
 rw [Rat.sub_eq_add_neg]; exact h.add h'.neg
theorem Sz.mul {q r : Rat} {n m : Nat} (h : Sz q n) (h' : Sz r m) : Sz (q * r) (n + m) := by
 rw [Rat.mul_def']
 have d0 : q.den * r.den ≠ 0 := Nat.mul_ne_zero q.den_nz r.den_nz
 refine ⟨Nat.lt_of_le_of_lt F0 ?_, Nat.lt_of_le_of_lt (EB d0) ?_⟩
 ·rw [Int.natAbs_mul, Nat.pow_add]; exact Nat.mul_lt_mul'' h.1 h'.1
 ·rw [Nat.pow_add]; exact Nat.mul_lt_mul'' h.2 h'.2
theorem Sz.inv {q : Rat} {n : Nat} (h : Sz q n) : Sz q⁻¹ n := by
 by_cases h0 : q = 0
 ·subst h0
  rw [Rat.inv_zero]
  exact h
 ·have hn : q.num ≠ 0 := fun h => h0 (Rat.num_eq_zero.1 h)
  refine ⟨?_, ?_⟩
  ·rw [Rat.num_inv, Int.natAbs_mul, Int.natAbs_natCast, Int.natAbs_sign_of_ne_zero hn, Nat.one_mul]; exact h.2
  ·rw [Rat.den_inv, if_neg hn]; exact h.1
theorem Sz.div {q r : Rat} {n m : Nat} (h : Sz q n) (h' : Sz r m) : Sz (q / r) (n + m) := by
 rw [Rat.div_def]; exact h.mul h'.inv
def dc (q : Rat) : Int := if q < 0 then -1 else if 0 < q then 1 else 0
def fy (q r : Rat) : Int := if q < r then -1 else if r < q then 1 else 0
end Go.Am
