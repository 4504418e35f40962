/- Contracts for numbers of known size. -/
import Derived.Test.YtajjlacbodnggaaGreatB37
import Derived.Test.YtajjlacbodnggaaGreatZ2
import Derived.Test.YtajjlacbodnggaaGreatB38
import Derived.Test.YtajjlacbodnggaaGreatB33
set_option linter.unusedVariables false
namespace Go.Am.B
open Go Go.Am.N AV


/-- Kinds of arguments, and contracts, for numbers whose sizes are known: no conditions are left. -/
structure Kd (α : Type) where
  read : AV → Option α
  make : α → AV
  ok : ∀ {v : AV} {a : α}, read v = some a → avLe0 v (make a)
def vecR : AV → Option (V3 × Nat)
  | .agg [x, y, z] => match ratOf x, ratOf y, ratOf z with
    | some (x, a), some (y, b), some (z, c) => some (⟨x, y, z⟩, max a (max b c))
    | _, _, _ => none
  | _ => none
theorem vecR_ok {v : AV} {a : V3 × Nat} (h : vecR v = some a) : avLe0 v (vA a.1 a.2) := by
  unfold vecR at h
  split at h
  · split at h
    · rename_i h1 h2 h3
      simp only [Option.some.injEq] at h
      subst h
      exact avLe0_agg ⟨(ratOf_ok h1).trans (avLe0_rat_up rfl (by simp only; omega)), (ratOf_ok h2).trans (avLe0_rat_up rfl (by simp only; omega)), (ratOf_ok h3).trans (avLe0_rat_up rfl (by simp only; omega)), trivial⟩
    · simp at h
  · simp at h
def plR : AV → Option (Pl × Nat)
  | .agg [v, d] => match vecR v, ratOf d with
    | some (v, a), some (d, b) => some (⟨v, d⟩, max a b)
    | _, _ => none
  | _ => none
theorem plR_ok {v : AV} {a : Pl × Nat} (h : plR v = some a) : avLe0 v (plA a.1 a.2) := by
  unfold plR at h
  split at h
  · split at h
    · rename_i h1 h2
      simp only [Option.some.injEq] at h
      subst h
      exact avLe0_agg ⟨(vecR_ok h1).trans (avLe0_vA rfl (by simp only; omega)), (ratOf_ok h2).trans (avLe0_rat_up rfl (by simp only; omega)), trivial⟩
    · simp at h
  · simp at h
def m3R : AV → Option (M3 × Nat)
  | .agg [x, y, z] => match vecR x, vecR y, vecR z with
    | some (x, a), some (y, b), some (z, c) => some (⟨x, y, z⟩, max a (max b c))
    | _, _, _ => none
  | _ => none
theorem m3R_ok {v : AV} {a : M3 × Nat} (h : m3R v = some a) : avLe0 v (m3A a.1 a.2) := by
  unfold m3R at h
  split at h
  · split at h
    · rename_i h1 h2 h3
      simp only [Option.some.injEq] at h
      subst h
      exact avLe0_agg ⟨(vecR_ok h1).trans (avLe0_vA rfl (by simp only; omega)), (vecR_ok h2).trans (avLe0_vA rfl (by simp only; omega)), (vecR_ok h3).trans (avLe0_vA rfl (by simp only; omega)), trivial⟩
    · simp at h
  · simp at h
def mpR : AV → Option (Mp × Nat)
  | .agg [v, d] => match m3R v, vecR d with
    | some (v, a), some (d, b) => some (⟨v, d⟩, max a b)
    | _, _ => none
  | _ => none
theorem mpR_ok {v : AV} {a : Mp × Nat} (h : mpR v = some a) : avLe0 v (mpA a.1 a.2) := by
  unfold mpR at h
  split at h
  · split at h
    · rename_i h1 h2
      simp only [Option.some.injEq] at h
      subst h
      exact avLe0_agg ⟨(m3R_ok h1).trans (avLe0_m3A rfl (by simp only; omega)), (vecR_ok h2).trans (avLe0_vA rfl (by simp only; omega)), trivial⟩
    · simp at h
  · simp at h
def intR : AV → Option Int
  | .int .i64 n => some n
  | _ => none
theorem intR_ok {v : AV} {a : Int} (h : intR v = some a) : avLe0 v (.int .i64 a) := by
  unfold intR at h
  split at h
  · simp only [Option.some.injEq] at h; subst h; exact .refl _
  · simp at h
def dR : Kd (Rat × Nat) := ⟨ratOf, fun a => rA a.1 a.2, ratOf_ok⟩
def dV : Kd (V3 × Nat) := ⟨vecR, fun a => vA a.1 a.2, vecR_ok⟩
def dPl : Kd (Pl × Nat) := ⟨plR, fun a => plA a.1 a.2, plR_ok⟩
def dM : Kd (M3 × Nat) := ⟨m3R, fun a => m3A a.1 a.2, m3R_ok⟩
def dMp : Kd (Mp × Nat) := ⟨mpR, fun a => mpA a.1 a.2, mpR_ok⟩
def dI : Kd Int := ⟨intR, fun a => .int .i64 a, intR_ok⟩
section specs
variable {α β γ δ : Type} {f : FuncId}
def tp1 (k : Kd α) (g : α → AV) (B : α → Bool) : Spec := pureSpec fun l => match l with
  | [x] => match k.read x with
    | some a => match B a with
      | true => some (pres (g a) [])
      | false => none
    | _ => none
  | _ => none
theorem tp1_ok {k : Kd α} {g : α → AV} {B : α → Bool} (h : ∀ a K, B a = true → FOK P f K [k.make a] [] (pres (g a) [])) : ∀ K args pre r, tp1 k g B K args pre = some r → FOK P f K args pre r := by
  refine pureSpec_ok fun K args r hk hs _ => ?_
  split at hs
  · split at hs
    · rename_i h1
      split at hs
      · rename_i hB
        simp only [Option.some.injEq] at hs
        subst hs
        exact fok_weak (h _ K hB) hk ⟨k.ok h1, trivial⟩ []
      · simp at hs
    · simp at hs
  · simp at hs
def tp2 (k : Kd α) (k2 : Kd β) (g : α → β → AV) (B : α → β → Bool) : Spec := pureSpec fun l => match l with
  | [x, y] => match k.read x, k2.read y with
    | some a, some b => match B a b with
      | true => some (pres (g a b) [])
      | false => none
    | _, _ => none
  | _ => none
theorem tp2_ok {k : Kd α} {k2 : Kd β} {g : α → β → AV} {B : α → β → Bool} (h : ∀ a b K, B a b = true → FOK P f K [k.make a, k2.make b] [] (pres (g a b) [])) : ∀ K args pre r, tp2 k k2 g B K args pre = some r → FOK P f K args pre r := by
  refine pureSpec_ok fun K args r hk hs _ => ?_
  split at hs
  · split at hs
    · rename_i h1 h2
      split at hs
      · rename_i hB
        simp only [Option.some.injEq] at hs
        subst hs
        exact fok_weak (h _ _ K hB) hk ⟨k.ok h1, k2.ok h2, trivial⟩ []
      · simp at hs
    · simp at hs
  · simp at hs
def tp3 (k : Kd α) (k2 : Kd β) (k3 : Kd γ) (g : α → β → γ → AV) (B : α → β → γ → Bool) : Spec := pureSpec fun l => match l with
  | [x, y, z] => match k.read x, k2.read y, k3.read z with
    | some a, some b, some c => match B a b c with
      | true => some (pres (g a b c) [])
      | false => none
    | _, _, _ => none
  | _ => none
theorem tp3_ok {k : Kd α} {k2 : Kd β} {k3 : Kd γ} {g : α → β → γ → AV} {B : α → β → γ → Bool} (h : ∀ a b c K, B a b c = true → FOK P f K [k.make a, k2.make b, k3.make c] [] (pres (g a b c) [])) : ∀ K args pre r, tp3 k k2 k3 g B K args pre = some r → FOK P f K args pre r := by
  refine pureSpec_ok fun K args r hk hs _ => ?_
  split at hs
  · split at hs
    · rename_i h1 h2 h3
      split at hs
      · rename_i hB
        simp only [Option.some.injEq] at hs
        subst hs
        exact fok_weak (h _ _ _ K hB) hk ⟨k.ok h1, k2.ok h2, k3.ok h3, trivial⟩ []
      · simp at hs
    · simp at hs
  · simp at hs
end specs
def b1 {α : Type} (e : Nat) (a : α × Nat) : Bool := Nat.blt a.2 (2 ^ e)
def b2 {α β : Type} (e : Nat) (a : α × Nat) (b : β × Nat) : Bool := Nat.blt a.2 (2 ^ e) && Nat.blt b.2 (2 ^ e)
def b3 {α β γ : Type} (e : Nat) (a : α × Nat) (b : β × Nat) (c : γ × Nat) : Bool := Nat.blt a.2 (2 ^ e) && (Nat.blt b.2 (2 ^ e) && Nat.blt c.2 (2 ^ e))
theorem blt_iff {a b : Nat} : Nat.blt a b = true ↔ a < b := by rw [Nat.blt_eq]
theorem b1_ok {α : Type} {e : Nat} {a : α × Nat} (h : b1 e a = true) : a.2 < 2 ^ e := blt_iff.1 h
theorem b2_ok {α β : Type} {e : Nat} {a : α × Nat} {b : β × Nat} (h : b2 e a b = true) : a.2 < 2 ^ e ∧ b.2 < 2 ^ e := by
  simp only [b2, Bool.and_eq_true, blt_iff] at h; exact h
theorem b3_ok {α β γ : Type} {e : Nat} {a : α × Nat} {b : β × Nat} {c : γ × Nat} (h : b3 e a b c = true) : a.2 < 2 ^ e ∧ b.2 < 2 ^ e ∧ c.2 < 2 ^ e := by
  simp only [b3, Bool.and_eq_true, blt_iff] at h; exact h
def tInt : Spec := pureSpec fun l => match l with
  | [.int .i64 n] => match decide (-2 ^ 63 ≤ n ∧ n < 2 ^ 63) with
    | true => some (pres (.rat (n : Rat) (max 1 (bitsN n.natAbs))) [])
    | false => none
  | _ => none
def tRat : Contracts := [(rational_Add, tp2 dR dR oAdd (b2 42)), (rational_Sub, tp2 dR dR oSub (b2 42)), (rational_Mul, tp2 dR dR oMul (b2 42)), (rational_Same, tp2 dR dR oSame (b2 42)), (rational_Cmp, tp2 dR dR oCmp (b2 42)), (rational_Sign, tp1 dR oSign (b1 42)), (rational_Int, tInt), (rational_Quo, tp2 dR dR oQuo (b2 42)), (rational_Min, tp2 dR dR oMin (b2 42)), (rational_Max, tp2 dR dR oMax (b2 42))]
def tRef : Contracts := [(ref02_Add, tp2 dR dR oAdd (b2 41)), (ref02_Sub, tp2 dR dR oSub (b2 41)), (ref02_Mul, tp2 dR dR oMul (b2 41)), (ref02_Same, tp2 dR dR oSame (b2 41)), (ref02_Cmp, tp2 dR dR oCmp (b2 41)), (ref02_Sign, tp1 dR oSign (b1 41)), (ref02_Int, tInt)]
def tVec : Contracts := sG :: (vector_Cross, tp2 dV dV oCross (b2 38)) :: (vector_Dot, tp2 dV dV oDot (b2 38)) :: (vector_Add, tp2 dV dV ovAdd (b2 38)) :: (vector_Sub, tp2 dV dV ovSub (b2 38)) :: (vector_Scale, tp2 dR dV ovScale (b2 38)) :: (vector_Zero, tp1 dV ovZero (b1 38)) :: (vector_Same, tp2 dV dV ovSame (b2 38)) ::
  (vector_Det, tp3 dV dV dV oDet (b3 34)) :: (vector_Turn, tp2 dMp dV oTurn (b2 38)) :: (vector_transposed, tp1 dM oTran (b1 38)) :: (vector_Orient2, tp3 dV dV dV oOr2 (b3 34)) :: (vector_Through, tp3 dV dV dV oThr (b3 34)) :: (vector_Side, tp2 dPl dV oSide (b2 38)) :: (vector_Identity, pureSpec fun l => match l with
    | [] => some (pres (mpA idM 1) [])
    | _ => none) :: tRat
def tGe1 : Contracts := sG :: (ref04_Same, tp2 dV dV ovSame (b2 38)) :: (ref04_Add, tp2 dV dV ovAdd (b2 38)) :: (ref04_Sub, tp2 dV dV ovSub (b2 38)) :: (ref04_Scale, tp2 dR dV ovScale (b2 38)) :: (ref04_Dot, tp2 dV dV oDot (b2 38)) :: (ref04_Cross, tp2 dV dV oCross (b2 38)) :: tRef
theorem lt42 {n : Nat} (h : n < 2 ^ 42) : n < 2 ^ 44 := Nat.lt_trans h (by omega)
theorem lt41 {n : Nat} (h : n < 2 ^ 41) : n < 2 ^ 44 := Nat.lt_trans h (by omega)
theorem tInt_ok {f : FuncId} (h : ∀ {n : Int}, -2 ^ 63 ≤ n → n < 2 ^ 63 → ∀ K, FOK P f K [.int .i64 n] [] (pres (.rat (n : Rat) (max 1 (bitsN n.natAbs))) [])) : ∀ K args pre r, tInt K args pre = some r → FOK P f K args pre r := by
  refine pureSpec_ok fun K args r hk hs _ => ?_
  split at hs
  · split at hs
    · rename_i hc
      simp only [Option.some.injEq] at hs
      subst hs
      have := of_decide_eq_true hc
      exact h this.1 this.2 K
    · simp at hs
  · simp at hs
theorem tRat_ok : GOK P tRat := gok_cons (tp2_ok fun _ _ K hn => rAdd_ok (b2_ok hn).1 (b2_ok hn).2 K) (gok_cons (tp2_ok fun _ _ K hn => rSub_ok (b2_ok hn).1 (b2_ok hn).2 K) (gok_cons (tp2_ok fun _ _ K hn => rMul_ok (b2_ok hn).1 (b2_ok hn).2 K)
  (gok_cons (tp2_ok fun _ _ K hn => rSame_ok (lt42 (b2_ok hn).1) (lt42 (b2_ok hn).2) K []) (gok_cons (tp2_ok fun _ _ K hn => rCmp_ok (b2_ok hn).1 (b2_ok hn).2 K []) (gok_cons (tp1_ok fun _ K hn => rSign_ok (lt42 (b1_ok hn)) K []) (gok_cons (tInt_ok rInt_ok)
  (gok_cons (tp2_ok fun _ _ K hn => rQuo_ok (b2_ok hn).1 (b2_ok hn).2 K) (gok_cons (tp2_ok fun _ _ K hn => rMin_ok (b2_ok hn).1 (b2_ok hn).2 K) (gok_cons (tp2_ok fun _ _ K hn => rMax_ok (b2_ok hn).1 (b2_ok hn).2 K) gok_nil)))))))))
theorem tRef_ok : GOK P tRef := gok_cons (tp2_ok fun _ _ K hn => eAdd_ok (b2_ok hn).1 (b2_ok hn).2 K) (gok_cons (tp2_ok fun _ _ K hn => eSub_ok (b2_ok hn).1 (b2_ok hn).2 K) (gok_cons (tp2_ok fun _ _ K hn => eMul_ok (b2_ok hn).1 (b2_ok hn).2 K)
  (gok_cons (tp2_ok fun _ _ K hn => eSame_ok (lt41 (b2_ok hn).1) (lt41 (b2_ok hn).2) K []) (gok_cons (tp2_ok fun _ _ K hn => eCmp_ok (b2_ok hn).1 (b2_ok hn).2 K) (gok_cons (tp1_ok fun _ K _ => eSign_ok K []) (gok_cons (tInt_ok eInt_ok) gok_nil))))))
theorem tIdentity_ok : ∀ K args pre r, pureSpec (fun l => match l with
    | [] => some (pres (mpA idM 1) [])
    | _ => none) K args pre = some r → FOK P vector_Identity K args pre r := by
  refine pureSpec_ok fun K args r hk hs _ => ?_
  split at hs
  · simp only [Option.some.injEq] at hs
    subst hs
    exact vIdentity_ok K
  · simp at hs
theorem tVec_ok : GOK P tVec := gok_strict <| gok_cons (tp2_ok fun a b K hn => vCross_ok a b K (b2_ok hn)) (gok_cons (tp2_ok fun a b K hn => vDot_ok a b K (b2_ok hn)) (gok_cons (tp2_ok fun a b K hn => vAdd_ok a b K (b2_ok hn)) (gok_cons (tp2_ok fun a b K hn => vSub_ok a b K (b2_ok hn)) (gok_cons (tp2_ok fun a b K hn => vScale_ok a b K (b2_ok hn))
  (gok_cons (tp1_ok fun a K hn => vZero_ok a K (b1_ok hn)) (gok_cons (tp2_ok fun a b K hn => vSame_ok a b K (b2_ok hn)) (gok_cons (tp3_ok fun a b c K hn => vDet_ok a b c K (b3_ok hn)) (gok_cons (tp2_ok fun a b K hn => vTurn_ok a b K (b2_ok hn)) (gok_cons (tp1_ok fun a K hn => vtransposed_ok a K (b1_ok hn))
  (gok_cons (tp3_ok fun a b c K hn => vOrient2_ok a b c K (b3_ok hn)) (gok_cons (tp3_ok fun a b c K hn => vThrough_ok a b c K (b3_ok hn)) (gok_cons (tp2_ok fun a b K hn => vSide_ok a b K (b2_ok hn)) (gok_cons tIdentity_ok tRat_ok)))))))))))))
theorem tGe1_ok : GOK P tGe1 := gok_strict <| gok_cons (tp2_ok fun a b K hn => gSame_ok a b K (b2_ok hn)) (gok_cons (tp2_ok fun a b K hn => gAdd_ok a b K (b2_ok hn)) (gok_cons (tp2_ok fun a b K hn => gSub_ok a b K (b2_ok hn)) (gok_cons (tp2_ok fun a b K hn => gScale_ok a b K (b2_ok hn)) (gok_cons (tp2_ok fun a b K hn => gDot_ok a b K (b2_ok hn)) (gok_cons (tp2_ok fun a b K hn => gCross_ok a b K (b2_ok hn)) tRef_ok)))))
end Go.Am.B

/- vector: Volume, Apply, Compose, Inverse, by the evaluator. -/
namespace Go.Am.B
open Go Go.Am.N AV

theorem is_vVol : FnIs P vector_Volume fn_vector_Volume (codeOf fn_vector_Volume) := fnIs get_vector_Volume (by kernel_rfl) (by kernel_rfl) (by kernel_rfl)
theorem is_vApply : FnIs P vector_Apply fn_vector_Apply (codeOf fn_vector_Apply) := fnIs get_vector_Apply (by kernel_rfl) (by kernel_rfl) (by kernel_rfl)
theorem is_vComp : FnIs P vector_Compose fn_vector_Compose (codeOf fn_vector_Compose) := fnIs get_vector_Compose (by kernel_rfl) (by kernel_rfl) (by kernel_rfl)
theorem is_vInv : FnIs P vector_Inverse fn_vector_Inverse (codeOf fn_vector_Inverse) := fnIs get_vector_Inverse (by kernel_rfl) (by kernel_rfl) (by kernel_rfl)
noncomputable def tVe2 : Contracts := sG :: (vector_Volume, aSpec T tVec [] 60 fn_vector_Volume) :: (vector_Apply, aSpec T tVec [] 60 fn_vector_Apply) :: tVec
noncomputable def tVe4 : Contracts := sG :: (vector_Compose, aSpec T tVe2 [] 60 fn_vector_Compose) :: (vector_Inverse, aSpec T tVe2 [18] 60 fn_vector_Inverse) :: tVe2
theorem tVe2_ok : GOK P tVe2 := gok_strict <| gok_cons (aSpec_ok hT tVec_ok hm is_vVol _ _) (gok_cons (aSpec_ok hT tVec_ok hm is_vApply _ _) tVec_ok)
theorem tVe4_ok : GOK P tVe4 := gok_strict <| gok_cons (aSpec_ok hT tVe2_ok hm is_vComp _ _) (gok_cons (aSpec_ok hT tVe2_ok hm is_vInv _ _) tVe2_ok)
end Go.Am.B

/- Lists of contracts; signs. -/
namespace Go.Am.B
open Go Go.Am.N AV

abbrev objM (m : Mp) : AObj := ⟨false, true, 36, 1, fun j => if (j == (0 : Nat)) = true then mpA m 64 else mpA ⟨⟨v0, v0, v0⟩, v0⟩ 1⟩
abbrev objR (q : Rat) : AObj := ⟨false, true, 3, 1, fun j => if (j == (0 : Nat)) = true then rA q 64 else rA 0 1⟩
abbrev objV (u : V3) : AObj := ⟨false, true, 9, 1, fun j => if (j == (0 : Nat)) = true then vA u 64 else vA v0 1⟩
theorem look_append {α : Type} {k : Nat} {b : List (Nat × α)} : ∀ {a : List (Nat × α)}, look k (a ++ b) = match look k a with
    | some x => some x
    | none => look k b
  | [] => rfl
  | (j, x) :: a => by
    simp only [List.cons_append, look]
    split
    · rfl
    · exact look_append
theorem gok_append {a b : Contracts} (ha : GOK P a) (hb : GOK P b) : GOK P (a ++ b) := by
  intro f s hl
  have hl : look f (a ++ b) = some s := hl
  rw [look_append] at hl
  split at hl
  · rename_i h
    simp only [Option.some.injEq] at hl
    subst hl
    exact ha f _ h
  · exact hb f s hl
theorem sgnR_zero {x : Rat} : sgnR x = 0 ↔ x = 0 := by unfold sgnR; grind
theorem sgnR_neg {x : Rat} : sgnR (-x) = -sgnR x := by unfold sgnR; grind
theorem wneg {x : Rat} : IntKind.i64.wrap ((0 : Int) - sgnR x) = -sgnR x := by unfold sgnR; split <;> (try split) <;> rfl
theorem sg_ne {a b : Rat} (h : a = -b) : (sgnR a != IntKind.i64.wrap ((0 : Int) - sgnR b)) = false := by rw [wneg, h, sgnR_neg, bne_self_eq_false]
theorem sg_eq {a b : Rat} (h : a = b) : (sgnR a != sgnR b) = false := by rw [h, bne_self_eq_false]
theorem cmpR_sub {x y : Rat} : cmpR x y = sgnR (x - y) := by unfold cmpR sgnR; grind
theorem cmp_sg {x y z : Rat} (h : x - y = z) : (cmpR x y == sgnR z) = true := by rw [cmpR_sub, h, beq_self_eq_true]
theorem cmp_0 {x y : Rat} (h : x = y) : (cmpR x y == (0 : Int)) = true := by rw [cmpR_sub, h, beq_iff_eq, sgnR_zero]; grind
theorem thrE_ne {u v w : V3} (h : (thrE u v w != (0 : Int)) = true) : nrm u v w = v0 := by
  unfold thrE at h
  split at h
  · rename_i h'; exact vsame_iff.1 h'
  · simp at h
theorem thrE_eq {u v w : V3} (h : (thrE u v w != (0 : Int)) = false) : nrm u v w ≠ v0 := by
  unfold thrE at h
  split at h
  · simp at h
  · rename_i h'; exact fun e => h' (vsame_iff.2 e)
theorem res_true : resOK [.bool true] (.bool true) := avLe0.refl _
theorem keys_if {c : Prop} [Decidable c] {u v : AV} (hu : keys u = []) (hv : keys v = []) : keys (if c then u else v) = [] := by split <;> assumption
end Go.Am.B

/- ref02: Quo, Over. -/
namespace Go.Am.B
open Go Go.Am.N AV

theorem is_eQuo : FnIs P ref02_Quo fn_ref02_Quo (codeOf fn_ref02_Quo) := fnIs get_ref02_Quo (by kernel_rfl) (by kernel_rfl) (by kernel_rfl)
theorem is_eOver : FnIs P ref02_Over fn_ref02_Over (codeOf fn_ref02_Over) := fnIs get_ref02_Over (by kernel_rfl) (by kernel_rfl) (by kernel_rfl)
theorem equo_end {q r : Rat} {n m : Nat} : funT T GE2 [9] 60 fn_ref02_Quo (codeOf fn_ref02_Quo) ⟨zipSlots 0 [.rat q n, .rat r m], [], 0⟩ =
    some (ATree.must [(0 : Nat) < 1] (ATree.fork ((↑(nl r.num.natAbs) : Int) == (0 : Int)) (ATree.must [(0 : Nat) < 1] (ATree.must [(0 : Nat) < 1] (ATree.leaf AEx.ret [agg [AV.bool false, mag 0, mag 0], int IntKind.i64 (3 : Int)]))) (ATree.must [(0 : Nat) < 1, (0 : Nat) < 1, (0 : Nat) < 1, (0 : Nat) < 1, nl q.num.natAbs < 2 ^ 39, nl r.den < 2 ^ 39, (0 : Nat) < 1, (0 : Nat) < 1, nl q.den < 2 ^ 39, nl r.num.natAbs < 2 ^ 39, nl (q.num.natAbs * r.den) < 2 ^ 38, nl (q.den * r.num.natAbs) < 2 ^ 38, q.den * r.num.natAbs ≠ 0, (0 : Nat) < 1] (ATree.must [(0 : Nat) < 1] (ATree.leaf AEx.ret [rat (sQ (decide (q < 0) != decide (r < 0)) (q.num.natAbs * r.den) (q.den * r.num.natAbs)) (rsz (sQ (decide (q < 0) != decide (r < 0)) (q.num.natAbs * r.den) (q.den * r.num.natAbs))), int IntKind.i64 (0 : Int)]))))) := by kernel_rfl
theorem eQuo_ok {q r : Rat} {n m : Nat} (hn : n < 2 ^ 41) (hm' : m < 2 ^ 41) (K : Nat) : FOK P ref02_Quo K [.rat q n, .rat r m] [] (pres (.tuple [.rat (q / r) (n + m), .int .i64 (if r = 0 then 3 else 0)]) []) := by
  refine fok_szp fun ⟨hq, hr, _⟩ => ?_
  have hq : Sz q n := hq
  have hr : Sz r m := hr
  have d1 := q.den_nz
  have d2 := r.den_nz
  have a1 : nl q.num.natAbs < 2 ^ 38 := nl_lt38 hq.1 (by omega)
  have a2 : nl q.den < 2 ^ 38 := nl_lt38 hq.2 (by omega)
  have b1 : nl r.num.natAbs < 2 ^ 38 := nl_lt38 hr.1 (by omega)
  have b2 : nl r.den < 2 ^ 38 := nl_lt38 hr.2 (by omega)
  have m1 : nl (q.num.natAbs * r.den) < 2 ^ 38 := nl_lt38 (lt_mul2 hq.1 hr.2) (by omega)
  have m3 : nl (q.den * r.num.natAbs) < 2 ^ 38 := nl_lt38 (lt_mul2 hq.2 hr.1) (by omega)
  refine fok_tree hT GE2_ok hm is_eQuo rfl (of_decide_eq_true (by kernel_rfl)) rfl 60 equo_end (fun _ => ?_) K []
  have key : ((nl r.num.natAbs : Int) == (0 : Int)) = decide (r = 0) := by
    by_cases h : r = 0
    · subst h; rfl
    · have h1 : r.num.natAbs ≠ 0 := fun e => h (rat_num_zero.1 e)
      have := nl_pos.2 h1
      simp only [h, decide_false, beq_eq_false_iff_ne]; omega
  rw [key]
  simp only [ATree.all, allP, decide_eq_true_eq, decide_eq_false_iff_not]
  refine ⟨by omega, fun h0 => ?_, fun h0 => ?_⟩
  · refine ⟨by omega, by omega, ?_, avLe0_int (by rw [if_pos h0]), trivial⟩
    have e : q / r = 0 := by rw [h0, Rat.div_def, Rat.inv_zero, Rat.mul_zero]
    obtain ⟨k, hk⟩ : ∃ k, n + m = k + 1 := ⟨n + m - 1, by have := hq.pos; omega⟩
    rw [e, hk]
    first | exact avLe0_zero | exact avLe0_rat_more (by omega)
  · have hr0 : r.num.natAbs ≠ 0 := fun h => h0 (rat_num_zero.1 h)
    have hv := rat_div_sQ q r h0
    (repeat' with_reducible refine And.intro ?_ ?_)
    all_goals first | omega | exact m1 | exact m3 | exact Nat.mul_ne_zero d1 hr0 | skip
    exact ⟨avLe0_rat_eq hv (hq.div hr), avLe0_int (by rw [if_neg h0]), trivial⟩
def gQuoE : Contracts := [(ref02_Quo, sp2 kR kR oQuo eNeed)]
theorem gQuoE_ok : GOK P gQuoE := gok_cons (sp2_ok fun _ _ K hn => eQuo_ok hn.1 hn.2 K) gok_nil
theorem eover_end {q r : Rat} {n m : Nat} : funT T gQuoE [] 60 fn_ref02_Over (codeOf fn_ref02_Over) ⟨zipSlots 0 [.rat q n, .rat r m], [], 0⟩ =
    some (ATree.must [(0 : Nat) < 1, (0 : Nat) < 1, n < 2 ^ 41, m < 2 ^ 41, (0 : Nat) < 1] (ATree.must [(0 : Nat) < 1, (0 : Nat) < 1] (ATree.must [(0 : Nat) < 1] (ATree.leaf AEx.ret [rat (q / r) (n + m)])))) := by kernel_rfl
theorem eOver_ok {q r : Rat} {n m : Nat} (hn : n < 2 ^ 41) (hm' : m < 2 ^ 41) (K : Nat) : FOK P ref02_Over K [.rat q n, .rat r m] [] (pres (.rat (q / r) (n + m)) []) := by
  refine fok_tree hT gQuoE_ok hm is_eOver rfl (of_decide_eq_true (by kernel_rfl)) rfl 60 eover_end (fun _ => ?_) K []
  simp only [ATree.all, allP]
  (repeat' with_reducible refine And.intro ?_ ?_)
  all_goals first | omega | exact avLe0.refl _
def oOver (a b : Rat × Nat) : AV := rA (a.1 / b.1) (a.2 + b.2)
def tOver : Contracts := [(ref02_Over, tp2 dR dR oOver (b2 41)), (ref02_Quo, tp2 dR dR oQuo (b2 41))]
theorem tOver_ok : GOK P tOver := gok_cons (tp2_ok fun _ _ K hn => eOver_ok (b2_ok hn).1 (b2_ok hn).2 K) (gok_cons (tp2_ok fun _ _ K hn => eQuo_ok (b2_ok hn).1 (b2_ok hn).2 K) gok_nil)
end Go.Am.B

/- ref04: maps, by the evaluator. -/
namespace Go.Am.B
open Go Go.Am.N AV

theorem is_mDet : FnIs P ref04_Det fn_ref04_Det (codeOf fn_ref04_Det) := fnIs get_ref04_Det (by kernel_rfl) (by kernel_rfl) (by kernel_rfl)
theorem is_mIdentity : FnIs P ref04_Identity fn_ref04_Identity (codeOf fn_ref04_Identity) := fnIs get_ref04_Identity (by kernel_rfl) (by kernel_rfl) (by kernel_rfl)
theorem is_mTurn : FnIs P ref04_Turn fn_ref04_Turn (codeOf fn_ref04_Turn) := fnIs get_ref04_Turn (by kernel_rfl) (by kernel_rfl) (by kernel_rfl)
theorem is_mApply : FnIs P ref04_Apply fn_ref04_Apply (codeOf fn_ref04_Apply) := fnIs get_ref04_Apply (by kernel_rfl) (by kernel_rfl) (by kernel_rfl)
theorem is_mcolumns : FnIs P ref04_columns fn_ref04_columns (codeOf fn_ref04_columns) := fnIs get_ref04_columns (by kernel_rfl) (by kernel_rfl) (by kernel_rfl)
theorem is_mCompose : FnIs P ref04_Compose fn_ref04_Compose (codeOf fn_ref04_Compose) := fnIs get_ref04_Compose (by kernel_rfl) (by kernel_rfl) (by kernel_rfl)
theorem is_mVolume : FnIs P ref04_Volume fn_ref04_Volume (codeOf fn_ref04_Volume) := fnIs get_ref04_Volume (by kernel_rfl) (by kernel_rfl) (by kernel_rfl)
theorem is_mInverse : FnIs P ref04_Inverse fn_ref04_Inverse (codeOf fn_ref04_Inverse) := fnIs get_ref04_Inverse (by kernel_rfl) (by kernel_rfl) (by kernel_rfl)
theorem is_mSameMap : FnIs P ref04_SameMap fn_ref04_SameMap (codeOf fn_ref04_SameMap) := fnIs get_ref04_SameMap (by kernel_rfl) (by kernel_rfl) (by kernel_rfl)
def gSameL : Contracts := [(ref04_Same, sp2 kV kV ovSame vNeed)]
def mpsame (a b : Mp) : Bool := vsame a.m.a b.m.a && (vsame a.m.b b.m.b && (vsame a.m.c b.m.c && vsame a.t b.t))
def oSameMap (a b : Mp × Nat) : AV := .bool (mpsame a.1 b.1)
theorem gSameL_ok : GOK P gSameL := gok_cons (sp2_ok gSame_ok) gok_nil
theorem gsm_end {u v : Mp} {n m : Nat} : funT T gSameL [12, 21, 30] 60 fn_ref04_SameMap (codeOf fn_ref04_SameMap) ⟨zipSlots 0 [mpA u n, mpA v m], [], 0⟩ =
    some (ATree.fork (vsame { x := u.m.a.x, y := u.m.a.y, z := u.m.a.z } { x := v.m.a.x, y := v.m.a.y, z := v.m.a.z }) (ATree.fork (bif true then vsame { x := u.m.b.x, y := u.m.b.y, z := u.m.b.z } { x := v.m.b.x, y := v.m.b.y, z := v.m.b.z } else false) (ATree.fork (bif true then vsame { x := u.m.c.x, y := u.m.c.y, z := u.m.c.z } { x := v.m.c.x, y := v.m.c.y, z := v.m.c.z } else false) (ATree.must [(0 : Int) ≤ (0 : Int) ∧ (0 : Int) < (↑(3 : Nat) : Int), (0 : Nat) < 1, (0 : Int) ≤ (0 : Int) ∧ (0 : Int) < (↑(3 : Nat) : Int), (0 : Nat) < 1, n ≤ n, n ≤ n, m ≤ m, m ≤ m, n < 2 ^ 38, m < 2 ^ 38, vsame { x := u.m.a.x, y := u.m.a.y, z := u.m.a.z } { x := v.m.a.x, y := v.m.a.y, z := v.m.a.z } = true, (0 : Int) ≤ (1 : Int) ∧ (1 : Int) < (↑(3 : Nat) : Int), (0 : Nat) < 1, (0 : Int) ≤ (1 : Int) ∧ (1 : Int) < (↑(3 : Nat) : Int), (0 : Nat) < 1, n ≤ n, n ≤ n, m ≤ m, m ≤ m, n < 2 ^ 38, m < 2 ^ 38, (bif true then vsame { x := u.m.b.x, y := u.m.b.y, z := u.m.b.z } { x := v.m.b.x, y := v.m.b.y, z := v.m.b.z } else false) = true, (0 : Int) ≤ (2 : Int) ∧ (2 : Int) < (↑(3 : Nat) : Int), (0 : Nat) < 1, (0 : Int) ≤ (2 : Int) ∧ (2 : Int) < (↑(3 : Nat) : Int), (0 : Nat) < 1, n ≤ n, n ≤ n, m ≤ m, m ≤ m, n < 2 ^ 38, m < 2 ^ 38, (bif true then vsame { x := u.m.c.x, y := u.m.c.y, z := u.m.c.z } { x := v.m.c.x, y := v.m.c.y, z := v.m.c.z } else false) = true, (0 : Nat) < 1, (0 : Nat) < 1, n ≤ n, n ≤ n, m ≤ m, m ≤ m, n < 2 ^ 38, m < 2 ^ 38] (ATree.leaf AEx.ret [AV.bool (bif true then vsame { x := u.t.x, y := u.t.y, z := u.t.z } { x := v.t.x, y := v.t.y, z := v.t.z } else false)])) (ATree.must [(0 : Int) ≤ (0 : Int) ∧ (0 : Int) < (↑(3 : Nat) : Int), (0 : Nat) < 1, (0 : Int) ≤ (0 : Int) ∧ (0 : Int) < (↑(3 : Nat) : Int), (0 : Nat) < 1, n ≤ n, n ≤ n, m ≤ m, m ≤ m, n < 2 ^ 38, m < 2 ^ 38, vsame { x := u.m.a.x, y := u.m.a.y, z := u.m.a.z } { x := v.m.a.x, y := v.m.a.y, z := v.m.a.z } = true, (0 : Int) ≤ (1 : Int) ∧ (1 : Int) < (↑(3 : Nat) : Int), (0 : Nat) < 1, (0 : Int) ≤ (1 : Int) ∧ (1 : Int) < (↑(3 : Nat) : Int), (0 : Nat) < 1, n ≤ n, n ≤ n, m ≤ m, m ≤ m, n < 2 ^ 38, m < 2 ^ 38, (bif true then vsame { x := u.m.b.x, y := u.m.b.y, z := u.m.b.z } { x := v.m.b.x, y := v.m.b.y, z := v.m.b.z } else false) = true, (0 : Int) ≤ (2 : Int) ∧ (2 : Int) < (↑(3 : Nat) : Int), (0 : Nat) < 1, (0 : Int) ≤ (2 : Int) ∧ (2 : Int) < (↑(3 : Nat) : Int), (0 : Nat) < 1, n ≤ n, n ≤ n, m ≤ m, m ≤ m, n < 2 ^ 38, m < 2 ^ 38, (bif true then vsame { x := u.m.c.x, y := u.m.c.y, z := u.m.c.z } { x := v.m.c.x, y := v.m.c.y, z := v.m.c.z } else false) = false] (ATree.leaf AEx.ret [AV.bool false]))) (ATree.fork false (ATree.must [(0 : Int) ≤ (0 : Int) ∧ (0 : Int) < (↑(3 : Nat) : Int), (0 : Nat) < 1, (0 : Int) ≤ (0 : Int) ∧ (0 : Int) < (↑(3 : Nat) : Int), (0 : Nat) < 1, n ≤ n, n ≤ n, m ≤ m, m ≤ m, n < 2 ^ 38, m < 2 ^ 38, vsame { x := u.m.a.x, y := u.m.a.y, z := u.m.a.z } { x := v.m.a.x, y := v.m.a.y, z := v.m.a.z } = true, (0 : Int) ≤ (1 : Int) ∧ (1 : Int) < (↑(3 : Nat) : Int), (0 : Nat) < 1, (0 : Int) ≤ (1 : Int) ∧ (1 : Int) < (↑(3 : Nat) : Int), (0 : Nat) < 1, n ≤ n, n ≤ n, m ≤ m, m ≤ m, n < 2 ^ 38, m < 2 ^ 38, (bif true then vsame { x := u.m.b.x, y := u.m.b.y, z := u.m.b.z } { x := v.m.b.x, y := v.m.b.y, z := v.m.b.z } else false) = false, false = true, (0 : Nat) < 1, (0 : Nat) < 1, n ≤ n, n ≤ n, m ≤ m, m ≤ m, n < 2 ^ 38, m < 2 ^ 38] (ATree.leaf AEx.ret [AV.bool (bif true then vsame { x := u.t.x, y := u.t.y, z := u.t.z } { x := v.t.x, y := v.t.y, z := v.t.z } else false)])) (ATree.must [(0 : Int) ≤ (0 : Int) ∧ (0 : Int) < (↑(3 : Nat) : Int), (0 : Nat) < 1, (0 : Int) ≤ (0 : Int) ∧ (0 : Int) < (↑(3 : Nat) : Int), (0 : Nat) < 1, n ≤ n, n ≤ n, m ≤ m, m ≤ m, n < 2 ^ 38, m < 2 ^ 38, vsame { x := u.m.a.x, y := u.m.a.y, z := u.m.a.z } { x := v.m.a.x, y := v.m.a.y, z := v.m.a.z } = true, (0 : Int) ≤ (1 : Int) ∧ (1 : Int) < (↑(3 : Nat) : Int), (0 : Nat) < 1, (0 : Int) ≤ (1 : Int) ∧ (1 : Int) < (↑(3 : Nat) : Int), (0 : Nat) < 1, n ≤ n, n ≤ n, m ≤ m, m ≤ m, n < 2 ^ 38, m < 2 ^ 38, (bif true then vsame { x := u.m.b.x, y := u.m.b.y, z := u.m.b.z } { x := v.m.b.x, y := v.m.b.y, z := v.m.b.z } else false) = false, false = false] (ATree.leaf AEx.ret [AV.bool false])))) (ATree.fork false (ATree.fork (bif true then vsame { x := u.m.c.x, y := u.m.c.y, z := u.m.c.z } { x := v.m.c.x, y := v.m.c.y, z := v.m.c.z } else false) (ATree.must [(0 : Int) ≤ (0 : Int) ∧ (0 : Int) < (↑(3 : Nat) : Int), (0 : Nat) < 1, (0 : Int) ≤ (0 : Int) ∧ (0 : Int) < (↑(3 : Nat) : Int), (0 : Nat) < 1, n ≤ n, n ≤ n, m ≤ m, m ≤ m, n < 2 ^ 38, m < 2 ^ 38, vsame { x := u.m.a.x, y := u.m.a.y, z := u.m.a.z } { x := v.m.a.x, y := v.m.a.y, z := v.m.a.z } = false, false = true, (0 : Int) ≤ (2 : Int) ∧ (2 : Int) < (↑(3 : Nat) : Int), (0 : Nat) < 1, (0 : Int) ≤ (2 : Int) ∧ (2 : Int) < (↑(3 : Nat) : Int), (0 : Nat) < 1, n ≤ n, n ≤ n, m ≤ m, m ≤ m, n < 2 ^ 38, m < 2 ^ 38, (bif true then vsame { x := u.m.c.x, y := u.m.c.y, z := u.m.c.z } { x := v.m.c.x, y := v.m.c.y, z := v.m.c.z } else false) = true, (0 : Nat) < 1, (0 : Nat) < 1, n ≤ n, n ≤ n, m ≤ m, m ≤ m, n < 2 ^ 38, m < 2 ^ 38] (ATree.leaf AEx.ret [AV.bool (bif true then vsame { x := u.t.x, y := u.t.y, z := u.t.z } { x := v.t.x, y := v.t.y, z := v.t.z } else false)])) (ATree.must [(0 : Int) ≤ (0 : Int) ∧ (0 : Int) < (↑(3 : Nat) : Int), (0 : Nat) < 1, (0 : Int) ≤ (0 : Int) ∧ (0 : Int) < (↑(3 : Nat) : Int), (0 : Nat) < 1, n ≤ n, n ≤ n, m ≤ m, m ≤ m, n < 2 ^ 38, m < 2 ^ 38, vsame { x := u.m.a.x, y := u.m.a.y, z := u.m.a.z } { x := v.m.a.x, y := v.m.a.y, z := v.m.a.z } = false, false = true, (0 : Int) ≤ (2 : Int) ∧ (2 : Int) < (↑(3 : Nat) : Int), (0 : Nat) < 1, (0 : Int) ≤ (2 : Int) ∧ (2 : Int) < (↑(3 : Nat) : Int), (0 : Nat) < 1, n ≤ n, n ≤ n, m ≤ m, m ≤ m, n < 2 ^ 38, m < 2 ^ 38, (bif true then vsame { x := u.m.c.x, y := u.m.c.y, z := u.m.c.z } { x := v.m.c.x, y := v.m.c.y, z := v.m.c.z } else false) = false] (ATree.leaf AEx.ret [AV.bool false]))) (ATree.fork false (ATree.must [(0 : Int) ≤ (0 : Int) ∧ (0 : Int) < (↑(3 : Nat) : Int), (0 : Nat) < 1, (0 : Int) ≤ (0 : Int) ∧ (0 : Int) < (↑(3 : Nat) : Int), (0 : Nat) < 1, n ≤ n, n ≤ n, m ≤ m, m ≤ m, n < 2 ^ 38, m < 2 ^ 38, vsame { x := u.m.a.x, y := u.m.a.y, z := u.m.a.z } { x := v.m.a.x, y := v.m.a.y, z := v.m.a.z } = false, false = false, false = true, (0 : Nat) < 1, (0 : Nat) < 1, n ≤ n, n ≤ n, m ≤ m, m ≤ m, n < 2 ^ 38, m < 2 ^ 38] (ATree.leaf AEx.ret [AV.bool (bif true then vsame { x := u.t.x, y := u.t.y, z := u.t.z } { x := v.t.x, y := v.t.y, z := v.t.z } else false)])) (ATree.must [(0 : Int) ≤ (0 : Int) ∧ (0 : Int) < (↑(3 : Nat) : Int), (0 : Nat) < 1, (0 : Int) ≤ (0 : Int) ∧ (0 : Int) < (↑(3 : Nat) : Int), (0 : Nat) < 1, n ≤ n, n ≤ n, m ≤ m, m ≤ m, n < 2 ^ 38, m < 2 ^ 38, vsame { x := u.m.a.x, y := u.m.a.y, z := u.m.a.z } { x := v.m.a.x, y := v.m.a.y, z := v.m.a.z } = false, false = false, false = false] (ATree.leaf AEx.ret [AV.bool false]))))) := by kernel_rfl
theorem gSameMap_ok (a b : Mp × Nat) (K : Nat) (h : allP (vNeed a b)) : FOK P ref04_SameMap K [kMp.make a, kMp.make b] [] (pres (oSameMap a b) []) := by
  obtain ⟨u, n⟩ := a
  obtain ⟨v, m⟩ := b
  obtain ⟨h1, h2⟩ : n < 2 ^ 38 ∧ m < 2 ^ 38 := h
  refine fok_tree hT gSameL_ok hm is_mSameMap rfl (of_decide_eq_true (by kernel_rfl)) rfl 60 gsm_end (fun _ => ?_) K []
  simp only [ATree.all, allP]
  (repeat' with_reducible first | refine And.intro ?_ ?_ | intro _)
  all_goals first | omega | decide | assumption | skip
  all_goals exact avLe0_bool (by simp_all [mpsame])
def tMa : Contracts := sG :: (ref04_Unit, tp1 dI (fun i => vA (unitV i) 1) fun i => decide (0 ≤ i ∧ i < 3)) :: (tGe1 ++ tOver)
noncomputable def tMb : Contracts := sG :: (ref04_Det, aSpec T tMa [] 60 fn_ref04_Det) :: (ref04_Turn, aSpec T tMa [] 60 fn_ref04_Turn) :: (ref04_columns, aSpec T tMa [] 60 fn_ref04_columns) :: (ref04_Identity, aSpec T tMa [] 60 fn_ref04_Identity) :: (ref04_SameMap, tp2 dMp dMp oSameMap (b2 38)) :: tMa
noncomputable def tMc : Contracts := sG :: (ref04_Volume, aSpec T tMb [] 60 fn_ref04_Volume) :: (ref04_Apply, aSpec T tMb [] 60 fn_ref04_Apply) :: tMb
noncomputable def tMd : Contracts := sG :: (ref04_Compose, aSpec T tMc [] 60 fn_ref04_Compose) :: (ref04_Inverse, aSpec T tMc [11] 60 fn_ref04_Inverse) :: tMc
theorem tMa_ok : GOK P tMa := gok_strict <| gok_cons (tp1_ok fun i K hi => gUnit_ok i K (of_decide_eq_true (p := 0 ≤ i ∧ i < 3) hi)) (gok_append tGe1_ok tOver_ok)
theorem tMb_ok : GOK P tMb := gok_strict <| gok_cons (aSpec_ok hT tMa_ok hm is_mDet _ _) (gok_cons (aSpec_ok hT tMa_ok hm is_mTurn _ _) (gok_cons (aSpec_ok hT tMa_ok hm is_mcolumns _ _) (gok_cons (aSpec_ok hT tMa_ok hm is_mIdentity _ _) (gok_cons (tp2_ok fun a b K hn => gSameMap_ok a b K (b2_ok hn)) tMa_ok))))
theorem tMc_ok : GOK P tMc := gok_strict <| gok_cons (aSpec_ok hT tMb_ok hm is_mVolume _ _) (gok_cons (aSpec_ok hT tMb_ok hm is_mApply _ _) tMb_ok)
theorem tMd_ok : GOK P tMd := gok_strict <| gok_cons (aSpec_ok hT tMc_ok hm is_mCompose _ _) (gok_cons (aSpec_ok hT tMc_ok hm is_mInverse _ _) tMc_ok)
end Go.Am.B

/- The laws VectorMaps, VectorBoxes: what they have in common. -/
namespace Go.Am.B
open Go Go.Am.N AV
def GLz : Contracts := [sG, (made_Light, s_mLight), (made_Roll, s_mRoll), (made_Dice_Point, diceSpec g_point), (made_Dice_Map, diceSpec g_map), (law04_awake, s_awake)]
noncomputable def GLw : Contracts := sG :: (law04_awake, s_awake) :: (tVe4 ++ tMd)
theorem GLz_ok : GOK P GLz := gok_strict <| gok_cons s_mLight_ok (gok_cons s_mRoll_ok (gok_cons s_mPoint_ok (gok_cons s_mMap_ok (gok_cons s_awake_ok gok_nil))))
theorem GLw_ok : GOK P GLw := gok_strict <| gok_cons s_awake_ok (gok_append tVe4_ok tMd_ok)
end Go.Am.B

/- vector.Segment, by the evaluator. -/
namespace Go.Am.B
open Go Go.Am.N AV

theorem is_vSeg : FnIs P vector_Segment fn_vector_Segment (codeOf fn_vector_Segment) := fnIs get_vector_Segment (by kernel_rfl) (by kernel_rfl) (by kernel_rfl)
noncomputable def tSeg : Contracts := [(vector_Segment, aSpec T tVec [26] 60 fn_vector_Segment)]
theorem tSeg_ok : GOK P tSeg := gok_cons (aSpec_ok hT tVec_ok hm is_vSeg _ _) gok_nil
end Go.Am.B

/- ref02: Min, Max; spans. -/
namespace Go.Am.B
open Go Go.Am.N AV

theorem is_eMin : FnIs P ref02_Min fn_ref02_Min (codeOf fn_ref02_Min) := fnIs get_ref02_Min (by kernel_rfl) (by kernel_rfl) (by kernel_rfl)
theorem is_eMax : FnIs P ref02_Max fn_ref02_Max (codeOf fn_ref02_Max) := fnIs get_ref02_Max (by kernel_rfl) (by kernel_rfl) (by kernel_rfl)
theorem emin_end {q r : Rat} {n m : Nat} : funT T GE0 [8] 60 fn_ref02_Min (codeOf fn_ref02_Min) ⟨zipSlots 0 [.rat q n, .rat r m], [], 0⟩ =
    some (ATree.must [(0 : Nat) < 1, (0 : Nat) < 1, m < 2 ^ 41, n < 2 ^ 41] (ATree.fork (decide (cmpR r q < (0 : Int))) (ATree.must [(0 : Nat) < 1, (0 : Nat) < 1] (ATree.must [(0 : Nat) < 1] (ATree.leaf AEx.ret [rat r m]))) (ATree.must [(0 : Nat) < 1, (0 : Nat) < 1] (ATree.must [(0 : Nat) < 1] (ATree.leaf AEx.ret [rat q n]))))) := by kernel_rfl
theorem emax_end {q r : Rat} {n m : Nat} : funT T GE0 [8] 60 fn_ref02_Max (codeOf fn_ref02_Max) ⟨zipSlots 0 [.rat q n, .rat r m], [], 0⟩ =
    some (ATree.must [(0 : Nat) < 1, (0 : Nat) < 1, m < 2 ^ 41, n < 2 ^ 41] (ATree.fork (decide (cmpR r q > (0 : Int))) (ATree.must [(0 : Nat) < 1, (0 : Nat) < 1] (ATree.must [(0 : Nat) < 1] (ATree.leaf AEx.ret [rat r m]))) (ATree.must [(0 : Nat) < 1, (0 : Nat) < 1] (ATree.must [(0 : Nat) < 1] (ATree.leaf AEx.ret [rat q n]))))) := by kernel_rfl
theorem cmpR_lt0 {q r : Rat} : decide (cmpR q r < (0 : Int)) = decide (q < r) := by unfold cmpR; by_cases h : q < r <;> by_cases h' : r < q <;> simp [h, h']
theorem cmpR_gt0 {q r : Rat} : decide (cmpR q r > (0 : Int)) = decide (r < q) := by
  unfold cmpR
  by_cases h : q < r
  · have : ¬ r < q := by grind
    simp [h, this]
  · by_cases h' : r < q <;> simp [h, h']
theorem eMin_ok {q r : Rat} {n m : Nat} (hn : n < 2 ^ 41) (hm' : m < 2 ^ 41) (K : Nat) : FOK P ref02_Min K [.rat q n, .rat r m] [] (pres (.rat (minR q r) (max n m)) []) := by
  refine fok_tree hT GE0_ok hm is_eMin rfl (of_decide_eq_true (by kernel_rfl)) rfl 60 emin_end (fun _ => ?_) K []
  rw [cmpR_lt0]
  simp only [ATree.all, allP, decide_eq_true_eq, decide_eq_false_iff_not]
  (repeat' with_reducible first | refine And.intro ?_ ?_ | intro _)
  all_goals first | omega | skip
  · rename_i h; unfold minR; rw [if_pos h]; exact avLe0_rat_more (Nat.le_max_right _ _)
  · rename_i h; unfold minR; rw [if_neg h]; exact avLe0_rat_more (Nat.le_max_left _ _)
theorem eMax_ok {q r : Rat} {n m : Nat} (hn : n < 2 ^ 41) (hm' : m < 2 ^ 41) (K : Nat) : FOK P ref02_Max K [.rat q n, .rat r m] [] (pres (.rat (maxR q r) (max n m)) []) := by
  refine fok_tree hT GE0_ok hm is_eMax rfl (of_decide_eq_true (by kernel_rfl)) rfl 60 emax_end (fun _ => ?_) K []
  rw [cmpR_gt0]
  simp only [ATree.all, allP, decide_eq_true_eq, decide_eq_false_iff_not]
  (repeat' with_reducible first | refine And.intro ?_ ?_ | intro _)
  all_goals first | omega | skip
  · rename_i h; unfold maxR; rw [if_pos h]; exact avLe0_rat_more (Nat.le_max_right _ _)
  · rename_i h; unfold maxR; rw [if_neg h]; exact avLe0_rat_more (Nat.le_max_left _ _)
def tMM : Contracts := [(ref02_Min, tp2 dR dR oMin (b2 41)), (ref02_Max, tp2 dR dR oMax (b2 41))]
theorem tMM_ok : GOK P tMM := gok_cons (tp2_ok fun _ _ K hn => eMin_ok (b2_ok hn).1 (b2_ok hn).2 K) (gok_cons (tp2_ok fun _ _ K hn => eMax_ok (b2_ok hn).1 (b2_ok hn).2 K) gok_nil)
end Go.Am.B

/- Spans and boxes. -/
namespace Go.Am.B
open Go Go.Am.N AV

theorem is_spOf : FnIs P span_Of fn_span_Of (codeOf fn_span_Of) := fnIs get_span_Of (by kernel_rfl) (by kernel_rfl) (by kernel_rfl)
theorem is_spPoint : FnIs P span_Point fn_span_Point (codeOf fn_span_Point) := fnIs get_span_Point (by kernel_rfl) (by kernel_rfl) (by kernel_rfl)
theorem is_spHull : FnIs P span_Hull fn_span_Hull (codeOf fn_span_Hull) := fnIs get_span_Hull (by kernel_rfl) (by kernel_rfl) (by kernel_rfl)
theorem is_spMeet : FnIs P span_Meet fn_span_Meet (codeOf fn_span_Meet) := fnIs get_span_Meet (by kernel_rfl) (by kernel_rfl) (by kernel_rfl)
theorem is_epPoint : FnIs P ref03_Point fn_ref03_Point (codeOf fn_ref03_Point) := fnIs get_ref03_Point (by kernel_rfl) (by kernel_rfl) (by kernel_rfl)
theorem is_epHull : FnIs P ref03_Hull fn_ref03_Hull (codeOf fn_ref03_Hull) := fnIs get_ref03_Hull (by kernel_rfl) (by kernel_rfl) (by kernel_rfl)
theorem is_epMeet : FnIs P ref03_Meet fn_ref03_Meet (codeOf fn_ref03_Meet) := fnIs get_ref03_Meet (by kernel_rfl) (by kernel_rfl) (by kernel_rfl)
theorem is_epSame : FnIs P ref03_Same fn_ref03_Same (codeOf fn_ref03_Same) := fnIs get_ref03_Same (by kernel_rfl) (by kernel_rfl) (by kernel_rfl)
theorem is_epPB : FnIs P ref04_PointBox fn_ref04_PointBox (codeOf fn_ref04_PointBox) := fnIs get_ref04_PointBox (by kernel_rfl) (by kernel_rfl) (by kernel_rfl)
theorem is_epSB : FnIs P ref04_SameBox fn_ref04_SameBox (codeOf fn_ref04_SameBox) := fnIs get_ref04_SameBox (by kernel_rfl) (by kernel_rfl) (by kernel_rfl)
theorem is_vMeets : FnIs P vector_Meets fn_vector_Meets (codeOf fn_vector_Meets) := fnIs get_vector_Meets (by kernel_rfl) (by kernel_rfl) (by kernel_rfl)
theorem is_gMeets : FnIs P ref04_Meets fn_ref04_Meets (codeOf fn_ref04_Meets) := fnIs get_ref04_Meets (by kernel_rfl) (by kernel_rfl) (by kernel_rfl)
theorem is_gSeg : FnIs P ref04_Segment fn_ref04_Segment (codeOf fn_ref04_Segment) := fnIs get_ref04_Segment (by kernel_rfl) (by kernel_rfl) (by kernel_rfl)
structure Sp where
  lo : Rat
  hi : Rat
structure Bx where
  a : Sp
  b : Sp
  c : Sp
abbrev sA (s : Sp) (n : Nat) : AV := .agg [.rat s.lo n, .rat s.hi n]
abbrev bA (b : Bx) (n : Nat) : AV := .agg [sA b.a n, sA b.b n, sA b.c n]
def spR : AV → Option (Sp × Nat)
  | .agg [x, y] => match ratOf x, ratOf y with
    | some (x, a), some (y, b) => some (⟨x, y⟩, max a b)
    | _, _ => none
  | _ => none
def bxR : AV → Option (Bx × Nat)
  | .agg [x, y, z] => match spR x, spR y, spR z with
    | some (x, a), some (y, b), some (z, c) => some (⟨x, y, z⟩, max a (max b c))
    | _, _, _ => none
  | _ => none
def gSL : Contracts := [(ref02_Same, sp2 kR kR oSame eNeed)]
def spsame (s t : Sp) : Bool := decide (s.lo = t.lo) && decide (s.hi = t.hi)
def bxsame (s t : Bx) : Bool := spsame s.a t.a && (spsame s.b t.b && spsame s.c t.c)
def spmeet (s t : Sp) : Bool := !decide (minR s.hi t.hi < maxR s.lo t.lo)
def bxmeet (s t : Bx) : Bool := spmeet s.a t.a && (spmeet s.b t.b && spmeet s.c t.c)
theorem avLe0_sA {s t : Sp} {n k : Nat} (h : s = t) (hk : n ≤ k) : avLe0 (sA s n) (sA t k) := h ▸ avLe0_agg ⟨avLe0_rat_up rfl hk, avLe0_rat_up rfl hk, trivial⟩
theorem spR_ok {v : AV} {a : Sp × Nat} (h : spR v = some a) : avLe0 v (sA a.1 a.2) := by
  unfold spR at h
  split at h
  · split at h
    · rename_i h1 h2
      simp only [Option.some.injEq] at h
      subst h
      exact avLe0_agg ⟨(ratOf_ok h1).trans (avLe0_rat_up rfl (by simp only; omega)), (ratOf_ok h2).trans (avLe0_rat_up rfl (by simp only; omega)), trivial⟩
    · simp at h
  · simp at h
theorem bxR_ok {v : AV} {a : Bx × Nat} (h : bxR v = some a) : avLe0 v (bA a.1 a.2) := by
  unfold bxR at h
  split at h
  · split at h
    · rename_i h1 h2 h3
      simp only [Option.some.injEq] at h
      subst h
      exact avLe0_agg ⟨(spR_ok h1).trans (avLe0_sA rfl (by simp only; omega)), (spR_ok h2).trans (avLe0_sA rfl (by simp only; omega)), (spR_ok h3).trans (avLe0_sA rfl (by simp only; omega)), trivial⟩
    · simp at h
  · simp at h
theorem gSL_ok : GOK P gSL := gok_cons (sp2_ok fun _ _ K hn => eSame_ok (Nat.lt_trans hn.1 (by omega)) (Nat.lt_trans hn.2 (by omega)) K []) gok_nil
def dSp : Kd (Sp × Nat) := ⟨spR, fun a => sA a.1 a.2, spR_ok⟩
def dBx : Kd (Bx × Nat) := ⟨bxR, fun a => bA a.1 a.2, bxR_ok⟩
theorem epsame_end {s t : Sp} {n m : Nat} : funT T gSL [10] 60 fn_ref03_Same (codeOf fn_ref03_Same) ⟨zipSlots 0 [sA s n, sA t m], [], 0⟩ =
    some (ATree.fork (decide (s.lo = t.lo)) (ATree.must [(0 : Nat) < 1, (0 : Nat) < 1, n < 2 ^ 41, m < 2 ^ 41, decide (s.lo = t.lo) = true, (0 : Nat) < 1, (0 : Nat) < 1, n < 2 ^ 41, m < 2 ^ 41] (ATree.leaf AEx.ret [AV.bool (bif true then decide (s.hi = t.hi) else false)])) (ATree.must [(0 : Nat) < 1, (0 : Nat) < 1, n < 2 ^ 41, m < 2 ^ 41, decide (s.lo = t.lo) = false] (ATree.leaf AEx.ret [AV.bool false]))) := by kernel_rfl
theorem epSame_ok {s t : Sp} {n m : Nat} (hn : n < 2 ^ 40) (hm' : m < 2 ^ 40) (K : Nat) : FOK P ref03_Same K [sA s n, sA t m] [] (pres (.bool (spsame s t)) []) := by
  refine fok_tree hT gSL_ok hm is_epSame rfl (of_decide_eq_true (by kernel_rfl)) rfl 60 epsame_end (fun _ => ?_) K []
  simp only [ATree.all, allP]
  (repeat' with_reducible first | refine And.intro ?_ ?_ | intro _)
  all_goals first | omega | decide | assumption | skip
  all_goals exact avLe0_bool (by simp_all [spsame])
/-- Contracts of two arguments of one kind, for any sizes. -/
def npS {α : Type} (read : AV → Option (α × Nat)) (g : α → α → AV) (e : Nat) : Spec := pureSpec fun l => match l with
  | [x, y] => match read x, read y with
    | some a, some b => some (pres (g a.1 b.1) [a.2 < 2 ^ e, b.2 < 2 ^ e])
    | _, _ => none
  | _ => none
theorem npS_ok {α : Type} {f : FuncId} {read : AV → Option (α × Nat)} {make : α → Nat → AV} {g : α → α → AV} {e : Nat} (hr : ∀ {v : AV} {a : α × Nat}, read v = some a → avLe0 v (make a.1 a.2))
    (h : ∀ {a b : α} {n m : Nat}, n < 2 ^ e → m < 2 ^ e → ∀ K, FOK P f K [make a n, make b m] [] (pres (g a b) [])) : ∀ K args pre r, npS read g e K args pre = some r → FOK P f K args pre r := by
  refine pureSpec_ok fun K args r hk hs _ => ?_
  split at hs
  · split at hs
    · rename_i h1 h2
      simp only [Option.some.injEq] at hs
      subst hs
      intro hn
      exact fok_weak (h hn.1 hn.2 K) hk ⟨hr h1, hr h2, trivial⟩ [] trivial
    · simp at hs
  · simp at hs
def gSL2 : Contracts := [(ref03_Same, npS spR (fun s t => .bool (spsame s t)) 40)]
theorem gSL2_ok : GOK P gSL2 := gok_cons (npS_ok (make := sA) spR_ok fun hn hm K => epSame_ok hn hm K) gok_nil
theorem epsb_end {s t : Bx} {n m : Nat} : funT T gSL2 [10, 17] 60 fn_ref04_SameBox (codeOf fn_ref04_SameBox) ⟨zipSlots 0 [bA s n, bA t m], [], 0⟩ =
    some (ATree.fork (spsame { lo := s.a.lo, hi := s.a.hi } { lo := t.a.lo, hi := t.a.hi }) (ATree.fork (bif true then spsame { lo := s.b.lo, hi := s.b.hi } { lo := t.b.lo, hi := t.b.hi } else false) (ATree.must [(0 : Int) ≤ (0 : Int) ∧ (0 : Int) < (↑(3 : Nat) : Int), (0 : Nat) < 1, (0 : Int) ≤ (0 : Int) ∧ (0 : Int) < (↑(3 : Nat) : Int), (0 : Nat) < 1, max n n < 2 ^ 40, max m m < 2 ^ 40, spsame { lo := s.a.lo, hi := s.a.hi } { lo := t.a.lo, hi := t.a.hi } = true, (0 : Int) ≤ (1 : Int) ∧ (1 : Int) < (↑(3 : Nat) : Int), (0 : Nat) < 1, (0 : Int) ≤ (1 : Int) ∧ (1 : Int) < (↑(3 : Nat) : Int), (0 : Nat) < 1, max n n < 2 ^ 40, max m m < 2 ^ 40, (bif true then spsame { lo := s.b.lo, hi := s.b.hi } { lo := t.b.lo, hi := t.b.hi } else false) = true, (0 : Int) ≤ (2 : Int) ∧ (2 : Int) < (↑(3 : Nat) : Int), (0 : Nat) < 1, (0 : Int) ≤ (2 : Int) ∧ (2 : Int) < (↑(3 : Nat) : Int), (0 : Nat) < 1, max n n < 2 ^ 40, max m m < 2 ^ 40] (ATree.leaf AEx.ret [AV.bool (bif true then spsame { lo := s.c.lo, hi := s.c.hi } { lo := t.c.lo, hi := t.c.hi } else false)])) (ATree.must [(0 : Int) ≤ (0 : Int) ∧ (0 : Int) < (↑(3 : Nat) : Int), (0 : Nat) < 1, (0 : Int) ≤ (0 : Int) ∧ (0 : Int) < (↑(3 : Nat) : Int), (0 : Nat) < 1, max n n < 2 ^ 40, max m m < 2 ^ 40, spsame { lo := s.a.lo, hi := s.a.hi } { lo := t.a.lo, hi := t.a.hi } = true, (0 : Int) ≤ (1 : Int) ∧ (1 : Int) < (↑(3 : Nat) : Int), (0 : Nat) < 1, (0 : Int) ≤ (1 : Int) ∧ (1 : Int) < (↑(3 : Nat) : Int), (0 : Nat) < 1, max n n < 2 ^ 40, max m m < 2 ^ 40, (bif true then spsame { lo := s.b.lo, hi := s.b.hi } { lo := t.b.lo, hi := t.b.hi } else false) = false] (ATree.leaf AEx.ret [AV.bool false]))) (ATree.fork false (ATree.must [(0 : Int) ≤ (0 : Int) ∧ (0 : Int) < (↑(3 : Nat) : Int), (0 : Nat) < 1, (0 : Int) ≤ (0 : Int) ∧ (0 : Int) < (↑(3 : Nat) : Int), (0 : Nat) < 1, max n n < 2 ^ 40, max m m < 2 ^ 40, spsame { lo := s.a.lo, hi := s.a.hi } { lo := t.a.lo, hi := t.a.hi } = false, false = true, (0 : Int) ≤ (2 : Int) ∧ (2 : Int) < (↑(3 : Nat) : Int), (0 : Nat) < 1, (0 : Int) ≤ (2 : Int) ∧ (2 : Int) < (↑(3 : Nat) : Int), (0 : Nat) < 1, max n n < 2 ^ 40, max m m < 2 ^ 40] (ATree.leaf AEx.ret [AV.bool (bif true then spsame { lo := s.c.lo, hi := s.c.hi } { lo := t.c.lo, hi := t.c.hi } else false)])) (ATree.must [(0 : Int) ≤ (0 : Int) ∧ (0 : Int) < (↑(3 : Nat) : Int), (0 : Nat) < 1, (0 : Int) ≤ (0 : Int) ∧ (0 : Int) < (↑(3 : Nat) : Int), (0 : Nat) < 1, max n n < 2 ^ 40, max m m < 2 ^ 40, spsame { lo := s.a.lo, hi := s.a.hi } { lo := t.a.lo, hi := t.a.hi } = false, false = false] (ATree.leaf AEx.ret [AV.bool false])))) := by kernel_rfl
theorem epSB_ok {s t : Bx} {n m : Nat} (hn : n < 2 ^ 40) (hm' : m < 2 ^ 40) (K : Nat) : FOK P ref04_SameBox K [bA s n, bA t m] [] (pres (.bool (bxsame s t)) []) := by
  refine fok_tree hT gSL2_ok hm is_epSB rfl (of_decide_eq_true (by kernel_rfl)) rfl 60 epsb_end (fun _ => ?_) K []
  simp only [ATree.all, allP, Nat.max_self]
  (repeat' with_reducible first | refine And.intro ?_ ?_ | intro _)
  all_goals first | omega | decide | assumption | skip
  all_goals exact avLe0_bool (by simp_all [bxsame])
def gML : Contracts := (rational_Min, sp2 kR kR oMin rNeed) :: (rational_Max, sp2 kR kR oMax rNeed) :: (ref02_Min, sp2 kR kR oMin eNeed) :: (ref02_Max, sp2 kR kR oMax eNeed) :: (ref02_Cmp, sp2 kR kR oCmp eNeed) :: GR0
noncomputable def gML2 : Contracts := (span_Meet, aSpec T gML [23] 60 fn_span_Meet) :: (ref03_Meet, aSpec T gML [23] 60 fn_ref03_Meet) :: []
theorem gML_ok : GOK P gML := gok_cons (sp2_ok fun _ _ K hn => rMin_ok hn.1 hn.2 K) (gok_cons (sp2_ok fun _ _ K hn => rMax_ok hn.1 hn.2 K) (gok_cons (sp2_ok fun _ _ K hn => eMin_ok hn.1 hn.2 K) (gok_cons (sp2_ok fun _ _ K hn => eMax_ok hn.1 hn.2 K) (gok_cons (sp2_ok fun _ _ K hn => eCmp_ok hn.1 hn.2 K) GR0_ok))))
theorem gML2_ok : GOK P gML2 := gok_cons (aSpec_ok hT gML_ok hm is_spMeet _ _) (gok_cons (aSpec_ok hT gML_ok hm is_epMeet _ _) gok_nil)
theorem vmeets_end {s t : Bx} {n m : Nat} : funT T gML2 [22] 60 fn_vector_Meets (codeOf fn_vector_Meets) ⟨zipSlots 0 [bA s n, bA t m], [], 0⟩ =
    some (ATree.must [(0 : Int) ≤ (0 : Int) ∧ (0 : Int) < (↑(3 : Nat) : Int), (0 : Nat) < 1, (0 : Int) ≤ (0 : Int) ∧ (0 : Int) < (↑(3 : Nat) : Int), (0 : Nat) < 1, (0 : Nat) < 1, (0 : Nat) < 1, n < 2 ^ 42, m < 2 ^ 42, (0 : Nat) < 1, (0 : Nat) < 1, n < 2 ^ 42, m < 2 ^ 42, (0 : Nat) < 1, (0 : Nat) < 1, (0 : Nat) < 1, max n m < 2 ^ 42, max n m < 2 ^ 42, decide (cmpR (maxR s.a.lo t.a.lo) (minR s.a.hi t.a.hi) > (0 : Int)) = true → allP ([] ++ ([(0 : Nat) < 1] ++ ([] ++ [])) ++ ([(0 : Nat) < 1] ++ ([] ++ []) ++ [])), decide (cmpR (maxR s.a.lo t.a.lo) (minR s.a.hi t.a.hi) > (0 : Int)) = false → allP ([(0 : Nat) < 1] ++ ([(0 : Nat) < 1] ++ ([] ++ [])) ++ ([(0 : Nat) < 1] ++ ([] ++ []) ++ [])), (0 : Nat) < 1] (ATree.fork (!bif decide (cmpR (maxR s.a.lo t.a.lo) (minR s.a.hi t.a.hi) > (0 : Int)) then false else true) (ATree.leaf AEx.ret [AV.bool false]) (ATree.must [(0 : Int) ≤ IntKind.i64.wrap ((0 : Int) + (1 : Int)) ∧ IntKind.i64.wrap ((0 : Int) + (1 : Int)) < (↑(3 : Nat) : Int), (0 : Nat) < 1, (0 : Int) ≤ IntKind.i64.wrap ((0 : Int) + (1 : Int)) ∧ IntKind.i64.wrap ((0 : Int) + (1 : Int)) < (↑(3 : Nat) : Int), (0 : Nat) < 1, (0 : Nat) < 1, (0 : Nat) < 1, n < 2 ^ 42, m < 2 ^ 42, (0 : Nat) < 1, (0 : Nat) < 1, n < 2 ^ 42, m < 2 ^ 42, (0 : Nat) < 1, (0 : Nat) < 1, (0 : Nat) < 1, max n m < 2 ^ 42, max n m < 2 ^ 42, decide (cmpR (maxR s.b.lo t.b.lo) (minR s.b.hi t.b.hi) > (0 : Int)) = true → allP ([] ++ ([(0 : Nat) < 1] ++ ([] ++ [])) ++ ([(0 : Nat) < 1] ++ ([] ++ []) ++ [])), decide (cmpR (maxR s.b.lo t.b.lo) (minR s.b.hi t.b.hi) > (0 : Int)) = false → allP ([(0 : Nat) < 1] ++ ([(0 : Nat) < 1] ++ ([] ++ [])) ++ ([(0 : Nat) < 1] ++ ([] ++ []) ++ [])), (0 : Nat) < 1] (ATree.fork (!bif decide (cmpR (maxR s.b.lo t.b.lo) (minR s.b.hi t.b.hi) > (0 : Int)) then false else true) (ATree.leaf AEx.ret [AV.bool false]) (ATree.must [(0 : Int) ≤ IntKind.i64.wrap (IntKind.i64.wrap ((0 : Int) + (1 : Int)) + (1 : Int)) ∧ IntKind.i64.wrap (IntKind.i64.wrap ((0 : Int) + (1 : Int)) + (1 : Int)) < (↑(3 : Nat) : Int), (0 : Nat) < 1, (0 : Int) ≤ IntKind.i64.wrap (IntKind.i64.wrap ((0 : Int) + (1 : Int)) + (1 : Int)) ∧ IntKind.i64.wrap (IntKind.i64.wrap ((0 : Int) + (1 : Int)) + (1 : Int)) < (↑(3 : Nat) : Int), (0 : Nat) < 1, (0 : Nat) < 1, (0 : Nat) < 1, n < 2 ^ 42, m < 2 ^ 42, (0 : Nat) < 1, (0 : Nat) < 1, n < 2 ^ 42, m < 2 ^ 42, (0 : Nat) < 1, (0 : Nat) < 1, (0 : Nat) < 1, max n m < 2 ^ 42, max n m < 2 ^ 42, decide (cmpR (maxR s.c.lo t.c.lo) (minR s.c.hi t.c.hi) > (0 : Int)) = true → allP ([] ++ ([(0 : Nat) < 1] ++ ([] ++ [])) ++ ([(0 : Nat) < 1] ++ ([] ++ []) ++ [])), decide (cmpR (maxR s.c.lo t.c.lo) (minR s.c.hi t.c.hi) > (0 : Int)) = false → allP ([(0 : Nat) < 1] ++ ([(0 : Nat) < 1] ++ ([] ++ [])) ++ ([(0 : Nat) < 1] ++ ([] ++ []) ++ [])), (0 : Nat) < 1] (ATree.fork (!bif decide (cmpR (maxR s.c.lo t.c.lo) (minR s.c.hi t.c.hi) > (0 : Int)) then false else true) (ATree.leaf AEx.ret [AV.bool false]) (ATree.leaf AEx.ret [AV.bool true]))))))) := by kernel_rfl
theorem gmeets_end {s t : Bx} {n m : Nat} : funT T gML2 [23] 60 fn_ref04_Meets (codeOf fn_ref04_Meets) ⟨zipSlots 0 [bA s n, bA t m], [], 0⟩ =
    some (ATree.must [(0 : Int) ≤ (0 : Int) ∧ (0 : Int) < (↑(3 : Nat) : Int), (0 : Nat) < 1, (0 : Int) ≤ (0 : Int) ∧ (0 : Int) < (↑(3 : Nat) : Int), (0 : Nat) < 1, (0 : Nat) < 1, (0 : Nat) < 1, n < 2 ^ 41, m < 2 ^ 41, (0 : Nat) < 1, (0 : Nat) < 1, n < 2 ^ 41, m < 2 ^ 41, (0 : Nat) < 1, (0 : Nat) < 1, (0 : Nat) < 1, max n m < 2 ^ 41, max n m < 2 ^ 41, decide (cmpR (maxR s.a.lo t.a.lo) (minR s.a.hi t.a.hi) > (0 : Int)) = true → allP ([] ++ ([(0 : Nat) < 1] ++ ([] ++ [])) ++ ([(0 : Nat) < 1] ++ ([] ++ []) ++ [])), decide (cmpR (maxR s.a.lo t.a.lo) (minR s.a.hi t.a.hi) > (0 : Int)) = false → allP ([(0 : Nat) < 1] ++ ([(0 : Nat) < 1] ++ ([] ++ [])) ++ ([(0 : Nat) < 1] ++ ([] ++ []) ++ [])), (0 : Nat) < 1] (ATree.fork (!bif decide (cmpR (maxR s.a.lo t.a.lo) (minR s.a.hi t.a.hi) > (0 : Int)) then false else true) (ATree.leaf AEx.ret [AV.bool false]) (ATree.must [(0 : Int) ≤ IntKind.i64.wrap ((0 : Int) + (1 : Int)) ∧ IntKind.i64.wrap ((0 : Int) + (1 : Int)) < (↑(3 : Nat) : Int), (0 : Nat) < 1, (0 : Int) ≤ IntKind.i64.wrap ((0 : Int) + (1 : Int)) ∧ IntKind.i64.wrap ((0 : Int) + (1 : Int)) < (↑(3 : Nat) : Int), (0 : Nat) < 1, (0 : Nat) < 1, (0 : Nat) < 1, n < 2 ^ 41, m < 2 ^ 41, (0 : Nat) < 1, (0 : Nat) < 1, n < 2 ^ 41, m < 2 ^ 41, (0 : Nat) < 1, (0 : Nat) < 1, (0 : Nat) < 1, max n m < 2 ^ 41, max n m < 2 ^ 41, decide (cmpR (maxR s.b.lo t.b.lo) (minR s.b.hi t.b.hi) > (0 : Int)) = true → allP ([] ++ ([(0 : Nat) < 1] ++ ([] ++ [])) ++ ([(0 : Nat) < 1] ++ ([] ++ []) ++ [])), decide (cmpR (maxR s.b.lo t.b.lo) (minR s.b.hi t.b.hi) > (0 : Int)) = false → allP ([(0 : Nat) < 1] ++ ([(0 : Nat) < 1] ++ ([] ++ [])) ++ ([(0 : Nat) < 1] ++ ([] ++ []) ++ [])), (0 : Nat) < 1] (ATree.fork (!bif decide (cmpR (maxR s.b.lo t.b.lo) (minR s.b.hi t.b.hi) > (0 : Int)) then false else true) (ATree.leaf AEx.ret [AV.bool false]) (ATree.must [(0 : Int) ≤ IntKind.i64.wrap (IntKind.i64.wrap ((0 : Int) + (1 : Int)) + (1 : Int)) ∧ IntKind.i64.wrap (IntKind.i64.wrap ((0 : Int) + (1 : Int)) + (1 : Int)) < (↑(3 : Nat) : Int), (0 : Nat) < 1, (0 : Int) ≤ IntKind.i64.wrap (IntKind.i64.wrap ((0 : Int) + (1 : Int)) + (1 : Int)) ∧ IntKind.i64.wrap (IntKind.i64.wrap ((0 : Int) + (1 : Int)) + (1 : Int)) < (↑(3 : Nat) : Int), (0 : Nat) < 1, (0 : Nat) < 1, (0 : Nat) < 1, n < 2 ^ 41, m < 2 ^ 41, (0 : Nat) < 1, (0 : Nat) < 1, n < 2 ^ 41, m < 2 ^ 41, (0 : Nat) < 1, (0 : Nat) < 1, (0 : Nat) < 1, max n m < 2 ^ 41, max n m < 2 ^ 41, decide (cmpR (maxR s.c.lo t.c.lo) (minR s.c.hi t.c.hi) > (0 : Int)) = true → allP ([] ++ ([(0 : Nat) < 1] ++ ([] ++ [])) ++ ([(0 : Nat) < 1] ++ ([] ++ []) ++ [])), decide (cmpR (maxR s.c.lo t.c.lo) (minR s.c.hi t.c.hi) > (0 : Int)) = false → allP ([(0 : Nat) < 1] ++ ([(0 : Nat) < 1] ++ ([] ++ [])) ++ ([(0 : Nat) < 1] ++ ([] ++ []) ++ [])), (0 : Nat) < 1] (ATree.fork (!bif decide (cmpR (maxR s.c.lo t.c.lo) (minR s.c.hi t.c.hi) > (0 : Int)) then false else true) (ATree.leaf AEx.ret [AV.bool false]) (ATree.leaf AEx.ret [AV.bool true]))))))) := by kernel_rfl
theorem vMeets_ok {s t : Bx} {n m : Nat} (hn : n < 2 ^ 40) (hm' : m < 2 ^ 40) (K : Nat) : FOK P vector_Meets K [bA s n, bA t m] [] (pres (.bool (bxmeet s t)) []) := by
  refine fok_tree hT gML2_ok hm is_vMeets rfl (of_decide_eq_true (by kernel_rfl)) rfl 60 vmeets_end (fun _ => ?_) K []
  simp only [ATree.all, cmpR_gt0]
  (repeat' with_reducible first | refine And.intro ?_ ?_ | intro _)
  all_goals try (simp only [List.nil_append, List.cons_append, List.append_nil, allP]; (repeat' with_reducible first | refine And.intro ?_ ?_ | intro _) <;> first | omega | decide)
  all_goals (refine avLe0_bool ?_; simp_all [bxmeet, spmeet])
theorem gMeets_ok {s t : Bx} {n m : Nat} (hn : n < 2 ^ 40) (hm' : m < 2 ^ 40) (K : Nat) : FOK P ref04_Meets K [bA s n, bA t m] [] (pres (.bool (bxmeet s t)) []) := by
  refine fok_tree hT gML2_ok hm is_gMeets rfl (of_decide_eq_true (by kernel_rfl)) rfl 60 gmeets_end (fun _ => ?_) K []
  simp only [ATree.all, cmpR_gt0]
  (repeat' with_reducible first | refine And.intro ?_ ?_ | intro _)
  all_goals try (simp only [List.nil_append, List.cons_append, List.append_nil, allP]; (repeat' with_reducible first | refine And.intro ?_ ?_ | intro _) <;> first | omega | decide)
  all_goals (refine avLe0_bool ?_; simp_all [bxmeet, spmeet])
def tSp0 : Contracts := sG :: (tRat ++ (tMM ++ (tGe1 ++ tOver)))
noncomputable def tSp1 : Contracts := sG :: (span_Of, aSpec T tSp0 [] 60 fn_span_Of) :: (span_Hull, aSpec T tSp0 [] 60 fn_span_Hull) :: (ref03_Point, aSpec T tSp0 [] 60 fn_ref03_Point) :: (ref03_Hull, aSpec T tSp0 [] 60 fn_ref03_Hull) :: (ref04_Segment, aSpec T tSp0 [24, 35] 60 fn_ref04_Segment) :: tSp0
noncomputable def tSp2 : Contracts := sG :: (span_Point, aSpec T tSp1 [] 60 fn_span_Point) :: (ref04_PointBox, aSpec T tSp1 [] 60 fn_ref04_PointBox) :: (ref04_SameBox, tp2 dBx dBx (fun a b => .bool (bxsame a.1 b.1)) (b2 40)) :: (vector_Meets, tp2 dBx dBx (fun a b => .bool (bxmeet a.1 b.1)) (b2 40)) :: (ref04_Meets, tp2 dBx dBx (fun a b => .bool (bxmeet a.1 b.1)) (b2 40)) :: tSp1
theorem tSp0_ok : GOK P tSp0 := gok_strict <| gok_append tRat_ok (gok_append tMM_ok (gok_append tGe1_ok tOver_ok))
theorem tSp1_ok : GOK P tSp1 := gok_strict <| gok_cons (aSpec_ok hT tSp0_ok hm is_spOf _ _) (gok_cons (aSpec_ok hT tSp0_ok hm is_spHull _ _) (gok_cons (aSpec_ok hT tSp0_ok hm is_epPoint _ _) (gok_cons (aSpec_ok hT tSp0_ok hm is_epHull _ _) (gok_cons (aSpec_ok hT tSp0_ok hm is_gSeg _ _) tSp0_ok))))
theorem tSp2_ok : GOK P tSp2 := gok_strict <| gok_cons (aSpec_ok hT tSp1_ok hm is_spPoint _ _) (gok_cons (aSpec_ok hT tSp1_ok hm is_epPB _ _) (gok_cons (tp2_ok fun a b K hn => epSB_ok (b2_ok hn).1 (b2_ok hn).2 K) (gok_cons (tp2_ok fun a b K hn => vMeets_ok (b2_ok hn).1 (b2_ok hn).2 K) (gok_cons (tp2_ok fun a b K hn => gMeets_ok (b2_ok hn).1 (b2_ok hn).2 K) tSp1_ok))))
end Go.Am.B

/- vector.BoxOf. -/
namespace Go.Am.B
open Go Go.Am.N AV

theorem is_vBox : FnIs P vector_BoxOf fn_vector_BoxOf (codeOf fn_vector_BoxOf) := fnIs get_vector_BoxOf (by kernel_rfl) (by kernel_rfl) (by kernel_rfl)
noncomputable def GBx : Contracts := nG :: tSp2
def co (v : V3) : Nat → Rat
  | 0 => v.x
  | 1 => v.y
  | _ => v.z
def bxLo (f : Nat → V3) (c : Nat) : Nat → Rat
  | 0 => co (f 0) c
  | m + 1 => minR (bxLo f c m) (co (f (m + 1)) c)
def bxHi (f : Nat → V3) (c : Nat) : Nat → Rat
  | 0 => co (f 0) c
  | m + 1 => maxR (bxHi f c m) (co (f (m + 1)) c)
/-- The box: the first i coordinates are done. -/
abbrev spA (lo hi : Rat) (n : Nat) : AV := .agg [.rat lo n, .rat hi n]
abbrev ptsA (f : Nat → V3) (n : Nat) : AV := .tab 9 n (fun i => vA (f i) 64)
abbrev bxObj (a b c d e g : Rat) : AObj := ⟨false, true, 18, 1, fun _ => .agg [spA a b 64, spA c d 64, spA e g 64]⟩
abbrev zB : AObj := ⟨false, true, 18, 1, fun _ => .agg [spA 0 0 1, spA 0 0 1, spA 0 0 1]⟩
abbrev bxOs (a b c d e g : Rat) : Store := [(5, bxObj a b c d e g), (4, zB)]
abbrev bxL1 : List Nat := [0, 2, 3, 4, 12]
abbrev bxV1 (f : Nat → V3) (n : Nat) (i : Int) : List AV := [ptsA f n, .ptr 4 0 18 0 [], .int .i64 0, .ptr 5 0 18 0 [], .int .i64 i]
abbrev bxL2 : List Nat := [0, 2, 3, 4, 12, 5, 24, 25, 26]
abbrev bxV2 (f : Nat → V3) (n : Nat) (i : Int) (j : Nat) : List AV := [ptsA f n, .ptr 4 0 18 0 [], .int .i64 0, .ptr 5 0 18 0 [], .int .i64 i, .int .i64 i, .tab 9 (n - 1) (fun x => vA (f (x + 1)) 64), .int .i64 ((n - 1 : Nat) : Int), .int .i64 j]
noncomputable abbrev bxY : Code := part (codeOf fn_vector_BoxOf) [1,1,1,0,1,0,0]
noncomputable abbrev bxC : Code := part bxY [1,1,0,0]
theorem vbox_pre {n : Nat} {f : Nat → V3} : seeL T GBx [10] 60 bxL1 (before (codeOf fn_vector_BoxOf) [1,1,1,0,1]) ⟨zipSlots 0 [ptsA f n], [], 0⟩ =
    some (ATree.fork ((↑n : Int) == (0 : Int)) (ATree.must [(0 : Nat) < 1, (0 : Nat) < 1] (ATree.leaf AEx.ret ([tab 9 n fun (i : Nat) ↦ vA (f i) 64, ptr 0 0 18 0 [], int IntKind.i64 (1 : Int), ptr 8192 0 18 0 [], tuple []], [((8192 : Nat), { row := false, wr := true, es := 18, len := 1, f := fun (x : Nat) ↦ agg [agg [rat 0 1, rat 0 1], agg [rat 0 1, rat 0 1], agg [rat 0 1, rat 0 1]] }), ((0 : Nat), { row := false, wr := true, es := 18, len := 1, f := fun (j : Nat) ↦ if (j == 0) = true then deN (agg [agg [rat 0 1, rat 0 1], agg [rat 0 1, rat 0 1], agg [rat 0 1, rat 0 1]]) else agg [agg [rat 0 1, rat 0 1], agg [rat 0 1, rat 0 1], agg [rat 0 1, rat 0 1]] })]))) (ATree.leaf AEx.normal ([tab 9 n fun (i : Nat) ↦ vA (f i) 64, ptr 0 0 18 0 [], int IntKind.i64 (0 : Int), ptr 8192 0 18 0 [], int IntKind.i64 (0 : Int)], [((8192 : Nat), { row := false, wr := true, es := 18, len := 1, f := fun (x : Nat) ↦ agg [agg [rat 0 1, rat 0 1], agg [rat 0 1, rat 0 1], agg [rat 0 1, rat 0 1]] }), ((0 : Nat), { row := false, wr := true, es := 18, len := 1, f := fun (x : Nat) ↦ agg [agg [rat 0 1, rat 0 1], agg [rat 0 1, rat 0 1], agg [rat 0 1, rat 0 1]] })]))) := by kernel_rfl
theorem vbox_exit {n : Nat} {f : Nat → V3} {a b c d e g : Rat} : seeL T GBx [] 60 [2, 4] (before bxY [1,1,0]) ⟨zipL bxL1 (bxV1 f n 3), bxOs a b c d e g, 6⟩ =
    some (ATree.leaf (AEx.exit 0) ([ptr 4 0 18 0 [], ptr 5 0 18 0 []], [((5 : Nat), { row := false, wr := true, es := 18, len := 1, f := fun (x : Nat) ↦ agg [spA a b 64, spA c d 64, spA e g 64] }), ((4 : Nat), { row := false, wr := true, es := 18, len := 1, f := fun (x : Nat) ↦ agg [spA 0 0 1, spA 0 0 1, spA 0 0 1] })])) := by kernel_rfl
theorem vbox_ret {n : Nat} {f : Nat → V3} : endT T fn_vector_BoxOf .ret ⟨zipL [0, 2, 3, 4] [ptsA f n, .ptr 0 0 18 0 [], .int .i64 1, .ptr 8192 0 18 0 []], [(8192, zB), (0, ⟨false, true, 18, 1, fun j => if (j == 0) = true then .agg [spA 0 0 1, spA 0 0 1, spA 0 0 1] else .agg [spA 0 0 1, spA 0 0 1, spA 0 0 1]⟩)], 16384⟩ =
    some (ATree.must [(0 : Nat) < 1] (ATree.leaf AEx.ret [agg [agg [rat 0 1, rat 0 1], agg [rat 0 1, rat 0 1], agg [rat 0 1, rat 0 1]], int IntKind.i64 (1 : Int)])) := by kernel_rfl
theorem vbox_fin {a b c d e g : Rat} : endL T GBx [] 60 fn_vector_BoxOf (behind (codeOf fn_vector_BoxOf) [1,1,1,0,1]) ⟨zipL [2, 4] [.ptr 4 0 18 0 [], .ptr 5 0 18 0 []], bxOs a b c d e g, 6⟩ =
    some (ATree.must [(0 : Nat) < 1, (0 : Nat) < 1] (ATree.must [(0 : Nat) < 1] (ATree.leaf AEx.ret [agg [agg [rat a 64, rat b 64], agg [rat c 64, rat d 64], agg [rat e 64, rat g 64]], int IntKind.i64 (0 : Int)]))) := by kernel_rfl
theorem vbox_h0 {n : Nat} {f : Nat → V3} {a b c d e g : Rat} : seeL T GBx [] 60 bxL1 (before bxY [1,1,0]) ⟨zipL bxL1 (bxV1 f n 0), bxOs a b c d e g, 6⟩ =
    some (ATree.leaf AEx.normal ([tab 9 n fun (i : Nat) ↦ vA (f i) 64, ptr 4 0 18 0 [], int IntKind.i64 (0 : Int), ptr 5 0 18 0 [], int IntKind.i64 (0 : Int)], [((5 : Nat), { row := false, wr := true, es := 18, len := 1, f := fun (x : Nat) ↦ agg [spA a b 64, spA c d 64, spA e g 64] }), ((4 : Nat), { row := false, wr := true, es := 18, len := 1, f := fun (x : Nat) ↦ agg [spA 0 0 1, spA 0 0 1, spA 0 0 1] })])) := by kernel_rfl
theorem vbox_i0 {n : Nat} {f : Nat → V3} {a b c d e g : Rat} : seeL T GBx [] 60 bxL2 (before bxC [1,1,1]) ⟨zipL bxL1 (bxV1 f n 0), bxOs a b c d e g, 6⟩ =
    some (ATree.must [(0 : Int) ≤ (0 : Int) ∧ Int.toNat (0 : Int) < n, (0 : Int) ≤ (0 : Int) ∧ (0 : Int) < (↑(3 : Nat) : Int), (0 : Nat) < 1, (0 : Nat) < 1, (0 : Int) ≤ (0 : Int) ∧ (0 : Int) < (↑(3 : Nat) : Int), (0 : Nat) < 1] (ATree.must [(0 : Int) ≤ (1 : Int) ∧ (1 : Int) ≤ (↑n : Int) ∧ (↑n : Int) ≤ (↑n : Int) ∧ (↑n : Int) ≤ (↑n : Int)] (ATree.leaf AEx.normal ([tab 9 n fun (i : Nat) ↦ vA (f i) 64, ptr 4 0 18 0 [], int IntKind.i64 (0 : Int), ptr 5 0 18 0 [], int IntKind.i64 (0 : Int), int IntKind.i64 (0 : Int), tab 9 ((↑n : Int).toNat - Int.toNat (1 : Int)) fun (i : Nat) ↦ vA (f (i + Int.toNat (1 : Int))) 64, int IntKind.i64 (↑((↑n : Int).toNat - Int.toNat (1 : Int)) : Int), int IntKind.i64 (0 : Int)], [((5 : Nat), { row := false, wr := true, es := 18, len := 1, f := fun (j : Nat) ↦ if (j == 0) = true then agg ((agg [spA a b 64, spA c d 64, spA e g 64]).kids.set (Int.toNat (0 : Int)) (deN (agg [rat (minR (f (Int.toNat (0 : Int))).x (f (Int.toNat (0 : Int))).x) (max 64 64), rat (maxR (f (Int.toNat (0 : Int))).x (f (Int.toNat (0 : Int))).x) (max 64 64)]))) else agg [spA a b 64, spA c d 64, spA e g 64] }), ((4 : Nat), { row := false, wr := true, es := 18, len := 1, f := fun (x : Nat) ↦ agg [spA 0 0 1, spA 0 0 1, spA 0 0 1] })])))) := by kernel_rfl
theorem vbox_b0 {n j : Nat} {f : Nat → V3} {a b c d e g : Rat} : seeL T GBx [27] 60 bxL2 [part bxC [1,1,1,0,0]] ⟨zipL bxL2 (bxV2 f n 0 j), bxOs a b c d e g, 6⟩ =
    some (ATree.fork (decide ((↑j : Int) < (↑(n - 1) : Int))) (ATree.must [(0 : Int) ≤ (↑j : Int) ∧ (↑j : Int).toNat < n - 1, (0 : Nat) < 1] (ATree.must [(0 : Int) ≤ (0 : Int) ∧ (0 : Int) < (↑(3 : Nat) : Int), (0 : Nat) < 1, (0 : Int) ≤ (0 : Int) ∧ (0 : Int) < (↑(3 : Nat) : Int), (0 : Nat) < 1, (0 : Nat) < 1, (0 : Nat) < 1, (0 : Nat) < 1, (0 : Int) ≤ (0 : Int) ∧ (0 : Int) < (↑(3 : Nat) : Int), (0 : Nat) < 1] (ATree.must [-(2 : Int) ^ 63 ≤ (↑j : Int) + (1 : Int) ∧ (↑j : Int) + (1 : Int) < (2 : Int) ^ 63] (ATree.leaf AEx.normal ([tab 9 n fun (i : Nat) ↦ vA (f i) 64, ptr 4 0 18 0 [], int IntKind.i64 (0 : Int), ptr 5 0 18 0 [], int IntKind.i64 (0 : Int), int IntKind.i64 (0 : Int), tab 9 (n - 1) fun (x : Nat) ↦ vA (f (x + 1)) 64, int IntKind.i64 (↑(n - 1) : Int), int IntKind.i64 ((↑j : Int) + (1 : Int))], [((5 : Nat), { row := false, wr := true, es := 18, len := 1, f := fun (j_1 : Nat) ↦ if (j_1 == 0) = true then agg ((agg [spA a b 64, spA c d 64, spA e g 64]).kids.set (Int.toNat (0 : Int)) (deN (agg [rat (minR a (minR (f ((↑j : Int).toNat + 1)).x (f ((↑j : Int).toNat + 1)).x)) (max 64 (max 64 64)), rat (maxR b (maxR (f ((↑j : Int).toNat + 1)).x (f ((↑j : Int).toNat + 1)).x)) (max 64 (max 64 64))]))) else agg [spA a b 64, spA c d 64, spA e g 64] }), ((4 : Nat), { row := false, wr := true, es := 18, len := 1, f := fun (x : Nat) ↦ agg [spA 0 0 1, spA 0 0 1, spA 0 0 1] })]))))) (ATree.leaf (AEx.exit 2) ([tab 9 n fun (i : Nat) ↦ vA (f i) 64, ptr 4 0 18 0 [], int IntKind.i64 (0 : Int), ptr 5 0 18 0 [], int IntKind.i64 (0 : Int), int IntKind.i64 (0 : Int), tab 9 (n - 1) fun (x : Nat) ↦ vA (f (x + 1)) 64, int IntKind.i64 (↑(n - 1) : Int), int IntKind.i64 (↑j : Int)], [((5 : Nat), { row := false, wr := true, es := 18, len := 1, f := fun (x : Nat) ↦ agg [spA a b 64, spA c d 64, spA e g 64] }), ((4 : Nat), { row := false, wr := true, es := 18, len := 1, f := fun (x : Nat) ↦ agg [spA 0 0 1, spA 0 0 1, spA 0 0 1] })]))) := by kernel_rfl
theorem vbox_n0 {n j : Nat} {f : Nat → V3} {a b c d e g : Rat} : seeL T GBx [] 60 bxL1 (behind bxY [1,1,0]) ⟨zipL bxL2 (bxV2 f n 0 j), bxOs a b c d e g, 6⟩ =
    some (ATree.must [-(2 : Int) ^ 63 ≤ (0 : Int) + (1 : Int) ∧ (0 : Int) + (1 : Int) < (2 : Int) ^ 63] (ATree.leaf AEx.normal ([tab 9 n fun (i : Nat) ↦ vA (f i) 64, ptr 4 0 18 0 [], int IntKind.i64 (0 : Int), ptr 5 0 18 0 [], int IntKind.i64 (1 : Int)], [((5 : Nat), { row := false, wr := true, es := 18, len := 1, f := fun (x : Nat) ↦ agg [spA a b 64, spA c d 64, spA e g 64] }), ((4 : Nat), { row := false, wr := true, es := 18, len := 1, f := fun (x : Nat) ↦ agg [spA 0 0 1, spA 0 0 1, spA 0 0 1] })]))) := by kernel_rfl
theorem vbox_h1 {n : Nat} {f : Nat → V3} {a b c d e g : Rat} : seeL T GBx [] 60 bxL1 (before bxY [1,1,0]) ⟨zipL bxL1 (bxV1 f n 1), bxOs a b c d e g, 6⟩ =
    some (ATree.leaf AEx.normal ([tab 9 n fun (i : Nat) ↦ vA (f i) 64, ptr 4 0 18 0 [], int IntKind.i64 (0 : Int), ptr 5 0 18 0 [], int IntKind.i64 (1 : Int)], [((5 : Nat), { row := false, wr := true, es := 18, len := 1, f := fun (x : Nat) ↦ agg [spA a b 64, spA c d 64, spA e g 64] }), ((4 : Nat), { row := false, wr := true, es := 18, len := 1, f := fun (x : Nat) ↦ agg [spA 0 0 1, spA 0 0 1, spA 0 0 1] })])) := by kernel_rfl
theorem vbox_i1 {n : Nat} {f : Nat → V3} {a b c d e g : Rat} : seeL T GBx [] 60 bxL2 (before bxC [1,1,1]) ⟨zipL bxL1 (bxV1 f n 1), bxOs a b c d e g, 6⟩ =
    some (ATree.must [(0 : Int) ≤ (0 : Int) ∧ Int.toNat (0 : Int) < n, (0 : Int) ≤ (1 : Int) ∧ (1 : Int) < (↑(3 : Nat) : Int), (0 : Nat) < 1, (0 : Nat) < 1, (0 : Int) ≤ (1 : Int) ∧ (1 : Int) < (↑(3 : Nat) : Int), (0 : Nat) < 1] (ATree.must [(0 : Int) ≤ (1 : Int) ∧ (1 : Int) ≤ (↑n : Int) ∧ (↑n : Int) ≤ (↑n : Int) ∧ (↑n : Int) ≤ (↑n : Int)] (ATree.leaf AEx.normal ([tab 9 n fun (i : Nat) ↦ vA (f i) 64, ptr 4 0 18 0 [], int IntKind.i64 (0 : Int), ptr 5 0 18 0 [], int IntKind.i64 (1 : Int), int IntKind.i64 (1 : Int), tab 9 ((↑n : Int).toNat - Int.toNat (1 : Int)) fun (i : Nat) ↦ vA (f (i + Int.toNat (1 : Int))) 64, int IntKind.i64 (↑((↑n : Int).toNat - Int.toNat (1 : Int)) : Int), int IntKind.i64 (0 : Int)], [((5 : Nat), { row := false, wr := true, es := 18, len := 1, f := fun (j : Nat) ↦ if (j == 0) = true then agg ((agg [spA a b 64, spA c d 64, spA e g 64]).kids.set (Int.toNat (1 : Int)) (deN (agg [rat (minR (f (Int.toNat (0 : Int))).y (f (Int.toNat (0 : Int))).y) (max 64 64), rat (maxR (f (Int.toNat (0 : Int))).y (f (Int.toNat (0 : Int))).y) (max 64 64)]))) else agg [spA a b 64, spA c d 64, spA e g 64] }), ((4 : Nat), { row := false, wr := true, es := 18, len := 1, f := fun (x : Nat) ↦ agg [spA 0 0 1, spA 0 0 1, spA 0 0 1] })])))) := by kernel_rfl
theorem vbox_b1 {n j : Nat} {f : Nat → V3} {a b c d e g : Rat} : seeL T GBx [27] 60 bxL2 [part bxC [1,1,1,0,0]] ⟨zipL bxL2 (bxV2 f n 1 j), bxOs a b c d e g, 6⟩ =
    some (ATree.fork (decide ((↑j : Int) < (↑(n - 1) : Int))) (ATree.must [(0 : Int) ≤ (↑j : Int) ∧ (↑j : Int).toNat < n - 1, (0 : Nat) < 1] (ATree.must [(0 : Int) ≤ (1 : Int) ∧ (1 : Int) < (↑(3 : Nat) : Int), (0 : Nat) < 1, (0 : Int) ≤ (1 : Int) ∧ (1 : Int) < (↑(3 : Nat) : Int), (0 : Nat) < 1, (0 : Nat) < 1, (0 : Nat) < 1, (0 : Nat) < 1, (0 : Int) ≤ (1 : Int) ∧ (1 : Int) < (↑(3 : Nat) : Int), (0 : Nat) < 1] (ATree.must [-(2 : Int) ^ 63 ≤ (↑j : Int) + (1 : Int) ∧ (↑j : Int) + (1 : Int) < (2 : Int) ^ 63] (ATree.leaf AEx.normal ([tab 9 n fun (i : Nat) ↦ vA (f i) 64, ptr 4 0 18 0 [], int IntKind.i64 (0 : Int), ptr 5 0 18 0 [], int IntKind.i64 (1 : Int), int IntKind.i64 (1 : Int), tab 9 (n - 1) fun (x : Nat) ↦ vA (f (x + 1)) 64, int IntKind.i64 (↑(n - 1) : Int), int IntKind.i64 ((↑j : Int) + (1 : Int))], [((5 : Nat), { row := false, wr := true, es := 18, len := 1, f := fun (j_1 : Nat) ↦ if (j_1 == 0) = true then agg ((agg [spA a b 64, spA c d 64, spA e g 64]).kids.set (Int.toNat (1 : Int)) (deN (agg [rat (minR c (minR (f ((↑j : Int).toNat + 1)).y (f ((↑j : Int).toNat + 1)).y)) (max 64 (max 64 64)), rat (maxR d (maxR (f ((↑j : Int).toNat + 1)).y (f ((↑j : Int).toNat + 1)).y)) (max 64 (max 64 64))]))) else agg [spA a b 64, spA c d 64, spA e g 64] }), ((4 : Nat), { row := false, wr := true, es := 18, len := 1, f := fun (x : Nat) ↦ agg [spA 0 0 1, spA 0 0 1, spA 0 0 1] })]))))) (ATree.leaf (AEx.exit 2) ([tab 9 n fun (i : Nat) ↦ vA (f i) 64, ptr 4 0 18 0 [], int IntKind.i64 (0 : Int), ptr 5 0 18 0 [], int IntKind.i64 (1 : Int), int IntKind.i64 (1 : Int), tab 9 (n - 1) fun (x : Nat) ↦ vA (f (x + 1)) 64, int IntKind.i64 (↑(n - 1) : Int), int IntKind.i64 (↑j : Int)], [((5 : Nat), { row := false, wr := true, es := 18, len := 1, f := fun (x : Nat) ↦ agg [spA a b 64, spA c d 64, spA e g 64] }), ((4 : Nat), { row := false, wr := true, es := 18, len := 1, f := fun (x : Nat) ↦ agg [spA 0 0 1, spA 0 0 1, spA 0 0 1] })]))) := by kernel_rfl
theorem vbox_n1 {n j : Nat} {f : Nat → V3} {a b c d e g : Rat} : seeL T GBx [] 60 bxL1 (behind bxY [1,1,0]) ⟨zipL bxL2 (bxV2 f n 1 j), bxOs a b c d e g, 6⟩ =
    some (ATree.must [-(2 : Int) ^ 63 ≤ (1 : Int) + (1 : Int) ∧ (1 : Int) + (1 : Int) < (2 : Int) ^ 63] (ATree.leaf AEx.normal ([tab 9 n fun (i : Nat) ↦ vA (f i) 64, ptr 4 0 18 0 [], int IntKind.i64 (0 : Int), ptr 5 0 18 0 [], int IntKind.i64 (2 : Int)], [((5 : Nat), { row := false, wr := true, es := 18, len := 1, f := fun (x : Nat) ↦ agg [spA a b 64, spA c d 64, spA e g 64] }), ((4 : Nat), { row := false, wr := true, es := 18, len := 1, f := fun (x : Nat) ↦ agg [spA 0 0 1, spA 0 0 1, spA 0 0 1] })]))) := by kernel_rfl
theorem vbox_h2 {n : Nat} {f : Nat → V3} {a b c d e g : Rat} : seeL T GBx [] 60 bxL1 (before bxY [1,1,0]) ⟨zipL bxL1 (bxV1 f n 2), bxOs a b c d e g, 6⟩ =
    some (ATree.leaf AEx.normal ([tab 9 n fun (i : Nat) ↦ vA (f i) 64, ptr 4 0 18 0 [], int IntKind.i64 (0 : Int), ptr 5 0 18 0 [], int IntKind.i64 (2 : Int)], [((5 : Nat), { row := false, wr := true, es := 18, len := 1, f := fun (x : Nat) ↦ agg [spA a b 64, spA c d 64, spA e g 64] }), ((4 : Nat), { row := false, wr := true, es := 18, len := 1, f := fun (x : Nat) ↦ agg [spA 0 0 1, spA 0 0 1, spA 0 0 1] })])) := by kernel_rfl
theorem vbox_i2 {n : Nat} {f : Nat → V3} {a b c d e g : Rat} : seeL T GBx [] 60 bxL2 (before bxC [1,1,1]) ⟨zipL bxL1 (bxV1 f n 2), bxOs a b c d e g, 6⟩ =
    some (ATree.must [(0 : Int) ≤ (0 : Int) ∧ Int.toNat (0 : Int) < n, (0 : Int) ≤ (2 : Int) ∧ (2 : Int) < (↑(3 : Nat) : Int), (0 : Nat) < 1, (0 : Nat) < 1, (0 : Int) ≤ (2 : Int) ∧ (2 : Int) < (↑(3 : Nat) : Int), (0 : Nat) < 1] (ATree.must [(0 : Int) ≤ (1 : Int) ∧ (1 : Int) ≤ (↑n : Int) ∧ (↑n : Int) ≤ (↑n : Int) ∧ (↑n : Int) ≤ (↑n : Int)] (ATree.leaf AEx.normal ([tab 9 n fun (i : Nat) ↦ vA (f i) 64, ptr 4 0 18 0 [], int IntKind.i64 (0 : Int), ptr 5 0 18 0 [], int IntKind.i64 (2 : Int), int IntKind.i64 (2 : Int), tab 9 ((↑n : Int).toNat - Int.toNat (1 : Int)) fun (i : Nat) ↦ vA (f (i + Int.toNat (1 : Int))) 64, int IntKind.i64 (↑((↑n : Int).toNat - Int.toNat (1 : Int)) : Int), int IntKind.i64 (0 : Int)], [((5 : Nat), { row := false, wr := true, es := 18, len := 1, f := fun (j : Nat) ↦ if (j == 0) = true then agg ((agg [spA a b 64, spA c d 64, spA e g 64]).kids.set (Int.toNat (2 : Int)) (deN (agg [rat (minR (f (Int.toNat (0 : Int))).z (f (Int.toNat (0 : Int))).z) (max 64 64), rat (maxR (f (Int.toNat (0 : Int))).z (f (Int.toNat (0 : Int))).z) (max 64 64)]))) else agg [spA a b 64, spA c d 64, spA e g 64] }), ((4 : Nat), { row := false, wr := true, es := 18, len := 1, f := fun (x : Nat) ↦ agg [spA 0 0 1, spA 0 0 1, spA 0 0 1] })])))) := by kernel_rfl
theorem vbox_b2 {n j : Nat} {f : Nat → V3} {a b c d e g : Rat} : seeL T GBx [27] 60 bxL2 [part bxC [1,1,1,0,0]] ⟨zipL bxL2 (bxV2 f n 2 j), bxOs a b c d e g, 6⟩ =
    some (ATree.fork (decide ((↑j : Int) < (↑(n - 1) : Int))) (ATree.must [(0 : Int) ≤ (↑j : Int) ∧ (↑j : Int).toNat < n - 1, (0 : Nat) < 1] (ATree.must [(0 : Int) ≤ (2 : Int) ∧ (2 : Int) < (↑(3 : Nat) : Int), (0 : Nat) < 1, (0 : Int) ≤ (2 : Int) ∧ (2 : Int) < (↑(3 : Nat) : Int), (0 : Nat) < 1, (0 : Nat) < 1, (0 : Nat) < 1, (0 : Nat) < 1, (0 : Int) ≤ (2 : Int) ∧ (2 : Int) < (↑(3 : Nat) : Int), (0 : Nat) < 1] (ATree.must [-(2 : Int) ^ 63 ≤ (↑j : Int) + (1 : Int) ∧ (↑j : Int) + (1 : Int) < (2 : Int) ^ 63] (ATree.leaf AEx.normal ([tab 9 n fun (i : Nat) ↦ vA (f i) 64, ptr 4 0 18 0 [], int IntKind.i64 (0 : Int), ptr 5 0 18 0 [], int IntKind.i64 (2 : Int), int IntKind.i64 (2 : Int), tab 9 (n - 1) fun (x : Nat) ↦ vA (f (x + 1)) 64, int IntKind.i64 (↑(n - 1) : Int), int IntKind.i64 ((↑j : Int) + (1 : Int))], [((5 : Nat), { row := false, wr := true, es := 18, len := 1, f := fun (j_1 : Nat) ↦ if (j_1 == 0) = true then agg ((agg [spA a b 64, spA c d 64, spA e g 64]).kids.set (Int.toNat (2 : Int)) (deN (agg [rat (minR e (minR (f ((↑j : Int).toNat + 1)).z (f ((↑j : Int).toNat + 1)).z)) (max 64 (max 64 64)), rat (maxR g (maxR (f ((↑j : Int).toNat + 1)).z (f ((↑j : Int).toNat + 1)).z)) (max 64 (max 64 64))]))) else agg [spA a b 64, spA c d 64, spA e g 64] }), ((4 : Nat), { row := false, wr := true, es := 18, len := 1, f := fun (x : Nat) ↦ agg [spA 0 0 1, spA 0 0 1, spA 0 0 1] })]))))) (ATree.leaf (AEx.exit 2) ([tab 9 n fun (i : Nat) ↦ vA (f i) 64, ptr 4 0 18 0 [], int IntKind.i64 (0 : Int), ptr 5 0 18 0 [], int IntKind.i64 (2 : Int), int IntKind.i64 (2 : Int), tab 9 (n - 1) fun (x : Nat) ↦ vA (f (x + 1)) 64, int IntKind.i64 (↑(n - 1) : Int), int IntKind.i64 (↑j : Int)], [((5 : Nat), { row := false, wr := true, es := 18, len := 1, f := fun (x : Nat) ↦ agg [spA a b 64, spA c d 64, spA e g 64] }), ((4 : Nat), { row := false, wr := true, es := 18, len := 1, f := fun (x : Nat) ↦ agg [spA 0 0 1, spA 0 0 1, spA 0 0 1] })]))) := by kernel_rfl
theorem vbox_n2 {n j : Nat} {f : Nat → V3} {a b c d e g : Rat} : seeL T GBx [] 60 bxL1 (behind bxY [1,1,0]) ⟨zipL bxL2 (bxV2 f n 2 j), bxOs a b c d e g, 6⟩ =
    some (ATree.must [-(2 : Int) ^ 63 ≤ (2 : Int) + (1 : Int) ∧ (2 : Int) + (1 : Int) < (2 : Int) ^ 63] (ATree.leaf AEx.normal ([tab 9 n fun (i : Nat) ↦ vA (f i) 64, ptr 4 0 18 0 [], int IntKind.i64 (0 : Int), ptr 5 0 18 0 [], int IntKind.i64 (3 : Int)], [((5 : Nat), { row := false, wr := true, es := 18, len := 1, f := fun (x : Nat) ↦ agg [spA a b 64, spA c d 64, spA e g 64] }), ((4 : Nat), { row := false, wr := true, es := 18, len := 1, f := fun (x : Nat) ↦ agg [spA 0 0 1, spA 0 0 1, spA 0 0 1] })]))) := by kernel_rfl

theorem GBx_ok : GOK P GBx := gok_plain tSp2_ok
def bxA (f : Nat → V3) (n : Nat) : AV := .agg [spA (bxLo f 0 (n - 1)) (bxHi f 0 (n - 1)) 64, spA (bxLo f 1 (n - 1)) (bxHi f 1 (n - 1)) 64, spA (bxLo f 2 (n - 1)) (bxHi f 2 (n - 1)) 64]
def bxRes (f : Nat → V3) (n : Nat) : AV := if n = 0 then .tuple [.agg [spA 0 0 64, spA 0 0 64, spA 0 0 64], .int .i64 1] else .tuple [bxA f n, .int .i64 0]
/-- The spans of the first i coordinates. -/
def bxD (f : Nat → V3) (n i c : Nat) : Rat × Rat := if c < i then (bxLo f c (n - 1), bxHi f c (n - 1)) else (0, 0)
theorem minR_self {x : Rat} : minR x x = x := by unfold minR; split <;> rfl
theorem maxR_self {x : Rat} : maxR x x = x := by unfold maxR; split <;> rfl
abbrev bxO (f : Nat → V3) (n i : Nat) : Store := bxOs (bxD f n i 0).1 (bxD f n i 0).2 (bxD f n i 1).1 (bxD f n i 1).2 (bxD f n i 2).1 (bxD f n i 2).2
theorem okO_bx {a b c d e g : Rat} : okO 6 (bxOs a b c d e g) := ⟨⟨by omega, fun i _ => rfl⟩, ⟨by omega, fun i _ => rfl⟩, trivial⟩
theorem bxZero {ρ : Nat → Option Nat} : avLe ρ (.agg [.agg [.rat 0 1, .rat 0 1], .agg [.rat 0 1, .rat 0 1], .agg [.rat 0 1, .rat 0 1]]) (.agg [spA 0 0 64, spA 0 0 64, spA 0 0 64]) :=
  have h : avLe0 (.agg [.rat 0 1, .rat 0 1]) (spA 0 0 64) := avLe0_agg ⟨avLe0_rat_more (by omega), avLe0_rat_more (by omega), trivial⟩
  avLe_of0 rfl (avLe0_agg ⟨h, h, h, trivial⟩)
theorem bxZero0 : avLe0 (.agg [.agg [.rat 0 1, .rat 0 1], .agg [.rat 0 1, .rat 0 1], .agg [.rat 0 1, .rat 0 1]]) (.agg [spA 0 0 64, spA 0 0 64, spA 0 0 64]) :=
  have h : avLe0 (.agg [.rat 0 1, .rat 0 1]) (spA 0 0 64) := avLe0_agg ⟨avLe0_rat_more (by omega), avLe0_rat_more (by omega), trivial⟩
  avLe0_agg ⟨h, h, h, trivial⟩
theorem k0_no {c : Ctx} (h0 : ∀ nx k x, c.k0 k = some x → k < nx) : c.k0 = noKeys := by
  funext k
  cases h : c.k0 k with
  | none => rfl
  | some x => have := h0 0 k x h; omega
set_option maxHeartbeats 1000000 in
theorem vBoxOf_ok {n : Nat} {f : Nat → V3} (hn : n < 2 ^ 40) (K : Nat) : FOK P vector_BoxOf K [ptsA f n] [] (pres (bxRes f n) []) := by
  refine fok_down hT is_vBox rfl (of_decide_eq_true (by kernel_rfl)) rfl (fun _ c0 h0 => ?_) K []
  refine AWp.hole [1,1,1,0,1] (by kernel_rfl) (AWpL.see hT GBx_ok hm 60 bxL1 vbox_pre (by kernel_rfl) ?_)
  refine ⟨fun hb => ⟨⟨Nat.zero_lt_one, Nat.zero_lt_one⟩, fun s' hv => ?_⟩, fun hb s' hv => ?_⟩
  · refine then_ret (finD (nx := 16384) vbox_ret (view_take (ls := [0, 2, 3, 4]) (l := [12]) (us := [.tuple []]) hv rfl rfl) (h0 _) rfl ⟨⟨by omega, fun i _ => rfl⟩, ⟨by omega, fun i _ => by show keys (if (i == 0) = true then _ else _) = []; split <;> rfl⟩, trivial⟩ ?_)
    have hn0 : n = 0 := by have := eq_of_beq hb; omega
    unfold bxRes
    rw [if_pos hn0]
    exact ⟨Nat.zero_lt_one, bxZero0, .refl _, trivial⟩
  have hn0 : n ≠ 0 := by intro e; subst e; simp at hb
  refine then_go ?_
  refine AWp.whileLe (i := 0) (y := bxY) (by kernel_rfl) (fun i : Nat => ⟨zipL bxL1 (bxV1 f n i), bxO f n i, 6⟩) (fun i => i ≤ 3) (fun i => 3 - i) 0 ?_ (by omega) ?_
  · exact le_view [(5, 8192), (4, 0)] hv (k0_no h0) rfl ⟨⟨rfl, avLe_pure rfl⟩, ⟨rfl, avLe_ptr rfl⟩, ⟨rfl, avLe_pure rfl⟩, ⟨rfl, avLe_ptr rfl⟩, ⟨rfl, avLe_pure rfl⟩, trivial⟩ ⟨⟨8192, _, rfl, rfl, objLe_of rfl fun i hi => bxZero⟩, ⟨0, _, rfl, rfl, objLe_of rfl fun i hi => avLe_pure rfl⟩, trivial⟩
  rintro i hi
  match i, hi with
  | 0, _ =>
    refine AWp.hole [1,1,0] (by kernel_rfl) (AWpL.see hT GBx_ok hm 60 bxL1 vbox_h0 (by kernel_rfl) fun s' hv => then_go ?_)
    refine AWp.blockAt (i := 1) (y := bxC) (by kernel_rfl) (AWp.fromV hv (h0 _) rfl okO_bx ?_)
    refine AWp.hole [1,1,1] (by kernel_rfl) (AWpL.see hT GBx_ok hm 60 bxL2 vbox_i0 (by kernel_rfl) ?_)
    simp only [ATree.all, allP]
    refine ⟨by omega, by omega, fun s' hv => then_go ?_⟩
    refine AWp.whileLe (i := 2) (y := part bxC [1,1,1,0,0]) (by kernel_rfl) (fun j : Nat => ⟨zipL bxL2 (bxV2 f n 0 j), bxOs (bxLo f 0 j) (bxHi f 0 j) 0 0 0 0, 6⟩) (fun j => j ≤ n - 1) (fun j => n - 1 - j) 0 (le_ren [(5, 5), (4, 4)] hv h0 rfl rfl rfl (objsR_cons rfl rfl (fun i hi => ⟨rfl, ?_⟩) (objsR_cons rfl rfl (fun i hi => ⟨rfl, rfl⟩) trivial))) (by omega) ?_
    · rw [show i = 0 by omega]; simp only [minR_self, maxR_self]; rfl
    intro j hj
    refine AWp.see hT GBx_ok hm 60 bxL2 vbox_b0 (by kernel_rfl) ?_
    simp only [ATree.all, allP, decide_eq_true_eq, decide_eq_false_iff_not]
    refine ⟨fun h1 => ⟨by omega, by omega, by omega, fun s' hv => ⟨j + 1, le_ren [(5, 5), (4, 4)] hv h0 rfl rfl rfl (objsR_cons rfl rfl (fun i hi => ⟨rfl, ?_⟩) (objsR_cons rfl rfl (fun i hi => ⟨rfl, rfl⟩) trivial)), by omega, by omega⟩⟩, fun h1 s' hv => then_exit ?_⟩
    · have hi0 : i = 0 := Nat.lt_one_iff.1 hi
      rw [hi0]; simp only [minR_self, maxR_self]; rfl
    refine then_go ?_
    rw [show behind bxC [1,1,1] = [] from by kernel_rfl]
    refine (show AWpL P c0 fn_vector_BoxOf.ntmps (behind bxY [1,1,0]) s' _ from AWpL.seeV hT GBx_ok hm 60 hv (h0 _) rfl okO_bx bxL1 vbox_n0 (by kernel_rfl) (by kernel_rfl) ?_)
    have hjn : j = n - 1 := by omega
    subst hjn
    exact ⟨by simp only [allP]; omega, fun s' hv => ⟨1, le_ren [(5, 5), (4, 4)] hv h0 rfl rfl rfl (objsR_cons rfl rfl (fun i hi => ⟨rfl, rfl⟩) (objsR_cons rfl rfl (fun i hi => ⟨rfl, rfl⟩) trivial)), by omega, by omega⟩⟩
  | 1, _ =>
    refine AWp.hole [1,1,0] (by kernel_rfl) (AWpL.see hT GBx_ok hm 60 bxL1 vbox_h1 (by kernel_rfl) fun s' hv => then_go ?_)
    refine AWp.blockAt (i := 1) (y := bxC) (by kernel_rfl) (AWp.fromV hv (h0 _) rfl okO_bx ?_)
    refine AWp.hole [1,1,1] (by kernel_rfl) (AWpL.see hT GBx_ok hm 60 bxL2 vbox_i1 (by kernel_rfl) ?_)
    simp only [ATree.all, allP]
    refine ⟨by omega, by omega, fun s' hv => then_go ?_⟩
    refine AWp.whileLe (i := 2) (y := part bxC [1,1,1,0,0]) (by kernel_rfl) (fun j : Nat => ⟨zipL bxL2 (bxV2 f n 1 j), bxOs (bxD f n 1 0).1 (bxD f n 1 0).2 (bxLo f 1 j) (bxHi f 1 j) 0 0, 6⟩) (fun j => j ≤ n - 1) (fun j => n - 1 - j) 0 (le_ren [(5, 5), (4, 4)] hv h0 rfl rfl rfl (objsR_cons rfl rfl (fun i hi => ⟨rfl, ?_⟩) (objsR_cons rfl rfl (fun i hi => ⟨rfl, rfl⟩) trivial))) (by omega) ?_
    · rw [show i = 0 by omega]; simp only [minR_self, maxR_self]; rfl
    intro j hj
    refine AWp.see hT GBx_ok hm 60 bxL2 vbox_b1 (by kernel_rfl) ?_
    simp only [ATree.all, allP, decide_eq_true_eq, decide_eq_false_iff_not]
    refine ⟨fun h1 => ⟨by omega, by omega, by omega, fun s' hv => ⟨j + 1, le_ren [(5, 5), (4, 4)] hv h0 rfl rfl rfl (objsR_cons rfl rfl (fun i hi => ⟨rfl, ?_⟩) (objsR_cons rfl rfl (fun i hi => ⟨rfl, rfl⟩) trivial)), by omega, by omega⟩⟩, fun h1 s' hv => then_exit ?_⟩
    · have hi0 : i = 0 := Nat.lt_one_iff.1 hi
      rw [hi0]; simp only [minR_self, maxR_self]; rfl
    refine then_go ?_
    rw [show behind bxC [1,1,1] = [] from by kernel_rfl]
    refine (show AWpL P c0 fn_vector_BoxOf.ntmps (behind bxY [1,1,0]) s' _ from AWpL.seeV hT GBx_ok hm 60 hv (h0 _) rfl okO_bx bxL1 vbox_n1 (by kernel_rfl) (by kernel_rfl) ?_)
    have hjn : j = n - 1 := by omega
    subst hjn
    exact ⟨by simp only [allP]; omega, fun s' hv => ⟨2, le_ren [(5, 5), (4, 4)] hv h0 rfl rfl rfl (objsR_cons rfl rfl (fun i hi => ⟨rfl, rfl⟩) (objsR_cons rfl rfl (fun i hi => ⟨rfl, rfl⟩) trivial)), by omega, by omega⟩⟩
  | 2, _ =>
    refine AWp.hole [1,1,0] (by kernel_rfl) (AWpL.see hT GBx_ok hm 60 bxL1 vbox_h2 (by kernel_rfl) fun s' hv => then_go ?_)
    refine AWp.blockAt (i := 1) (y := bxC) (by kernel_rfl) (AWp.fromV hv (h0 _) rfl okO_bx ?_)
    refine AWp.hole [1,1,1] (by kernel_rfl) (AWpL.see hT GBx_ok hm 60 bxL2 vbox_i2 (by kernel_rfl) ?_)
    simp only [ATree.all, allP]
    refine ⟨by omega, by omega, fun s' hv => then_go ?_⟩
    refine AWp.whileLe (i := 2) (y := part bxC [1,1,1,0,0]) (by kernel_rfl) (fun j : Nat => ⟨zipL bxL2 (bxV2 f n 2 j), bxOs (bxD f n 2 0).1 (bxD f n 2 0).2 (bxD f n 2 1).1 (bxD f n 2 1).2 (bxLo f 2 j) (bxHi f 2 j), 6⟩) (fun j => j ≤ n - 1) (fun j => n - 1 - j) 0 (le_ren [(5, 5), (4, 4)] hv h0 rfl rfl rfl (objsR_cons rfl rfl (fun i hi => ⟨rfl, ?_⟩) (objsR_cons rfl rfl (fun i hi => ⟨rfl, rfl⟩) trivial))) (by omega) ?_
    · rw [show i = 0 by omega]; simp only [minR_self, maxR_self]; rfl
    intro j hj
    refine AWp.see hT GBx_ok hm 60 bxL2 vbox_b2 (by kernel_rfl) ?_
    simp only [ATree.all, allP, decide_eq_true_eq, decide_eq_false_iff_not]
    refine ⟨fun h1 => ⟨by omega, by omega, by omega, fun s' hv => ⟨j + 1, le_ren [(5, 5), (4, 4)] hv h0 rfl rfl rfl (objsR_cons rfl rfl (fun i hi => ⟨rfl, ?_⟩) (objsR_cons rfl rfl (fun i hi => ⟨rfl, rfl⟩) trivial)), by omega, by omega⟩⟩, fun h1 s' hv => then_exit ?_⟩
    · have hi0 : i = 0 := Nat.lt_one_iff.1 hi
      rw [hi0]; simp only [minR_self, maxR_self]; rfl
    refine then_go ?_
    rw [show behind bxC [1,1,1] = [] from by kernel_rfl]
    refine (show AWpL P c0 fn_vector_BoxOf.ntmps (behind bxY [1,1,0]) s' _ from AWpL.seeV hT GBx_ok hm 60 hv (h0 _) rfl okO_bx bxL1 vbox_n2 (by kernel_rfl) (by kernel_rfl) ?_)
    have hjn : j = n - 1 := by omega
    subst hjn
    exact ⟨by simp only [allP]; omega, fun s' hv => ⟨3, le_ren [(5, 5), (4, 4)] hv h0 rfl rfl rfl (objsR_cons rfl rfl (fun i hi => ⟨rfl, rfl⟩) (objsR_cons rfl rfl (fun i hi => ⟨rfl, rfl⟩) trivial)), by omega, by omega⟩⟩
  | 3, _ =>
    refine AWp.hole [1,1,0] (by kernel_rfl) (AWpL.see hT GBx_ok hm 60 [2, 4] vbox_exit (by kernel_rfl) fun s' hv => then_pass (then_exit (then_go ?_)))
    refine AWpL.finDV hT GBx_ok hm 60 hv (h0 _) rfl okO_bx vbox_fin (by kernel_rfl) (by kernel_rfl) ?_
    refine ⟨⟨Nat.zero_lt_one, Nat.zero_lt_one⟩, Nat.zero_lt_one, ?_⟩
    unfold bxRes
    rw [if_neg hn0]
    exact ⟨.refl _, .refl _, trivial⟩
end Go.Am.B

/- ref04.BoxOf. -/
namespace Go.Am.B
open Go Go.Am.N AV

theorem is_gBox : FnIs P ref04_BoxOf fn_ref04_BoxOf (codeOf fn_ref04_BoxOf) := fnIs get_ref04_BoxOf (by kernel_rfl) (by kernel_rfl) (by kernel_rfl)
abbrev gbL : List Nat := [0, 2, 3, 4, 5]
abbrev gbV (f : Nat → V3) (n : Nat) (i : Nat) : List AV := [ptsA f n, .ptr 4 0 18 0 [], .int .i64 0, .ptr 5 0 18 0 [], .int .i64 ((i + 1 : Nat) : Int)]
noncomputable abbrev gbY : Code := part (codeOf fn_ref04_BoxOf) [1,1,1,0,1,0,0]
theorem gbox_pre {n : Nat} {f : Nat → V3} : seeL T GBx [9] 60 gbL (before (codeOf fn_ref04_BoxOf) [1,1,1,0,1]) ⟨zipSlots 0 [ptsA f n], [], 0⟩ =
    some (ATree.fork ((↑n : Int) == (0 : Int)) (ATree.must [(0 : Nat) < 1] (ATree.leaf AEx.ret ([tab 9 n fun (i : Nat) ↦ vA (f i) 64, ptr 0 0 18 0 [], int IntKind.i64 (1 : Int), tuple [], tuple []], [((0 : Nat), { row := false, wr := true, es := 18, len := 1, f := fun (j : Nat) ↦ if (j == 0) = true then deN (agg (agg [agg [rat 0 1, rat 0 1], agg [rat 0 1, rat 0 1], agg [rat 0 1, rat 0 1]]).kids) else agg [agg [rat 0 1, rat 0 1], agg [rat 0 1, rat 0 1], agg [rat 0 1, rat 0 1]] })]))) (ATree.must [(0 : Int) ≤ (0 : Int) ∧ Int.toNat (0 : Int) < n, (0 : Nat) < 1, (0 : Nat) < 1, (0 : Nat) < 1, (0 : Nat) < 1, (0 : Nat) < 1] (ATree.leaf AEx.normal ([tab 9 n fun (i : Nat) ↦ vA (f i) 64, ptr 0 0 18 0 [], int IntKind.i64 (0 : Int), ptr 36864 0 18 0 [], int IntKind.i64 (1 : Int)], [((36864 : Nat), { row := false, wr := true, es := 18, len := 1, f := fun (j : Nat) ↦ if (j == 0) = true then deN (agg [agg [rat (f (Int.toNat (0 : Int))).x 64, rat (f (Int.toNat (0 : Int))).x 64], agg [rat (f (Int.toNat (0 : Int))).y 64, rat (f (Int.toNat (0 : Int))).y 64], agg [rat (f (Int.toNat (0 : Int))).z 64, rat (f (Int.toNat (0 : Int))).z 64]]) else agg [agg [rat 0 1, rat 0 1], agg [rat 0 1, rat 0 1], agg [rat 0 1, rat 0 1]] }), ((0 : Nat), { row := false, wr := true, es := 18, len := 1, f := fun (x : Nat) ↦ agg [agg [rat 0 1, rat 0 1], agg [rat 0 1, rat 0 1], agg [rat 0 1, rat 0 1]] })])))) := by kernel_rfl
theorem gbox_ret {n : Nat} {f : Nat → V3} : endT T fn_ref04_BoxOf .ret ⟨zipL [0, 2, 3] [ptsA f n, .ptr 0 0 18 0 [], .int .i64 1], [(0, ⟨false, true, 18, 1, fun j => if (j == 0) = true then .agg [spA 0 0 1, spA 0 0 1, spA 0 0 1] else .agg [spA 0 0 1, spA 0 0 1, spA 0 0 1]⟩)], 16384⟩ =
    some (ATree.must [(0 : Nat) < 1] (ATree.leaf AEx.ret [agg [agg [rat 0 1, rat 0 1], agg [rat 0 1, rat 0 1], agg [rat 0 1, rat 0 1]], int IntKind.i64 (1 : Int)])) := by kernel_rfl
theorem gbox_body {n i : Nat} {f : Nat → V3} {a b c d e g : Rat} : seeL T GBx [18] 60 gbL [gbY] ⟨zipL gbL (gbV f n i), bxOs a b c d e g, 6⟩ =
    some (ATree.fork (decide ((↑(i + 1) : Int) < (↑n : Int))) (ATree.must [(0 : Int) ≤ (0 : Int) ∧ (0 : Int) < (↑(3 : Nat) : Int), (0 : Nat) < 1, (0 : Int) ≤ (↑(i + 1) : Int) ∧ (↑(i + 1) : Int).toNat < n, (0 : Int) ≤ (0 : Int) ∧ (0 : Int) < (↑(3 : Nat) : Int), (0 : Nat) < 1, (0 : Nat) < 1, (0 : Int) ≤ (0 : Int) ∧ (0 : Int) < (↑(3 : Nat) : Int), (0 : Nat) < 1] (ATree.must [-(2 : Int) ^ 63 ≤ (0 : Int) + (1 : Int) ∧ (0 : Int) + (1 : Int) < (2 : Int) ^ 63] (ATree.must [(0 : Int) ≤ (0 : Int) + (1 : Int) ∧ (0 : Int) + (1 : Int) < (↑(3 : Nat) : Int), (0 : Nat) < 1, (0 : Int) ≤ (↑(i + 1) : Int) ∧ (↑(i + 1) : Int).toNat < n, (0 : Int) ≤ (0 : Int) + (1 : Int) ∧ (0 : Int) + (1 : Int) < (↑(3 : Nat) : Int), (0 : Nat) < 1, (0 : Nat) < 1, (0 : Int) ≤ (0 : Int) + (1 : Int) ∧ (0 : Int) + (1 : Int) < (↑(3 : Nat) : Int), (0 : Nat) < 1] (ATree.must [-(2 : Int) ^ 63 ≤ (0 : Int) + (1 : Int) + (1 : Int) ∧ (0 : Int) + (1 : Int) + (1 : Int) < (2 : Int) ^ 63] (ATree.must [(0 : Int) ≤ (0 : Int) + (1 : Int) + (1 : Int) ∧ (0 : Int) + (1 : Int) + (1 : Int) < (↑(3 : Nat) : Int), (0 : Nat) < 1, (0 : Int) ≤ (↑(i + 1) : Int) ∧ (↑(i + 1) : Int).toNat < n, (0 : Int) ≤ (0 : Int) + (1 : Int) + (1 : Int) ∧ (0 : Int) + (1 : Int) + (1 : Int) < (↑(3 : Nat) : Int), (0 : Nat) < 1, (0 : Nat) < 1, (0 : Int) ≤ (0 : Int) + (1 : Int) + (1 : Int) ∧ (0 : Int) + (1 : Int) + (1 : Int) < (↑(3 : Nat) : Int), (0 : Nat) < 1] (ATree.must [-(2 : Int) ^ 63 ≤ (0 : Int) + (1 : Int) + (1 : Int) + (1 : Int) ∧ (0 : Int) + (1 : Int) + (1 : Int) + (1 : Int) < (2 : Int) ^ 63] (ATree.must [-(2 : Int) ^ 63 ≤ (↑(i + 1) : Int) + (1 : Int) ∧ (↑(i + 1) : Int) + (1 : Int) < (2 : Int) ^ 63] (ATree.leaf AEx.normal ([tab 9 n fun (i : Nat) ↦ vA (f i) 64, ptr 4 0 18 0 [], int IntKind.i64 (0 : Int), ptr 5 0 18 0 [], int IntKind.i64 ((↑(i + 1) : Int) + (1 : Int))], [((5 : Nat), { row := false, wr := true, es := 18, len := 1, f := fun (j : Nat) ↦ if (j == 0) = true then agg ((if ((0 : Nat) == 0) = true then agg ((if ((0 : Nat) == 0) = true then agg ((agg [spA a b 64, spA c d 64, spA e g 64]).kids.set (Int.toNat (0 : Int)) (deN (agg [rat (minR a (f (↑(i + 1) : Int).toNat).x) (max 64 64), rat (maxR b (f (↑(i + 1) : Int).toNat).x) (max 64 64)]))) else agg [spA a b 64, spA c d 64, spA e g 64]).kids.set ((0 : Int) + (1 : Int)).toNat (deN (agg [rat (minR c (f (↑(i + 1) : Int).toNat).y) (max 64 64), rat (maxR d (f (↑(i + 1) : Int).toNat).y) (max 64 64)]))) else if ((0 : Nat) == 0) = true then agg ((agg [spA a b 64, spA c d 64, spA e g 64]).kids.set (Int.toNat (0 : Int)) (deN (agg [rat (minR a (f (↑(i + 1) : Int).toNat).x) (max 64 64), rat (maxR b (f (↑(i + 1) : Int).toNat).x) (max 64 64)]))) else agg [spA a b 64, spA c d 64, spA e g 64]).kids.set ((0 : Int) + (1 : Int) + (1 : Int)).toNat (deN (agg [rat (minR e (f (↑(i + 1) : Int).toNat).z) (max 64 64), rat (maxR g (f (↑(i + 1) : Int).toNat).z) (max 64 64)]))) else if (j == 0) = true then agg ((if ((0 : Nat) == 0) = true then agg ((agg [spA a b 64, spA c d 64, spA e g 64]).kids.set (Int.toNat (0 : Int)) (deN (agg [rat (minR a (f (↑(i + 1) : Int).toNat).x) (max 64 64), rat (maxR b (f (↑(i + 1) : Int).toNat).x) (max 64 64)]))) else agg [spA a b 64, spA c d 64, spA e g 64]).kids.set ((0 : Int) + (1 : Int)).toNat (deN (agg [rat (minR c (f (↑(i + 1) : Int).toNat).y) (max 64 64), rat (maxR d (f (↑(i + 1) : Int).toNat).y) (max 64 64)]))) else if (j == 0) = true then agg ((agg [spA a b 64, spA c d 64, spA e g 64]).kids.set (Int.toNat (0 : Int)) (deN (agg [rat (minR a (f (↑(i + 1) : Int).toNat).x) (max 64 64), rat (maxR b (f (↑(i + 1) : Int).toNat).x) (max 64 64)]))) else agg [spA a b 64, spA c d 64, spA e g 64] }), ((4 : Nat), { row := false, wr := true, es := 18, len := 1, f := fun (x : Nat) ↦ agg [spA 0 0 1, spA 0 0 1, spA 0 0 1] })]))))))))) (ATree.leaf (AEx.exit 0) ([tab 9 n fun (i : Nat) ↦ vA (f i) 64, ptr 4 0 18 0 [], int IntKind.i64 (0 : Int), ptr 5 0 18 0 [], int IntKind.i64 (↑(i + 1) : Int)], [((5 : Nat), { row := false, wr := true, es := 18, len := 1, f := fun (x : Nat) ↦ agg [spA a b 64, spA c d 64, spA e g 64] }), ((4 : Nat), { row := false, wr := true, es := 18, len := 1, f := fun (x : Nat) ↦ agg [spA 0 0 1, spA 0 0 1, spA 0 0 1] })]))) := by kernel_rfl
theorem gbox_fin {n i : Nat} {f : Nat → V3} {a b c d e g : Rat} : endL T GBx [] 60 fn_ref04_BoxOf (behind (codeOf fn_ref04_BoxOf) [1,1,1,0,1]) ⟨zipL gbL (gbV f n i), bxOs a b c d e g, 6⟩ =
    some (ATree.must [(0 : Nat) < 1, (0 : Nat) < 1] (ATree.must [(0 : Nat) < 1] (ATree.leaf AEx.ret [agg [agg [rat a 64, rat b 64], agg [rat c 64, rat d 64], agg [rat e 64, rat g 64]], int IntKind.i64 (0 : Int)]))) := by kernel_rfl

set_option maxHeartbeats 1000000 in
theorem gBoxOf_ok {n : Nat} {f : Nat → V3} (hn : n < 2 ^ 40) (K : Nat) : FOK P ref04_BoxOf K [ptsA f n] [] (pres (bxRes f n) []) := by
  refine fok_down hT is_gBox rfl (of_decide_eq_true (by kernel_rfl)) rfl (fun _ c0 h0 => ?_) K []
  refine AWp.hole [1,1,1,0,1] (by kernel_rfl) (AWpL.see hT GBx_ok hm 60 gbL gbox_pre (by kernel_rfl) ?_)
  refine ⟨fun hb => ⟨Nat.zero_lt_one, fun s' hv => ?_⟩, fun hb => ?_⟩
  · refine then_ret (finD (nx := 16384) gbox_ret (view_take (ls := [0, 2, 3]) (l := [4, 5]) (us := [.tuple [], .tuple []]) hv rfl rfl) (h0 _) rfl ⟨⟨by omega, fun i _ => by show keys (if (i == 0) = true then _ else _) = []; split <;> rfl⟩, trivial⟩ ?_)
    have hn0 : n = 0 := by have := eq_of_beq hb; omega
    unfold bxRes
    rw [if_pos hn0]
    exact ⟨Nat.zero_lt_one, bxZero0, .refl _, trivial⟩
  have hn0 : n ≠ 0 := by intro e; subst e; simp at hb
  simp only [ATree.all, allP]
  refine ⟨by simp only [Int.toNat_zero]; omega, fun s' hv => then_go ?_⟩
  refine AWp.whileLe (i := 0) (y := gbY) (by kernel_rfl) (fun i : Nat => ⟨zipL gbL (gbV f n i), bxOs (bxLo f 0 i) (bxHi f 0 i) (bxLo f 1 i) (bxHi f 1 i) (bxLo f 2 i) (bxHi f 2 i), 6⟩) (fun i => i ≤ n - 1) (fun i => n - 1 - i) 0 (le_ren [(5, 36864), (4, 0)] hv h0 rfl rfl rfl (objsR_cons rfl rfl (fun i hi => ⟨rfl, ?_⟩) (objsR_cons rfl rfl (fun i hi => ⟨rfl, ?_⟩) trivial))) (by omega) ?_
  · have hi0 : i = 0 := Nat.lt_one_iff.1 hi
    rw [hi0]; rfl
  · rfl
  intro i hi
  refine AWp.see hT GBx_ok hm 60 gbL gbox_body (by kernel_rfl) ?_
  simp only [ATree.all, allP, decide_eq_true_eq, decide_eq_false_iff_not]
  refine ⟨fun h1 => ?_, fun h1 s' hv => then_exit (then_go ?_)⟩
  · (repeat' with_reducible refine And.intro ?_ ?_)
    all_goals first | omega | skip
    intro s' hv
    refine ⟨i + 1, le_ren [(5, 5), (4, 4)] hv h0 rfl rfl rfl (objsR_cons rfl rfl (fun i hi => ⟨rfl, ?_⟩) (objsR_cons rfl rfl (fun i hi => ⟨rfl, rfl⟩) trivial)), by omega, by omega⟩
    have hi0 := Nat.lt_one_iff.1 hi
    subst hi0
    rfl
  · have hin : i = n - 1 := by omega
    subst hin
    refine AWpL.finDV hT GBx_ok hm 60 hv (h0 _) rfl okO_bx gbox_fin (by kernel_rfl) (by kernel_rfl) ?_
    refine ⟨⟨Nat.zero_lt_one, Nat.zero_lt_one⟩, Nat.zero_lt_one, ?_⟩
    unfold bxRes
    rw [if_neg hn0]
    exact ⟨.refl _, .refl _, trivial⟩

def v3Of : AV → V3
  | .agg [.rat x _, .rat y _, .rat z _] => ⟨x, y, z⟩
  | _ => v0
def bxl (f : Nat → V3) (n c : Nat) : Rat := if n = 0 then 0 else bxLo f c (n - 1)
def bxh (f : Nat → V3) (n c : Nat) : Rat := if n = 0 then 0 else bxHi f c (n - 1)
def bxT (f : Nat → V3) (n : Nat) : AV := .tuple [.agg [spA (bxl f n 0) (bxh f n 0) 64, spA (bxl f n 1) (bxh f n 1) 64, spA (bxl f n 2) (bxh f n 2) 64], .int .i64 (if n = 0 then 1 else 0)]
theorem bxRes_eq {f : Nat → V3} {n : Nat} : bxRes f n = bxT f n := by
  unfold bxRes bxT bxA bxl bxh
  by_cases h : n = 0 <;> simp [h]
def s_box : Spec := pureSpec fun l => match l with
  | [.nil] => some (pres (bxT (fun _ => v0) 0) [])
  | [.tab 9 n f] => some (pres (bxT (fun i => v3Of (f i)) n) [n < 2 ^ 40, ∀ i, i < n → f i = vA (v3Of (f i)) 64])
  | _ => none
theorem s_box_ok {fid : FuncId} (h : ∀ {n : Nat} {f : Nat → V3} (_ : n < 2 ^ 40) (K : Nat), FOK P fid K [ptsA f n] [] (pres (bxRes f n) [])) : ∀ K args pre r, s_box K args pre = some r → FOK P fid K args pre r := by
  refine pureSpec_ok fun K args r hk hs _ => ?_
  split at hs
  · simp only [Option.some.injEq] at hs
    subst hs
    rw [← bxRes_eq]
    exact fok_weak (h (by omega) K) hk ⟨avLe0_nil_tab (by omega), trivial⟩ []
  · simp only [Option.some.injEq] at hs
    subst hs
    intro hn
    rw [← bxRes_eq] at *
    exact fok_weak (h hn.1 K) hk ⟨avLe0_tab_eq rfl hn.2, trivial⟩ [] trivial
  · simp at hs
end Go.Am.B

/- The square of the distance from a segment, in two ways. -/
namespace Go.Am.B
open Go Go.Am.N AV


def segQ (a b p : V3) : V3 := vsub p (vadd a (vscale (maxR 0 (minR ((1 : Int) : Rat) (dot (vsub p a) (vsub b a) / dot (vsub b a) (vsub b a)))) (vsub b a)))
def seg (a b p : V3) : Rat := bif (if dot (vsub b a) (vsub b a) = 0 then (3 : Int) else 0) == 0 then dot (segQ a b p) (segQ a b p) else dot (vsub p a) (vsub p a)
def segV (a b p : V3) (t : Rat) : V3 := vsub (vadd a (vscale t (vsub b a))) p
def segLine (a b p : V3) : Bool := decide (seg a b p * dot (vsub b a) (vsub b a) = dot (cross (vsub p a) (vsub b a)) (cross (vsub p a) (vsub b a)))
def clampR (t : Rat) : Rat := maxR 0 (minR ((1 : Int) : Rat) t)
theorem clampR_cases (t : Rat) : (t ≤ 0 ∧ clampR t = 0) ∨ (0 ≤ t ∧ t ≤ 1 ∧ clampR t = t) ∨ (1 ≤ t ∧ clampR t = 1) := by
  have e : ((1 : Int) : Rat) = 1 := rfl
  unfold clampR maxR minR
  rw [e]
  grind
theorem dot_segV {u v w : V3} {t : Rat} : dot (segV u v w t) (segV u v w t) = dot (vsub w u) (vsub w u) - 2 * t * dot (vsub w u) (vsub v u) + t * t * dot (vsub v u) (vsub v u) := by
  simp only [segV, dot, vsub, vadd, vscale]; grind
theorem seg_zero {u v w : V3} (h : dot (vsub v u) (vsub v u) = 0) : seg u v w = dot (vsub w u) (vsub w u) := by
  unfold seg; rw [if_pos h]; rfl
theorem seg_else {u v w : V3} (h : dot (vsub v u) (vsub v u) ≠ 0) {c : Rat} (hc : c = clampR (dot (vsub w u) (vsub v u) / dot (vsub v u) (vsub v u))) :
    seg u v w = dot (vsub w u) (vsub w u) - 2 * c * dot (vsub w u) (vsub v u) + c * c * dot (vsub v u) (vsub v u) := by
  unfold seg; rw [if_neg h]
  show dot (segQ u v w) (segQ u v w) = _
  unfold segQ
  show dot (vsub w (vadd u (vscale (clampR _) (vsub v u)))) (vsub w (vadd u (vscale (clampR _) (vsub v u)))) = _
  rw [← hc]
  simp only [dot, vsub, vadd, vscale]; grind
theorem sq_nonneg' (x : Rat) : 0 ≤ x * x := by
  rcases Rat.le_total (a := 0) (b := x) with h | h
  · exact Rat.mul_nonneg h h
  · have := Rat.mul_nonneg (a := -x) (b := -x) (by grind) (by grind)
    grind
theorem dot_nonneg {u : V3} : 0 ≤ dot u u := by
  have h1 := sq_nonneg' u.x
  have h2 := sq_nonneg' u.y
  have h3 := sq_nonneg' u.z
  unfold dot; grind
theorem dot_zero {u : V3} (h : dot u u = 0) : u.x = 0 ∧ u.y = 0 ∧ u.z = 0 := by
  have h1 := sq_nonneg' u.x
  have h2 := sq_nonneg' u.y
  have h3 := sq_nonneg' u.z
  unfold dot at h
  have a1 : u.x * u.x = 0 := by grind
  have a2 : u.y * u.y = 0 := by grind
  have a3 : u.z * u.z = 0 := by grind
  simp only [Rat.mul_eq_zero, or_self] at a1 a2 a3
  exact ⟨a1, a2, a3⟩
theorem near_plain {X Y Z q c t : Rat} (hY : 0 ≤ Y) (hX : X = q * Y) (h0 : 0 ≤ t) (h1 : t ≤ 1) (hc : c = clampR q) : Z - 2 * c * X + c * c * Y ≤ Z - 2 * t * X + t * t * Y := by
  subst hX
  rcases clampR_cases q with ⟨a, b⟩ | ⟨a, a', b⟩ | ⟨a, b⟩
  · rw [b] at hc; subst hc
    have := Rat.mul_nonneg hY (Rat.mul_nonneg h0 (b := t - 2 * q) (by grind))
    grind
  · rw [b] at hc; subst hc
    have := Rat.mul_nonneg hY (sq_nonneg' (t - c))
    grind
  · rw [b] at hc; subst hc
    have := Rat.mul_nonneg hY (Rat.mul_nonneg (a := 1 - t) (b := 2 * q - 1 - t) (by grind) (by grind))
    grind
theorem cmp_le {x y : Rat} (h : x ≤ y) : decide (cmpR x y ≤ (0 : Int)) = true := by
  rw [decide_eq_true_eq]; unfold cmpR; grind
theorem lagrange {u v : V3} : dot u u * dot v v - dot u v * dot u v = dot (cross u v) (cross u v) := by simp only [dot, cross]; grind
theorem seg_three (u v w : V3) : segLine u v w = true ∨ seg u v w = dot (vsub w u) (vsub w u) ∨ seg u v w = dot (vsub w v) (vsub w v) := by
  by_cases h : dot (vsub v u) (vsub v u) = 0
  · exact .inr (.inl (seg_zero h))
  · have e := seg_else (w := w) h rfl
    have hX : dot (vsub w u) (vsub v u) = dot (vsub w u) (vsub v u) / dot (vsub v u) (vsub v u) * dot (vsub v u) (vsub v u) := by rw [Rat.div_mul_cancel h]
    rcases clampR_cases (dot (vsub w u) (vsub v u) / dot (vsub v u) (vsub v u)) with ⟨a, b⟩ | ⟨a, a', b⟩ | ⟨a, b⟩
    · rw [b] at e; exact .inr (.inl (by rw [e]; grind))
    · refine .inl ?_
      rw [b] at e
      unfold segLine
      rw [decide_eq_true_eq, e, ← lagrange]
      generalize dot (vsub w u) (vsub v u) / dot (vsub v u) (vsub v u) = q at *
      generalize dot (vsub w u) (vsub w u) = Z
      generalize dot (vsub w u) (vsub v u) = X at *
      grind
    · rw [b] at e
      refine .inr (.inr ?_)
      rw [e]; simp only [dot, vsub]; grind
theorem seg_back (u v w : V3) : seg u v w = seg v u w := by
  have hY : dot (vsub u v) (vsub u v) = dot (vsub v u) (vsub v u) := by simp only [dot, vsub]; grind
  have hX : dot (vsub w v) (vsub u v) = dot (vsub v u) (vsub v u) - dot (vsub w u) (vsub v u) := by simp only [dot, vsub]; grind
  have hZ : dot (vsub w v) (vsub w v) = dot (vsub w u) (vsub w u) - 2 * dot (vsub w u) (vsub v u) + dot (vsub v u) (vsub v u) := by simp only [dot, vsub]; grind
  by_cases h : dot (vsub v u) (vsub v u) = 0
  · have h' : dot (vsub u v) (vsub u v) = 0 := by rw [hY]; exact h
    rw [seg_zero h, seg_zero h', hZ, h]
    have hX : dot (vsub w u) (vsub v u) = 0 := by
      obtain ⟨a1, a2, a3⟩ := dot_zero h
      unfold dot; rw [a1, a2, a3]; grind
    rw [hX]; grind
  · have h' : dot (vsub u v) (vsub u v) ≠ 0 := by rw [hY]; exact h
    rw [seg_else h rfl, seg_else h' rfl, hX, hY, hZ]
    have hq : (dot (vsub v u) (vsub v u) - dot (vsub w u) (vsub v u)) / dot (vsub v u) (vsub v u) = 1 - dot (vsub w u) (vsub v u) / dot (vsub v u) (vsub v u) := by
      generalize dot (vsub v u) (vsub v u) = Y at *
      generalize dot (vsub w u) (vsub v u) = X at *
      grind
    rw [hq]
    generalize dot (vsub w u) (vsub v u) / dot (vsub v u) (vsub v u) = q at *
    have hc : clampR (1 - q) = 1 - clampR q := by
      have e : ((1 : Int) : Rat) = 1 := rfl
      unfold clampR maxR minR
      rw [e]
      grind
    rw [hc]
    grind
/-- The reference's way. -/
def segE (a b p : V3) : Rat := bif decide (sgnR (dot (vsub p a) (vsub b a)) ≤ (0 : Int)) then dot (vsub p a) (vsub p a) else bif decide (cmpR (dot (vsub p a) (vsub b a)) (dot (vsub b a) (vsub b a)) ≥ (0 : Int)) then dot (vsub p b) (vsub p b) else
  dot (vsub p (vadd a (vscale (dot (vsub p a) (vsub b a) / dot (vsub b a) (vsub b a)) (vsub b a)))) (vsub p (vadd a (vscale (dot (vsub p a) (vsub b a) / dot (vsub b a) (vsub b a)) (vsub b a))))
theorem seg_segE (u v w : V3) : seg u v w = segE u v w := by
  have hZ : dot (vsub w v) (vsub w v) = dot (vsub w u) (vsub w u) - 2 * dot (vsub w u) (vsub v u) + dot (vsub v u) (vsub v u) := by simp only [dot, vsub]; grind
  have hq : ∀ c : Rat, dot (vsub w (vadd u (vscale c (vsub v u)))) (vsub w (vadd u (vscale c (vsub v u)))) = dot (vsub w u) (vsub w u) - 2 * c * dot (vsub w u) (vsub v u) + c * c * dot (vsub v u) (vsub v u) := fun c => by simp only [dot, vsub, vadd, vscale]; grind
  have hs : decide (sgnR (dot (vsub w u) (vsub v u)) ≤ (0 : Int)) = decide (dot (vsub w u) (vsub v u) ≤ 0) := by
    unfold sgnR; generalize dot (vsub w u) (vsub v u) = X
    by_cases h : X < 0
    · have : X ≤ 0 := by grind
      simp [h, this]
    · by_cases h' : 0 < X
      · have : ¬ X ≤ 0 := by grind
        simp [h, h', this]
      · have : X ≤ 0 := by grind
        simp [h, h', this]
  have hc : decide (cmpR (dot (vsub w u) (vsub v u)) (dot (vsub v u) (vsub v u)) ≥ (0 : Int)) = decide (dot (vsub v u) (vsub v u) ≤ dot (vsub w u) (vsub v u)) := by
    unfold cmpR; generalize dot (vsub w u) (vsub v u) = X; generalize dot (vsub v u) (vsub v u) = Y
    by_cases h : X < Y
    · have : ¬ Y ≤ X := by grind
      simp [h, this]
    · have : Y ≤ X := by grind
      by_cases h' : Y < X <;> simp [h, h', this]
  unfold segE
  rw [hs, hc, hq, hZ]
  have hn := dot_nonneg (u := vsub v u)
  by_cases h : dot (vsub v u) (vsub v u) = 0
  · have hX : dot (vsub w u) (vsub v u) = 0 := by
      obtain ⟨a1, a2, a3⟩ := dot_zero h
      unfold dot; rw [a1, a2, a3]; grind
    rw [seg_zero h, hX]; rfl
  · rw [seg_else h rfl]
    have hp : 0 < dot (vsub v u) (vsub v u) := by grind
    have e : dot (vsub w u) (vsub v u) / dot (vsub v u) (vsub v u) * dot (vsub v u) (vsub v u) = dot (vsub w u) (vsub v u) := Rat.div_mul_cancel h
    rcases clampR_cases (dot (vsub w u) (vsub v u) / dot (vsub v u) (vsub v u)) with ⟨a, b⟩ | ⟨a, a', b⟩ | ⟨a, b⟩
    all_goals generalize dot (vsub w u) (vsub v u) / dot (vsub v u) (vsub v u) = q at *
    all_goals generalize dot (vsub v u) (vsub v u) = Y at *
    all_goals generalize dot (vsub w u) (vsub v u) = X at *
    all_goals generalize dot (vsub w u) (vsub w u) = Z at *
    · have h1 : X ≤ 0 := by
        have := Rat.mul_nonneg (a := -q) (b := Y) (by grind) hn
        grind
      rw [b]; simp only [h1, decide_true, cond_true]; grind
    · rw [b]
      by_cases h1 : X ≤ 0
      · have hq0 : q = 0 := by
          by_cases hq0 : q = 0
          · exact hq0
          · exfalso
            have := Rat.mul_pos (a := q) (b := Y) (by grind) hp
            grind
        simp only [h1, decide_true, cond_true]; rw [hq0]; grind
      · by_cases h2 : Y ≤ X
        · have hq1 : q = 1 := by
            by_cases hq1 : q = 1
            · exact hq1
            · exfalso
              have := Rat.mul_pos (a := 1 - q) (b := Y) (by grind) hp
              grind
          simp only [h1, h2, decide_true, decide_false, cond_true, cond_false]; rw [hq1] at e ⊢; grind
        · simp only [h1, h2, decide_false, cond_false]
    · have h1 : ¬ X ≤ 0 := by
        intro h1
        have := Rat.mul_nonneg (a := q - 1) (b := Y) (by grind) hn
        grind
      have h2 : Y ≤ X := by
        have := Rat.mul_nonneg (a := q - 1) (b := Y) (by grind) hn
        grind
      rw [b]; simp only [h1, h2, decide_true, decide_false, cond_true, cond_false]; grind
end Go.Am.B

/- brepkernelmade: Span; points of a die. -/
namespace Go.Am.B
open Go Go.Am.N AV

theorem is_mSpan : FnIs P made_Dice_Span fn_made_Dice_Span (codeOf fn_made_Dice_Span) := fnIs get_made_Dice_Span (by kernel_rfl) (by kernel_rfl) (by kernel_rfl)
def GSpn : Contracts := (made_Dice_number, diceSpec g_number) :: tMM
def spnA (n : Nat) (f : Nat → AV) (a : Int) : Int := numA n f (numA n f a)
def g_span (n : Nat) (f : Nat → AV) (a : Int) (l : List AV) : Option (AV × Int × List Prop) := match l with
  | [] => some (.agg [.rat (minR (numV n f a) (numV n f (numA n f a))) 64, .rat (maxR (numV n f a) (numV n f (numA n f a))) 64], spnA n f a, [])
  | _ => none
theorem GSpn_ok : GOK P GSpn := gok_cons s_mnumber_ok tMM_ok
theorem mspan_end {n : Nat} {z : Nat → Int} {a : Int} : funO T GSpn [] 60 fn_made_Dice_Span (codeOf fn_made_Dice_Span) ⟨zipSlots 0 [.ptr 0 0 2 0 []], [(0, diceO n (fun i => .int .i64 (z i)) a)], 1⟩ =
    some (ATree.must [DiceOK n (fun (i : Nat) ↦ int IntKind.i64 (z i)) a, DiceOK n (fun (i : Nat) ↦ int IntKind.i64 (z i)) (numA n (fun (i : Nat) ↦ int IntKind.i64 (z i)) a), (0 : Nat) < 1, (0 : Nat) < 1] (ATree.must [(0 : Nat) < 1, (0 : Nat) < 1, (0 : Nat) < 1, (0 : Nat) < 1, (0 : Nat) < 1] (ATree.must [(0 : Nat) < 1] (ATree.leaf AEx.ret ([agg [rat (minR (numV n (fun (i : Nat) ↦ int IntKind.i64 (z i)) a) (numV n (fun (i : Nat) ↦ int IntKind.i64 (z i)) (numA n (fun (i : Nat) ↦ int IntKind.i64 (z i)) a))) 64, rat (maxR (numV n (fun (i : Nat) ↦ int IntKind.i64 (z i)) a) (numV n (fun (i : Nat) ↦ int IntKind.i64 (z i)) (numA n (fun (i : Nat) ↦ int IntKind.i64 (z i)) a))) 64]], some { row := false, wr := true, es := 2, len := 1, f := fun (x : Nat) ↦ agg [tab 1 n fun (i : Nat) ↦ int IntKind.i64 (z i), int IntKind.i64 (numA n (fun (i : Nat) ↦ int IntKind.i64 (z i)) (numA n (fun (i : Nat) ↦ int IntKind.i64 (z i)) a))] }))))) := by kernel_rfl
theorem s_mSpan_ok : ∀ K args pre r, diceSpec g_span K args pre = some r → FOK P made_Dice_Span K args pre r := by
  refine diceSpec_ok fun {k n z a l v b q o} K hg ho hd hq => ?_
  unfold g_span at hg
  split at hg
  · simp only [Option.some.injEq, Prod.mk.injEq] at hg
    obtain ⟨rfl, rfl, rfl⟩ := hg
    refine fok_obj hT GSpn_ok hm is_mSpan rfl rfl (of_decide_eq_true (by kernel_rfl)) ho 60 mspan_end (fun _ => ?_) K
    simp only [ATree.all, allP]
    (repeat' with_reducible refine And.intro ?_ ?_)
    all_goals first | omega | exact hd | exact hd.number | skip
    · exact avLe0.refl _
    · exact ⟨_, rfl, rfl, diceLe rfl rfl⟩
  · simp at hg
/-- The point that a die makes, and where it stands after some. -/
def ptV (n : Nat) (f : Nat → AV) (a : Int) : V3 := ⟨numV n f a, numV n f (numA n f a), numV n f (numA n f (numA n f a))⟩
def drA (n : Nat) (f : Nat → AV) : Nat → Int
  | 0 => 0
  | i + 1 => ptA n f (drA n f i)
theorem DiceOK.dr {n : Nat} {f : Nat → AV} (h : DiceOK n f 0) : ∀ i, DiceOK n f (drA n f i)
  | 0 => h
  | i + 1 => (DiceOK.dr h i).point
theorem DiceOK.spn {n : Nat} {f : Nat → AV} {a : Int} (h : DiceOK n f a) : DiceOK n f (spnA n f a) := h.number.number
end Go.Am.B
