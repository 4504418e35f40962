/- aO for numbers of known size: the numbers. -/
import Derived.Test.YtbghpkgbokbmlaaGreatB34
import Derived.Test.YtbghpkgbokbmlaaGreatZ2
set_option linter.unusedVariables false
namespace Go.Am.B
open Go Go.Am.N AV
structure Kd (α : Type) where
 read : AV → Option α
 make : α → AV
 ok : ∀ {v : AV} {a : α}, read v = some a → bu v (make a)
def Ae : AV → Option (V3 × Nat)
 | .agg [x, y, z] => match fW x, fW y, fW z with
  | some (x, a), some (y, b), some (z, c) => some (⟨x, y, z⟩, max a (max b c))
  | _, _, _ => none
 | _ => none
theorem Yb {v : AV} {a : V3 × Nat} (h : Ae v = some a) : bu v (vA a.1 a.2) := by
 unfold Ae at h
 split at h
 ·split at h
  ·rename_i h1 h2 h3
   simp only [Option.some.injEq] at h
   subst h
   exact cq ⟨(gv h1).trans (bI rfl (by simp only; omega)), (gv h2).trans (bI rfl (by simp only; omega)), (gv h3).trans (bI rfl (by simp only; omega)), trivial⟩
  ·simp at h
 ·simp at h
def dR : Kd (Rat × Nat) := ⟨fW, fun a => rA a.1 a.2, gv⟩
def dV : Kd (V3 × Nat) := ⟨Ae, fun a => vA a.1 a.2, Yb⟩
section specs
variable {α β γ δ : Type} {f : FuncId}
def Cj (k : Kd α) (g : α → AV) (B : α → Bool) : Spec := bA fun l => match l with
 | [x] => match k.read x with
  | some a => match B a with
   | true => some (aF (g a) [])
   | false => none
  | _ => none
 | _ => none
theorem DC {k : Kd α} {g : α → AV} {B : α → Bool} (h : ∀ a K, B a = true → ay P f K [k.make a] [] (aF (g a) [])) : ∀ K args pre r, Cj k g B K args pre = some r → ay P f K args pre r := by
 refine bQ fun K args r hk hs _ => ?_
 split at hs
 ·split at hs
  ·rename_i h1
   split at hs
   ·rename_i hB
    simp only [Option.some.injEq] at hs
    subst hs
    exact fk (h _ K hB) hk ⟨k.ok h1, trivial⟩ []
   ·simp at hs
  ·simp at hs
 ·simp at hs
def gL (k : Kd α) (k2 : Kd β) (g : α → β → AV) (B : α → β → Bool) : Spec := bA fun l => match l with
 | [x, y] => match k.read x, k2.read y with
  | some a, some b => match B a b with
   | true => some (aF (g a b) [])
   | false => none
  | _, _ => none
 | _ => none
theorem ij {k : Kd α} {k2 : Kd β} {g : α → β → AV} {B : α → β → Bool} (h : ∀ a b K, B a b = true → ay P f K [k.make a, k2.make b] [] (aF (g a b) [])) : ∀ K args pre r, gL k k2 g B K args pre = some r → ay P f K args pre r := by
 refine bQ fun K args r hk hs _ => ?_
 split at hs
 ·split at hs
  ·rename_i h1 h2
   split at hs
   ·rename_i hB
    simp only [Option.some.injEq] at hs
    subst hs
    exact fk (h _ _ K hB) hk ⟨k.ok h1, k2.ok h2, trivial⟩ []
   ·simp at hs
  ·simp at hs
 ·simp at hs
end specs
def b1 {α : Type} (e : Nat) (a : α × Nat) : Bool := Nat.blt a.2 (2 ^ e)
def b2 {α β : Type} (e : Nat) (a : α × Nat) (b : β × Nat) : Bool := Nat.blt a.2 (2 ^ e) && Nat.blt b.2 (2 ^ e)
def b3 {α β γ : Type} (e : Nat) (a : α × Nat) (b : β × Nat) (c : γ × Nat) : Bool := Nat.blt a.2 (2 ^ e) && (Nat.blt b.2 (2 ^ e) && Nat.blt c.2 (2 ^ e))
theorem Hy {a b : Nat} : Nat.blt a b = true ↔ a < b := by rw [Nat.blt_eq]
theorem US {α : Type} {e : Nat} {a : α × Nat} (h : b1 e a = true) : a.2 < 2 ^ e := Hy.1 h
theorem eG {α β : Type} {e : Nat} {a : α × Nat} {b : β × Nat} (h : b2 e a b = true) : a.2 < 2 ^ e ∧ b.2 < 2 ^ e := by
 simp only [b2, Bool.and_eq_true, Hy] at h; exact h
def pF : Spec := bA fun l => match l with
 | [.int .i64 n] => match decide (-2 ^ 63 ≤ n ∧ n < 2 ^ 63) with
  | true => some (aF (.rat (n : Rat) (max 1 (aQ n.natAbs))) [])
  | false => none
 | _ => none
abbrev zn : FuncId × Spec := (mU, pF)
def jf : aO := [(vt, gL dR dR jt (b2 42)), (rE, gL dR dR yY (b2 42)), (sP, gL dR dR wR (b2 42)), (kf, gL dR dR ye (b2 42)), (nN, gL dR dR yL (b2 42)), (nr, Cj dR yU (b1 42)), zn, (xJ, gL dR dR BM (b2 42)), (xG, gL dR dR OE (b2 42)), (xF, gL dR dR Vr (b2 42))]
def gC : aO := [(nI, gL dR dR jt (b2 41)), (rY, gL dR dR yY (b2 41)), (rK, gL dR dR wR (b2 41)), (qU, gL dR dR ye (b2 41)), (qW, gL dR dR yL (b2 41)), (ot, Cj dR yU (b1 41)), (ir, pF)]
theorem Ax {n : Nat} (h : n < 2 ^ 42) : n < 2 ^ 44 := Nat.lt_trans h (by omega)
theorem FT {n : Nat} (h : n < 2 ^ 41) : n < 2 ^ 44 := Nat.lt_trans h (by omega)
theorem xg {f : FuncId} (h : ∀ {n : Int}, -2 ^ 63 ≤ n → n < 2 ^ 63 → ∀ K, ay P f K [.int .i64 n] [] (aF (.rat (n : Rat) (max 1 (aQ n.natAbs))) [])) : ∀ K args pre r, pF K args pre = some r → ay P f K args pre r := by
 refine bQ fun K args r hk hs _ => ?_
 split at hs
 ·split at hs
  ·rename_i hc
   simp only [Option.some.injEq] at hs
   subst hs
   have := of_decide_eq_true hc
   exact h this.1 this.2 K
  ·simp at hs
 ·simp at hs
theorem QM : ∀ K args pre r, zn.2 K args pre = some r → ay P zn.1 K args pre r := xg Fk
theorem jx : aW P jf := aD (ij fun _ _ K hn => EO (eG hn).1 (eG hn).2 K) (aD (ij fun _ _ K hn => JA (eG hn).1 (eG hn).2 K) (aD (ij fun _ _ K hn => CP (eG hn).1 (eG hn).2 K)
 (aD (ij fun _ _ K hn => FM (Ax (eG hn).1) (Ax (eG hn).2) K []) (aD (ij fun _ _ K hn => zU (eG hn).1 (eG hn).2 K []) (aD (DC fun _ K hn => AS (Ax (US hn)) K []) (aD QM
 (aD (ij fun _ _ K hn => W9 (eG hn).1 (eG hn).2 K) (aD (ij fun _ _ K hn => N8 (eG hn).1 (eG hn).2 K) (aD (ij fun _ _ K hn => S2 (eG hn).1 (eG hn).2 K) bg)))))))))
theorem gO : aW P gC := aD (ij fun _ _ K hn => BI (eG hn).1 (eG hn).2 K) (aD (ij fun _ _ K hn => HC (eG hn).1 (eG hn).2 K) (aD (ij fun _ _ K hn => Fc (eG hn).1 (eG hn).2 K)
 (aD (ij fun _ _ K hn => Ew (FT (eG hn).1) (FT (eG hn).2) K []) (aD (ij fun _ _ K hn => Jd (eG hn).1 (eG hn).2 K) (aD (DC fun _ K _ => B9 K []) (aD (xg yT) bg))))))
end Go.Am.B

/- ref02: Quo, Over. -/
namespace Go.Am.B
open Go Go.Am.N AV
theorem R7 : aP P rz qK (au qK) := aL MM (by kernel_rfl) (by kernel_rfl) (by kernel_rfl)
theorem Qe : aP P yx tA (au tA) := aL XH (by kernel_rfl) (by kernel_rfl) (by kernel_rfl)
theorem ZH {q r : Rat} {n m : Nat} : bq T n7 [9] 60 qK (au qK) ⟨aK 0 [.rat q n, .rat r m], [], 0⟩ =
  some (aa.af [(0 : Nat) < 1] (aa.fork ((↑(nl r.num.natAbs) : Int) == (0 : Int)) (aa.af [(0 : Nat) < 1] (aa.af [(0 : Nat) < 1] (aa.leaf ah.ret [agg [AV.bool false, mag 0, mag 0], int IntKind.i64 (3 : Int)]))) (aa.af [(0 : Nat) < 1, (0 : Nat) < 1, (0 : Nat) < 1, (0 : Nat) < 1, nl q.num.natAbs < 2 ^ 39, nl r.den < 2 ^ 39, (0 : Nat) < 1, (0 : Nat) < 1, nl q.den < 2 ^ 39, nl r.num.natAbs < 2 ^ 39, nl (q.num.natAbs * r.den) < 2 ^ 38, nl (q.den * r.num.natAbs) < 2 ^ 38, q.den * r.num.natAbs ≠ 0, (0 : Nat) < 1] (aa.af [(0 : Nat) < 1] (aa.leaf ah.ret [rat (sQ (decide (q < 0) != decide (r < 0)) (q.num.natAbs * r.den) (q.den * r.num.natAbs)) (bX (sQ (decide (q < 0) != decide (r < 0)) (q.num.natAbs * r.den) (q.den * r.num.natAbs))), int IntKind.i64 (0 : Int)]))))) := by kernel_rfl
theorem Jr {q r : Rat} {n m : Nat} (hn : n < 2 ^ 41) (hm' : m < 2 ^ 41) (K : Nat) : ay P rz K [.rat q n, .rat r m] [] (aF (.tuple [.rat (q / r) (n + m), .int .i64 (if r = 0 then 3 else 0)]) []) := by
 refine gT fun ⟨hq, hr, _⟩ => ?_
 have hq : Sz q n := hq
 have hr : Sz r m := hr
 have d1 := q.den_nz
 have d2 := r.den_nz
 have a1 : nl q.num.natAbs < 2 ^ 38 := eo hq.1 (by omega)
 have a2 : nl q.den < 2 ^ 38 := eo hq.2 (by omega)
 have b1 : nl r.num.natAbs < 2 ^ 38 := eo hr.1 (by omega)
 have b2 : nl r.den < 2 ^ 38 := eo hr.2 (by omega)
 have m1 : nl (q.num.natAbs * r.den) < 2 ^ 38 := eo (kP hq.1 hr.2) (by omega)
 have m3 : nl (q.den * r.num.natAbs) < 2 ^ 38 := eo (kP hq.2 hr.1) (by omega)
 refine bt hT o3 hm R7 rfl (of_decide_eq_true (by kernel_rfl)) rfl 60 ZH (fun _ => ?_) K []
 have key : ((nl r.num.natAbs : Int) == (0 : Int)) = decide (r = 0) := by
  by_cases h : r = 0
  ·subst h; rfl
  ·have h1 : r.num.natAbs ≠ 0 := fun e => h (kD.1 e)
   have := eL.2 h1
   simp only [h, decide_false, beq_eq_false_iff_ne]; omega
 rw [key]
 simp only [aa.all, ax, decide_eq_true_eq, decide_eq_false_iff_not]
 refine ⟨by omega, fun h0 => ?_, fun h0 => ?_⟩
 ·refine ⟨by omega, by omega, ?_, bB (by rw [if_pos h0]), trivial⟩
  have e : q / r = 0 := by rw [h0, Rat.div_def, Rat.inv_zero, Rat.mul_zero]
  obtain ⟨k, hk⟩ : ∃ k, n + m = k + 1 := ⟨n + m - 1, by have := hq.pos; omega⟩
  rw [e, hk]
  first | exact ji | exact dF (by omega)
 ·have hr0 : r.num.natAbs ≠ 0 := fun h => h0 (kD.1 h)
  have hv := Bd q r h0
  (repeat' with_reducible refine And.intro ?_ ?_)
  all_goals first | omega | exact m1 | exact m3 | exact Nat.mul_ne_zero d1 hr0 | skip
  exact ⟨eE hv (hq.div hr), bB (by rw [if_neg h0]), trivial⟩
def Ht : aO := [(rz, gJ kR kR BM mG)]
theorem TM : aW P Ht := aD (iB fun _ _ K hn => Jr hn.1 hn.2 K) bg
theorem Sq {q r : Rat} {n m : Nat} : bq T Ht [] 60 tA (au tA) ⟨aK 0 [.rat q n, .rat r m], [], 0⟩ =
  some (aa.af [(0 : Nat) < 1, (0 : Nat) < 1, n < 2 ^ 41, m < 2 ^ 41, (0 : Nat) < 1] (aa.af [(0 : Nat) < 1, (0 : Nat) < 1] (aa.af [(0 : Nat) < 1] (aa.leaf ah.ret [rat (q / r) (n + m)])))) := by kernel_rfl
theorem Y2 {q r : Rat} {n m : Nat} (hn : n < 2 ^ 41) (hm' : m < 2 ^ 41) (K : Nat) : ay P yx K [.rat q n, .rat r m] [] (aF (.rat (q / r) (n + m)) []) := by
 refine bt hT TM hm Qe rfl (of_decide_eq_true (by kernel_rfl)) rfl 60 Sq (fun _ => ?_) K []
 simp only [aa.all, ax]
 (repeat' with_reducible refine And.intro ?_ ?_)
 all_goals first | omega | exact bu.refl _
def Ql (a b : Rat × Nat) : AV := rA (a.1 / b.1) (a.2 + b.2)
end Go.Am.B
