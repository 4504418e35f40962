/- aP for numbers of known size: the numbers. -/
import Derived.Test.YtbghpkgbokbmlaaGreatB34
import Derived.Test.YtbghpkgbokbmlaaGreatZ2
set_option linter.unusedVariables false
namespace Go.Am.B
open Go Go.Am.N AV
structure Kd (α : Type) where
 read : AV → Option α
 make : α → AV
 ok : ∀ {v : AV} {a : α}, read v = some a → bp v (make a)
def xe : AV → Option (V3 × Nat)
 | .agg [x, y, z] => match ga x, ga y, ga z with
  | some (x, a), some (y, b), some (z, c) => some (⟨x, y, z⟩, max a (max b c))
  | _, _, _ => none
 | _ => none
theorem Sc {v : AV} {a : V3 × Nat} (h : xe v = some a) : bp v (vA a.1 a.2) := by
 unfold xe at h
 split at h
 ·split at h
  ·rename_i h1 h2 h3
   simp only [Option.some.injEq] at h
   subst h
   exact cN ⟨(gD h1).trans (bJ rfl (by simp only; omega)), (gD h2).trans (bJ rfl (by simp only; omega)), (gD h3).trans (bJ rfl (by simp only; omega)), trivial⟩
  ·simp at h
 ·simp at h
def dR : Kd (Rat × Nat) := ⟨ga, fun a => rA a.1 a.2, gD⟩
def dV : Kd (V3 × Nat) := ⟨xe, fun a => vA a.1 a.2, Sc⟩
section specs
variable {α β γ δ : Type} {f : FuncId}
def yB (k : Kd α) (g : α → AV) (B : α → Bool) : Spec := bk fun l => match l with
 | [x] => match k.read x with
  | some a => match B a with
   | true => some (aG (g a) [])
   | false => none
  | _ => none
 | _ => none
theorem Cd {k : Kd α} {g : α → AV} {B : α → Bool} (h : ∀ a K, B a = true → az P f K [k.make a] [] (aG (g a) [])) : ∀ K args pre r, yB k g B K args pre = some r → az P f K args pre r := by
 refine bD fun K args r hk hs _ => ?_
 split at hs
 ·split at hs
  ·rename_i h1
   split at hs
   ·rename_i hB
    simp only [Option.some.injEq] at hs
    subst hs
    exact eF (h _ K hB) hk ⟨k.ok h1, trivial⟩ []
   ·simp at hs
  ·simp at hs
 ·simp at hs
def fL (k : Kd α) (k2 : Kd β) (g : α → β → AV) (B : α → β → Bool) : Spec := bk fun l => match l with
 | [x, y] => match k.read x, k2.read y with
  | some a, some b => match B a b with
   | true => some (aG (g a b) [])
   | false => none
  | _, _ => none
 | _ => none
theorem fT {k : Kd α} {k2 : Kd β} {g : α → β → AV} {B : α → β → Bool} (h : ∀ a b K, B a b = true → az P f K [k.make a, k2.make b] [] (aG (g a b) [])) : ∀ K args pre r, fL k k2 g B K args pre = some r → az P f K args pre r := by
 refine bD fun K args r hk hs _ => ?_
 split at hs
 ·split at hs
  ·rename_i h1 h2
   split at hs
   ·rename_i hB
    simp only [Option.some.injEq] at hs
    subst hs
    exact eF (h _ _ K hB) hk ⟨k.ok h1, k2.ok h2, trivial⟩ []
   ·simp at hs
  ·simp at hs
 ·simp at hs
end specs
def b1 {α : Type} (e : Nat) (a : α × Nat) : Bool := Nat.blt a.2 (2 ^ e)
def b2 {α β : Type} (e : Nat) (a : α × Nat) (b : β × Nat) : Bool := Nat.blt a.2 (2 ^ e) && Nat.blt b.2 (2 ^ e)
def b3 {α β γ : Type} (e : Nat) (a : α × Nat) (b : β × Nat) (c : γ × Nat) : Bool := Nat.blt a.2 (2 ^ e) && (Nat.blt b.2 (2 ^ e) && Nat.blt c.2 (2 ^ e))
theorem zM {a b : Nat} : Nat.blt a b = true ↔ a < b := by rw [Nat.blt_eq]
theorem Gp {α : Type} {e : Nat} {a : α × Nat} (h : b1 e a = true) : a.2 < 2 ^ e := zM.1 h
theorem dz {α β : Type} {e : Nat} {a : α × Nat} {b : β × Nat} (h : b2 e a b = true) : a.2 < 2 ^ e ∧ b.2 < 2 ^ e := by
 simp only [b2, Bool.and_eq_true, zM] at h; exact h
def nB : Spec := bk fun l => match l with
 | [.int .i64 n] => match decide (-2 ^ 63 ≤ n ∧ n < 2 ^ 63) with
  | true => some (aG (.rat (n : Rat) (max 1 (aN n.natAbs))) [])
  | false => none
 | _ => none
abbrev w8 : FuncId × Spec := (lG, nB)
def g9 : aP := [(vg, fL dR dR l6 (b2 42)), (tY, fL dR dR yu (b2 42)), (uf, fL dR dR yc (b2 42)), (tE, fL dR dR wS (b2 42)), (oA, fL dR dR xd (b2 42)), (nA, yB dR xP (b1 42)), w8, (tZ, fL dR dR vf (b2 42)), (tR, fL dR dR Hr (b2 42)), (uK, fL dR dR QD (b2 42))]
def eV : aP := [(mw, fL dR dR l6 (b2 41)), (rY, fL dR dR yu (b2 41)), (sr, fL dR dR yc (b2 41)), (p9, fL dR dR wS (b2 41)), (rB, fL dR dR xd (b2 41)), (lH, yB dR xP (b1 41)), (gW, nB)]
theorem wC {n : Nat} (h : n < 2 ^ 42) : n < 2 ^ 44 := Nat.lt_trans h (by omega)
theorem E2 {n : Nat} (h : n < 2 ^ 41) : n < 2 ^ 44 := Nat.lt_trans h (by omega)
theorem tD {f : FuncId} (h : ∀ {n : Int}, -2 ^ 63 ≤ n → n < 2 ^ 63 → ∀ K, az P f K [.int .i64 n] [] (aG (.rat (n : Rat) (max 1 (aN n.natAbs))) [])) : ∀ K args pre r, nB K args pre = some r → az P f K args pre r := by
 refine bD fun K args r hk hs _ => ?_
 split at hs
 ·split at hs
  ·rename_i hc
   simp only [Option.some.injEq] at hs
   subst hs
   have := of_decide_eq_true hc
   exact h this.1 this.2 K
  ·simp at hs
 ·simp at hs
theorem SP : ∀ K args pre r, w8.2 K args pre = some r → az P w8.1 K args pre r := tD C5
theorem iW : aX P g9 := aE (fT fun _ _ K hn => Ma (dz hn).1 (dz hn).2 K) (aE (fT fun _ _ K hn => Nm (dz hn).1 (dz hn).2 K) (aE (fT fun _ _ K hn => Gl (dz hn).1 (dz hn).2 K)
 (aE (fT fun _ _ K hn => L8 (wC (dz hn).1) (wC (dz hn).2) K []) (aE (fT fun _ _ K hn => CA (dz hn).1 (dz hn).2 K []) (aE (Cd fun _ K hn => C4 (wC (Gp hn)) K []) (aE SP
 (aE (fT fun _ _ K hn => Pu (dz hn).1 (dz hn).2 K) (aE (fT fun _ _ K hn => MW (dz hn).1 (dz hn).2 K) (aE (fT fun _ _ K hn => Ju (dz hn).1 (dz hn).2 K) aZ)))))))))
theorem fq : aX P eV := aE (fT fun _ _ K hn => wE (dz hn).1 (dz hn).2 K) (aE (fT fun _ _ K hn => Cb (dz hn).1 (dz hn).2 K) (aE (fT fun _ _ K hn => F4 (dz hn).1 (dz hn).2 K)
 (aE (fT fun _ _ K hn => En (E2 (dz hn).1) (E2 (dz hn).2) K []) (aE (fT fun _ _ K hn => Eg (dz hn).1 (dz hn).2 K) (aE (Cd fun _ K _ => wq K []) (aE (tD sP) aZ))))))
end Go.Am.B

/- ref02: Quo, Over. -/
namespace Go.Am.B
open Go Go.Am.N AV
theorem OB : aO P oB qn (au qn) := aL IE (by kernel_rfl) (by kernel_rfl) (by kernel_rfl)
theorem Jq : aO P oI p7 (au p7) := aL Oz (by kernel_rfl) (by kernel_rfl) (by kernel_rfl)
theorem QT {q r : Rat} {n m : Nat} : bw T lE [9] 60 qn (au qn) ⟨aM 0 [.rat q n, .rat r m], [], 0⟩ =
  some (aa.af [(0 : Nat) < 1] (aa.fork ((↑(nl r.num.natAbs) : Int) == (0 : Int)) (aa.af [(0 : Nat) < 1] (aa.af [(0 : Nat) < 1] (aa.leaf ah.ret [agg [AV.bool false, mag 0, mag 0], int IntKind.i64 (3 : Int)]))) (aa.af [(0 : Nat) < 1, (0 : Nat) < 1, (0 : Nat) < 1, (0 : Nat) < 1, nl q.num.natAbs < 2 ^ 39, nl r.den < 2 ^ 39, (0 : Nat) < 1, (0 : Nat) < 1, nl q.den < 2 ^ 39, nl r.num.natAbs < 2 ^ 39, nl (q.num.natAbs * r.den) < 2 ^ 38, nl (q.den * r.num.natAbs) < 2 ^ 38, q.den * r.num.natAbs ≠ 0, (0 : Nat) < 1] (aa.af [(0 : Nat) < 1] (aa.leaf ah.ret [rat (sQ (decide (q < 0) != decide (r < 0)) (q.num.natAbs * r.den) (q.den * r.num.natAbs)) (bH (sQ (decide (q < 0) != decide (r < 0)) (q.num.natAbs * r.den) (q.den * r.num.natAbs))), int IntKind.i64 (0 : Int)]))))) := by kernel_rfl
theorem yC {q r : Rat} {n m : Nat} (hn : n < 2 ^ 41) (hm' : m < 2 ^ 41) (K : Nat) : az P oB K [.rat q n, .rat r m] [] (aG (.tuple [.rat (q / r) (n + m), .int .i64 (if r = 0 then 3 else 0)]) []) := by
 refine gk fun ⟨hq, hr, _⟩ => ?_
 have hq : Sz q n := hq
 have hr : Sz r m := hr
 have d1 := q.den_nz
 have d2 := r.den_nz
 have a1 : nl q.num.natAbs < 2 ^ 38 := dK hq.1 (by omega)
 have a2 : nl q.den < 2 ^ 38 := dK hq.2 (by omega)
 have b1 : nl r.num.natAbs < 2 ^ 38 := dK hr.1 (by omega)
 have b2 : nl r.den < 2 ^ 38 := dK hr.2 (by omega)
 have m1 : nl (q.num.natAbs * r.den) < 2 ^ 38 := dK (jI hq.1 hr.2) (by omega)
 have m3 : nl (q.den * r.num.natAbs) < 2 ^ 38 := dK (jI hq.2 hr.1) (by omega)
 refine bC hT n8 hm OB rfl (of_decide_eq_true (by kernel_rfl)) rfl 60 QT (fun _ => ?_) K []
 have key : ((nl r.num.natAbs : Int) == (0 : Int)) = decide (r = 0) := by
  by_cases h : r = 0
  ·subst h; rfl
  ·have h1 : r.num.natAbs ≠ 0 := fun e => h (jE.1 e)
   have := dS.2 h1
   simp only [h, decide_false, beq_eq_false_iff_ne]; omega
 rw [key]
 simp only [aa.all, ay, decide_eq_true_eq, decide_eq_false_iff_not]
 refine ⟨by omega, fun h0 => ?_, fun h0 => ?_⟩
 ·refine ⟨by omega, by omega, ?_, bf (by rw [if_pos h0]), trivial⟩
  have e : q / r = 0 := by rw [h0, Rat.div_def, Rat.inv_zero, Rat.mul_zero]
  obtain ⟨k, hk⟩ : ∃ k, n + m = k + 1 := ⟨n + m - 1, by have := hq.pos; omega⟩
  rw [e, hk]
  first | exact hJ | exact dZ (by omega)
 ·have hr0 : r.num.natAbs ≠ 0 := fun h => h0 (jE.1 h)
  have hv := w7 q r h0
  (repeat' with_reducible refine And.intro ?_ ?_)
  all_goals first | omega | exact m1 | exact m3 | exact Nat.mul_ne_zero d1 hr0 | skip
  exact ⟨eG hv (hq.div hr), bf (by rw [if_neg h0]), trivial⟩
def Fg : aP := [(oB, jA kR kR vf kP)]
theorem IV : aX P Fg := aE (kn fun _ _ K hn => yC hn.1 hn.2 K) aZ
theorem MJ {q r : Rat} {n m : Nat} : bw T Fg [] 60 p7 (au p7) ⟨aM 0 [.rat q n, .rat r m], [], 0⟩ =
  some (aa.af [(0 : Nat) < 1, (0 : Nat) < 1, n < 2 ^ 41, m < 2 ^ 41, (0 : Nat) < 1] (aa.af [(0 : Nat) < 1, (0 : Nat) < 1] (aa.af [(0 : Nat) < 1] (aa.leaf ah.ret [rat (q / r) (n + m)])))) := by kernel_rfl
theorem BQ {q r : Rat} {n m : Nat} (hn : n < 2 ^ 41) (hm' : m < 2 ^ 41) (K : Nat) : az P oI K [.rat q n, .rat r m] [] (aG (.rat (q / r) (n + m)) []) := by
 refine bC hT IV hm Jq rfl (of_decide_eq_true (by kernel_rfl)) rfl 60 MJ (fun _ => ?_) K []
 simp only [aa.all, ay]
 (repeat' with_reducible refine And.intro ?_ ?_)
 all_goals first | omega | exact bp.refl _
def AJ (a b : Rat × Nat) : AV := rA (a.1 / b.1) (a.2 + b.2)
def FN : aP := [(oI, fL dR dR AJ (b2 41)), (oB, fL dR dR vf (b2 41))]
theorem I9 : aX P FN := aE (fT fun _ _ K hn => BQ (dz hn).1 (dz hn).2 K) (aE (fT fun _ _ K hn => yC (dz hn).1 (dz hn).2 K) aZ)
end Go.Am.B
