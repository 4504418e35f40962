/- aQ for numbers of known size: the numbers. -/
import Derived.Test.YtnocdkaonpdmjaaGreatB34
import Derived.Test.YtnocdkaonpdmjaaGreatZ2
set_option linter.unusedVariables false
namespace Go.Am.B
open Go Go.Am.N AV
structure Kd (α : Type) where
 read : AV → Option α
 make : α → AV
 ok : ∀ {v : AV} {a : α}, read v = some a → bB v (make a)
def DG : AV → Option (V3 × Nat)
 | .agg [x, y, z] => match gH x, gH y, gH z with
  | some (x, a), some (y, b), some (z, c) => some (⟨x, y, z⟩, max a (max b c))
  | _, _, _ => none
 | _ => none
theorem abZ {v : AV} {a : V3 × Nat} (h : DG v = some a) : bB v (vA a.1 a.2) := by
 unfold DG at h
 split at h
 ·split at h
  ·rename_i h1 h2 h3
   simp only [Option.some.injEq] at h
   subst h
   exact dx ⟨(iB h1).trans (bK rfl (by simp only; omega)), (iB h2).trans (bK rfl (by simp only; omega)), (iB h3).trans (bK rfl (by simp only; omega)), trivial⟩
  ·simp at h
 ·simp at h
def dR : Kd (Rat × Nat) := ⟨gH, fun a => rA a.1 a.2, iB⟩
def dV : Kd (V3 × Nat) := ⟨DG, fun a => vA a.1 a.2, abZ⟩
section specs
variable {α β γ δ : Type} {f : FuncId}
def Cr (k : Kd α) (g : α → AV) (B : α → Bool) : Spec := bw fun l => match l with
 | [x] => match k.read x with
  | some a => match B a with
   | true => some (aG (g a) [])
   | false => none
  | _ => none
 | _ => none
theorem Ly {k : Kd α} {g : α → AV} {B : α → Bool} (h : ∀ a K, B a = true → aA P f K [k.make a] [] (aG (g a) [])) : ∀ K args pre r, Cr k g B K args pre = some r → aA P f K args pre r := by
 refine bI fun K args r hk hs _ => ?_
 split at hs
 ·split at hs
  ·rename_i h1
   split at hs
   ·rename_i hB
    simp only [Option.some.injEq] at hs
    subst hs
    exact eR (h _ K hB) hk ⟨k.ok h1, trivial⟩ []
   ·simp at hs
  ·simp at hs
 ·simp at hs
def iq (k : Kd α) (k2 : Kd β) (g : α → β → AV) (B : α → β → Bool) : Spec := bw fun l => match l with
 | [x, y] => match k.read x, k2.read y with
  | some a, some b => match B a b with
   | true => some (aG (g a b) [])
   | false => none
  | _, _ => none
 | _ => none
theorem iU {k : Kd α} {k2 : Kd β} {g : α → β → AV} {B : α → β → Bool} (h : ∀ a b K, B a b = true → aA P f K [k.make a, k2.make b] [] (aG (g a b) [])) : ∀ K args pre r, iq k k2 g B K args pre = some r → aA P f K args pre r := by
 refine bI fun K args r hk hs _ => ?_
 split at hs
 ·split at hs
  ·rename_i h1 h2
   split at hs
   ·rename_i hB
    simp only [Option.some.injEq] at hs
    subst hs
    exact eR (h _ _ K hB) hk ⟨k.ok h1, k2.ok h2, trivial⟩ []
   ·simp at hs
  ·simp at hs
 ·simp at hs
end specs
def b1 {α : Type} (e : Nat) (a : α × Nat) : Bool := Nat.blt a.2 (2 ^ e)
def b2 {α β : Type} (e : Nat) (a : α × Nat) (b : β × Nat) : Bool := Nat.blt a.2 (2 ^ e) && Nat.blt b.2 (2 ^ e)
def b3 {α β γ : Type} (e : Nat) (a : α × Nat) (b : β × Nat) (c : γ × Nat) : Bool := Nat.blt a.2 (2 ^ e) && (Nat.blt b.2 (2 ^ e) && Nat.blt c.2 (2 ^ e))
theorem KA {a b : Nat} : Nat.blt a b = true ↔ a < b := by rw [Nat.blt_eq]
theorem abl {α : Type} {e : Nat} {a : α × Nat} (h : b1 e a = true) : a.2 < 2 ^ e := KA.1 h
theorem er {α β : Type} {e : Nat} {a : α × Nat} {b : β × Nat} (h : b2 e a b = true) : a.2 < 2 ^ e ∧ b.2 < 2 ^ e := by
 simp only [b2, Bool.and_eq_true, KA] at h; exact h
def oX : Spec := bw fun l => match l with
 | [.int .i64 n] => match decide (-2 ^ 63 ≤ n ∧ n < 2 ^ 63) with
  | true => some (aG (.rat (n : Rat) (max 1 (bg n.natAbs))) [])
  | false => none
 | _ => none
abbrev Br : FuncId × Spec := (oP, oX)
abbrev CS : FuncId × Spec := (AK, iq dR dR RR (b2 42))
abbrev BB : FuncId × Spec := (y7, iq dR dR Oo (b2 42))
def pN : aQ := [(tH, iq dR dR gX (b2 42)), (uF, iq dR dR yA (b2 42)), (uw, iq dR dR AR (b2 42)), (fk, iq dR dR yy (b2 42)), (iF, iq dR dR zY (b2 42)), (oK, Cr dR yW (b1 42)), Br, (rV, iq dR dR ug (b2 42)), CS, BB]
def pn : aQ := [(o3, iq dR dR gX (b2 41)), (vH, iq dR dR yA (b2 41)), (sx, iq dR dR AR (b2 41)), (tE, iq dR dR yy (b2 41)), (sS, iq dR dR zY (b2 41)), (pK, Cr dR yW (b1 41)), (jv, oX)]
theorem C2 {n : Nat} (h : n < 2 ^ 42) : n < 2 ^ 44 := Nat.lt_trans h (by omega)
theorem KO {n : Nat} (h : n < 2 ^ 41) : n < 2 ^ 44 := Nat.lt_trans h (by omega)
theorem wU {f : FuncId} (h : ∀ {n : Int}, -2 ^ 63 ≤ n → n < 2 ^ 63 → ∀ K, aA P f K [.int .i64 n] [] (aG (.rat (n : Rat) (max 1 (bg n.natAbs))) [])) : ∀ K args pre r, oX K args pre = some r → aA P f K args pre r := by
 refine bI fun K args r hk hs _ => ?_
 split at hs
 ·split at hs
  ·rename_i hc
   simp only [Option.some.injEq] at hs
   subst hs
   have := of_decide_eq_true hc
   exact h this.1 this.2 K
  ·simp at hs
 ·simp at hs
theorem Qn : ∀ K args pre r, Br.2 K args pre = some r → aA P Br.1 K args pre r := wU CM
theorem aaY : ∀ K args pre r, CS.2 K args pre = some r → aA P CS.1 K args pre r := iU fun _ _ K hn => acn (er hn).1 (er hn).2 K
theorem acP : ∀ K args pre r, BB.2 K args pre = some r → aA P BB.1 K args pre r := iU fun _ _ K hn => PN (er hn).1 (er hn).2 K
theorem r4 : aY P pN := aF (iU fun _ _ K hn => Gx (er hn).1 (er hn).2 K) (aF (iU fun _ _ K hn => Jb (er hn).1 (er hn).2 K) (aF (iU fun _ _ K hn => E3 (er hn).1 (er hn).2 K)
 (aF (iU fun _ _ K hn => ER (C2 (er hn).1) (C2 (er hn).2) K []) (aF (iU fun _ _ K hn => B3 (er hn).1 (er hn).2 K []) (aF (Ly fun _ K hn => CL (C2 (abl hn)) K []) (aF Qn
 (aF (iU fun _ _ K hn => CN (er hn).1 (er hn).2 K) (aF aaY (aF acP bk)))))))))
theorem qP : aY P pn := aF (iU fun _ _ K hn => Ej (er hn).1 (er hn).2 K) (aF (iU fun _ _ K hn => Is (er hn).1 (er hn).2 K) (aF (iU fun _ _ K hn => II (er hn).1 (er hn).2 K)
 (aF (iU fun _ _ K hn => IB (KO (er hn).1) (KO (er hn).2) K []) (aF (iU fun _ _ K hn => GB (er hn).1 (er hn).2 K) (aF (Ly fun _ K _ => CX K []) (aF (wU zc) bk))))))
end Go.Am.B

/- ref02: Quo, Over. -/
namespace Go.Am.B
open Go Go.Am.N AV
theorem adY : aN P wF uU (au uU) := aP WJ (by kernel_rfl) (by kernel_rfl) (by kernel_rfl)
theorem LX : aN P Ai tQ (au tQ) := aP R8 (by kernel_rfl) (by kernel_rfl) (by kernel_rfl)
theorem aaZ {q r : Rat} {n m : Nat} : bu T nY [9] 60 uU (au uU) ⟨aL 0 [.rat q n, .rat r m], [], 0⟩ =
  some (aa.ag [(0 : Nat) < 1] (aa.fork ((↑(nl r.num.natAbs) : Int) == (0 : Int)) (aa.ag [(0 : Nat) < 1] (aa.ag [(0 : Nat) < 1] (aa.leaf ah.ret [agg [AV.bool false, mag 0, mag 0], int IntKind.i64 (3 : Int)]))) (aa.ag [(0 : Nat) < 1, (0 : Nat) < 1, (0 : Nat) < 1, (0 : Nat) < 1, nl q.num.natAbs < 2 ^ 39, nl r.den < 2 ^ 39, (0 : Nat) < 1, (0 : Nat) < 1, nl q.den < 2 ^ 39, nl r.num.natAbs < 2 ^ 39, nl (q.num.natAbs * r.den) < 2 ^ 38, nl (q.den * r.num.natAbs) < 2 ^ 38, q.den * r.num.natAbs ≠ 0, (0 : Nat) < 1] (aa.ag [(0 : Nat) < 1] (aa.leaf ah.ret [rat (sQ (decide (q < 0) != decide (r < 0)) (q.num.natAbs * r.den) (q.den * r.num.natAbs)) (bS (sQ (decide (q < 0) != decide (r < 0)) (q.num.natAbs * r.den) (q.den * r.num.natAbs))), int IntKind.i64 (0 : Int)]))))) := by kernel_rfl
theorem KN {q r : Rat} {n m : Nat} (hn : n < 2 ^ 41) (hm' : m < 2 ^ 41) (K : Nat) : aA P wF K [.rat q n, .rat r m] [] (aG (.tuple [.rat (q / r) (n + m), .int .i64 (if r = 0 then 3 else 0)]) []) := by
 refine gF fun ⟨hq, hr, _⟩ => ?_
 have hq : Sz q n := hq
 have hr : Sz r m := hr
 have d1 := q.den_nz
 have d2 := r.den_nz
 have a1 : nl q.num.natAbs < 2 ^ 38 := eg hq.1 (by omega)
 have a2 : nl q.den < 2 ^ 38 := eg hq.2 (by omega)
 have b1 : nl r.num.natAbs < 2 ^ 38 := eg hr.1 (by omega)
 have b2 : nl r.den < 2 ^ 38 := eg hr.2 (by omega)
 have m1 : nl (q.num.natAbs * r.den) < 2 ^ 38 := eg (lZ hq.1 hr.2) (by omega)
 have m3 : nl (q.den * r.num.natAbs) < 2 ^ 38 := eg (lZ hq.2 hr.1) (by omega)
 refine bC hT p6 hm adY rfl (of_decide_eq_true (by kernel_rfl)) rfl 60 aaZ (fun _ => ?_) K []
 have key : ((nl r.num.natAbs : Int) == (0 : Int)) = decide (r = 0) := by
  by_cases h : r = 0
  ·subst h; rfl
  ·have h1 : r.num.natAbs ≠ 0 := fun e => h (j8.1 e)
   have := eE.2 h1
   simp only [h, decide_false, beq_eq_false_iff_ne]; omega
 rw [key]
 simp only [aa.all, ay, decide_eq_true_eq, decide_eq_false_iff_not]
 refine ⟨by omega, fun h0 => ?_, fun h0 => ?_⟩
 ·refine ⟨by omega, by omega, ?_, bq (by rw [if_pos h0]), trivial⟩
  have e : q / r = 0 := by rw [h0, Rat.div_def, Rat.inv_zero, Rat.mul_zero]
  obtain ⟨k, hk⟩ : ∃ k, n + m = k + 1 := ⟨n + m - 1, by have := hq.pos; omega⟩
  rw [e, hk]
  first | exact iu | exact dm (by omega)
 ·have hr0 : r.num.natAbs ≠ 0 := fun h => h0 (j8.1 h)
  have hv := CI q r h0
  (repeat' with_reducible refine And.intro ?_ ?_)
  all_goals first | omega | exact m1 | exact m3 | exact Nat.mul_ne_zero d1 hr0 | skip
  exact ⟨eM hv (hq.div hr), bq (by rw [if_neg h0]), trivial⟩
def JO : aQ := [(wF, gM kR kR ug mm)]
theorem adV : aY P JO := aF (hU fun _ _ K hn => KN hn.1 hn.2 K) bk
theorem acz {q r : Rat} {n m : Nat} : bu T JO [] 60 tQ (au tQ) ⟨aL 0 [.rat q n, .rat r m], [], 0⟩ =
  some (aa.ag [(0 : Nat) < 1, (0 : Nat) < 1, n < 2 ^ 41, m < 2 ^ 41, (0 : Nat) < 1] (aa.ag [(0 : Nat) < 1, (0 : Nat) < 1] (aa.ag [(0 : Nat) < 1] (aa.leaf ah.ret [rat (q / r) (n + m)])))) := by kernel_rfl
theorem ZP {q r : Rat} {n m : Nat} (hn : n < 2 ^ 41) (hm' : m < 2 ^ 41) (K : Nat) : aA P Ai K [.rat q n, .rat r m] [] (aG (.rat (q / r) (n + m)) []) := by
 refine bC hT adV hm LX rfl (of_decide_eq_true (by kernel_rfl)) rfl 60 acz (fun _ => ?_) K []
 simp only [aa.all, ay]
 (repeat' with_reducible refine And.intro ?_ ?_)
 all_goals first | omega | exact bB.refl _
def Up (a b : Rat × Nat) : AV := rA (a.1 / b.1) (a.2 + b.2)
end Go.Am.B
