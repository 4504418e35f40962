/- aO for numbers of known size: the numbers. -/
import Derived.Test.YtbghpkgbokbmlaaGreatB34
import Derived.Test.YtbghpkgbokbmlaaGreatZ2
set_option linter.unusedVariables false
namespace Go.Am.B
open Go Go.Am.N AV
structure Kd (α : Type) where
 read : AV → Option α
 make : α → AV
 ok : ∀ {v : AV} {a : α}, read v = some a → bu v (make a)
def Ce : AV → Option (V3 × Nat)
 | .agg [x, y, z] => match gA x, gA y, gA z with
  | some (x, a), some (y, b), some (z, c) => some (⟨x, y, z⟩, max a (max b c))
  | _, _, _ => none
 | _ => none
theorem OB {v : AV} {a : V3 × Nat} (h : Ce v = some a) : bu v (vA a.1 a.2) := by
 unfold Ce at h
 split at h
 ·split at h
  ·rename_i h1 h2 h3
   simp only [Option.some.injEq] at h
   subst h
   exact cE ⟨(ig h1).trans (bS rfl (by simp only; omega)), (ig h2).trans (bS rfl (by simp only; omega)), (ig h3).trans (bS rfl (by simp only; omega)), trivial⟩
  ·simp at h
 ·simp at h
def dR : Kd (Rat × Nat) := ⟨gA, fun a => rA a.1 a.2, ig⟩
def dV : Kd (V3 × Nat) := ⟨Ce, fun a => vA a.1 a.2, OB⟩
section specs
variable {α β γ δ : Type} {f : FuncId}
def BR (k : Kd α) (g : α → AV) (B : α → Bool) : Spec := bp fun l => match l with
 | [x] => match k.read x with
  | some a => match B a with
   | true => some (aG (g a) [])
   | false => none
  | _ => none
 | _ => none
theorem CZ {k : Kd α} {g : α → AV} {B : α → Bool} (h : ∀ a K, B a = true → aA P f K [k.make a] [] (aG (g a) [])) : ∀ K args pre r, BR k g B K args pre = some r → aA P f K args pre r := by
 refine bF fun K args r hk hs _ => ?_
 split at hs
 ·split at hs
  ·rename_i h1
   split at hs
   ·rename_i hB
    simp only [Option.some.injEq] at hs
    subst hs
    exact fk (h _ K hB) hk ⟨k.ok h1, trivial⟩ []
   ·simp at hs
  ·simp at hs
 ·simp at hs
def g8 (k : Kd α) (k2 : Kd β) (g : α → β → AV) (B : α → β → Bool) : Spec := bp fun l => match l with
 | [x, y] => match k.read x, k2.read y with
  | some a, some b => match B a b with
   | true => some (aG (g a b) [])
   | false => none
  | _, _ => none
 | _ => none
theorem iA {k : Kd α} {k2 : Kd β} {g : α → β → AV} {B : α → β → Bool} (h : ∀ a b K, B a b = true → aA P f K [k.make a, k2.make b] [] (aG (g a b) [])) : ∀ K args pre r, g8 k k2 g B K args pre = some r → aA P f K args pre r := by
 refine bF fun K args r hk hs _ => ?_
 split at hs
 ·split at hs
  ·rename_i h1 h2
   split at hs
   ·rename_i hB
    simp only [Option.some.injEq] at hs
    subst hs
    exact fk (h _ _ K hB) hk ⟨k.ok h1, k2.ok h2, trivial⟩ []
   ·simp at hs
  ·simp at hs
 ·simp at hs
end specs
def b1 {α : Type} (e : Nat) (a : α × Nat) : Bool := Nat.blt a.2 (2 ^ e)
def b2 {α β : Type} (e : Nat) (a : α × Nat) (b : β × Nat) : Bool := Nat.blt a.2 (2 ^ e) && Nat.blt b.2 (2 ^ e)
def b3 {α β γ : Type} (e : Nat) (a : α × Nat) (b : β × Nat) (c : γ × Nat) : Bool := Nat.blt a.2 (2 ^ e) && (Nat.blt b.2 (2 ^ e) && Nat.blt c.2 (2 ^ e))
theorem Er {a b : Nat} : Nat.blt a b = true ↔ a < b := by rw [Nat.blt_eq]
theorem L8 {α : Type} {e : Nat} {a : α × Nat} (h : b1 e a = true) : a.2 < 2 ^ e := Er.1 h
theorem ep {α β : Type} {e : Nat} {a : α × Nat} {b : β × Nat} (h : b2 e a b = true) : a.2 < 2 ^ e ∧ b.2 < 2 ^ e := by
 simp only [b2, Bool.and_eq_true, Er] at h; exact h
def oF : Spec := bp fun l => match l with
 | [.int .i64 n] => match decide (-2 ^ 63 ≤ n ∧ n < 2 ^ 63) with
  | true => some (aG (.rat (n : Rat) (max 1 (aQ n.natAbs))) [])
  | false => none
 | _ => none
abbrev zB : FuncId × Spec := (nY, oF)
def iz : aO := [(r6, g8 dR dR jh (b2 42)), (vj, g8 dR dR xW (b2 42)), (uT, g8 dR dR xz (b2 42)), (uG, g8 dR dR xd (b2 42)), (nT, g8 dR dR yL (b2 42)), (nE, BR dR wK (b1 42)), zB, (xU, g8 dR dR BD (b2 42)), (yl, g8 dR dR Z8 (b2 42)), (wS, g8 dR dR KQ (b2 42))]
def gr : aO := [(nr, g8 dR dR jh (b2 41)), (vk, g8 dR dR xW (b2 41)), (rJ, g8 dR dR xz (b2 41)), (ux, g8 dR dR xd (b2 41)), (rU, g8 dR dR yL (b2 41)), (ni, BR dR wK (b1 41)), (ir, oF)]
theorem Ad {n : Nat} (h : n < 2 ^ 42) : n < 2 ^ 44 := Nat.lt_trans h (by omega)
theorem C9 {n : Nat} (h : n < 2 ^ 41) : n < 2 ^ 44 := Nat.lt_trans h (by omega)
theorem yV {f : FuncId} (h : ∀ {n : Int}, -2 ^ 63 ≤ n → n < 2 ^ 63 → ∀ K, aA P f K [.int .i64 n] [] (aG (.rat (n : Rat) (max 1 (aQ n.natAbs))) [])) : ∀ K args pre r, oF K args pre = some r → aA P f K args pre r := by
 refine bF fun K args r hk hs _ => ?_
 split at hs
 ·split at hs
  ·rename_i hc
   simp only [Option.some.injEq] at hs
   subst hs
   have := of_decide_eq_true hc
   exact h this.1 this.2 K
  ·simp at hs
 ·simp at hs
theorem YD : ∀ K args pre r, zB.2 K args pre = some r → aA P zB.1 K args pre r := yV Et
theorem iD : aV P iz := aD (iA fun _ _ K hn => Ke (ep hn).1 (ep hn).2 K) (aD (iA fun _ _ K hn => Iz (ep hn).1 (ep hn).2 K) (aD (iA fun _ _ K hn => Fl (ep hn).1 (ep hn).2 K)
 (aD (iA fun _ _ K hn => FE (Ad (ep hn).1) (Ad (ep hn).2) K []) (aD (iA fun _ _ K hn => Cm (ep hn).1 (ep hn).2 K []) (aD (CZ fun _ K hn => z4 (Ad (L8 hn)) K []) (aD YD
 (aD (iA fun _ _ K hn => Qi (ep hn).1 (ep hn).2 K) (aD (iA fun _ _ K hn => Ul (ep hn).1 (ep hn).2 K) (aD (iA fun _ _ K hn => MP (ep hn).1 (ep hn).2 K) aU)))))))))
theorem gP : aV P gr := aD (iA fun _ _ K hn => AD (ep hn).1 (ep hn).2 K) (aD (iA fun _ _ K hn => DV (ep hn).1 (ep hn).2 K) (aD (iA fun _ _ K hn => Kh (ep hn).1 (ep hn).2 K)
 (aD (iA fun _ _ K hn => Fx (C9 (ep hn).1) (C9 (ep hn).2) K []) (aD (iA fun _ _ K hn => Dx (ep hn).1 (ep hn).2 K) (aD (CZ fun _ K _ => zN K []) (aD (yV wq) aU))))))
end Go.Am.B

/- ref02: Quo, Over. -/
namespace Go.Am.B
open Go Go.Am.N AV
theorem ZN : aN P s9 vg (au vg) := aK Tj (by kernel_rfl) (by kernel_rfl) (by kernel_rfl)
theorem PN : aN P yZ sL (au sL) := aK Te (by kernel_rfl) (by kernel_rfl) (by kernel_rfl)
theorem OE {q r : Rat} {n m : Nat} : bA T nN [9] 60 vg (au vg) ⟨aL 0 [.rat q n, .rat r m], [], 0⟩ =
  some (aa.af [(0 : Nat) < 1] (aa.fork ((↑(nl r.num.natAbs) : Int) == (0 : Int)) (aa.af [(0 : Nat) < 1] (aa.af [(0 : Nat) < 1] (aa.leaf aj.ret [agg [AV.bool false, mag 0, mag 0], int IntKind.i64 (3 : Int)]))) (aa.af [(0 : Nat) < 1, (0 : Nat) < 1, (0 : Nat) < 1, (0 : Nat) < 1, nl q.num.natAbs < 2 ^ 39, nl r.den < 2 ^ 39, (0 : Nat) < 1, (0 : Nat) < 1, nl q.den < 2 ^ 39, nl r.num.natAbs < 2 ^ 39, nl (q.num.natAbs * r.den) < 2 ^ 38, nl (q.den * r.num.natAbs) < 2 ^ 38, q.den * r.num.natAbs ≠ 0, (0 : Nat) < 1] (aa.af [(0 : Nat) < 1] (aa.leaf aj.ret [rat (sQ (decide (q < 0) != decide (r < 0)) (q.num.natAbs * r.den) (q.den * r.num.natAbs)) (bQ (sQ (decide (q < 0) != decide (r < 0)) (q.num.natAbs * r.den) (q.den * r.num.natAbs))), int IntKind.i64 (0 : Int)]))))) := by kernel_rfl
theorem Jj {q r : Rat} {n m : Nat} (hn : n < 2 ^ 41) (hm' : m < 2 ^ 41) (K : Nat) : aA P s9 K [.rat q n, .rat r m] [] (aG (.tuple [.rat (q / r) (n + m), .int .i64 (if r = 0 then 3 else 0)]) []) := by
 refine gj fun ⟨hq, hr, _⟩ => ?_
 have hq : Sz q n := hq
 have hr : Sz r m := hr
 have d1 := q.den_nz
 have d2 := r.den_nz
 have a1 : nl q.num.natAbs < 2 ^ 38 := dB hq.1 (by omega)
 have a2 : nl q.den < 2 ^ 38 := dB hq.2 (by omega)
 have b1 : nl r.num.natAbs < 2 ^ 38 := dB hr.1 (by omega)
 have b2 : nl r.den < 2 ^ 38 := dB hr.2 (by omega)
 have m1 : nl (q.num.natAbs * r.den) < 2 ^ 38 := dB (kM hq.1 hr.2) (by omega)
 have m3 : nl (q.den * r.num.natAbs) < 2 ^ 38 := dB (kM hq.2 hr.1) (by omega)
 refine bD hT qb hm ZN rfl (of_decide_eq_true (by kernel_rfl)) rfl 60 OE (fun _ => ?_) K []
 have key : ((nl r.num.natAbs : Int) == (0 : Int)) = decide (r = 0) := by
  by_cases h : r = 0
  ·subst h; rfl
  ·have h1 : r.num.natAbs ≠ 0 := fun e => h (kO.1 e)
   have := eE.2 h1
   simp only [h, decide_false, beq_eq_false_iff_ne]; omega
 rw [key]
 simp only [aa.all, ax, decide_eq_true_eq, decide_eq_false_iff_not]
 refine ⟨by omega, fun h0 => ?_, fun h0 => ?_⟩
 ·refine ⟨by omega, by omega, ?_, bn (by rw [if_pos h0]), trivial⟩
  have e : q / r = 0 := by rw [h0, Rat.div_def, Rat.inv_zero, Rat.mul_zero]
  obtain ⟨k, hk⟩ : ∃ k, n + m = k + 1 := ⟨n + m - 1, by have := hq.pos; omega⟩
  rw [e, hk]
  first | exact ji | exact dY (by omega)
 ·have hr0 : r.num.natAbs ≠ 0 := fun h => h0 (kO.1 h)
  have hv := zX q r h0
  (repeat' with_reducible refine And.intro ?_ ?_)
  all_goals first | omega | exact m1 | exact m3 | exact Nat.mul_ne_zero d1 hr0 | skip
  exact ⟨eu hv (hq.div hr), bn (by rw [if_neg h0]), trivial⟩
def ID : aO := [(s9, gF kR kR BD mz)]
theorem WG : aV P ID := aD (hH fun _ _ K hn => Jj hn.1 hn.2 K) aU
theorem Zb {q r : Rat} {n m : Nat} : bA T ID [] 60 sL (au sL) ⟨aL 0 [.rat q n, .rat r m], [], 0⟩ =
  some (aa.af [(0 : Nat) < 1, (0 : Nat) < 1, n < 2 ^ 41, m < 2 ^ 41, (0 : Nat) < 1] (aa.af [(0 : Nat) < 1, (0 : Nat) < 1] (aa.af [(0 : Nat) < 1] (aa.leaf aj.ret [rat (q / r) (n + m)])))) := by kernel_rfl
theorem OA {q r : Rat} {n m : Nat} (hn : n < 2 ^ 41) (hm' : m < 2 ^ 41) (K : Nat) : aA P yZ K [.rat q n, .rat r m] [] (aG (.rat (q / r) (n + m)) []) := by
 refine bD hT WG hm PN rfl (of_decide_eq_true (by kernel_rfl)) rfl 60 Zb (fun _ => ?_) K []
 simp only [aa.all, ax]
 (repeat' with_reducible refine And.intro ?_ ?_)
 all_goals first | omega | exact bu.refl _
def OP (a b : Rat × Nat) : AV := rA (a.1 / b.1) (a.2 + b.2)
end Go.Am.B
