/- aT for numbers of known size: the numbers. -/
import Derived.Test.YtbghpkgbokbmlaaGreatB34
import Derived.Test.YtbghpkgbokbmlaaGreatZ2
set_option linter.unusedVariables false
namespace Go.Am.B
open Go Go.Am.N AV
structure Kd (α : Type) where
 read : AV → Option α
 make : α → AV
 ok : ∀ {v : AV} {a : α}, read v = some a → bD v (make a)
def zp : AV → Option (V3 × Nat)
 | .agg [x, y, z] => match iK x, iK y, iK z with
  | some (x, a), some (y, b), some (z, c) => some (⟨x, y, z⟩, max a (max b c))
  | _, _, _ => none
 | _ => none
theorem TE {v : AV} {a : V3 × Nat} (h : zp v = some a) : bD v (vA a.1 a.2) := by
 unfold zp at h
 split at h
 ·split at h
  ·rename_i h1 h2 h3
   simp only [Option.some.injEq] at h
   subst h
   exact eG ⟨(jM h1).trans (cV rfl (by simp only; omega)), (jM h2).trans (cV rfl (by simp only; omega)), (jM h3).trans (cV rfl (by simp only; omega)), trivial⟩
  ·simp at h
 ·simp at h
def dR : Kd (Rat × Nat) := ⟨iK, fun a => rA a.1 a.2, jM⟩
def dV : Kd (V3 × Nat) := ⟨zp, fun a => vA a.1 a.2, TE⟩
section specs
variable {α β γ δ : Type} {f : FuncId}
def BR (k : Kd α) (g : α → AV) (B : α → Bool) : Spec := bt fun l => match l with
 | [x] => match k.read x with
  | some a => match B a with
   | true => some (aH (g a) [])
   | false => none
  | _ => none
 | _ => none
theorem F7 {k : Kd α} {g : α → AV} {B : α → Bool} (h : ∀ a K, B a = true → aB P f K [k.make a] [] (aH (g a) [])) : ∀ K args pre r, BR k g B K args pre = some r → aB P f K args pre r := by
 refine bJ fun K args r hk hs _ => ?_
 split at hs
 ·split at hs
  ·rename_i h1
   split at hs
   ·rename_i hB
    simp only [Option.some.injEq] at hs
    subst hs
    exact fu (h _ K hB) hk ⟨k.ok h1, trivial⟩ []
   ·simp at hs
  ·simp at hs
 ·simp at hs
def gZ (k : Kd α) (k2 : Kd β) (g : α → β → AV) (B : α → β → Bool) : Spec := bt fun l => match l with
 | [x, y] => match k.read x, k2.read y with
  | some a, some b => match B a b with
   | true => some (aH (g a b) [])
   | false => none
  | _, _ => none
 | _ => none
theorem iq {k : Kd α} {k2 : Kd β} {g : α → β → AV} {B : α → β → Bool} (h : ∀ a b K, B a b = true → aB P f K [k.make a, k2.make b] [] (aH (g a b) [])) : ∀ K args pre r, gZ k k2 g B K args pre = some r → aB P f K args pre r := by
 refine bJ fun K args r hk hs _ => ?_
 split at hs
 ·split at hs
  ·rename_i h1 h2
   split at hs
   ·rename_i hB
    simp only [Option.some.injEq] at hs
    subst hs
    exact fu (h _ _ K hB) hk ⟨k.ok h1, k2.ok h2, trivial⟩ []
   ·simp at hs
  ·simp at hs
 ·simp at hs
end specs
def b1 {α : Type} (e : Nat) (a : α × Nat) : Bool := Nat.blt a.2 (2 ^ e)
def b2 {α β : Type} (e : Nat) (a : α × Nat) (b : β × Nat) : Bool := Nat.blt a.2 (2 ^ e) && Nat.blt b.2 (2 ^ e)
def b3 {α β γ : Type} (e : Nat) (a : α × Nat) (b : β × Nat) (c : γ × Nat) : Bool := Nat.blt a.2 (2 ^ e) && (Nat.blt b.2 (2 ^ e) && Nat.blt c.2 (2 ^ e))
theorem DE {a b : Nat} : Nat.blt a b = true ↔ a < b := by rw [Nat.blt_eq]
theorem Pw {α : Type} {e : Nat} {a : α × Nat} (h : b1 e a = true) : a.2 < 2 ^ e := DE.1 h
theorem eB {α β : Type} {e : Nat} {a : α × Nat} {b : β × Nat} (h : b2 e a b = true) : a.2 < 2 ^ e ∧ b.2 < 2 ^ e := by
 simp only [b2, Bool.and_eq_true, DE] at h; exact h
def pI : Spec := bt fun l => match l with
 | [.int .i64 n] => match decide (-2 ^ 63 ≤ n ∧ n < 2 ^ 63) with
  | true => some (aH (.rat (n : Rat) (max 1 (aV n.natAbs))) [])
  | false => none
 | _ => none
abbrev Cb : FuncId × Spec := (mZ, pI)
def jw : aT := [(v5, gZ dR dR jq (b2 42)), (rY, gZ dR dR xQ (b2 42)), (rR, gZ dR dR zn (b2 42)), (rj, gZ dR dR xA (b2 42)), (mX, gZ dR dR yT (b2 42)), (nF, BR dR xM (b1 42)), Cb, (xz, gZ dR dR BK (b2 42)), (y9, gZ dR dR UM (b2 42)), (xH, gZ dR dR Mg (b2 42))]
def gm : aT := [(nw, gZ dR dR jq (b2 41)), (tn, gZ dR dR xQ (b2 41)), (tN, gZ dR dR zn (b2 41)), (ry, gZ dR dR xA (b2 41)), (td, gZ dR dR yT (b2 41)), (nY, BR dR xM (b1 41)), (iy, pI)]
theorem Cd {n : Nat} (h : n < 2 ^ 42) : n < 2 ^ 44 := Nat.lt_trans h (by omega)
theorem EX {n : Nat} (h : n < 2 ^ 41) : n < 2 ^ 44 := Nat.lt_trans h (by omega)
theorem ym {f : FuncId} (h : ∀ {n : Int}, -2 ^ 63 ≤ n → n < 2 ^ 63 → ∀ K, aB P f K [.int .i64 n] [] (aH (.rat (n : Rat) (max 1 (aV n.natAbs))) [])) : ∀ K args pre r, pI K args pre = some r → aB P f K args pre r := by
 refine bJ fun K args r hk hs _ => ?_
 split at hs
 ·split at hs
  ·rename_i hc
   simp only [Option.some.injEq] at hs
   subst hs
   have := of_decide_eq_true hc
   exact h this.1 this.2 K
  ·simp at hs
 ·simp at hs
theorem Pz : ∀ K args pre r, Cb.2 K args pre = some r → aB P Cb.1 K args pre r := ym JX
theorem jI : bh P jw := aE (iq fun _ _ K hn => Ik (eB hn).1 (eB hn).2 K) (aE (iq fun _ _ K hn => Jj (eB hn).1 (eB hn).2 K) (aE (iq fun _ _ K hn => CT (eB hn).1 (eB hn).2 K)
 (aE (iq fun _ _ K hn => Gd (Cd (eB hn).1) (Cd (eB hn).2) K []) (aE (iq fun _ _ K hn => BO (eB hn).1 (eB hn).2 K []) (aE (F7 fun _ K hn => Ad (Cd (Pw hn)) K []) (aE Pz
 (aE (iq fun _ _ K hn => RJ (eB hn).1 (eB hn).2 K) (aE (iq fun _ _ K hn => Qn (eB hn).1 (eB hn).2 K) (aE (iq fun _ _ K hn => abf (eB hn).1 (eB hn).2 K) aY)))))))))
theorem gF : bh P gm := aE (iq fun _ _ K hn => BG (eB hn).1 (eB hn).2 K) (aE (iq fun _ _ K hn => EP (eB hn).1 (eB hn).2 K) (aE (iq fun _ _ K hn => GO (eB hn).1 (eB hn).2 K)
 (aE (iq fun _ _ K hn => Ie (EX (eB hn).1) (EX (eB hn).2) K []) (aE (iq fun _ _ K hn => GU (eB hn).1 (eB hn).2 K) (aE (F7 fun _ K _ => Aj K []) (aE (ym wI) aY))))))
end Go.Am.B

/- ref02: Quo, Over. -/
namespace Go.Am.B
open Go Go.Am.N AV
theorem XV : aS P qR uY (au uY) := aN Np (by kernel_rfl) (by kernel_rfl) (by kernel_rfl)
theorem Sx : aS P yg uw (au uw) := aN Nd (by kernel_rfl) (by kernel_rfl) (by kernel_rfl)
theorem Rl {q r : Rat} {n m : Nat} : bB T oe [9] 60 uY (au uY) ⟨aO 0 [.rat q n, .rat r m], [], 0⟩ =
  some (aa.af [(0 : Nat) < 1] (aa.fork ((↑(nl r.num.natAbs) : Int) == (0 : Int)) (aa.af [(0 : Nat) < 1] (aa.af [(0 : Nat) < 1] (aa.leaf ah.ret [agg [AV.bool false, mag 0, mag 0], int IntKind.i64 (3 : Int)]))) (aa.af [(0 : Nat) < 1, (0 : Nat) < 1, (0 : Nat) < 1, (0 : Nat) < 1, nl q.num.natAbs < 2 ^ 39, nl r.den < 2 ^ 39, (0 : Nat) < 1, (0 : Nat) < 1, nl q.den < 2 ^ 39, nl r.num.natAbs < 2 ^ 39, nl (q.num.natAbs * r.den) < 2 ^ 38, nl (q.den * r.num.natAbs) < 2 ^ 38, q.den * r.num.natAbs ≠ 0, (0 : Nat) < 1] (aa.af [(0 : Nat) < 1] (aa.leaf ah.ret [rat (sQ (decide (q < 0) != decide (r < 0)) (q.num.natAbs * r.den) (q.den * r.num.natAbs)) (bW (sQ (decide (q < 0) != decide (r < 0)) (q.num.natAbs * r.den) (q.den * r.num.natAbs))), int IntKind.i64 (0 : Int)]))))) := by kernel_rfl
theorem CU {q r : Rat} {n m : Nat} (hn : n < 2 ^ 41) (hm' : m < 2 ^ 41) (K : Nat) : aB P qR K [.rat q n, .rat r m] [] (aH (.tuple [.rat (q / r) (n + m), .int .i64 (if r = 0 then 3 else 0)]) []) := by
 refine gl fun ⟨hq, hr, _⟩ => ?_
 have hq : Sz q n := hq
 have hr : Sz r m := hr
 have d1 := q.den_nz
 have d2 := r.den_nz
 have a1 : nl q.num.natAbs < 2 ^ 38 := dG hq.1 (by omega)
 have a2 : nl q.den < 2 ^ 38 := dG hq.2 (by omega)
 have b1 : nl r.num.natAbs < 2 ^ 38 := dG hr.1 (by omega)
 have b2 : nl r.den < 2 ^ 38 := dG hr.2 (by omega)
 have m1 : nl (q.num.natAbs * r.den) < 2 ^ 38 := dG (j5 hq.1 hr.2) (by omega)
 have m3 : nl (q.den * r.num.natAbs) < 2 ^ 38 := dG (j5 hq.2 hr.1) (by omega)
 refine bF hT o7 hm XV rfl (of_decide_eq_true (by kernel_rfl)) rfl 60 Rl (fun _ => ?_) K []
 have key : ((nl r.num.natAbs : Int) == (0 : Int)) = decide (r = 0) := by
  by_cases h : r = 0
  ·subst h; rfl
  ·have h1 : r.num.natAbs ≠ 0 := fun e => h (kT.1 e)
   have := eH.2 h1
   simp only [h, decide_false, beq_eq_false_iff_ne]; omega
 rw [key]
 simp only [aa.all, ax, decide_eq_true_eq, decide_eq_false_iff_not]
 refine ⟨by omega, fun h0 => ?_, fun h0 => ?_⟩
 ·refine ⟨by omega, by omega, ?_, br (by rw [if_pos h0]), trivial⟩
  have e : q / r = 0 := by rw [h0, Rat.div_def, Rat.inv_zero, Rat.mul_zero]
  obtain ⟨k, hk⟩ : ∃ k, n + m = k + 1 := ⟨n + m - 1, by have := hq.pos; omega⟩
  rw [e, hk]
  first | exact jh | exact dF (by omega)
 ·have hr0 : r.num.natAbs ≠ 0 := fun h => h0 (kT.1 h)
  have hv := Cl q r h0
  (repeat' with_reducible refine And.intro ?_ ?_)
  all_goals first | omega | exact m1 | exact m3 | exact Nat.mul_ne_zero d1 hr0 | skip
  exact ⟨eA hv (hq.div hr), br (by rw [if_neg h0]), trivial⟩
def Hw : aT := [(qR, hU kR kR BK lS)]
theorem Sg : bh P Hw := aE (iC fun _ _ K hn => CU hn.1 hn.2 K) aY
theorem SA {q r : Rat} {n m : Nat} : bB T Hw [] 60 uw (au uw) ⟨aO 0 [.rat q n, .rat r m], [], 0⟩ =
  some (aa.af [(0 : Nat) < 1, (0 : Nat) < 1, n < 2 ^ 41, m < 2 ^ 41, (0 : Nat) < 1] (aa.af [(0 : Nat) < 1, (0 : Nat) < 1] (aa.af [(0 : Nat) < 1] (aa.leaf ah.ret [rat (q / r) (n + m)])))) := by kernel_rfl
theorem Rr {q r : Rat} {n m : Nat} (hn : n < 2 ^ 41) (hm' : m < 2 ^ 41) (K : Nat) : aB P yg K [.rat q n, .rat r m] [] (aH (.rat (q / r) (n + m)) []) := by
 refine bF hT Sg hm Sx rfl (of_decide_eq_true (by kernel_rfl)) rfl 60 SA (fun _ => ?_) K []
 simp only [aa.all, ax]
 (repeat' with_reducible refine And.intro ?_ ?_)
 all_goals first | omega | exact bD.refl _
def ZF (a b : Rat × Nat) : AV := rA (a.1 / b.1) (a.2 + b.2)
end Go.Am.B
