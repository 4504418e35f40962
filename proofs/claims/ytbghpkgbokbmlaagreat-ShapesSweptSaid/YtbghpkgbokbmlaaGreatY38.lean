/- aQ for numbers of known size: the numbers. -/
import Derived.Test.YtbghpkgbokbmlaaGreatB34
import Derived.Test.YtbghpkgbokbmlaaGreatZ2
import Derived.Test.YtbghpkgbokbmlaaGreatB33
set_option linter.unusedVariables false
namespace Go.Am.B
open Go Go.Am.N AV
structure Kd (α : Type) where
 read : AV → Option α
 make : α → AV
 ok : ∀ {v : AV} {a : α}, read v = some a → bn v (make a)
def Bk : AV → Option (V3 × Nat)
 | .agg [x, y, z] => match gf x, gf y, gf z with
  | some (x, a), some (y, b), some (z, c) => some (⟨x, y, z⟩, max a (max b c))
  | _, _, _ => none
 | _ => none
theorem Xl {v : AV} {a : V3 × Nat} (h : Bk v = some a) : bn v (vA a.1 a.2) := by
 unfold Bk at h
 split at h
 ·split at h
  ·rename_i h1 h2 h3
   simp only [Option.some.injEq] at h
   subst h
   exact cN ⟨(gG h1).trans (cr rfl (by simp only; omega)), (gG h2).trans (cr rfl (by simp only; omega)), (gG h3).trans (cr rfl (by simp only; omega)), trivial⟩
  ·simp at h
 ·simp at h
def dR : Kd (Rat × Nat) := ⟨gf, fun a => rA a.1 a.2, gG⟩
def dV : Kd (V3 × Nat) := ⟨Bk, fun a => vA a.1 a.2, Xl⟩
section specs
variable {α β γ δ : Type} {f : FuncId}
def B9 (k : Kd α) (g : α → AV) (B : α → Bool) : Spec := bt fun l => match l with
 | [x] => match k.read x with
  | some a => match B a with
   | true => some (aF (g a) [])
   | false => none
  | _ => none
 | _ => none
theorem Ho {k : Kd α} {g : α → AV} {B : α → Bool} (h : ∀ a K, B a = true → az P f K [k.make a] [] (aF (g a) [])) : ∀ K args pre r, B9 k g B K args pre = some r → az P f K args pre r := by
 refine bH fun K args r hk hs _ => ?_
 split at hs
 ·split at hs
  ·rename_i h1
   split at hs
   ·rename_i hB
    simp only [Option.some.injEq] at hs
    subst hs
    exact fk (h _ K hB) hk ⟨k.ok h1, trivial⟩ []
   ·simp at hs
  ·simp at hs
 ·simp at hs
def gJ (k : Kd α) (k2 : Kd β) (g : α → β → AV) (B : α → β → Bool) : Spec := bt fun l => match l with
 | [x, y] => match k.read x, k2.read y with
  | some a, some b => match B a b with
   | true => some (aF (g a b) [])
   | false => none
  | _, _ => none
 | _ => none
theorem gQ {k : Kd α} {k2 : Kd β} {g : α → β → AV} {B : α → β → Bool} (h : ∀ a b K, B a b = true → az P f K [k.make a, k2.make b] [] (aF (g a b) [])) : ∀ K args pre r, gJ k k2 g B K args pre = some r → az P f K args pre r := by
 refine bH fun K args r hk hs _ => ?_
 split at hs
 ·split at hs
  ·rename_i h1 h2
   split at hs
   ·rename_i hB
    simp only [Option.some.injEq] at hs
    subst hs
    exact fk (h _ _ K hB) hk ⟨k.ok h1, k2.ok h2, trivial⟩ []
   ·simp at hs
  ·simp at hs
 ·simp at hs
end specs
def b1 {α : Type} (e : Nat) (a : α × Nat) : Bool := Nat.blt a.2 (2 ^ e)
def b2 {α β : Type} (e : Nat) (a : α × Nat) (b : β × Nat) : Bool := Nat.blt a.2 (2 ^ e) && Nat.blt b.2 (2 ^ e)
def b3 {α β γ : Type} (e : Nat) (a : α × Nat) (b : β × Nat) (c : γ × Nat) : Bool := Nat.blt a.2 (2 ^ e) && (Nat.blt b.2 (2 ^ e) && Nat.blt c.2 (2 ^ e))
theorem E0 {a b : Nat} : Nat.blt a b = true ↔ a < b := by rw [Nat.blt_eq]
theorem ON {α : Type} {e : Nat} {a : α × Nat} (h : b1 e a = true) : a.2 < 2 ^ e := E0.1 h
theorem eo {α β : Type} {e : Nat} {a : α × Nat} {b : β × Nat} (h : b2 e a b = true) : a.2 < 2 ^ e ∧ b.2 < 2 ^ e := by
 simp only [b2, Bool.and_eq_true, E0] at h; exact h
def pg : Spec := bt fun l => match l with
 | [.int .i64 n] => match decide (-2 ^ 63 ≤ n ∧ n < 2 ^ 63) with
  | true => some (aF (.rat (n : Rat) (max 1 (aS n.natAbs))) [])
  | false => none
 | _ => none
abbrev DC : FuncId × Spec := (oI, pg)
def jG : aQ := [(wM, gJ dR dR jE (b2 42)), (td, gJ dR dR zW (b2 42)), (uO, gJ dR dR xV (b2 42)), (kf, gJ dR dR zu (b2 42)), (nU, gJ dR dR yL (b2 42)), (oM, B9 dR xy (b1 42)), DC, (zD, gJ dR dR BF (b2 42)), (za, gJ dR dR K9 (b2 42)), (xm, gJ dR dR Hy (b2 42))]
def gn : aQ := [(ni, gJ dR dR jE (b2 41)), (vl, gJ dR dR zW (b2 41)), (vG, gJ dR dR xV (b2 41)), (tE, gJ dR dR zu (b2 41)), (vD, gJ dR dR yL (b2 41)), (oq, B9 dR xy (b1 41)), (iI, pg)]
theorem Bg {n : Nat} (h : n < 2 ^ 42) : n < 2 ^ 44 := Nat.lt_trans h (by omega)
theorem F3 {n : Nat} (h : n < 2 ^ 41) : n < 2 ^ 44 := Nat.lt_trans h (by omega)
theorem zP {f : FuncId} (h : ∀ {n : Int}, -2 ^ 63 ≤ n → n < 2 ^ 63 → ∀ K, az P f K [.int .i64 n] [] (aF (.rat (n : Rat) (max 1 (aS n.natAbs))) [])) : ∀ K args pre r, pg K args pre = some r → az P f K args pre r := by
 refine bH fun K args r hk hs _ => ?_
 split at hs
 ·split at hs
  ·rename_i hc
   simp only [Option.some.injEq] at hs
   subst hs
   have := of_decide_eq_true hc
   exact h this.1 this.2 K
  ·simp at hs
 ·simp at hs
theorem X0 : ∀ K args pre r, DC.2 K args pre = some r → az P DC.1 K args pre r := zP Hv
theorem j5 : aW P jG := aC (gQ fun _ _ K hn => Iy (eo hn).1 (eo hn).2 K) (aC (gQ fun _ _ K hn => G5 (eo hn).1 (eo hn).2 K) (aC (gQ fun _ _ K hn => Jg (eo hn).1 (eo hn).2 K)
 (aC (gQ fun _ _ K hn => D0 (Bg (eo hn).1) (Bg (eo hn).2) K []) (aC (gQ fun _ _ K hn => Dz (eo hn).1 (eo hn).2 K []) (aC (Ho fun _ K hn => C8 (Bg (ON hn)) K []) (aC X0
 (aC (gQ fun _ _ K hn => SX (eo hn).1 (eo hn).2 K) (aC (gQ fun _ _ K hn => X3 (eo hn).1 (eo hn).2 K) (aC (gQ fun _ _ K hn => Xw (eo hn).1 (eo hn).2 K) aT)))))))))
theorem gH : aW P gn := aC (gQ fun _ _ K hn => A8 (eo hn).1 (eo hn).2 K) (aC (gQ fun _ _ K hn => HX (eo hn).1 (eo hn).2 K) (aC (gQ fun _ _ K hn => F0 (eo hn).1 (eo hn).2 K)
 (aC (gQ fun _ _ K hn => JB (F3 (eo hn).1) (F3 (eo hn).2) K []) (aC (gQ fun _ _ K hn => HU (eo hn).1 (eo hn).2 K) (aC (Ho fun _ K _ => Dt K []) (aC (zP x5) aT))))))
end Go.Am.B

/- ref02: Min, Max; spans. -/
namespace Go.Am.B
open Go Go.Am.N AV aa ag IntKind
theorem Wm : aP P ya ta (au ta) := aL aac (by kernel_rfl) (by kernel_rfl) (by kernel_rfl)
theorem acG : aP P x7 ri (au ri) := aL ack (by kernel_rfl) (by kernel_rfl) (by kernel_rfl)
theorem YY {q r : Rat} {n m : Nat} : bA T iy [8] 60 ta (au ta) ⟨aM 0 [.rat q n, .rat r m], [], 0⟩ =
  let c1 : Prop := 0 < 1; some (af [c1, c1, m < 2 ^ 41, n < 2 ^ 41] (fork (decide (eV r q < (0 : Int))) (af [c1, c1] (af [c1] (leaf ret [rat r m]))) (af [c1, c1] (af [c1] (leaf ret [rat q n]))))) := by kernel_rfl
theorem M8 {q r : Rat} {n m : Nat} : bA T iy [8] 60 ri (au ri) ⟨aM 0 [.rat q n, .rat r m], [], 0⟩ =
  let c1 : Prop := 0 < 1; some (af [c1, c1, m < 2 ^ 41, n < 2 ^ 41] (fork (decide (eV r q > (0 : Int))) (af [c1, c1] (af [c1] (leaf ret [rat r m]))) (af [c1, c1] (af [c1] (leaf ret [rat q n]))))) := by kernel_rfl
theorem Vv {q r : Rat} : decide (eV q r < (0 : Int)) = decide (q < r) := by unfold eV; by_cases h : q < r <;> by_cases h' : r < q <;> simp [h, h']
theorem NF {q r : Rat} : decide (eV q r > (0 : Int)) = decide (r < q) := by
 unfold eV
 by_cases h : q < r
 ·have : ¬ r < q := by grind
  simp [h, this]
 ·by_cases h' : r < q <;> simp [h, h']
theorem adL {q r : Rat} {n m : Nat} (hn : n < 2 ^ 41) (hm' : m < 2 ^ 41) (K : Nat) : az P ya K [.rat q n, .rat r m] [] (aF (.rat (mW q r) (max n m)) []) := by
 refine bD hT ja hm Wm rfl (of_decide_eq_true (by kernel_rfl)) rfl 60 YY (fun _ => ?_) K []
 rw [Vv]
 simp only [aa.all, ax, decide_eq_true_eq, decide_eq_false_iff_not]
 (repeat' with_reducible first | refine And.intro ?_ ?_ | intro _)
 all_goals first | omega | skip
 ·rename_i h; unfold mW; rw [if_pos h]; exact dN (Nat.le_max_right _ _)
 ·rename_i h; unfold mW; rw [if_neg h]; exact dN (Nat.le_max_left _ _)
theorem YR {q r : Rat} {n m : Nat} (hn : n < 2 ^ 41) (hm' : m < 2 ^ 41) (K : Nat) : az P x7 K [.rat q n, .rat r m] [] (aF (.rat (nc q r) (max n m)) []) := by
 refine bD hT ja hm acG rfl (of_decide_eq_true (by kernel_rfl)) rfl 60 M8 (fun _ => ?_) K []
 rw [NF]
 simp only [aa.all, ax, decide_eq_true_eq, decide_eq_false_iff_not]
 (repeat' with_reducible first | refine And.intro ?_ ?_ | intro _)
 all_goals first | omega | skip
 ·rename_i h; unfold nc; rw [if_pos h]; exact dN (Nat.le_max_right _ _)
 ·rename_i h; unfold nc; rw [if_neg h]; exact dN (Nat.le_max_left _ _)
def F9 : aQ := [(ya, gJ dR dR K9 (b2 41)), (x7, gJ dR dR Hy (b2 41))]
theorem Wt : aW P F9 := aC (gQ fun _ _ K hn => adL (eo hn).1 (eo hn).2 K) (aC (gQ fun _ _ K hn => YR (eo hn).1 (eo hn).2 K) aT)
end Go.Am.B

/- brepkernelmade: Part. -/
namespace Go.Am.B
open Go Go.Am.N AV
theorem XF : aP P rX sI (au sI) := aL Mi (by kernel_rfl) (by kernel_rfl) (by kernel_rfl)
def P7 : aQ := [(qP, AM), (l5, ud)]
theorem Ru {d : Int} : bA T P7 [] 60 sI (au sI) ⟨aM 0 [.int .i64 d], [], 0⟩ =
  some (aa.af [(17 : Int) ≠ (0 : Int), (0 : Int) < (12 : Int), (12 : Int) < (2 : Int) ^ 62] (aa.af [(0 : Int) < IntKind.i64.wrap (IntKind.i64.wrap ((1 : Int) + IntKind.i64.wrap (d.tdiv (17 : Int)) % (12 : Int)) + (1 : Int)), IntKind.i64.wrap (IntKind.i64.wrap ((1 : Int) + IntKind.i64.wrap (d.tdiv (17 : Int)) % (12 : Int)) + (1 : Int)) < (2 : Int) ^ 62, -(2 : Int) ^ 63 ≤ d % IntKind.i64.wrap (IntKind.i64.wrap ((1 : Int) + IntKind.i64.wrap (d.tdiv (17 : Int)) % (12 : Int)) + (1 : Int)), d % IntKind.i64.wrap (IntKind.i64.wrap ((1 : Int) + IntKind.i64.wrap (d.tdiv (17 : Int)) % (12 : Int)) + (1 : Int)) < (2 : Int) ^ 63, -(2 : Int) ^ 63 ≤ IntKind.i64.wrap ((1 : Int) + IntKind.i64.wrap (d.tdiv (17 : Int)) % (12 : Int)), IntKind.i64.wrap ((1 : Int) + IntKind.i64.wrap (d.tdiv (17 : Int)) % (12 : Int)) < (2 : Int) ^ 63, (0 : Nat) < 1] (aa.af [(0 : Nat) < 1] (aa.leaf ag.ret [rat ((↑(d % IntKind.i64.wrap (IntKind.i64.wrap ((1 : Int) + IntKind.i64.wrap (d.tdiv (17 : Int)) % (12 : Int)) + (1 : Int))) : Rat) / (↑(IntKind.i64.wrap ((1 : Int) + IntKind.i64.wrap (d.tdiv (17 : Int)) % (12 : Int))) : Rat)) 64])))) := by kernel_rfl
def q8 (d : Int) : Int := 1 + IntKind.i64.wrap (d.tdiv 17) % 12
def fo (d : Int) : Rat := ((d % (q8 d + 1) : Int) : Rat) / ((q8 d : Int) : Rat)
def BW : Spec := bt fun l => match l with
 | [.int .i64 d] => some (aF (.rat (fo d) 64) [])
 | _ => none
theorem LG : ∀ K args pre r, BW K args pre = some r → az P rX K args pre r := by
 refine bH fun K args r hk hs _ => ?_
 split at hs
 ·rename_i d
  simp only [Option.some.injEq] at hs
  subst hs
  refine bD hT (aC EC (aC zj aT)) hm XF rfl (of_decide_eq_true (by kernel_rfl)) rfl 60 Ru (fun _ => ?_) K []
  unfold fo q8
  generalize IntKind.i64.wrap (d.tdiv 17) = w at *
  have w1 := Int.emod_nonneg w (show (12 : Int) ≠ 0 by omega)
  have w2 := Int.emod_lt_of_pos w (show (0 : Int) < 12 by omega)
  generalize w % 12 = x at *
  have e1 : IntKind.i64.wrap (1 + x) = 1 + x := wrap_i64 (by omega) (by omega)
  have e2 : IntKind.i64.wrap (1 + x + 1) = 1 + x + 1 := wrap_i64 (by omega) (by omega)
  rw [e1, e2]
  have v1 := Int.emod_nonneg d (show 1 + x + 1 ≠ 0 by omega)
  have v2 := Int.emod_lt_of_pos d (show 0 < 1 + x + 1 by omega)
  generalize d % (1 + x + 1) = y at *
  simp only [aa.all, ax]
  exact ⟨⟨by omega, by omega, by omega⟩, ⟨by omega, by omega, by omega, by omega, by omega, by omega, by omega⟩, by omega, .refl _⟩
 ·simp at hs
end Go.Am.B

/- ref02: Quo, Over. -/
namespace Go.Am.B
open Go Go.Am.N AV
theorem X6 : aP P wO rG (au rG) := aL Py (by kernel_rfl) (by kernel_rfl) (by kernel_rfl)
theorem Z9 : aP P zV vU (au vU) := aL acr (by kernel_rfl) (by kernel_rfl) (by kernel_rfl)
theorem OD {q r : Rat} {n m : Nat} : bA T nk [9] 60 rG (au rG) ⟨aM 0 [.rat q n, .rat r m], [], 0⟩ =
  some (aa.af [(0 : Nat) < 1] (aa.fork ((↑(nl r.num.natAbs) : Int) == (0 : Int)) (aa.af [(0 : Nat) < 1] (aa.af [(0 : Nat) < 1] (aa.leaf ag.ret [agg [AV.bool false, mag 0, mag 0], int IntKind.i64 (3 : Int)]))) (aa.af [(0 : Nat) < 1, (0 : Nat) < 1, (0 : Nat) < 1, (0 : Nat) < 1, nl q.num.natAbs < 2 ^ 39, nl r.den < 2 ^ 39, (0 : Nat) < 1, (0 : Nat) < 1, nl q.den < 2 ^ 39, nl r.num.natAbs < 2 ^ 39, nl (q.num.natAbs * r.den) < 2 ^ 38, nl (q.den * r.num.natAbs) < 2 ^ 38, q.den * r.num.natAbs ≠ 0, (0 : Nat) < 1] (aa.af [(0 : Nat) < 1] (aa.leaf ag.ret [rat (sQ (decide (q < 0) != decide (r < 0)) (q.num.natAbs * r.den) (q.den * r.num.natAbs)) (bV (sQ (decide (q < 0) != decide (r < 0)) (q.num.natAbs * r.den) (q.den * r.num.natAbs))), int IntKind.i64 (0 : Int)]))))) := by kernel_rfl
theorem Jy {q r : Rat} {n m : Nat} (hn : n < 2 ^ 41) (hm' : m < 2 ^ 41) (K : Nat) : az P wO K [.rat q n, .rat r m] [] (aF (.tuple [.rat (q / r) (n + m), .int .i64 (if r = 0 then 3 else 0)]) []) := by
 refine gA fun ⟨hq, hr, _⟩ => ?_
 have hq : Sz q n := hq
 have hr : Sz r m := hr
 have d1 := q.den_nz
 have d2 := r.den_nz
 have a1 : nl q.num.natAbs < 2 ^ 38 := dO hq.1 (by omega)
 have a2 : nl q.den < 2 ^ 38 := dO hq.2 (by omega)
 have b1 : nl r.num.natAbs < 2 ^ 38 := dO hr.1 (by omega)
 have b2 : nl r.den < 2 ^ 38 := dO hr.2 (by omega)
 have m1 : nl (q.num.natAbs * r.den) < 2 ^ 38 := dO (kU hq.1 hr.2) (by omega)
 have m3 : nl (q.den * r.num.natAbs) < 2 ^ 38 := dO (kU hq.2 hr.1) (by omega)
 refine bD hT o9 hm X6 rfl (of_decide_eq_true (by kernel_rfl)) rfl 60 OD (fun _ => ?_) K []
 have key : ((nl r.num.natAbs : Int) == (0 : Int)) = decide (r = 0) := by
  by_cases h : r = 0
  ·subst h; rfl
  ·have h1 : r.num.natAbs ≠ 0 := fun e => h (kZ.1 e)
   have := eO.2 h1
   simp only [h, decide_false, beq_eq_false_iff_ne]; omega
 rw [key]
 simp only [aa.all, ax, decide_eq_true_eq, decide_eq_false_iff_not]
 refine ⟨by omega, fun h0 => ?_, fun h0 => ?_⟩
 ·refine ⟨by omega, by omega, ?_, bq (by rw [if_pos h0]), trivial⟩
  have e : q / r = 0 := by rw [h0, Rat.div_def, Rat.inv_zero, Rat.mul_zero]
  obtain ⟨k, hk⟩ : ∃ k, n + m = k + 1 := ⟨n + m - 1, by have := hq.pos; omega⟩
  rw [e, hk]
  first | exact jI | exact dN (by omega)
 ·have hr0 : r.num.natAbs ≠ 0 := fun h => h0 (kZ.1 h)
  have hv := Bx q r h0
  (repeat' with_reducible refine And.intro ?_ ?_)
  all_goals first | omega | exact m1 | exact m3 | exact Nat.mul_ne_zero d1 hr0 | skip
  exact ⟨eG hv (hq.div hr), bq (by rw [if_neg h0]), trivial⟩
def GO : aQ := [(wO, iq kR kR BF mD)]
theorem ZO : aW P GO := aC (iN fun _ _ K hn => Jy hn.1 hn.2 K) aT
theorem abL {q r : Rat} {n m : Nat} : bA T GO [] 60 vU (au vU) ⟨aM 0 [.rat q n, .rat r m], [], 0⟩ =
  some (aa.af [(0 : Nat) < 1, (0 : Nat) < 1, n < 2 ^ 41, m < 2 ^ 41, (0 : Nat) < 1] (aa.af [(0 : Nat) < 1, (0 : Nat) < 1] (aa.af [(0 : Nat) < 1] (aa.leaf ag.ret [rat (q / r) (n + m)])))) := by kernel_rfl
theorem U4 {q r : Rat} {n m : Nat} (hn : n < 2 ^ 41) (hm' : m < 2 ^ 41) (K : Nat) : az P zV K [.rat q n, .rat r m] [] (aF (.rat (q / r) (n + m)) []) := by
 refine bD hT ZO hm Z9 rfl (of_decide_eq_true (by kernel_rfl)) rfl 60 abL (fun _ => ?_) K []
 simp only [aa.all, ax]
 (repeat' with_reducible refine And.intro ?_ ?_)
 all_goals first | omega | exact bn.refl _
def V8 (a b : Rat × Nat) : AV := rA (a.1 / b.1) (a.2 + b.2)
end Go.Am.B
