/- rational.den, parts, Same, Sign, copied, size: their contracts. -/
import Derived.Test.YtnocdkaonpdmjaaGreatB17
set_option linter.unusedVariables false
namespace Go.Am.B
open Go Go.Am.N AV
theorem Tw {q : Rat} {n : Nat} (K : Nat) (pre : aD) : aA P pU K [.rat q n] pre (aG (.mag q.den) []) := by
 refine bC hT kU hm PF rfl (of_decide_eq_true (by kernel_rfl)) rfl 60 Z6 (fun _ => ?_) K pre
 simp only [aa.all, ay, beq_iff_eq, beq_eq_false_iff_ne, ne_eq]
 refine ⟨by omega, fun hb => cI ?_, fun hb => ⟨by omega, cI ?_⟩⟩
 ·have h0 := q.den_nz
  have : (if q.den = 1 then 0 else q.den) = 0 := gP.1 (by omega)
  split at this
  ·rename_i h; rw [h]
  ·omega
 ·split
  ·rename_i h; rw [if_pos h] at hb; exact absurd (by decide) hb
  ·rfl
def Dz : Spec := bw fun l => match l with
 | [.rat q _] => some (aG (.mag q.den) [])
 | _ => none
theorem KL : ∀ K args pre r, Dz K args pre = some r → aA P pU K args pre r := by
 refine bI fun K args r hk hs _ => ?_
 split at hs
 ·simp only [Option.some.injEq] at hs
  subst hs
  exact Tw K []
 ·simp at hs
def bp (q : Rat) : Bool := decide (q.num.natAbs < 4294967296) && decide (q.den < 4294967296)
abbrev pQ (q : Rat) : AV := .tuple [.int .u64 (if bp q then q.num.natAbs else 0 : Nat), .int .u64 (if bp q then q.den else 0 : Nat), .bool (bp q)]
theorem qZ {N : Nat} : nl N ≤ 1 ↔ N < 4294967296 := cA
theorem XK {q : Rat} {n : Nat} (K : Nat) (pre : aD) : aA P xF K [.rat q n] pre (aG (pQ q) []) := by
 refine bC hT kU hm U9 rfl (of_decide_eq_true (by kernel_rfl)) rfl 60 Sd (fun _ => ?_) K pre
 simp only [aa.all, ay, beq_iff_eq, beq_eq_false_iff_ne, ne_eq, decide_eq_true_eq, decide_eq_false_iff_not, Int.toNat_zero]
 have hd := q.den_nz
 have no : ¬ (q.num.natAbs < 4294967296 ∧ q.den < 4294967296) → dn [.int .u64 0, .int .u64 0, .bool false] (pQ q) := by
  intro h
  have : bp q = false := by
   unfold bp
   by_cases h1 : q.num.natAbs < 4294967296
   ·simp [h1]; omega
   ·simp [h1]
  unfold pQ
  rw [this]
  exact ⟨.refl _, .refl _, .refl _, trivial⟩
 have yes : ∀ {x : Int} {v : Bool}, q.num.natAbs < 4294967296 ∧ q.den < 4294967296 → x = (q.den : Nat) → v = true → dn [.int .u64 (q.num.natAbs : Nat), .int .u64 x, .bool v] (pQ q) := by
  intro x v h hx hv
  have : bp q = true := by unfold bp; simp [h]
  unfold pQ
  rw [this]
  exact ⟨.refl _, bq hx, eL hv, trivial⟩
 have hden : ∀ {m : Nat}, nl (if q.den = 1 then 0 else q.den) ≤ m ↔ (q.den = 1 ∨ nl q.den ≤ m) := by
  intro m
  by_cases h : q.den = 1
  ·simp [h]; simp [nl]
  ·simp [h]
 refine ⟨fun hb => ⟨⟨by omega, hb⟩, fun _ => no ?_, fun h => by simp at h⟩, fun hb => ⟨⟨by omega, hb, by omega⟩, fun hc => no ?_, fun hc => ⟨by omega, fun h1 => ⟨⟨by omega, by omega, by omega⟩, ⟨by omega, by omega⟩, ?_⟩, fun h1 => ⟨⟨by omega, by omega⟩, yes ?_ ?_ rfl⟩⟩⟩⟩
 ·have := qZ (N := q.num.natAbs); omega
 ·have h2 := of_decide_eq_true (fD hc)
  have h3 := hden (m := 1)
  have h4 := qZ (N := q.den)
  omega
 ·have h2 := of_decide_eq_false (fD hc)
  have hn1 : q.den ≠ 1 := fun h => by rw [if_pos h] at h1; simp [nl] at h1
  rw [if_neg hn1] at h1 h2 ⊢
  have h4 := (qZ (N := q.den)).1 (by omega)
  have h5 := (qZ (N := q.num.natAbs)).1 (by omega)
  have hl : ax q.den 0 = q.den := by
   have := eB (N := q.den)
   rw [show nl q.den = 1 by omega, val, val] at this
   simpa using this
  rw [hl, wrap_u64 (by omega) (by omega)]
  exact yes ⟨h5, h4⟩ rfl (by simp; omega)
 ·have h2 := of_decide_eq_false (fD hc)
  have h3 := hden (m := 1)
  have h3' := hden (m := 0)
  have h4 := qZ (N := q.den)
  have h5 := qZ (N := q.num.natAbs)
  have h6 := eE (N := q.den)
  omega
 ·have h2 := of_decide_eq_false (fD hc)
  have h3 := hden (m := 0)
  have h6 := eE (N := q.den)
  omega
def Hu : Spec := bw fun l => match l with
 | [.rat q _] => some (aG (pQ q) [])
 | _ => none
theorem Oi : ∀ K args pre r, Hu K args pre = some r → aA P xF K args pre r := by
 refine bI fun K args r hk hs _ => ?_
 split at hs
 ·simp only [Option.some.injEq] at hs
  subst hs
  exact XK K []
 ·simp at hs
theorem ng {q r : Rat} : q = r ↔ (decide (q < 0) = decide (r < 0)) ∧ q.num.natAbs = r.num.natAbs ∧ (if q.den = 1 then 0 else q.den) = (if r.den = 1 then 0 else r.den) := by
 constructor
 ·intro h; subst h; exact ⟨rfl, rfl, rfl⟩
 ·rintro ⟨h1, h2, h3⟩
  have hd : q.den = r.den := by
   have := q.den_nz
   have := r.den_nz
   split at h3 <;> split at h3 <;> omega
  rw [← iO q, ← iO r, h1, h2, hd]
theorem ER {q r : Rat} {n m : Nat} (hn : n < 2 ^ 44) (hm' : m < 2 ^ 44) (K : Nat) (pre : aD) : aA P fk K [.rat q n, .rat r m] pre (aG (.bool (decide (q = r))) []) := by
 refine gF fun ⟨hs1, hs2, _⟩ => ?_
 obtain ⟨a1, a2, a3⟩ := Sz.gJ hs1 hn
 obtain ⟨b1, b2, b3⟩ := Sz.gJ hs2 hm'
 refine bC hT kU hm U2 rfl (of_decide_eq_true (by kernel_rfl)) rfl 60 Um (fun _ => ?_) K pre
 simp only [aa.all, ay]
 refine ⟨fun hb => ⟨fun hc => ⟨⟨by omega, by omega, hb, by omega, by omega, a1, b1, hc, by omega, by omega, a3, b3⟩, eL ?_⟩, fun hc => ⟨⟨by omega, by omega, hb, by omega, by omega, a1, b1, hc⟩, eL ?_⟩⟩, fun hb => ⟨fun h => by simp at h, fun _ => ⟨⟨by omega, by omega, hb, trivial⟩, eL ?_⟩⟩⟩
 ·have h1 := eq_of_beq hb
  have h2 := of_decide_eq_true (gG hc)
  rw [cond_true]
  exact decide_eq_decide.2 ⟨fun h => ng.2 ⟨h1, h2, h⟩, fun h => (ng.1 h).2.2⟩
 ·have h2 := of_decide_eq_false (gG hc)
  exact (decide_eq_false fun h => h2 (ng.1 h).2.1).symm
 ·refine (decide_eq_false fun h => ?_).symm
  rw [(ng.1 h).1] at hb
  simp at hb
theorem j8 {q : Rat} : q.num.natAbs = 0 ↔ q = 0 := by rw [Int.natAbs_eq_zero, Rat.num_eq_zero]
theorem Jo {q : Rat} (h : q ≠ 0) (h2 : ¬ q < 0) : 0 < q := by
 rw [Rat.lt_iff]
 have h3 : ¬ q.num < 0 := fun h => h2 (gk.2 h)
 have h4 : q.num ≠ 0 := fun h5 => h (Rat.num_eq_zero.1 h5)
 simp; omega
theorem CL {q : Rat} {n : Nat} (hn : n < 2 ^ 44) (K : Nat) (pre : aD) : aA P oK K [.rat q n] pre (aG (.int .i64 (dO q)) []) := by
 refine gF fun ⟨hs1, _⟩ => ?_
 obtain ⟨a1, a2, a3⟩ := Sz.gJ hs1 hn
 refine bC hT kU hm acg rfl (of_decide_eq_true (by kernel_rfl)) rfl 60 ack (fun _ => ?_) K pre
 simp only [aa.all, ay, beq_iff_eq, beq_eq_false_iff_ne, ne_eq]
 refine ⟨⟨by omega, a1⟩, fun hb => bq ?_, fun hb => ⟨by omega, fun hc => bq ?_, fun hc => bq ?_⟩⟩
 ·have h0 : q = 0 := j8.1 (BK.1 (by omega))
  subst h0
  rfl
 ·have := of_decide_eq_true hc
  unfold dO; rw [if_pos this]
 ·have h1 := of_decide_eq_false hc
  have h0 : q ≠ 0 := fun h => hb (by rw [h]; rfl)
  unfold dO; rw [if_neg h1, if_pos (Jo h0 h1)]
def GU : Spec := bw fun l => match l with
 | [.rat q n] => some (aG (.int .i64 (dO q)) [n < 2 ^ 44])
 | _ => none
theorem O7 : ∀ K args pre r, GU K args pre = some r → aA P oK K args pre r := by
 refine bI fun K args r hk hs _ => ?_
 split at hs
 ·simp only [Option.some.injEq] at hs
  subst hs
  exact fun need => CL need K [] trivial
 ·simp at hs
theorem Ff {q : Rat} {n : Nat} (h : Sz q n) : bB (.agg [.bool (decide (q < 0)), .mag q.num.natAbs, .mag (if q.den = 1 then 0 else q.den)]) (.rat q n) := pJ h rfl rfl rfl
theorem Tk {q : Rat} {n : Nat} (hn : n < 2 ^ 44) (K : Nat) (pre : aD) : aA P tN K [.rat q n] pre (aG (.rat q n) []) := by
 refine gF fun ⟨hs1, _⟩ => ?_
 have hs1 : Sz q n := hs1
 obtain ⟨a1, a2, a3⟩ := Sz.gJ hs1 hn
 refine bC hT kU hm SM rfl (of_decide_eq_true (by kernel_rfl)) rfl 60 abv (fun _ => ?_) K pre
 simp only [aa.all, ay]
 exact ⟨⟨by omega, by omega, a1, by omega, a3, by omega⟩, by omega, Ff hs1⟩
def I4 : Spec := bw fun l => match l with
 | [.rat q n] => some (aG (.rat q n) [n < 2 ^ 44])
 | _ => none
theorem ZT : ∀ K args pre r, I4 K args pre = some r → aA P tN K args pre r := by
 refine bI fun K args r hk hs _ => ?_
 split at hs
 ·simp only [Option.some.injEq] at hs
  subst hs
  exact fun need => Tk need K [] trivial
 ·simp at hs
theorem Yg {n : Int} (h1 : -2 ^ 63 ≤ n) (h2 : n < 2 ^ 63) (K : Nat) (pre : aD) : aA P yc K [.int .i64 n] pre (aG (.mag n.natAbs) []) := by
 refine bC hT kU hm abp rfl (of_decide_eq_true (by kernel_rfl)) rfl 60 Wr (fun _ => ?_) K pre
 simp only [aa.all, ay, beq_iff_eq, beq_eq_false_iff_ne, ne_eq]
 refine ⟨fun hb => ⟨by omega, cI ?_⟩, fun hb => ?_⟩
 ·subst hb; rfl
 ·have e : IntKind.i64.wrap (0 - n) = -n := by rw [wrap_i64 (by omega) (by omega)]; omega
  rw [e]
  have e2 : IntKind.u64.wrap (if n < -n then -n else n) = ((n.natAbs : Nat) : Int) := by
   rw [wrap_u64 (by split <;> omega) (by split <;> omega)]
   split <;> omega
  rw [e2]
  refine ⟨⟨by omega, by omega⟩, cI (by rw [Int.toNat_natCast])⟩
def EE : Spec := bw fun l => match l with
 | [.int .i64 n] => some (aG (.mag n.natAbs) [-2 ^ 63 ≤ n, n < 2 ^ 63])
 | _ => none
theorem Nb : ∀ K args pre r, EE K args pre = some r → aA P yc K args pre r := by
 refine bI fun K args r hk hs _ => ?_
 split at hs
 ·simp only [Option.some.injEq] at hs
  subst hs
  exact fun need => Yg need.1 need.2 K [] trivial
 ·simp at hs
def Et : Spec := bw fun l => match l with
 | [.bool b, x, y] => match fZ x, fZ y with
  | some N, some D => some (aG (.rat (sQ b N D) (bS (sQ b N D))) [nl N < 2 ^ 40, nl D < 2 ^ 40])
  | _, _ => none
 | _ => none
theorem Kb : ∀ K args pre r, Et K args pre = some r → aA P qJ K args pre r := by
 refine bI fun K args r hk hs _ => ?_
 split at hs
 ·split at hs
  ·rename_i N D h1 h2
   simp only [Option.some.injEq] at hs
   subst hs
   exact fun need => eR (ad1 need.1 need.2 K []) hk ⟨.refl _, jw h1, jw h2, trivial⟩ [] trivial
  ·simp at hs
 ·simp at hs
end Go.Am.B
