/- rational.den, parts, Same, Sign, copied, size: their contracts. -/
import Derived.Test.YtjhhblmbiaghfaaGreatB17
set_option linter.unusedVariables false
namespace Go.Am.B
open Go Go.Am.N AV
theorem VQ {q : Rat} {n : Nat} (K : Nat) (pre : aB) : aC P vU K [.rat q n] pre (aK (.mag q.den) []) := by
 refine bH hT jL hm ZJ rfl (of_decide_eq_true (by kernel_rfl)) rfl 60 NI (fun _ => ?_) K pre
 simp only [af.all, ay, beq_iff_eq, beq_eq_false_iff_ne, ne_eq]
 refine ⟨by omega, fun hb => cV ?_, fun hb => ⟨by omega, cV ?_⟩⟩
 ·have h0 := q.den_nz
  have : (if q.den = 1 then 0 else q.den) = 0 := gP.1 (by omega)
  split at this
  ·rename_i h; rw [h]
  ·omega
 ·split
  ·rename_i h; rw [if_pos h] at hb; exact absurd (by decide) hb
  ·rfl
def Jl : Spec := bu fun l => match l with
 | [.rat q _] => some (aK (.mag q.den) [])
 | _ => none
theorem LD : ∀ K args pre r, Jl K args pre = some r → aC P vU K args pre r := by
 refine bQ fun K args r hk hs _ => ?_
 split at hs
 ·simp only [Option.some.injEq] at hs
  subst hs
  exact VQ K []
 ·simp at hs
def bh (q : Rat) : Bool := decide (q.num.natAbs < 4294967296) && decide (q.den < 4294967296)
abbrev oT (q : Rat) : AV := .tuple [.int .u64 (if bh q then q.num.natAbs else 0 : Nat), .int .u64 (if bh q then q.den else 0 : Nat), .bool (bh q)]
theorem pB {N : Nat} : nl N ≤ 1 ↔ N < 4294967296 := cw
theorem T9 {q : Rat} {n : Nat} (K : Nat) (pre : aB) : aC P sS K [.rat q n] pre (aK (oT q) []) := by
 refine bH hT jL hm Nz rfl (of_decide_eq_true (by kernel_rfl)) rfl 60 JL (fun _ => ?_) K pre
 simp only [af.all, ay, beq_iff_eq, beq_eq_false_iff_ne, ne_eq, decide_eq_true_eq, decide_eq_false_iff_not, Int.toNat_zero]
 have hd := q.den_nz
 have no : ¬ (q.num.natAbs < 4294967296 ∧ q.den < 4294967296) → ef [.int .u64 0, .int .u64 0, .bool false] (oT q) := by
  intro h
  have : bh q = false := by
   unfold bh
   by_cases h1 : q.num.natAbs < 4294967296
   ·simp [h1]; omega
   ·simp [h1]
  unfold oT
  rw [this]
  exact ⟨.refl _, .refl _, .refl _, trivial⟩
 have yes : ∀ {x : Int} {v : Bool}, q.num.natAbs < 4294967296 ∧ q.den < 4294967296 → x = (q.den : Nat) → v = true → ef [.int .u64 (q.num.natAbs : Nat), .int .u64 x, .bool v] (oT q) := by
  intro x v h hx hv
  have : bh q = true := by unfold bh; simp [h]
  unfold oT
  rw [this]
  exact ⟨.refl _, bm hx, cZ hv, trivial⟩
 have hden : ∀ {m : Nat}, nl (if q.den = 1 then 0 else q.den) ≤ m ↔ (q.den = 1 ∨ nl q.den ≤ m) := by
  intro m
  by_cases h : q.den = 1
  ·simp [h]; simp [nl]
  ·simp [h]
 refine ⟨fun hb => ⟨⟨by omega, hb⟩, fun _ => no ?_, fun h => by simp at h⟩, fun hb => ⟨⟨by omega, hb, by omega⟩, fun hc => no ?_, fun hc => ⟨by omega, fun h1 => ⟨⟨by omega, by omega, by omega⟩, ⟨by omega, by omega⟩, ?_⟩, fun h1 => ⟨⟨by omega, by omega⟩, yes ?_ ?_ rfl⟩⟩⟩⟩
 ·have := pB (N := q.num.natAbs); omega
 ·have h2 := of_decide_eq_true (fL hc)
  have h3 := hden (m := 1)
  have h4 := pB (N := q.den)
  omega
 ·have h2 := of_decide_eq_false (fL hc)
  have hn1 : q.den ≠ 1 := fun h => by rw [if_pos h] at h1; simp [nl] at h1
  rw [if_neg hn1] at h1 h2 ⊢
  have h4 := (pB (N := q.den)).1 (by omega)
  have h5 := (pB (N := q.num.natAbs)).1 (by omega)
  have hl : au q.den 0 = q.den := by
   have := ew (N := q.den)
   rw [show nl q.den = 1 by omega, val, val] at this
   simpa using this
  rw [hl, bA (by omega) (by omega)]
  exact yes ⟨h5, h4⟩ rfl (by simp; omega)
 ·have h2 := of_decide_eq_false (fL hc)
  have h3 := hden (m := 1)
  have h3' := hden (m := 0)
  have h4 := pB (N := q.den)
  have h5 := pB (N := q.num.natAbs)
  have h6 := eH (N := q.den)
  omega
 ·have h2 := of_decide_eq_false (fL hc)
  have h3 := hden (m := 0)
  have h6 := eH (N := q.den)
  omega
def HA : Spec := bu fun l => match l with
 | [.rat q _] => some (aK (oT q) [])
 | _ => none
theorem P8 : ∀ K args pre r, HA K args pre = some r → aC P sS K args pre r := by
 refine bQ fun K args r hk hs _ => ?_
 split at hs
 ·simp only [Option.some.injEq] at hs
  subst hs
  exact T9 K []
 ·simp at hs
theorem kY {q r : Rat} : q = r ↔ (decide (q < 0) = decide (r < 0)) ∧ q.num.natAbs = r.num.natAbs ∧ (if q.den = 1 then 0 else q.den) = (if r.den = 1 then 0 else r.den) := by
 constructor
 ·intro h; subst h; exact ⟨rfl, rfl, rfl⟩
 ·rintro ⟨h1, h2, h3⟩
  have hd : q.den = r.den := by
   have := q.den_nz
   have := r.den_nz
   split at h3 <;> split at h3 <;> omega
  rw [← iz q, ← iz r, h1, h2, hd]
theorem QS {q r : Rat} {n m : Nat} (hn : n < 2 ^ 44) (hm' : m < 2 ^ 44) (K : Nat) (pre : aB) : aC P wS K [.rat q n, .rat r m] pre (aK (.bool (decide (q = r))) []) := by
 refine iD fun ⟨hs1, hs2, _⟩ => ?_
 obtain ⟨a1, a2, a3⟩ := Sz.gJ hs1 hn
 obtain ⟨b1, b2, b3⟩ := Sz.gJ hs2 hm'
 refine bH hT jL hm Rw rfl (of_decide_eq_true (by kernel_rfl)) rfl 60 OE (fun _ => ?_) K pre
 simp only [af.all, ay]
 refine ⟨fun hb => ⟨fun hc => ⟨⟨by omega, by omega, hb, by omega, by omega, a1, b1, hc, by omega, by omega, a3, b3⟩, cZ ?_⟩, fun hc => ⟨⟨by omega, by omega, hb, by omega, by omega, a1, b1, hc⟩, cZ ?_⟩⟩, fun hb => ⟨fun h => by simp at h, fun _ => ⟨⟨by omega, by omega, hb, trivial⟩, cZ ?_⟩⟩⟩
 ·have h1 := eq_of_beq hb
  have h2 := of_decide_eq_true (gk hc)
  rw [cond_true]
  exact decide_eq_decide.2 ⟨fun h => kY.2 ⟨h1, h2, h⟩, fun h => (kY.1 h).2.2⟩
 ·have h2 := of_decide_eq_false (gk hc)
  exact (decide_eq_false fun h => h2 (kY.1 h).2.1).symm
 ·refine (decide_eq_false fun h => ?_).symm
  rw [(kY.1 h).1] at hb
  simp at hb
theorem nU {q : Rat} : q.num.natAbs = 0 ↔ q = 0 := by rw [Int.natAbs_eq_zero, Rat.num_eq_zero]
theorem FM {q : Rat} (h : q ≠ 0) (h2 : ¬ q < 0) : 0 < q := by
 rw [Rat.lt_iff]
 have h3 : ¬ q.num < 0 := fun h => h2 (gb.2 h)
 have h4 : q.num ≠ 0 := fun h5 => h (Rat.num_eq_zero.1 h5)
 simp; omega
theorem Eu {q : Rat} {n : Nat} (hn : n < 2 ^ 44) (K : Nat) (pre : aB) : aC P pA K [.rat q n] pre (aK (.int .i64 (dO q)) []) := by
 refine iD fun ⟨hs1, _⟩ => ?_
 obtain ⟨a1, a2, a3⟩ := Sz.gJ hs1 hn
 refine bH hT jL hm ZG rfl (of_decide_eq_true (by kernel_rfl)) rfl 60 KB (fun _ => ?_) K pre
 simp only [af.all, ay, beq_iff_eq, beq_eq_false_iff_ne, ne_eq]
 refine ⟨⟨by omega, a1⟩, fun hb => bm ?_, fun hb => ⟨by omega, fun hc => bm ?_, fun hc => bm ?_⟩⟩
 ·have h0 : q = 0 := nU.1 (AP.1 (by omega))
  subst h0
  rfl
 ·have := of_decide_eq_true hc
  unfold dO; rw [if_pos this]
 ·have h1 := of_decide_eq_false hc
  have h0 : q ≠ 0 := fun h => hb (by rw [h]; rfl)
  unfold dO; rw [if_neg h1, if_pos (FM h0 h1)]
def EK : Spec := bu fun l => match l with
 | [.rat q n] => some (aK (.int .i64 (dO q)) [n < 2 ^ 44])
 | _ => none
theorem ZL : ∀ K args pre r, EK K args pre = some r → aC P pA K args pre r := by
 refine bQ fun K args r hk hs _ => ?_
 split at hs
 ·simp only [Option.some.injEq] at hs
  subst hs
  exact fun need => Eu need K [] trivial
 ·simp at hs
theorem FN {q : Rat} {n : Nat} (h : Sz q n) : bq (.agg [.bool (decide (q < 0)), .mag q.num.natAbs, .mag (if q.den = 1 then 0 else q.den)]) (.rat q n) := qx h rfl rfl rfl
theorem Oi {q : Rat} {n : Nat} (hn : n < 2 ^ 44) (K : Nat) (pre : aB) : aC P vO K [.rat q n] pre (aK (.rat q n) []) := by
 refine iD fun ⟨hs1, _⟩ => ?_
 have hs1 : Sz q n := hs1
 obtain ⟨a1, a2, a3⟩ := Sz.gJ hs1 hn
 refine bH hT jL hm OS rfl (of_decide_eq_true (by kernel_rfl)) rfl 60 JN (fun _ => ?_) K pre
 simp only [af.all, ay]
 exact ⟨⟨by omega, by omega, a1, by omega, a3, by omega⟩, by omega, FN hs1⟩
def CP : Spec := bu fun l => match l with
 | [.rat q n] => some (aK (.rat q n) [n < 2 ^ 44])
 | _ => none
theorem YA : ∀ K args pre r, CP K args pre = some r → aC P vO K args pre r := by
 refine bQ fun K args r hk hs _ => ?_
 split at hs
 ·simp only [Option.some.injEq] at hs
  subst hs
  exact fun need => Oi need K [] trivial
 ·simp at hs
theorem K1 {n : Int} (h1 : -2 ^ 63 ≤ n) (h2 : n < 2 ^ 63) (K : Nat) (pre : aB) : aC P wz K [.int .i64 n] pre (aK (.mag n.natAbs) []) := by
 refine bH hT jL hm Sw rfl (of_decide_eq_true (by kernel_rfl)) rfl 60 OU (fun _ => ?_) K pre
 simp only [af.all, ay, beq_iff_eq, beq_eq_false_iff_ne, ne_eq]
 refine ⟨fun hb => ⟨by omega, cV ?_⟩, fun hb => ?_⟩
 ·subst hb; rfl
 ·have e : IntKind.i64.wrap (0 - n) = -n := by rw [wrap_i64 (by omega) (by omega)]; omega
  rw [e]
  have e2 : IntKind.u64.wrap (if n < -n then -n else n) = ((n.natAbs : Nat) : Int) := by
   rw [bA (by split <;> omega) (by split <;> omega)]
   split <;> omega
  rw [e2]
  refine ⟨⟨by omega, by omega⟩, cV (by rw [Int.toNat_natCast])⟩
def G6 : Spec := bu fun l => match l with
 | [.int .i64 n] => some (aK (.mag n.natAbs) [-2 ^ 63 ≤ n, n < 2 ^ 63])
 | _ => none
theorem Nb : ∀ K args pre r, G6 K args pre = some r → aC P wz K args pre r := by
 refine bQ fun K args r hk hs _ => ?_
 split at hs
 ·simp only [Option.some.injEq] at hs
  subst hs
  exact fun need => K1 need.1 need.2 K [] trivial
 ·simp at hs
def BQ : Spec := bu fun l => match l with
 | [.bool b, x, y] => match gh x, gh y with
  | some N, some D => some (aK (.rat (sQ b N D) (bW (sQ b N D))) [nl N < 2 ^ 40, nl D < 2 ^ 40])
  | _, _ => none
 | _ => none
theorem GF : ∀ K args pre r, BQ K args pre = some r → aC P qb K args pre r := by
 refine bQ fun K args r hk hs _ => ?_
 split at hs
 ·split at hs
  ·rename_i N D h1 h2
   simp only [Option.some.injEq] at hs
   subst hs
   exact fun need => fm (PT need.1 need.2 K []) hk ⟨.refl _, iZ h1, iZ h2, trivial⟩ [] trivial
  ·simp at hs
 ·simp at hs
end Go.Am.B
