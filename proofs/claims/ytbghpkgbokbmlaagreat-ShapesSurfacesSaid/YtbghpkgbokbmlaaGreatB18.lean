/- rational.den, parts, Same, Sign, copied, size: their contracts. -/
import Derived.Test.YtbghpkgbokbmlaaGreatB17
set_option linter.unusedVariables false
namespace Go.Am.B
open Go Go.Am.N AV
theorem TL {q : Rat} {n : Nat} (K : Nat) (pre : aC) : ay P sk K [.rat q n] pre (aF (.mag q.den) []) := by
 refine bt hT jH hm VG rfl (of_decide_eq_true (by kernel_rfl)) rfl 60 Yo (fun _ => ?_) K pre
 simp only [aa.all, ax, beq_iff_eq, beq_eq_false_iff_ne, ne_eq]
 refine ⟨by omega, fun hb => de ?_, fun hb => ⟨by omega, de ?_⟩⟩
 ·have h0 := q.den_nz
  have : (if q.den = 1 then 0 else q.den) = 0 := gI.1 (by omega)
  split at this
  ·rename_i h; rw [h]
  ·omega
 ·split
  ·rename_i h; rw [if_pos h] at hb; exact absurd (by decide) hb
  ·rfl
def CW : Spec := bA fun l => match l with
 | [.rat q _] => some (aF (.mag q.den) [])
 | _ => none
theorem Tu : ∀ K args pre r, CW K args pre = some r → ay P sk K args pre r := by
 refine bQ fun K args r hk hs _ => ?_
 split at hs
 ·simp only [Option.some.injEq] at hs
  subst hs
  exact TL K []
 ·simp at hs
def bn (q : Rat) : Bool := decide (q.num.natAbs < 4294967296) && decide (q.den < 4294967296)
abbrev p4 (q : Rat) : AV := .tuple [.int .u64 (if bn q then q.num.natAbs else 0 : Nat), .int .u64 (if bn q then q.den else 0 : Nat), .bool (bn q)]
theorem qo {N : Nat} : nl N ≤ 1 ↔ N < 4294967296 := cD
theorem Ti {q : Rat} {n : Nat} (K : Nat) (pre : aC) : ay P uy K [.rat q n] pre (aF (p4 q) []) := by
 refine bt hT jH hm NX rfl (of_decide_eq_true (by kernel_rfl)) rfl 60 Zj (fun _ => ?_) K pre
 simp only [aa.all, ax, beq_iff_eq, beq_eq_false_iff_ne, ne_eq, decide_eq_true_eq, decide_eq_false_iff_not, Int.toNat_zero]
 have hd := q.den_nz
 have no : ¬ (q.num.natAbs < 4294967296 ∧ q.den < 4294967296) → dN [.int .u64 0, .int .u64 0, .bool false] (p4 q) := by
  intro h
  have : bn q = false := by
   unfold bn
   by_cases h1 : q.num.natAbs < 4294967296
   ·simp [h1]; omega
   ·simp [h1]
  unfold p4
  rw [this]
  exact ⟨.refl _, .refl _, .refl _, trivial⟩
 have yes : ∀ {x : Int} {v : Bool}, q.num.natAbs < 4294967296 ∧ q.den < 4294967296 → x = (q.den : Nat) → v = true → dN [.int .u64 (q.num.natAbs : Nat), .int .u64 x, .bool v] (p4 q) := by
  intro x v h hx hv
  have : bn q = true := by unfold bn; simp [h]
  unfold p4
  rw [this]
  exact ⟨.refl _, bB hx, fQ hv, trivial⟩
 have hden : ∀ {m : Nat}, nl (if q.den = 1 then 0 else q.den) ≤ m ↔ (q.den = 1 ∨ nl q.den ≤ m) := by
  intro m
  by_cases h : q.den = 1
  ·simp [h]; simp [nl]
  ·simp [h]
 refine ⟨fun hb => ⟨⟨by omega, hb⟩, fun _ => no ?_, fun h => by simp at h⟩, fun hb => ⟨⟨by omega, hb, by omega⟩, fun hc => no ?_, fun hc => ⟨by omega, fun h1 => ⟨⟨by omega, by omega, by omega⟩, ⟨by omega, by omega⟩, ?_⟩, fun h1 => ⟨⟨by omega, by omega⟩, yes ?_ ?_ rfl⟩⟩⟩⟩
 ·have := qo (N := q.num.natAbs); omega
 ·have h2 := of_decide_eq_true (fH hc)
  have h3 := hden (m := 1)
  have h4 := qo (N := q.den)
  omega
 ·have h2 := of_decide_eq_false (fH hc)
  have hn1 : q.den ≠ 1 := fun h => by rw [if_pos h] at h1; simp [nl] at h1
  rw [if_neg hn1] at h1 h2 ⊢
  have h4 := (qo (N := q.den)).1 (by omega)
  have h5 := (qo (N := q.num.natAbs)).1 (by omega)
  have hl : aq q.den 0 = q.den := by
   have := eI (N := q.den)
   rw [show nl q.den = 1 by omega, val, val] at this
   simpa using this
  rw [hl, bE (by omega) (by omega)]
  exact yes ⟨h5, h4⟩ rfl (by simp; omega)
 ·have h2 := of_decide_eq_false (fH hc)
  have h3 := hden (m := 1)
  have h3' := hden (m := 0)
  have h4 := qo (N := q.den)
  have h5 := qo (N := q.num.natAbs)
  have h6 := eL (N := q.den)
  omega
 ·have h2 := of_decide_eq_false (fH hc)
  have h3 := hden (m := 0)
  have h6 := eL (N := q.den)
  omega
def Dw : Spec := bA fun l => match l with
 | [.rat q _] => some (aF (p4 q) [])
 | _ => none
theorem P9 : ∀ K args pre r, Dw K args pre = some r → ay P uy K args pre r := by
 refine bQ fun K args r hk hs _ => ?_
 split at hs
 ·simp only [Option.some.injEq] at hs
  subst hs
  exact Ti K []
 ·simp at hs
theorem mP {q r : Rat} : q = r ↔ (decide (q < 0) = decide (r < 0)) ∧ q.num.natAbs = r.num.natAbs ∧ (if q.den = 1 then 0 else q.den) = (if r.den = 1 then 0 else r.den) := by
 constructor
 ·intro h; subst h; exact ⟨rfl, rfl, rfl⟩
 ·rintro ⟨h1, h2, h3⟩
  have hd : q.den = r.den := by
   have := q.den_nz
   have := r.den_nz
   split at h3 <;> split at h3 <;> omega
  rw [← iz q, ← iz r, h1, h2, hd]
theorem FM {q r : Rat} {n m : Nat} (hn : n < 2 ^ 44) (hm' : m < 2 ^ 44) (K : Nat) (pre : aC) : ay P kf K [.rat q n, .rat r m] pre (aF (.bool (decide (q = r))) []) := by
 refine gT fun ⟨hs1, hs2, _⟩ => ?_
 obtain ⟨a1, a2, a3⟩ := Sz.gP hs1 hn
 obtain ⟨b1, b2, b3⟩ := Sz.gP hs2 hm'
 refine bt hT jH hm S3 rfl (of_decide_eq_true (by kernel_rfl)) rfl 60 TP (fun _ => ?_) K pre
 simp only [aa.all, ax]
 refine ⟨fun hb => ⟨fun hc => ⟨⟨by omega, by omega, hb, by omega, by omega, a1, b1, hc, by omega, by omega, a3, b3⟩, fQ ?_⟩, fun hc => ⟨⟨by omega, by omega, hb, by omega, by omega, a1, b1, hc⟩, fQ ?_⟩⟩, fun hb => ⟨fun h => by simp at h, fun _ => ⟨⟨by omega, by omega, hb, trivial⟩, fQ ?_⟩⟩⟩
 ·have h1 := eq_of_beq hb
  have h2 := of_decide_eq_true (gr hc)
  rw [cond_true]
  exact decide_eq_decide.2 ⟨fun h => mP.2 ⟨h1, h2, h⟩, fun h => (mP.1 h).2.2⟩
 ·have h2 := of_decide_eq_false (gr hc)
  exact (decide_eq_false fun h => h2 (mP.1 h).2.1).symm
 ·refine (decide_eq_false fun h => ?_).symm
  rw [(mP.1 h).1] at hb
  simp at hb
theorem kD {q : Rat} : q.num.natAbs = 0 ↔ q = 0 := by rw [Int.natAbs_eq_zero, Rat.num_eq_zero]
theorem IJ {q : Rat} (h : q ≠ 0) (h2 : ¬ q < 0) : 0 < q := by
 rw [Rat.lt_iff]
 have h3 : ¬ q.num < 0 := fun h => h2 (fc.2 h)
 have h4 : q.num ≠ 0 := fun h5 => h (Rat.num_eq_zero.1 h5)
 simp; omega
theorem AS {q : Rat} {n : Nat} (hn : n < 2 ^ 44) (K : Nat) (pre : aC) : ay P nr K [.rat q n] pre (aF (.int .i64 (ej q)) []) := by
 refine gT fun ⟨hs1, _⟩ => ?_
 obtain ⟨a1, a2, a3⟩ := Sz.gP hs1 hn
 refine bt hT jH hm W5 rfl (of_decide_eq_true (by kernel_rfl)) rfl 60 WA (fun _ => ?_) K pre
 simp only [aa.all, ax, beq_iff_eq, beq_eq_false_iff_ne, ne_eq]
 refine ⟨⟨by omega, a1⟩, fun hb => bB ?_, fun hb => ⟨by omega, fun hc => bB ?_, fun hc => bB ?_⟩⟩
 ·have h0 : q = 0 := kD.1 (AH.1 (by omega))
  subst h0
  rfl
 ·have := of_decide_eq_true hc
  unfold ej; rw [if_pos this]
 ·have h1 := of_decide_eq_false hc
  have h0 : q ≠ 0 := fun h => hb (by rw [h]; rfl)
  unfold ej; rw [if_neg h1, if_pos (IJ h0 h1)]
def E9 : Spec := bA fun l => match l with
 | [.rat q n] => some (aF (.int .i64 (ej q)) [n < 2 ^ 44])
 | _ => none
theorem YH : ∀ K args pre r, E9 K args pre = some r → ay P nr K args pre r := by
 refine bQ fun K args r hk hs _ => ?_
 split at hs
 ·simp only [Option.some.injEq] at hs
  subst hs
  exact fun need => AS need K [] trivial
 ·simp at hs
theorem EU {q : Rat} {n : Nat} (h : Sz q n) : bu (.agg [.bool (decide (q < 0)), .mag q.num.natAbs, .mag (if q.den = 1 then 0 else q.den)]) (.rat q n) := j6 h rfl rfl rfl
theorem Q0 {q : Rat} {n : Nat} (hn : n < 2 ^ 44) (K : Nat) (pre : aC) : ay P rH K [.rat q n] pre (aF (.rat q n) []) := by
 refine gT fun ⟨hs1, _⟩ => ?_
 have hs1 : Sz q n := hs1
 obtain ⟨a1, a2, a3⟩ := Sz.gP hs1 hn
 refine bt hT jH hm Mz rfl (of_decide_eq_true (by kernel_rfl)) rfl 60 J9 (fun _ => ?_) K pre
 simp only [aa.all, ax]
 exact ⟨⟨by omega, by omega, a1, by omega, a3, by omega⟩, by omega, EU hs1⟩
def Hh : Spec := bA fun l => match l with
 | [.rat q n] => some (aF (.rat q n) [n < 2 ^ 44])
 | _ => none
theorem Pk : ∀ K args pre r, Hh K args pre = some r → ay P rH K args pre r := by
 refine bQ fun K args r hk hs _ => ?_
 split at hs
 ·simp only [Option.some.injEq] at hs
  subst hs
  exact fun need => Q0 need K [] trivial
 ·simp at hs
theorem QS {n : Int} (h1 : -2 ^ 63 ≤ n) (h2 : n < 2 ^ 63) (K : Nat) (pre : aC) : ay P tT K [.int .i64 n] pre (aF (.mag n.natAbs) []) := by
 refine bt hT jH hm Kl rfl (of_decide_eq_true (by kernel_rfl)) rfl 60 To (fun _ => ?_) K pre
 simp only [aa.all, ax, beq_iff_eq, beq_eq_false_iff_ne, ne_eq]
 refine ⟨fun hb => ⟨by omega, de ?_⟩, fun hb => ?_⟩
 ·subst hb; rfl
 ·have e : IntKind.i64.wrap (0 - n) = -n := by rw [wrap_i64 (by omega) (by omega)]; omega
  rw [e]
  have e2 : IntKind.u64.wrap (if n < -n then -n else n) = ((n.natAbs : Nat) : Int) := by
   rw [bE (by split <;> omega) (by split <;> omega)]
   split <;> omega
  rw [e2]
  refine ⟨⟨by omega, by omega⟩, de (by rw [Int.toNat_natCast])⟩
def Gt : Spec := bA fun l => match l with
 | [.int .i64 n] => some (aF (.mag n.natAbs) [-2 ^ 63 ≤ n, n < 2 ^ 63])
 | _ => none
theorem U8 : ∀ K args pre r, Gt K args pre = some r → ay P tT K args pre r := by
 refine bQ fun K args r hk hs _ => ?_
 split at hs
 ·simp only [Option.some.injEq] at hs
  subst hs
  exact fun need => QS need.1 need.2 K [] trivial
 ·simp at hs
def AL : Spec := bA fun l => match l with
 | [.bool b, x, y] => match gi x, gi y with
  | some N, some D => some (aF (.rat (sQ b N D) (bX (sQ b N D))) [nl N < 2 ^ 40, nl D < 2 ^ 40])
  | _, _ => none
 | _ => none
theorem DZ : ∀ K args pre r, AL K args pre = some r → ay P pe K args pre r := by
 refine bQ fun K args r hk hs _ => ?_
 split at hs
 ·split at hs
  ·rename_i N D h1 h2
   simp only [Option.some.injEq] at hs
   subst hs
   exact fun need => fk (Zs need.1 need.2 K []) hk ⟨.refl _, iY h1, iY h2, trivial⟩ [] trivial
  ·simp at hs
 ·simp at hs
end Go.Am.B
