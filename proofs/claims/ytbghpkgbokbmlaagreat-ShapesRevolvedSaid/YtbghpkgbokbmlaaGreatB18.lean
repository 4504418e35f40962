/- rational.den, parts, Same, Sign, copied, size: their contracts. -/
import Derived.Test.YtbghpkgbokbmlaaGreatB17
set_option linter.unusedVariables false
namespace Go.Am.B
open Go Go.Am.N AV
theorem QN {q : Rat} {n : Nat} (K : Nat) (pre : aD) : aB P tQ K [.rat q n] pre (aH (.mag q.den) []) := by
 refine bF hT jN hm Mm rfl (of_decide_eq_true (by kernel_rfl)) rfl 60 Pq (fun _ => ?_) K pre
 simp only [aa.all, ax, beq_iff_eq, beq_eq_false_iff_ne, ne_eq]
 refine ⟨by omega, fun hb => cR ?_, fun hb => ⟨by omega, cR ?_⟩⟩
 ·have h0 := q.den_nz
  have : (if q.den = 1 then 0 else q.den) = 0 := gU.1 (by omega)
  split at this
  ·rename_i h; rw [h]
  ·omega
 ·split
  ·rename_i h; rw [if_pos h] at hb; exact absurd (by decide) hb
  ·rfl
def G4 : Spec := bt fun l => match l with
 | [.rat q _] => some (aH (.mag q.den) [])
 | _ => none
theorem Vw : ∀ K args pre r, G4 K args pre = some r → aB P tQ K args pre r := by
 refine bJ fun K args r hk hs _ => ?_
 split at hs
 ·simp only [Option.some.injEq] at hs
  subst hs
  exact QN K []
 ·simp at hs
def bm (q : Rat) : Bool := decide (q.num.natAbs < 4294967296) && decide (q.den < 4294967296)
abbrev oO (q : Rat) : AV := .tuple [.int .u64 (if bm q then q.num.natAbs else 0 : Nat), .int .u64 (if bm q then q.den else 0 : Nat), .bool (bm q)]
theorem pP {N : Nat} : nl N ≤ 1 ↔ N < 4294967296 := cu
theorem Sm {q : Rat} {n : Nat} (K : Nat) (pre : aD) : aB P vJ K [.rat q n] pre (aH (oO q) []) := by
 refine bF hT jN hm Sl rfl (of_decide_eq_true (by kernel_rfl)) rfl 60 Qx (fun _ => ?_) K pre
 simp only [aa.all, ax, beq_iff_eq, beq_eq_false_iff_ne, ne_eq, decide_eq_true_eq, decide_eq_false_iff_not, Int.toNat_zero]
 have hd := q.den_nz
 have no : ¬ (q.num.natAbs < 4294967296 ∧ q.den < 4294967296) → dL [.int .u64 0, .int .u64 0, .bool false] (oO q) := by
  intro h
  have : bm q = false := by
   unfold bm
   by_cases h1 : q.num.natAbs < 4294967296
   ·simp [h1]; omega
   ·simp [h1]
  unfold oO
  rw [this]
  exact ⟨.refl _, .refl _, .refl _, trivial⟩
 have yes : ∀ {x : Int} {v : Bool}, q.num.natAbs < 4294967296 ∧ q.den < 4294967296 → x = (q.den : Nat) → v = true → dL [.int .u64 (q.num.natAbs : Nat), .int .u64 x, .bool v] (oO q) := by
  intro x v h hx hv
  have : bm q = true := by unfold bm; simp [h]
  unfold oO
  rw [this]
  exact ⟨.refl _, br hx, gu hv, trivial⟩
 have hden : ∀ {m : Nat}, nl (if q.den = 1 then 0 else q.den) ≤ m ↔ (q.den = 1 ∨ nl q.den ≤ m) := by
  intro m
  by_cases h : q.den = 1
  ·simp [h]; simp [nl]
  ·simp [h]
 refine ⟨fun hb => ⟨⟨by omega, hb⟩, fun _ => no ?_, fun h => by simp at h⟩, fun hb => ⟨⟨by omega, hb, by omega⟩, fun hc => no ?_, fun hc => ⟨by omega, fun h1 => ⟨⟨by omega, by omega, by omega⟩, ⟨by omega, by omega⟩, ?_⟩, fun h1 => ⟨⟨by omega, by omega⟩, yes ?_ ?_ rfl⟩⟩⟩⟩
 ·have := pP (N := q.num.natAbs); omega
 ·have h2 := of_decide_eq_true (fG hc)
  have h3 := hden (m := 1)
  have h4 := pP (N := q.den)
  omega
 ·have h2 := of_decide_eq_false (fG hc)
  have hn1 : q.den ≠ 1 := fun h => by rw [if_pos h] at h1; simp [nl] at h1
  rw [if_neg hn1] at h1 h2 ⊢
  have h4 := (pP (N := q.den)).1 (by omega)
  have h5 := (pP (N := q.num.natAbs)).1 (by omega)
  have hl : aq q.den 0 = q.den := by
   have := eJ (N := q.den)
   rw [show nl q.den = 1 by omega, val, val] at this
   simpa using this
  rw [hl, bC (by omega) (by omega)]
  exact yes ⟨h5, h4⟩ rfl (by simp; omega)
 ·have h2 := of_decide_eq_false (fG hc)
  have h3 := hden (m := 1)
  have h3' := hden (m := 0)
  have h4 := pP (N := q.den)
  have h5 := pP (N := q.num.natAbs)
  have h6 := eH (N := q.den)
  omega
 ·have h2 := of_decide_eq_false (fG hc)
  have h3 := hden (m := 0)
  have h6 := eH (N := q.den)
  omega
def FU : Spec := bt fun l => match l with
 | [.rat q _] => some (aH (oO q) [])
 | _ => none
theorem aaL : ∀ K args pre r, FU K args pre = some r → aB P vJ K args pre r := by
 refine bJ fun K args r hk hs _ => ?_
 split at hs
 ·simp only [Option.some.injEq] at hs
  subst hs
  exact Sm K []
 ·simp at hs
theorem lK {q r : Rat} : q = r ↔ (decide (q < 0) = decide (r < 0)) ∧ q.num.natAbs = r.num.natAbs ∧ (if q.den = 1 then 0 else q.den) = (if r.den = 1 then 0 else r.den) := by
 constructor
 ·intro h; subst h; exact ⟨rfl, rfl, rfl⟩
 ·rintro ⟨h1, h2, h3⟩
  have hd : q.den = r.den := by
   have := q.den_nz
   have := r.den_nz
   split at h3 <;> split at h3 <;> omega
  rw [← ir q, ← ir r, h1, h2, hd]
theorem Gd {q r : Rat} {n m : Nat} (hn : n < 2 ^ 44) (hm' : m < 2 ^ 44) (K : Nat) (pre : aD) : aB P rj K [.rat q n, .rat r m] pre (aH (.bool (decide (q = r))) []) := by
 refine gl fun ⟨hs1, hs2, _⟩ => ?_
 obtain ⟨a1, a2, a3⟩ := Sz.gX hs1 hn
 obtain ⟨b1, b2, b3⟩ := Sz.gX hs2 hm'
 refine bF hT jN hm ZM rfl (of_decide_eq_true (by kernel_rfl)) rfl 60 Uf (fun _ => ?_) K pre
 simp only [aa.all, ax]
 refine ⟨fun hb => ⟨fun hc => ⟨⟨by omega, by omega, hb, by omega, by omega, a1, b1, hc, by omega, by omega, a3, b3⟩, gu ?_⟩, fun hc => ⟨⟨by omega, by omega, hb, by omega, by omega, a1, b1, hc⟩, gu ?_⟩⟩, fun hb => ⟨fun h => by simp at h, fun _ => ⟨⟨by omega, by omega, hb, trivial⟩, gu ?_⟩⟩⟩
 ·have h1 := eq_of_beq hb
  have h2 := of_decide_eq_true (gr hc)
  rw [cond_true]
  exact decide_eq_decide.2 ⟨fun h => lK.2 ⟨h1, h2, h⟩, fun h => (lK.1 h).2.2⟩
 ·have h2 := of_decide_eq_false (gr hc)
  exact (decide_eq_false fun h => h2 (lK.1 h).2.1).symm
 ·refine (decide_eq_false fun h => ?_).symm
  rw [(lK.1 h).1] at hb
  simp at hb
theorem kT {q : Rat} : q.num.natAbs = 0 ↔ q = 0 := by rw [Int.natAbs_eq_zero, Rat.num_eq_zero]
theorem HE {q : Rat} (h : q ≠ 0) (h2 : ¬ q < 0) : 0 < q := by
 rw [Rat.lt_iff]
 have h3 : ¬ q.num < 0 := fun h => h2 (fl.2 h)
 have h4 : q.num ≠ 0 := fun h5 => h (Rat.num_eq_zero.1 h5)
 simp; omega
theorem Ad {q : Rat} {n : Nat} (hn : n < 2 ^ 44) (K : Nat) (pre : aD) : aB P nF K [.rat q n] pre (aH (.int .i64 (dA q)) []) := by
 refine gl fun ⟨hs1, _⟩ => ?_
 obtain ⟨a1, a2, a3⟩ := Sz.gX hs1 hn
 refine bF hT jN hm Pk rfl (of_decide_eq_true (by kernel_rfl)) rfl 60 TB (fun _ => ?_) K pre
 simp only [aa.all, ax, beq_iff_eq, beq_eq_false_iff_ne, ne_eq]
 refine ⟨⟨by omega, a1⟩, fun hb => br ?_, fun hb => ⟨by omega, fun hc => br ?_, fun hc => br ?_⟩⟩
 ·have h0 : q = 0 := kT.1 (zX.1 (by omega))
  subst h0
  rfl
 ·have := of_decide_eq_true hc
  unfold dA; rw [if_pos this]
 ·have h1 := of_decide_eq_false hc
  have h0 : q ≠ 0 := fun h => hb (by rw [h]; rfl)
  unfold dA; rw [if_neg h1, if_pos (HE h0 h1)]
def Gm : Spec := bt fun l => match l with
 | [.rat q n] => some (aH (.int .i64 (dA q)) [n < 2 ^ 44])
 | _ => none
theorem ME : ∀ K args pre r, Gm K args pre = some r → aB P nF K args pre r := by
 refine bJ fun K args r hk hs _ => ?_
 split at hs
 ·simp only [Option.some.injEq] at hs
  subst hs
  exact fun need => Ad need K [] trivial
 ·simp at hs
theorem Hz {q : Rat} {n : Nat} (h : Sz q n) : bD (.agg [.bool (decide (q < 0)), .mag q.num.natAbs, .mag (if q.den = 1 then 0 else q.den)]) (.rat q n) := kz h rfl rfl rfl
theorem QO {q : Rat} {n : Nat} (hn : n < 2 ^ 44) (K : Nat) (pre : aD) : aB P sy K [.rat q n] pre (aH (.rat q n) []) := by
 refine gl fun ⟨hs1, _⟩ => ?_
 have hs1 : Sz q n := hs1
 obtain ⟨a1, a2, a3⟩ := Sz.gX hs1 hn
 refine bF hT jN hm Lu rfl (of_decide_eq_true (by kernel_rfl)) rfl 60 T0 (fun _ => ?_) K pre
 simp only [aa.all, ax]
 exact ⟨⟨by omega, by omega, a1, by omega, a3, by omega⟩, by omega, Hz hs1⟩
def GL : Spec := bt fun l => match l with
 | [.rat q n] => some (aH (.rat q n) [n < 2 ^ 44])
 | _ => none
theorem Ph : ∀ K args pre r, GL K args pre = some r → aB P sy K args pre r := by
 refine bJ fun K args r hk hs _ => ?_
 split at hs
 ·simp only [Option.some.injEq] at hs
  subst hs
  exact fun need => QO need K [] trivial
 ·simp at hs
theorem ZA {n : Int} (h1 : -2 ^ 63 ≤ n) (h2 : n < 2 ^ 63) (K : Nat) (pre : aD) : aB P tr K [.int .i64 n] pre (aH (.mag n.natAbs) []) := by
 refine bF hT jN hm Og rfl (of_decide_eq_true (by kernel_rfl)) rfl 60 Yc (fun _ => ?_) K pre
 simp only [aa.all, ax, beq_iff_eq, beq_eq_false_iff_ne, ne_eq]
 refine ⟨fun hb => ⟨by omega, cR ?_⟩, fun hb => ?_⟩
 ·subst hb; rfl
 ·have e : IntKind.i64.wrap (0 - n) = -n := by rw [wrap_i64 (by omega) (by omega)]; omega
  rw [e]
  have e2 : IntKind.u64.wrap (if n < -n then -n else n) = ((n.natAbs : Nat) : Int) := by
   rw [bC (by split <;> omega) (by split <;> omega)]
   split <;> omega
  rw [e2]
  refine ⟨⟨by omega, by omega⟩, cR (by rw [Int.toNat_natCast])⟩
def Jt : Spec := bt fun l => match l with
 | [.int .i64 n] => some (aH (.mag n.natAbs) [-2 ^ 63 ≤ n, n < 2 ^ 63])
 | _ => none
theorem Pr : ∀ K args pre r, Jt K args pre = some r → aB P tr K args pre r := by
 refine bJ fun K args r hk hs _ => ?_
 split at hs
 ·simp only [Option.some.injEq] at hs
  subst hs
  exact fun need => ZA need.1 need.2 K [] trivial
 ·simp at hs
def BX : Spec := bt fun l => match l with
 | [.bool b, x, y] => match fZ x, fZ y with
  | some N, some D => some (aH (.rat (sQ b N D) (bW (sQ b N D))) [nl N < 2 ^ 40, nl D < 2 ^ 40])
  | _, _ => none
 | _ => none
theorem J7 : ∀ K args pre r, BX K args pre = some r → aB P pJ K args pre r := by
 refine bJ fun K args r hk hs _ => ?_
 split at hs
 ·split at hs
  ·rename_i N D h1 h2
   simp only [Option.some.injEq] at hs
   subst hs
   exact fun need => fu (YA need.1 need.2 K []) hk ⟨.refl _, iI h1, iI h2, trivial⟩ [] trivial
  ·simp at hs
 ·simp at hs
end Go.Am.B
