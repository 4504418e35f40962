/- rational.den, parts, Same, Sign, copied, size: their contracts. -/
import Derived.Test.YtjhhblmbiaghfaaB17
set_option linter.unusedVariables false
namespace Go.Am.B
open Go Go.Am.N AV
theorem Mm {q : Rat} {n : Nat} (K : Nat) (pre : aA) : aC P rj K [.rat q n] pre (aJ (.mag q.den) []) := by
 refine bE hT jl hm P0 rfl (of_decide_eq_true (by kernel_rfl)) rfl 60 Td (fun _ => ?_) K pre
 simp only [aa.all, az, beq_iff_eq, beq_eq_false_iff_ne, ne_eq]
 refine ⟨by omega, fun hb => cF ?_, fun hb => ⟨by omega, cF ?_⟩⟩
 ·have h0 := q.den_nz
  have : (if q.den = 1 then 0 else q.den) = 0 := gz.1 (by omega)
  split at this
  ·rename_i h; rw [h]
  ·omega
 ·split
  ·rename_i h; rw [if_pos h] at hb; exact absurd (by decide) hb
  ·rfl
def Ab : Spec := bp fun l => match l with
 | [.rat q _] => some (aJ (.mag q.den) [])
 | _ => none
theorem Ij : ∀ K args pre r, Ab K args pre = some r → aC P rj K args pre r := by
 refine bK fun K args r hk hs _ => ?_
 split at hs
 ·simp only [Option.some.injEq] at hs
  subst hs
  exact Mm K []
 ·simp at hs
def aX (q : Rat) : Bool := decide (q.num.natAbs < 4294967296) && decide (q.den < 4294967296)
abbrev nU (q : Rat) : AV := .tuple [.int .u64 (if aX q then q.num.natAbs else 0 : Nat), .int .u64 (if aX q then q.den else 0 : Nat), .bool (aX q)]
theorem oN {N : Nat} : nl N ≤ 1 ↔ N < 4294967296 := cm
theorem S1 {q : Rat} {n : Nat} (K : Nat) (pre : aA) : aC P p9 K [.rat q n] pre (aJ (nU q) []) := by
 refine bE hT jl hm MD rfl (of_decide_eq_true (by kernel_rfl)) rfl 60 Rf (fun _ => ?_) K pre
 simp only [aa.all, az, beq_iff_eq, beq_eq_false_iff_ne, ne_eq, decide_eq_true_eq, decide_eq_false_iff_not, Int.toNat_zero]
 have hd := q.den_nz
 have no : ¬ (q.num.natAbs < 4294967296 ∧ q.den < 4294967296) → dQ [.int .u64 0, .int .u64 0, .bool false] (nU q) := by
  intro h
  have : aX q = false := by
   unfold aX
   by_cases h1 : q.num.natAbs < 4294967296
   ·simp [h1]; omega
   ·simp [h1]
  unfold nU
  rw [this]
  exact ⟨.refl _, .refl _, .refl _, trivial⟩
 have yes : ∀ {x : Int} {v : Bool}, q.num.natAbs < 4294967296 ∧ q.den < 4294967296 → x = (q.den : Nat) → v = true → dQ [.int .u64 (q.num.natAbs : Nat), .int .u64 x, .bool v] (nU q) := by
  intro x v h hx hv
  have : aX q = true := by unfold aX; simp [h]
  unfold nU
  rw [this]
  exact ⟨.refl _, bm hx, ep hv, trivial⟩
 have hden : ∀ {m : Nat}, nl (if q.den = 1 then 0 else q.den) ≤ m ↔ (q.den = 1 ∨ nl q.den ≤ m) := by
  intro m
  by_cases h : q.den = 1
  ·simp [h]; simp [nl]
  ·simp [h]
 refine ⟨fun hb => ⟨⟨by omega, hb⟩, fun _ => no ?_, fun h => by simp at h⟩, fun hb => ⟨⟨by omega, hb, by omega⟩, fun hc => no ?_, fun hc => ⟨by omega, fun h1 => ⟨⟨by omega, by omega, by omega⟩, ⟨by omega, by omega⟩, ?_⟩, fun h1 => ⟨⟨by omega, by omega⟩, yes ?_ ?_ rfl⟩⟩⟩⟩
 ·have := oN (N := q.num.natAbs); omega
 ·have h2 := of_decide_eq_true (eW hc)
  have h3 := hden (m := 1)
  have h4 := oN (N := q.den)
  omega
 ·have h2 := of_decide_eq_false (eW hc)
  have hn1 : q.den ≠ 1 := fun h => by rw [if_pos h] at h1; simp [nl] at h1
  rw [if_neg hn1] at h1 h2 ⊢
  have h4 := (oN (N := q.den)).1 (by omega)
  have h5 := (oN (N := q.num.natAbs)).1 (by omega)
  have hl : au q.den 0 = q.den := by
   have := ec (N := q.den)
   rw [show nl q.den = 1 by omega, val, val] at this
   simpa using this
  rw [hl, bt (by omega) (by omega)]
  exact yes ⟨h5, h4⟩ rfl (by simp; omega)
 ·have h2 := of_decide_eq_false (eW hc)
  have h3 := hden (m := 1)
  have h3' := hden (m := 0)
  have h4 := oN (N := q.den)
  have h5 := oN (N := q.num.natAbs)
  have h6 := ew (N := q.den)
  omega
 ·have h2 := of_decide_eq_false (eW hc)
  have h3 := hden (m := 0)
  have h6 := ew (N := q.den)
  omega
def Bw : Spec := bp fun l => match l with
 | [.rat q _] => some (aJ (nU q) [])
 | _ => none
theorem QH : ∀ K args pre r, Bw K args pre = some r → aC P p9 K args pre r := by
 refine bK fun K args r hk hs _ => ?_
 split at hs
 ·simp only [Option.some.injEq] at hs
  subst hs
  exact S1 K []
 ·simp at hs
theorem kE {q r : Rat} : q = r ↔ (decide (q < 0) = decide (r < 0)) ∧ q.num.natAbs = r.num.natAbs ∧ (if q.den = 1 then 0 else q.den) = (if r.den = 1 then 0 else r.den) := by
 constructor
 ·intro h; subst h; exact ⟨rfl, rfl, rfl⟩
 ·rintro ⟨h1, h2, h3⟩
  have hd : q.den = r.den := by
   have := q.den_nz
   have := r.den_nz
   split at h3 <;> split at h3 <;> omega
  rw [← gR q, ← gR r, h1, h2, hd]
theorem RL {q r : Rat} {n m : Nat} (hn : n < 2 ^ 44) (hm' : m < 2 ^ 44) (K : Nat) (pre : aA) : aC P uY K [.rat q n, .rat r m] pre (aJ (.bool (decide (q = r))) []) := by
 refine iA fun ⟨hs1, hs2, _⟩ => ?_
 obtain ⟨a1, a2, a3⟩ := Sz.gv hs1 hn
 obtain ⟨b1, b2, b3⟩ := Sz.gv hs2 hm'
 refine bE hT jl hm IQ rfl (of_decide_eq_true (by kernel_rfl)) rfl 60 Li (fun _ => ?_) K pre
 simp only [aa.all, az]
 refine ⟨fun hb => ⟨fun hc => ⟨⟨by omega, by omega, hb, by omega, by omega, a1, b1, hc, by omega, by omega, a3, b3⟩, ep ?_⟩, fun hc => ⟨⟨by omega, by omega, hb, by omega, by omega, a1, b1, hc⟩, ep ?_⟩⟩, fun hb => ⟨fun h => by simp at h, fun _ => ⟨⟨by omega, by omega, hb, trivial⟩, ep ?_⟩⟩⟩
 ·have h1 := eq_of_beq hb
  have h2 := of_decide_eq_true (fS hc)
  rw [cond_true]
  exact decide_eq_decide.2 ⟨fun h => kE.2 ⟨h1, h2, h⟩, fun h => (kE.1 h).2.2⟩
 ·have h2 := of_decide_eq_false (fS hc)
  exact (decide_eq_false fun h => h2 (kE.1 h).2.1).symm
 ·refine (decide_eq_false fun h => ?_).symm
  rw [(kE.1 h).1] at hb
  simp at hb
theorem mG {q : Rat} : q.num.natAbs = 0 ↔ q = 0 := by rw [Int.natAbs_eq_zero, Rat.num_eq_zero]
theorem E2 {q : Rat} (h : q ≠ 0) (h2 : ¬ q < 0) : 0 < q := by
 rw [Rat.lt_iff]
 have h3 : ¬ q.num < 0 := fun h => h2 (fG.2 h)
 have h4 : q.num ≠ 0 := fun h5 => h (Rat.num_eq_zero.1 h5)
 simp; omega
theorem B9 {q : Rat} {n : Nat} (hn : n < 2 ^ 44) (K : Nat) (pre : aA) : aC P nk K [.rat q n] pre (aJ (.int .i64 (dG q)) []) := by
 refine iA fun ⟨hs1, _⟩ => ?_
 obtain ⟨a1, a2, a3⟩ := Sz.gv hs1 hn
 refine bE hT jl hm Hp rfl (of_decide_eq_true (by kernel_rfl)) rfl 60 Sa (fun _ => ?_) K pre
 simp only [aa.all, az, beq_iff_eq, beq_eq_false_iff_ne, ne_eq]
 refine ⟨⟨by omega, a1⟩, fun hb => bm ?_, fun hb => ⟨by omega, fun hc => bm ?_, fun hc => bm ?_⟩⟩
 ·have h0 : q = 0 := mG.1 (zW.1 (by omega))
  subst h0
  rfl
 ·have := of_decide_eq_true hc
  unfold dG; rw [if_pos this]
 ·have h1 := of_decide_eq_false hc
  have h0 : q ≠ 0 := fun h => hb (by rw [h]; rfl)
  unfold dG; rw [if_neg h1, if_pos (E2 h0 h1)]
def CO : Spec := bp fun l => match l with
 | [.rat q n] => some (aJ (.int .i64 (dG q)) [n < 2 ^ 44])
 | _ => none
theorem Mk : ∀ K args pre r, CO K args pre = some r → aC P nk K args pre r := by
 refine bK fun K args r hk hs _ => ?_
 split at hs
 ·simp only [Option.some.injEq] at hs
  subst hs
  exact fun need => B9 need K [] trivial
 ·simp at hs
theorem CJ {q : Rat} {n : Nat} (h : Sz q n) : bn (.agg [.bool (decide (q < 0)), .mag q.num.natAbs, .mag (if q.den = 1 then 0 else q.den)]) (.rat q n) := oT h rfl rfl rfl
theorem Ii {q : Rat} {n : Nat} (hn : n < 2 ^ 44) (K : Nat) (pre : aA) : aC P tJ K [.rat q n] pre (aJ (.rat q n) []) := by
 refine iA fun ⟨hs1, _⟩ => ?_
 have hs1 : Sz q n := hs1
 obtain ⟨a1, a2, a3⟩ := Sz.gv hs1 hn
 refine bE hT jl hm MI rfl (of_decide_eq_true (by kernel_rfl)) rfl 60 Ji (fun _ => ?_) K pre
 simp only [aa.all, az]
 exact ⟨⟨by omega, by omega, a1, by omega, a3, by omega⟩, by omega, CJ hs1⟩
def DV : Spec := bp fun l => match l with
 | [.rat q n] => some (aJ (.rat q n) [n < 2 ^ 44])
 | _ => none
theorem UT : ∀ K args pre r, DV K args pre = some r → aC P tJ K args pre r := by
 refine bK fun K args r hk hs _ => ?_
 split at hs
 ·simp only [Option.some.injEq] at hs
  subst hs
  exact fun need => Ii need K [] trivial
 ·simp at hs
theorem NY {n : Int} (h1 : -2 ^ 63 ≤ n) (h2 : n < 2 ^ 63) (K : Nat) (pre : aA) : aC P pI K [.int .i64 n] pre (aJ (.mag n.natAbs) []) := by
 refine bE hT jl hm Il rfl (of_decide_eq_true (by kernel_rfl)) rfl 60 Po (fun _ => ?_) K pre
 simp only [aa.all, az, beq_iff_eq, beq_eq_false_iff_ne, ne_eq]
 refine ⟨fun hb => ⟨by omega, cF ?_⟩, fun hb => ?_⟩
 ·subst hb; rfl
 ·have e : IntKind.i64.wrap (0 - n) = -n := by rw [wrap_i64 (by omega) (by omega)]; omega
  rw [e]
  have e2 : IntKind.u64.wrap (if n < -n then -n else n) = ((n.natAbs : Nat) : Int) := by
   rw [bt (by split <;> omega) (by split <;> omega)]
   split <;> omega
  rw [e2]
  refine ⟨⟨by omega, by omega⟩, cF (by rw [Int.toNat_natCast])⟩
def EK : Spec := bp fun l => match l with
 | [.int .i64 n] => some (aJ (.mag n.natAbs) [-2 ^ 63 ≤ n, n < 2 ^ 63])
 | _ => none
theorem Ix : ∀ K args pre r, EK K args pre = some r → aC P pI K args pre r := by
 refine bK fun K args r hk hs _ => ?_
 split at hs
 ·simp only [Option.some.injEq] at hs
  subst hs
  exact fun need => NY need.1 need.2 K [] trivial
 ·simp at hs
def zf : Spec := bp fun l => match l with
 | [.bool b, x, y] => match fL x, fL y with
  | some N, some D => some (aJ (.rat (sQ b N D) (bT (sQ b N D))) [nl N < 2 ^ 40, nl D < 2 ^ 40])
  | _, _ => none
 | _ => none
theorem EH : ∀ K args pre r, zf K args pre = some r → aC P oP K args pre r := by
 refine bK fun K args r hk hs _ => ?_
 split at hs
 ·split at hs
  ·rename_i N D h1 h2
   simp only [Option.some.injEq] at hs
   subst hs
   exact fun need => eJ (FP need.1 need.2 K []) hk ⟨.refl _, iG h1, iG h2, trivial⟩ [] trivial
  ·simp at hs
 ·simp at hs
end Go.Am.B
