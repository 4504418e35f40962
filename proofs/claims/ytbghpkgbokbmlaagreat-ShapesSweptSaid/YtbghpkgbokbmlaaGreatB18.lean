/- rational.den, parts, Same, Sign, copied, size: their contracts. -/
import Derived.Test.YtbghpkgbokbmlaaGreatB17
set_option linter.unusedVariables false
namespace Go.Am.B
open Go Go.Am.N AV
theorem aav {q : Rat} {n : Nat} (K : Nat) (pre : aD) : az P uv K [.rat q n] pre (aF (.mag q.den) []) := by
 refine bD hT j8 hm ZS rfl (of_decide_eq_true (by kernel_rfl)) rfl 60 Sm (fun _ => ?_) K pre
 simp only [aa.all, ax, beq_iff_eq, beq_eq_false_iff_ne, ne_eq]
 refine ⟨by omega, fun hb => cZ ?_, fun hb => ⟨by omega, cZ ?_⟩⟩
 ·have h0 := q.den_nz
  have : (if q.den = 1 then 0 else q.den) = 0 := iC.1 (by omega)
  split at this
  ·rename_i h; rw [h]
  ·omega
 ·split
  ·rename_i h; rw [if_pos h] at hb; exact absurd (by decide) hb
  ·rfl
def KT : Spec := bt fun l => match l with
 | [.rat q _] => some (aF (.mag q.den) [])
 | _ => none
theorem Rf : ∀ K args pre r, KT K args pre = some r → az P uv K args pre r := by
 refine bH fun K args r hk hs _ => ?_
 split at hs
 ·simp only [Option.some.injEq] at hs
  subst hs
  exact aav K []
 ·simp at hs
def bg (q : Rat) : Bool := decide (q.num.natAbs < 4294967296) && decide (q.den < 4294967296)
abbrev qa (q : Rat) : AV := .tuple [.int .u64 (if bg q then q.num.natAbs else 0 : Nat), .int .u64 (if bg q then q.den else 0 : Nat), .bool (bg q)]
theorem pJ {N : Nat} : nl N ≤ 1 ↔ N < 4294967296 := cw
theorem aaI {q : Rat} {n : Nat} (K : Nat) (pre : aD) : az P sk K [.rat q n] pre (aF (qa q) []) := by
 refine bD hT j8 hm NT rfl (of_decide_eq_true (by kernel_rfl)) rfl 60 Nd (fun _ => ?_) K pre
 simp only [aa.all, ax, beq_iff_eq, beq_eq_false_iff_ne, ne_eq, decide_eq_true_eq, decide_eq_false_iff_not, Int.toNat_zero]
 have hd := q.den_nz
 have no : ¬ (q.num.natAbs < 4294967296 ∧ q.den < 4294967296) → ec [.int .u64 0, .int .u64 0, .bool false] (qa q) := by
  intro h
  have : bg q = false := by
   unfold bg
   by_cases h1 : q.num.natAbs < 4294967296
   ·simp [h1]; omega
   ·simp [h1]
  unfold qa
  rw [this]
  exact ⟨.refl _, .refl _, .refl _, trivial⟩
 have yes : ∀ {x : Int} {v : Bool}, q.num.natAbs < 4294967296 ∧ q.den < 4294967296 → x = (q.den : Nat) → v = true → ec [.int .u64 (q.num.natAbs : Nat), .int .u64 x, .bool v] (qa q) := by
  intro x v h hx hv
  have : bg q = true := by unfold bg; simp [h]
  unfold qa
  rw [this]
  exact ⟨.refl _, bq hx, fO hv, trivial⟩
 have hden : ∀ {m : Nat}, nl (if q.den = 1 then 0 else q.den) ≤ m ↔ (q.den = 1 ∨ nl q.den ≤ m) := by
  intro m
  by_cases h : q.den = 1
  ·simp [h]; simp [nl]
  ·simp [h]
 refine ⟨fun hb => ⟨⟨by omega, hb⟩, fun _ => no ?_, fun h => by simp at h⟩, fun hb => ⟨⟨by omega, hb, by omega⟩, fun hc => no ?_, fun hc => ⟨by omega, fun h1 => ⟨⟨by omega, by omega, by omega⟩, ⟨by omega, by omega⟩, ?_⟩, fun h1 => ⟨⟨by omega, by omega⟩, yes ?_ ?_ rfl⟩⟩⟩⟩
 ·have := pJ (N := q.num.natAbs); omega
 ·have h2 := of_decide_eq_true (fQ hc)
  have h3 := hden (m := 1)
  have h4 := pJ (N := q.den)
  omega
 ·have h2 := of_decide_eq_false (fQ hc)
  have hn1 : q.den ≠ 1 := fun h => by rw [if_pos h] at h1; simp [nl] at h1
  rw [if_neg hn1] at h1 h2 ⊢
  have h4 := (pJ (N := q.den)).1 (by omega)
  have h5 := (pJ (N := q.num.natAbs)).1 (by omega)
  have hl : ak q.den 0 = q.den := by
   have := eM (N := q.den)
   rw [show nl q.den = 1 by omega, val, val] at this
   simpa using this
  rw [hl, bC (by omega) (by omega)]
  exact yes ⟨h5, h4⟩ rfl (by simp; omega)
 ·have h2 := of_decide_eq_false (fQ hc)
  have h3 := hden (m := 1)
  have h3' := hden (m := 0)
  have h4 := pJ (N := q.den)
  have h5 := pJ (N := q.num.natAbs)
  have h6 := eO (N := q.den)
  omega
 ·have h2 := of_decide_eq_false (fQ hc)
  have h3 := hden (m := 0)
  have h6 := eO (N := q.den)
  omega
def K5 : Spec := bt fun l => match l with
 | [.rat q _] => some (aF (qa q) [])
 | _ => none
theorem Rh : ∀ K args pre r, K5 K args pre = some r → az P sk K args pre r := by
 refine bH fun K args r hk hs _ => ?_
 split at hs
 ·simp only [Option.some.injEq] at hs
  subst hs
  exact aaI K []
 ·simp at hs
theorem mu {q r : Rat} : q = r ↔ (decide (q < 0) = decide (r < 0)) ∧ q.num.natAbs = r.num.natAbs ∧ (if q.den = 1 then 0 else q.den) = (if r.den = 1 then 0 else r.den) := by
 constructor
 ·intro h; subst h; exact ⟨rfl, rfl, rfl⟩
 ·rintro ⟨h1, h2, h3⟩
  have hd : q.den = r.den := by
   have := q.den_nz
   have := r.den_nz
   split at h3 <;> split at h3 <;> omega
  rw [← iK q, ← iK r, h1, h2, hd]
theorem D0 {q r : Rat} {n m : Nat} (hn : n < 2 ^ 44) (hm' : m < 2 ^ 44) (K : Nat) (pre : aD) : az P kf K [.rat q n, .rat r m] pre (aF (.bool (decide (q = r))) []) := by
 refine gA fun ⟨hs1, hs2, _⟩ => ?_
 obtain ⟨a1, a2, a3⟩ := Sz.g8 hs1 hn
 obtain ⟨b1, b2, b3⟩ := Sz.g8 hs2 hm'
 refine bD hT j8 hm YW rfl (of_decide_eq_true (by kernel_rfl)) rfl 60 abh (fun _ => ?_) K pre
 simp only [aa.all, ax]
 refine ⟨fun hb => ⟨fun hc => ⟨⟨by omega, by omega, hb, by omega, by omega, a1, b1, hc, by omega, by omega, a3, b3⟩, fO ?_⟩, fun hc => ⟨⟨by omega, by omega, hb, by omega, by omega, a1, b1, hc⟩, fO ?_⟩⟩, fun hb => ⟨fun h => by simp at h, fun _ => ⟨⟨by omega, by omega, hb, trivial⟩, fO ?_⟩⟩⟩
 ·have h1 := eq_of_beq hb
  have h2 := of_decide_eq_true (gD hc)
  rw [cond_true]
  exact decide_eq_decide.2 ⟨fun h => mu.2 ⟨h1, h2, h⟩, fun h => (mu.1 h).2.2⟩
 ·have h2 := of_decide_eq_false (gD hc)
  exact (decide_eq_false fun h => h2 (mu.1 h).2.1).symm
 ·refine (decide_eq_false fun h => ?_).symm
  rw [(mu.1 h).1] at hb
  simp at hb
theorem kZ {q : Rat} : q.num.natAbs = 0 ↔ q = 0 := by rw [Int.natAbs_eq_zero, Rat.num_eq_zero]
theorem Kw {q : Rat} (h : q ≠ 0) (h2 : ¬ q < 0) : 0 < q := by
 rw [Rat.lt_iff]
 have h3 : ¬ q.num < 0 := fun h => h2 (fy.2 h)
 have h4 : q.num ≠ 0 := fun h5 => h (Rat.num_eq_zero.1 h5)
 simp; omega
theorem C8 {q : Rat} {n : Nat} (hn : n < 2 ^ 44) (K : Nat) (pre : aD) : az P oM K [.rat q n] pre (aF (.int .i64 (dD q)) []) := by
 refine gA fun ⟨hs1, _⟩ => ?_
 obtain ⟨a1, a2, a3⟩ := Sz.g8 hs1 hn
 refine bD hT j8 hm Q7 rfl (of_decide_eq_true (by kernel_rfl)) rfl 60 Yy (fun _ => ?_) K pre
 simp only [aa.all, ax, beq_iff_eq, beq_eq_false_iff_ne, ne_eq]
 refine ⟨⟨by omega, a1⟩, fun hb => bq ?_, fun hb => ⟨by omega, fun hc => bq ?_, fun hc => bq ?_⟩⟩
 ·have h0 : q = 0 := kZ.1 (Dx.1 (by omega))
  subst h0
  rfl
 ·have := of_decide_eq_true hc
  unfold dD; rw [if_pos this]
 ·have h1 := of_decide_eq_false hc
  have h0 : q ≠ 0 := fun h => hb (by rw [h]; rfl)
  unfold dD; rw [if_neg h1, if_pos (Kw h0 h1)]
def Jz : Spec := bt fun l => match l with
 | [.rat q n] => some (aF (.int .i64 (dD q)) [n < 2 ^ 44])
 | _ => none
theorem ZI : ∀ K args pre r, Jz K args pre = some r → az P oM K args pre r := by
 refine bH fun K args r hk hs _ => ?_
 split at hs
 ·simp only [Option.some.injEq] at hs
  subst hs
  exact fun need => C8 need K [] trivial
 ·simp at hs
theorem Hl {q : Rat} {n : Nat} (h : Sz q n) : bn (.agg [.bool (decide (q < 0)), .mag q.num.natAbs, .mag (if q.den = 1 then 0 else q.den)]) (.rat q n) := lH h rfl rfl rfl
theorem LU {q : Rat} {n : Nat} (hn : n < 2 ^ 44) (K : Nat) (pre : aD) : az P uX K [.rat q n] pre (aF (.rat q n) []) := by
 refine gA fun ⟨hs1, _⟩ => ?_
 have hs1 : Sz q n := hs1
 obtain ⟨a1, a2, a3⟩ := Sz.g8 hs1 hn
 refine bD hT j8 hm P3 rfl (of_decide_eq_true (by kernel_rfl)) rfl 60 Re (fun _ => ?_) K pre
 simp only [aa.all, ax]
 exact ⟨⟨by omega, by omega, a1, by omega, a3, by omega⟩, by omega, Hl hs1⟩
def EL : Spec := bt fun l => match l with
 | [.rat q n] => some (aF (.rat q n) [n < 2 ^ 44])
 | _ => none
theorem XS : ∀ K args pre r, EL K args pre = some r → az P uX K args pre r := by
 refine bH fun K args r hk hs _ => ?_
 split at hs
 ·simp only [Option.some.injEq] at hs
  subst hs
  exact fun need => LU need K [] trivial
 ·simp at hs
theorem Xf {n : Int} (h1 : -2 ^ 63 ≤ n) (h2 : n < 2 ^ 63) (K : Nat) (pre : aD) : az P s6 K [.int .i64 n] pre (aF (.mag n.natAbs) []) := by
 refine bD hT j8 hm LW rfl (of_decide_eq_true (by kernel_rfl)) rfl 60 Vk (fun _ => ?_) K pre
 simp only [aa.all, ax, beq_iff_eq, beq_eq_false_iff_ne, ne_eq]
 refine ⟨fun hb => ⟨by omega, cZ ?_⟩, fun hb => ?_⟩
 ·subst hb; rfl
 ·have e : IntKind.i64.wrap (0 - n) = -n := by rw [wrap_i64 (by omega) (by omega)]; omega
  rw [e]
  have e2 : IntKind.u64.wrap (if n < -n then -n else n) = ((n.natAbs : Nat) : Int) := by
   rw [bC (by split <;> omega) (by split <;> omega)]
   split <;> omega
  rw [e2]
  refine ⟨⟨by omega, by omega⟩, cZ (by rw [Int.toNat_natCast])⟩
def Kf : Spec := bt fun l => match l with
 | [.int .i64 n] => some (aF (.mag n.natAbs) [-2 ^ 63 ≤ n, n < 2 ^ 63])
 | _ => none
theorem Pu : ∀ K args pre r, Kf K args pre = some r → az P s6 K args pre r := by
 refine bH fun K args r hk hs _ => ?_
 split at hs
 ·simp only [Option.some.injEq] at hs
  subst hs
  exact fun need => Xf need.1 need.2 K [] trivial
 ·simp at hs
def CX : Spec := bt fun l => match l with
 | [.bool b, x, y] => match gm x, gm y with
  | some N, some D => some (aF (.rat (sQ b N D) (bV (sQ b N D))) [nl N < 2 ^ 40, nl D < 2 ^ 40])
  | _, _ => none
 | _ => none
theorem FA : ∀ K args pre r, CX K args pre = some r → az P o8 K args pre r := by
 refine bH fun K args r hk hs _ => ?_
 split at hs
 ·split at hs
  ·rename_i N D h1 h2
   simp only [Option.some.injEq] at hs
   subst hs
   exact fun need => fk (Sc need.1 need.2 K []) hk ⟨.refl _, jd h1, jd h2, trivial⟩ [] trivial
  ·simp at hs
 ·simp at hs
end Go.Am.B
