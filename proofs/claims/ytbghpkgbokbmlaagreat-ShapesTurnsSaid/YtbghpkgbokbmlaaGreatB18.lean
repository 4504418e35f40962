/- rational.den, parts, Same, Sign, copied, size: their contracts. -/
import Derived.Test.YtbghpkgbokbmlaaGreatB17
set_option linter.unusedVariables false
namespace Go.Am.B
open Go Go.Am.N AV
theorem OW {q : Rat} {n : Nat} (K : Nat) (pre : aC) : aA P td K [.rat q n] pre (aG (.mag q.den) []) := by
 refine bD hT jI hm R3 rfl (of_decide_eq_true (by kernel_rfl)) rfl 60 MC (fun _ => ?_) K pre
 simp only [aa.all, ax, beq_iff_eq, beq_eq_false_iff_ne, ne_eq]
 refine ⟨by omega, fun hb => cW ?_, fun hb => ⟨by omega, cW ?_⟩⟩
 ·have h0 := q.den_nz
  have : (if q.den = 1 then 0 else q.den) = 0 := gG.1 (by omega)
  split at this
  ·rename_i h; rw [h]
  ·omega
 ·split
  ·rename_i h; rw [if_pos h] at hb; exact absurd (by decide) hb
  ·rfl
def Fi : Spec := bp fun l => match l with
 | [.rat q _] => some (aG (.mag q.den) [])
 | _ => none
theorem SQ : ∀ K args pre r, Fi K args pre = some r → aA P td K args pre r := by
 refine bF fun K args r hk hs _ => ?_
 split at hs
 ·simp only [Option.some.injEq] at hs
  subst hs
  exact OW K []
 ·simp at hs
def bf (q : Rat) : Bool := decide (q.num.natAbs < 4294967296) && decide (q.den < 4294967296)
abbrev oM (q : Rat) : AV := .tuple [.int .u64 (if bf q then q.num.natAbs else 0 : Nat), .int .u64 (if bf q then q.den else 0 : Nat), .bool (bf q)]
theorem oL {N : Nat} : nl N ≤ 1 ↔ N < 4294967296 := cj
theorem Sl {q : Rat} {n : Nat} (K : Nat) (pre : aC) : aA P uf K [.rat q n] pre (aG (oM q) []) := by
 refine bD hT jI hm aba rfl (of_decide_eq_true (by kernel_rfl)) rfl 60 aaz (fun _ => ?_) K pre
 simp only [aa.all, ax, beq_iff_eq, beq_eq_false_iff_ne, ne_eq, decide_eq_true_eq, decide_eq_false_iff_not, Int.toNat_zero]
 have hd := q.den_nz
 have no : ¬ (q.num.natAbs < 4294967296 ∧ q.den < 4294967296) → dG [.int .u64 0, .int .u64 0, .bool false] (oM q) := by
  intro h
  have : bf q = false := by
   unfold bf
   by_cases h1 : q.num.natAbs < 4294967296
   ·simp [h1]; omega
   ·simp [h1]
  unfold oM
  rw [this]
  exact ⟨.refl _, .refl _, .refl _, trivial⟩
 have yes : ∀ {x : Int} {v : Bool}, q.num.natAbs < 4294967296 ∧ q.den < 4294967296 → x = (q.den : Nat) → v = true → dG [.int .u64 (q.num.natAbs : Nat), .int .u64 x, .bool v] (oM q) := by
  intro x v h hx hv
  have : bf q = true := by unfold bf; simp [h]
  unfold oM
  rw [this]
  exact ⟨.refl _, bn hx, gd hv, trivial⟩
 have hden : ∀ {m : Nat}, nl (if q.den = 1 then 0 else q.den) ≤ m ↔ (q.den = 1 ∨ nl q.den ≤ m) := by
  intro m
  by_cases h : q.den = 1
  ·simp [h]; simp [nl]
  ·simp [h]
 refine ⟨fun hb => ⟨⟨by omega, hb⟩, fun _ => no ?_, fun h => by simp at h⟩, fun hb => ⟨⟨by omega, hb, by omega⟩, fun hc => no ?_, fun hc => ⟨by omega, fun h1 => ⟨⟨by omega, by omega, by omega⟩, ⟨by omega, by omega⟩, ?_⟩, fun h1 => ⟨⟨by omega, by omega⟩, yes ?_ ?_ rfl⟩⟩⟩⟩
 ·have := oL (N := q.num.natAbs); omega
 ·have h2 := of_decide_eq_true (fG hc)
  have h3 := hden (m := 1)
  have h4 := oL (N := q.den)
  omega
 ·have h2 := of_decide_eq_false (fG hc)
  have hn1 : q.den ≠ 1 := fun h => by rw [if_pos h] at h1; simp [nl] at h1
  rw [if_neg hn1] at h1 h2 ⊢
  have h4 := (oL (N := q.den)).1 (by omega)
  have h5 := (oL (N := q.num.natAbs)).1 (by omega)
  have hl : aq q.den 0 = q.den := by
   have := eB (N := q.den)
   rw [show nl q.den = 1 by omega, val, val] at this
   simpa using this
  rw [hl, bz (by omega) (by omega)]
  exact yes ⟨h5, h4⟩ rfl (by simp; omega)
 ·have h2 := of_decide_eq_false (fG hc)
  have h3 := hden (m := 1)
  have h3' := hden (m := 0)
  have h4 := oL (N := q.den)
  have h5 := oL (N := q.num.natAbs)
  have h6 := eE (N := q.den)
  omega
 ·have h2 := of_decide_eq_false (fG hc)
  have h3 := hden (m := 0)
  have h6 := eE (N := q.den)
  omega
def IU : Spec := bp fun l => match l with
 | [.rat q _] => some (aG (oM q) [])
 | _ => none
theorem TJ : ∀ K args pre r, IU K args pre = some r → aA P uf K args pre r := by
 refine bF fun K args r hk hs _ => ?_
 split at hs
 ·simp only [Option.some.injEq] at hs
  subst hs
  exact Sl K []
 ·simp at hs
theorem kQ {q r : Rat} : q = r ↔ (decide (q < 0) = decide (r < 0)) ∧ q.num.natAbs = r.num.natAbs ∧ (if q.den = 1 then 0 else q.den) = (if r.den = 1 then 0 else r.den) := by
 constructor
 ·intro h; subst h; exact ⟨rfl, rfl, rfl⟩
 ·rintro ⟨h1, h2, h3⟩
  have hd : q.den = r.den := by
   have := q.den_nz
   have := r.den_nz
   split at h3 <;> split at h3 <;> omega
  rw [← ic q, ← ic r, h1, h2, hd]
theorem FE {q r : Rat} {n m : Nat} (hn : n < 2 ^ 44) (hm' : m < 2 ^ 44) (K : Nat) (pre : aC) : aA P uG K [.rat q n, .rat r m] pre (aG (.bool (decide (q = r))) []) := by
 refine gj fun ⟨hs1, hs2, _⟩ => ?_
 obtain ⟨a1, a2, a3⟩ := Sz.gH hs1 hn
 obtain ⟨b1, b2, b3⟩ := Sz.gH hs2 hm'
 refine bD hT jI hm Ob rfl (of_decide_eq_true (by kernel_rfl)) rfl 60 PO (fun _ => ?_) K pre
 simp only [aa.all, ax]
 refine ⟨fun hb => ⟨fun hc => ⟨⟨by omega, by omega, hb, by omega, by omega, a1, b1, hc, by omega, by omega, a3, b3⟩, gd ?_⟩, fun hc => ⟨⟨by omega, by omega, hb, by omega, by omega, a1, b1, hc⟩, gd ?_⟩⟩, fun hb => ⟨fun h => by simp at h, fun _ => ⟨⟨by omega, by omega, hb, trivial⟩, gd ?_⟩⟩⟩
 ·have h1 := eq_of_beq hb
  have h2 := of_decide_eq_true (gn hc)
  rw [cond_true]
  exact decide_eq_decide.2 ⟨fun h => kQ.2 ⟨h1, h2, h⟩, fun h => (kQ.1 h).2.2⟩
 ·have h2 := of_decide_eq_false (gn hc)
  exact (decide_eq_false fun h => h2 (kQ.1 h).2.1).symm
 ·refine (decide_eq_false fun h => ?_).symm
  rw [(kQ.1 h).1] at hb
  simp at hb
theorem kO {q : Rat} : q.num.natAbs = 0 ↔ q = 0 := by rw [Int.natAbs_eq_zero, Rat.num_eq_zero]
theorem JQ {q : Rat} (h : q ≠ 0) (h2 : ¬ q < 0) : 0 < q := by
 rw [Rat.lt_iff]
 have h3 : ¬ q.num < 0 := fun h => h2 (e9.2 h)
 have h4 : q.num ≠ 0 := fun h5 => h (Rat.num_eq_zero.1 h5)
 simp; omega
theorem z4 {q : Rat} {n : Nat} (hn : n < 2 ^ 44) (K : Nat) (pre : aC) : aA P nE K [.rat q n] pre (aG (.int .i64 (dA q)) []) := by
 refine gj fun ⟨hs1, _⟩ => ?_
 obtain ⟨a1, a2, a3⟩ := Sz.gH hs1 hn
 refine bD hT jI hm UF rfl (of_decide_eq_true (by kernel_rfl)) rfl 60 LS (fun _ => ?_) K pre
 simp only [aa.all, ax, beq_iff_eq, beq_eq_false_iff_ne, ne_eq]
 refine ⟨⟨by omega, a1⟩, fun hb => bn ?_, fun hb => ⟨by omega, fun hc => bn ?_, fun hc => bn ?_⟩⟩
 ·have h0 : q = 0 := kO.1 (A3.1 (by omega))
  subst h0
  rfl
 ·have := of_decide_eq_true hc
  unfold dA; rw [if_pos this]
 ·have h1 := of_decide_eq_false hc
  have h0 : q ≠ 0 := fun h => hb (by rw [h]; rfl)
  unfold dA; rw [if_neg h1, if_pos (JQ h0 h1)]
def GI : Spec := bp fun l => match l with
 | [.rat q n] => some (aG (.int .i64 (dA q)) [n < 2 ^ 44])
 | _ => none
theorem UI : ∀ K args pre r, GI K args pre = some r → aA P nE K args pre r := by
 refine bF fun K args r hk hs _ => ?_
 split at hs
 ·simp only [Option.some.injEq] at hs
  subst hs
  exact fun need => z4 need K [] trivial
 ·simp at hs
theorem Gr {q : Rat} {n : Nat} (h : Sz q n) : bu (.agg [.bool (decide (q < 0)), .mag q.num.natAbs, .mag (if q.den = 1 then 0 else q.den)]) (.rat q n) := jS h rfl rfl rfl
theorem Yu {q : Rat} {n : Nat} (hn : n < 2 ^ 44) (K : Nat) (pre : aC) : aA P qH K [.rat q n] pre (aG (.rat q n) []) := by
 refine gj fun ⟨hs1, _⟩ => ?_
 have hs1 : Sz q n := hs1
 obtain ⟨a1, a2, a3⟩ := Sz.gH hs1 hn
 refine bD hT jI hm Ro rfl (of_decide_eq_true (by kernel_rfl)) rfl 60 YE (fun _ => ?_) K pre
 simp only [aa.all, ax]
 exact ⟨⟨by omega, by omega, a1, by omega, a3, by omega⟩, by omega, Gr hs1⟩
def EA : Spec := bp fun l => match l with
 | [.rat q n] => some (aG (.rat q n) [n < 2 ^ 44])
 | _ => none
theorem XU : ∀ K args pre r, EA K args pre = some r → aA P qH K args pre r := by
 refine bF fun K args r hk hs _ => ?_
 split at hs
 ·simp only [Option.some.injEq] at hs
  subst hs
  exact fun need => Yu need K [] trivial
 ·simp at hs
theorem Li {n : Int} (h1 : -2 ^ 63 ≤ n) (h2 : n < 2 ^ 63) (K : Nat) (pre : aC) : aA P rZ K [.int .i64 n] pre (aG (.mag n.natAbs) []) := by
 refine bD hT jI hm abg rfl (of_decide_eq_true (by kernel_rfl)) rfl 60 Zd (fun _ => ?_) K pre
 simp only [aa.all, ax, beq_iff_eq, beq_eq_false_iff_ne, ne_eq]
 refine ⟨fun hb => ⟨by omega, cW ?_⟩, fun hb => ?_⟩
 ·subst hb; rfl
 ·have e : IntKind.i64.wrap (0 - n) = -n := by rw [wrap_i64 (by omega) (by omega)]; omega
  rw [e]
  have e2 : IntKind.u64.wrap (if n < -n then -n else n) = ((n.natAbs : Nat) : Int) := by
   rw [bz (by split <;> omega) (by split <;> omega)]
   split <;> omega
  rw [e2]
  refine ⟨⟨by omega, by omega⟩, cW (by rw [Int.toNat_natCast])⟩
def IL : Spec := bp fun l => match l with
 | [.int .i64 n] => some (aG (.mag n.natAbs) [-2 ^ 63 ≤ n, n < 2 ^ 63])
 | _ => none
theorem Nv : ∀ K args pre r, IL K args pre = some r → aA P rZ K args pre r := by
 refine bF fun K args r hk hs _ => ?_
 split at hs
 ·simp only [Option.some.injEq] at hs
  subst hs
  exact fun need => Li need.1 need.2 K [] trivial
 ·simp at hs
def BG : Spec := bp fun l => match l with
 | [.bool b, x, y] => match fW x, fW y with
  | some N, some D => some (aG (.rat (sQ b N D) (bQ (sQ b N D))) [nl N < 2 ^ 40, nl D < 2 ^ 40])
  | _, _ => none
 | _ => none
theorem IP : ∀ K args pre r, BG K args pre = some r → aA P ot K args pre r := by
 refine bF fun K args r hk hs _ => ?_
 split at hs
 ·split at hs
  ·rename_i N D h1 h2
   simp only [Option.some.injEq] at hs
   subst hs
   exact fun need => fk (VO need.1 need.2 K []) hk ⟨.refl _, iF h1, iF h2, trivial⟩ [] trivial
  ·simp at hs
 ·simp at hs
end Go.Am.B
