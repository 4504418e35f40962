/- rational.den, parts, Same, Sign, copied, size: their contracts. -/
import Derived.Test.YtbghpkgbokbmlaaGreatB17
set_option linter.unusedVariables false
namespace Go.Am.B
open Go Go.Am.N AV
theorem Rr {q : Rat} {n : Nat} (K : Nat) (pre : aC) : az P qm K [.rat q n] pre (aG (.mag q.den) []) := by
 refine bC hT iG hm Kl rfl (of_decide_eq_true (by kernel_rfl)) rfl 60 JQ (fun _ => ?_) K pre
 simp only [aa.all, ay, beq_iff_eq, beq_eq_false_iff_ne, ne_eq]
 refine ⟨by omega, fun hb => cI ?_, fun hb => ⟨by omega, cI ?_⟩⟩
 ·have h0 := q.den_nz
  have : (if q.den = 1 then 0 else q.den) = 0 := gf.1 (by omega)
  split at this
  ·rename_i h; rw [h]
  ·omega
 ·split
  ·rename_i h; rw [if_pos h] at hb; exact absurd (by decide) hb
  ·rfl
def Ad : Spec := bk fun l => match l with
 | [.rat q _] => some (aG (.mag q.den) [])
 | _ => none
theorem Je : ∀ K args pre r, Ad K args pre = some r → az P qm K args pre r := by
 refine bD fun K args r hk hs _ => ?_
 split at hs
 ·simp only [Option.some.injEq] at hs
  subst hs
  exact Rr K []
 ·simp at hs
def aU (q : Rat) : Bool := decide (q.num.natAbs < 4294967296) && decide (q.den < 4294967296)
abbrev nc (q : Rat) : AV := .tuple [.int .u64 (if aU q then q.num.natAbs else 0 : Nat), .int .u64 (if aU q then q.den else 0 : Nat), .bool (aU q)]
theorem mF {N : Nat} : nl N ≤ 1 ↔ N < 4294967296 := bX
theorem Qp {q : Rat} {n : Nat} (K : Nat) (pre : aC) : az P oT K [.rat q n] pre (aG (nc q) []) := by
 refine bC hT iG hm Uw rfl (of_decide_eq_true (by kernel_rfl)) rfl 60 KM (fun _ => ?_) K pre
 simp only [aa.all, ay, beq_iff_eq, beq_eq_false_iff_ne, ne_eq, decide_eq_true_eq, decide_eq_false_iff_not, Int.toNat_zero]
 have hd := q.den_nz
 have no : ¬ (q.num.natAbs < 4294967296 ∧ q.den < 4294967296) → dL [.int .u64 0, .int .u64 0, .bool false] (nc q) := by
  intro h
  have : aU q = false := by
   unfold aU
   by_cases h1 : q.num.natAbs < 4294967296
   ·simp [h1]; omega
   ·simp [h1]
  unfold nc
  rw [this]
  exact ⟨.refl _, .refl _, .refl _, trivial⟩
 have yes : ∀ {x : Int} {v : Bool}, q.num.natAbs < 4294967296 ∧ q.den < 4294967296 → x = (q.den : Nat) → v = true → dL [.int .u64 (q.num.natAbs : Nat), .int .u64 x, .bool v] (nc q) := by
  intro x v h hx hv
  have : aU q = true := by unfold aU; simp [h]
  unfold nc
  rw [this]
  exact ⟨.refl _, bf hx, fZ hv, trivial⟩
 have hden : ∀ {m : Nat}, nl (if q.den = 1 then 0 else q.den) ≤ m ↔ (q.den = 1 ∨ nl q.den ≤ m) := by
  intro m
  by_cases h : q.den = 1
  ·simp [h]; simp [nl]
  ·simp [h]
 refine ⟨fun hb => ⟨⟨by omega, hb⟩, fun _ => no ?_, fun h => by simp at h⟩, fun hb => ⟨⟨by omega, hb, by omega⟩, fun hc => no ?_, fun hc => ⟨by omega, fun h1 => ⟨⟨by omega, by omega, by omega⟩, ⟨by omega, by omega⟩, ?_⟩, fun h1 => ⟨⟨by omega, by omega⟩, yes ?_ ?_ rfl⟩⟩⟩⟩
 ·have := mF (N := q.num.natAbs); omega
 ·have h2 := of_decide_eq_true (eR hc)
  have h3 := hden (m := 1)
  have h4 := mF (N := q.den)
  omega
 ·have h2 := of_decide_eq_false (eR hc)
  have hn1 : q.den ≠ 1 := fun h => by rw [if_pos h] at h1; simp [nl] at h1
  rw [if_neg hn1] at h1 h2 ⊢
  have h4 := (mF (N := q.den)).1 (by omega)
  have h5 := (mF (N := q.num.natAbs)).1 (by omega)
  have hl : aj q.den 0 = q.den := by
   have := dX (N := q.den)
   rw [show nl q.den = 1 by omega, val, val] at this
   simpa using this
  rw [hl, bn (by omega) (by omega)]
  exact yes ⟨h5, h4⟩ rfl (by simp; omega)
 ·have h2 := of_decide_eq_false (eR hc)
  have h3 := hden (m := 1)
  have h3' := hden (m := 0)
  have h4 := mF (N := q.den)
  have h5 := mF (N := q.num.natAbs)
  have h6 := dS (N := q.den)
  omega
 ·have h2 := of_decide_eq_false (eR hc)
  have h3 := hden (m := 0)
  have h6 := dS (N := q.den)
  omega
def A8 : Spec := bk fun l => match l with
 | [.rat q _] => some (aG (nc q) [])
 | _ => none
theorem Q6 : ∀ K args pre r, A8 K args pre = some r → az P oT K args pre r := by
 refine bD fun K args r hk hs _ => ?_
 split at hs
 ·simp only [Option.some.injEq] at hs
  subst hs
  exact Qp K []
 ·simp at hs
theorem j9 {q r : Rat} : q = r ↔ (decide (q < 0) = decide (r < 0)) ∧ q.num.natAbs = r.num.natAbs ∧ (if q.den = 1 then 0 else q.den) = (if r.den = 1 then 0 else r.den) := by
 constructor
 ·intro h; subst h; exact ⟨rfl, rfl, rfl⟩
 ·rintro ⟨h1, h2, h3⟩
  have hd : q.den = r.den := by
   have := q.den_nz
   have := r.den_nz
   split at h3 <;> split at h3 <;> omega
  rw [← gH q, ← gH r, h1, h2, hd]
theorem L8 {q r : Rat} {n m : Nat} (hn : n < 2 ^ 44) (hm' : m < 2 ^ 44) (K : Nat) (pre : aC) : az P tE K [.rat q n, .rat r m] pre (aG (.bool (decide (q = r))) []) := by
 refine gk fun ⟨hs1, hs2, _⟩ => ?_
 obtain ⟨a1, a2, a3⟩ := Sz.gd hs1 hn
 obtain ⟨b1, b2, b3⟩ := Sz.gd hs2 hm'
 refine bC hT iG hm KY rfl (of_decide_eq_true (by kernel_rfl)) rfl 60 Lt (fun _ => ?_) K pre
 simp only [aa.all, ay]
 refine ⟨fun hb => ⟨fun hc => ⟨⟨by omega, by omega, hb, by omega, by omega, a1, b1, hc, by omega, by omega, a3, b3⟩, fZ ?_⟩, fun hc => ⟨⟨by omega, by omega, hb, by omega, by omega, a1, b1, hc⟩, fZ ?_⟩⟩, fun hb => ⟨fun h => by simp at h, fun _ => ⟨⟨by omega, by omega, hb, trivial⟩, fZ ?_⟩⟩⟩
 ·have h1 := eq_of_beq hb
  have h2 := of_decide_eq_true (fJ hc)
  rw [cond_true]
  exact decide_eq_decide.2 ⟨fun h => j9.2 ⟨h1, h2, h⟩, fun h => (j9.1 h).2.2⟩
 ·have h2 := of_decide_eq_false (fJ hc)
  exact (decide_eq_false fun h => h2 (j9.1 h).2.1).symm
 ·refine (decide_eq_false fun h => ?_).symm
  rw [(j9.1 h).1] at hb
  simp at hb
theorem jE {q : Rat} : q.num.natAbs = 0 ↔ q = 0 := by rw [Int.natAbs_eq_zero, Rat.num_eq_zero]
theorem El {q : Rat} (h : q ≠ 0) (h2 : ¬ q < 0) : 0 < q := by
 rw [Rat.lt_iff]
 have h3 : ¬ q.num < 0 := fun h => h2 (eE.2 h)
 have h4 : q.num ≠ 0 := fun h5 => h (Rat.num_eq_zero.1 h5)
 simp; omega
theorem C4 {q : Rat} {n : Nat} (hn : n < 2 ^ 44) (K : Nat) (pre : aC) : az P nA K [.rat q n] pre (aG (.int .i64 (dc q)) []) := by
 refine gk fun ⟨hs1, _⟩ => ?_
 obtain ⟨a1, a2, a3⟩ := Sz.gd hs1 hn
 refine bC hT iG hm IJ rfl (of_decide_eq_true (by kernel_rfl)) rfl 60 U8 (fun _ => ?_) K pre
 simp only [aa.all, ay, beq_iff_eq, beq_eq_false_iff_ne, ne_eq]
 refine ⟨⟨by omega, a1⟩, fun hb => bf ?_, fun hb => ⟨by omega, fun hc => bf ?_, fun hc => bf ?_⟩⟩
 ·have h0 : q = 0 := jE.1 (yZ.1 (by omega))
  subst h0
  rfl
 ·have := of_decide_eq_true hc
  unfold dc; rw [if_pos this]
 ·have h1 := of_decide_eq_false hc
  have h0 : q ≠ 0 := fun h => hb (by rw [h]; rfl)
  unfold dc; rw [if_neg h1, if_pos (El h0 h1)]
def Fh : Spec := bk fun l => match l with
 | [.rat q n] => some (aG (.int .i64 (dc q)) [n < 2 ^ 44])
 | _ => none
theorem Jr : ∀ K args pre r, Fh K args pre = some r → az P nA K args pre r := by
 refine bD fun K args r hk hs _ => ?_
 split at hs
 ·simp only [Option.some.injEq] at hs
  subst hs
  exact fun need => C4 need K [] trivial
 ·simp at hs
theorem zB {q : Rat} {n : Nat} (h : Sz q n) : bp (.agg [.bool (decide (q < 0)), .mag q.num.natAbs, .mag (if q.den = 1 then 0 else q.den)]) (.rat q n) := kD h rfl rfl rfl
theorem L4 {q : Rat} {n : Nat} (hn : n < 2 ^ 44) (K : Nat) (pre : aC) : az P pN K [.rat q n] pre (aG (.rat q n) []) := by
 refine gk fun ⟨hs1, _⟩ => ?_
 have hs1 : Sz q n := hs1
 obtain ⟨a1, a2, a3⟩ := Sz.gd hs1 hn
 refine bC hT iG hm TM rfl (of_decide_eq_true (by kernel_rfl)) rfl 60 Jl (fun _ => ?_) K pre
 simp only [aa.all, ay]
 exact ⟨⟨by omega, by omega, a1, by omega, a3, by omega⟩, by omega, zB hs1⟩
def CT : Spec := bk fun l => match l with
 | [.rat q n] => some (aG (.rat q n) [n < 2 ^ 44])
 | _ => none
theorem Th : ∀ K args pre r, CT K args pre = some r → az P pN K args pre r := by
 refine bD fun K args r hk hs _ => ?_
 split at hs
 ·simp only [Option.some.injEq] at hs
  subst hs
  exact fun need => L4 need K [] trivial
 ·simp at hs
theorem Uy {n : Int} (h1 : -2 ^ 63 ≤ n) (h2 : n < 2 ^ 63) (K : Nat) (pre : aC) : az P pg K [.int .i64 n] pre (aG (.mag n.natAbs) []) := by
 refine bC hT iG hm JY rfl (of_decide_eq_true (by kernel_rfl)) rfl 60 Lj (fun _ => ?_) K pre
 simp only [aa.all, ay, beq_iff_eq, beq_eq_false_iff_ne, ne_eq]
 refine ⟨fun hb => ⟨by omega, cI ?_⟩, fun hb => ?_⟩
 ·subst hb; rfl
 ·have e : IntKind.i64.wrap (0 - n) = -n := by rw [wrap_i64 (by omega) (by omega)]; omega
  rw [e]
  have e2 : IntKind.u64.wrap (if n < -n then -n else n) = ((n.natAbs : Nat) : Int) := by
   rw [bn (by split <;> omega) (by split <;> omega)]
   split <;> omega
  rw [e2]
  refine ⟨⟨by omega, by omega⟩, cI (by rw [Int.toNat_natCast])⟩
def BT : Spec := bk fun l => match l with
 | [.int .i64 n] => some (aG (.mag n.natAbs) [-2 ^ 63 ≤ n, n < 2 ^ 63])
 | _ => none
theorem TN : ∀ K args pre r, BT K args pre = some r → az P pg K args pre r := by
 refine bD fun K args r hk hs _ => ?_
 split at hs
 ·simp only [Option.some.injEq] at hs
  subst hs
  exact fun need => Uy need.1 need.2 K [] trivial
 ·simp at hs
def ym : Spec := bk fun l => match l with
 | [.bool b, x, y] => match fB x, fB y with
  | some N, some D => some (aG (.rat (sQ b N D) (bH (sQ b N D))) [nl N < 2 ^ 40, nl D < 2 ^ 40])
  | _, _ => none
 | _ => none
theorem FB : ∀ K args pre r, ym K args pre = some r → az P nF K args pre r := by
 refine bD fun K args r hk hs _ => ?_
 split at hs
 ·split at hs
  ·rename_i N D h1 h2
   simp only [Option.some.injEq] at hs
   subst hs
   exact fun need => eF (PE need.1 need.2 K []) hk ⟨.refl _, gV h1, gV h2, trivial⟩ [] trivial
  ·simp at hs
 ·simp at hs
end Go.Am.B
