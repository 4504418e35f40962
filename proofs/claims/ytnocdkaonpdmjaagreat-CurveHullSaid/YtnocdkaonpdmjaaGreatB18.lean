/- rational.den, parts, Same, Sign, copied, size: their contracts. -/
import Derived.Test.YtnocdkaonpdmjaaGreatB17
set_option linter.unusedVariables false
namespace Go.Am.B
open Go Go.Am.N AV
theorem OM {q : Rat} {n : Nat} (K : Nat) (pre : aD) : aA P qQ K [.rat q n] pre (aG (.mag q.den) []) := by
 refine bH hT kE hm OC rfl (of_decide_eq_true (by kernel_rfl)) rfl 60 Wk (fun _ => ?_) K pre
 simp only [aa.all, ay, beq_iff_eq, beq_eq_false_iff_ne, ne_eq]
 refine ⟨by omega, fun hb => cI ?_, fun hb => ⟨by omega, cI ?_⟩⟩
 ·have h0 := q.den_nz
  have : (if q.den = 1 then 0 else q.den) = 0 := gH.1 (by omega)
  split at this
  ·rename_i h; rw [h]
  ·omega
 ·split
  ·rename_i h; rw [if_pos h] at hb; exact absurd (by decide) hb
  ·rfl
def B9 : Spec := bu fun l => match l with
 | [.rat q _] => some (aG (.mag q.den) [])
 | _ => none
theorem Gw : ∀ K args pre r, B9 K args pre = some r → aA P qQ K args pre r := by
 refine bN fun K args r hk hs _ => ?_
 split at hs
 ·simp only [Option.some.injEq] at hs
  subst hs
  exact OM K []
 ·simp at hs
def bk (q : Rat) : Bool := decide (q.num.natAbs < 4294967296) && decide (q.den < 4294967296)
abbrev ri (q : Rat) : AV := .tuple [.int .u64 (if bk q then q.num.natAbs else 0 : Nat), .int .u64 (if bk q then q.den else 0 : Nat), .bool (bk q)]
theorem p9 {N : Nat} : nl N ≤ 1 ↔ N < 4294967296 := cB
theorem aaa {q : Rat} {n : Nat} (K : Nat) (pre : aD) : aA P sU K [.rat q n] pre (aG (ri q) []) := by
 refine bH hT kE hm RS rfl (of_decide_eq_true (by kernel_rfl)) rfl 60 abX (fun _ => ?_) K pre
 simp only [aa.all, ay, beq_iff_eq, beq_eq_false_iff_ne, ne_eq, decide_eq_true_eq, decide_eq_false_iff_not, Int.toNat_zero]
 have hd := q.den_nz
 have no : ¬ (q.num.natAbs < 4294967296 ∧ q.den < 4294967296) → dg [.int .u64 0, .int .u64 0, .bool false] (ri q) := by
  intro h
  have : bk q = false := by
   unfold bk
   by_cases h1 : q.num.natAbs < 4294967296
   ·simp [h1]; omega
   ·simp [h1]
  unfold ri
  rw [this]
  exact ⟨.refl _, .refl _, .refl _, trivial⟩
 have yes : ∀ {x : Int} {v : Bool}, q.num.natAbs < 4294967296 ∧ q.den < 4294967296 → x = (q.den : Nat) → v = true → dg [.int .u64 (q.num.natAbs : Nat), .int .u64 x, .bool v] (ri q) := by
  intro x v h hx hv
  have : bk q = true := by unfold bk; simp [h]
  unfold ri
  rw [this]
  exact ⟨.refl _, bq hx, eO hv, trivial⟩
 have hden : ∀ {m : Nat}, nl (if q.den = 1 then 0 else q.den) ≤ m ↔ (q.den = 1 ∨ nl q.den ≤ m) := by
  intro m
  by_cases h : q.den = 1
  ·simp [h]; simp [nl]
  ·simp [h]
 refine ⟨fun hb => ⟨⟨by omega, hb⟩, fun _ => no ?_, fun h => by simp at h⟩, fun hb => ⟨⟨by omega, hb, by omega⟩, fun hc => no ?_, fun hc => ⟨by omega, fun h1 => ⟨⟨by omega, by omega, by omega⟩, ⟨by omega, by omega⟩, ?_⟩, fun h1 => ⟨⟨by omega, by omega⟩, yes ?_ ?_ rfl⟩⟩⟩⟩
 ·have := p9 (N := q.num.natAbs); omega
 ·have h2 := of_decide_eq_true (fJ hc)
  have h3 := hden (m := 1)
  have h4 := p9 (N := q.den)
  omega
 ·have h2 := of_decide_eq_false (fJ hc)
  have hn1 : q.den ≠ 1 := fun h => by rw [if_pos h] at h1; simp [nl] at h1
  rw [if_neg hn1] at h1 h2 ⊢
  have h4 := (p9 (N := q.den)).1 (by omega)
  have h5 := (p9 (N := q.num.natAbs)).1 (by omega)
  have hl : au q.den 0 = q.den := by
   have := eC (N := q.den)
   rw [show nl q.den = 1 by omega, val, val] at this
   simpa using this
  rw [hl, wrap_u64 (by omega) (by omega)]
  exact yes ⟨h5, h4⟩ rfl (by simp; omega)
 ·have h2 := of_decide_eq_false (fJ hc)
  have h3 := hden (m := 1)
  have h3' := hden (m := 0)
  have h4 := p9 (N := q.den)
  have h5 := p9 (N := q.num.natAbs)
  have h6 := eP (N := q.den)
  omega
 ·have h2 := of_decide_eq_false (fJ hc)
  have h3 := hden (m := 0)
  have h6 := eP (N := q.den)
  omega
def IE : Spec := bu fun l => match l with
 | [.rat q _] => some (aG (ri q) [])
 | _ => none
theorem O9 : ∀ K args pre r, IE K args pre = some r → aA P sU K args pre r := by
 refine bN fun K args r hk hs _ => ?_
 split at hs
 ·simp only [Option.some.injEq] at hs
  subst hs
  exact aaa K []
 ·simp at hs
theorem mU {q r : Rat} : q = r ↔ (decide (q < 0) = decide (r < 0)) ∧ q.num.natAbs = r.num.natAbs ∧ (if q.den = 1 then 0 else q.den) = (if r.den = 1 then 0 else r.den) := by
 constructor
 ·intro h; subst h; exact ⟨rfl, rfl, rfl⟩
 ·rintro ⟨h1, h2, h3⟩
  have hd : q.den = r.den := by
   have := q.den_nz
   have := r.den_nz
   split at h3 <;> split at h3 <;> omega
  rw [← iL q, ← iL r, h1, h2, hd]
theorem Ik {q r : Rat} {n m : Nat} (hn : n < 2 ^ 44) (hm' : m < 2 ^ 44) (K : Nat) (pre : aD) : aA P fj K [.rat q n, .rat r m] pre (aG (.bool (decide (q = r))) []) := by
 refine gL fun ⟨hs1, hs2, _⟩ => ?_
 obtain ⟨a1, a2, a3⟩ := Sz.gr hs1 hn
 obtain ⟨b1, b2, b3⟩ := Sz.gr hs2 hm'
 refine bH hT kE hm SD rfl (of_decide_eq_true (by kernel_rfl)) rfl 60 MI (fun _ => ?_) K pre
 simp only [aa.all, ay]
 refine ⟨fun hb => ⟨fun hc => ⟨⟨by omega, by omega, hb, by omega, by omega, a1, b1, hc, by omega, by omega, a3, b3⟩, eO ?_⟩, fun hc => ⟨⟨by omega, by omega, hb, by omega, by omega, a1, b1, hc⟩, eO ?_⟩⟩, fun hb => ⟨fun h => by simp at h, fun _ => ⟨⟨by omega, by omega, hb, trivial⟩, eO ?_⟩⟩⟩
 ·have h1 := eq_of_beq hb
  have h2 := of_decide_eq_true (gu hc)
  rw [cond_true]
  exact decide_eq_decide.2 ⟨fun h => mU.2 ⟨h1, h2, h⟩, fun h => (mU.1 h).2.2⟩
 ·have h2 := of_decide_eq_false (gu hc)
  exact (decide_eq_false fun h => h2 (mU.1 h).2.1).symm
 ·refine (decide_eq_false fun h => ?_).symm
  rw [(mU.1 h).1] at hb
  simp at hb
theorem mB {q : Rat} : q.num.natAbs = 0 ↔ q = 0 := by rw [Int.natAbs_eq_zero, Rat.num_eq_zero]
theorem Hl {q : Rat} (h : q ≠ 0) (h2 : ¬ q < 0) : 0 < q := by
 rw [Rat.lt_iff]
 have h3 : ¬ q.num < 0 := fun h => h2 (gq.2 h)
 have h4 : q.num ≠ 0 := fun h5 => h (Rat.num_eq_zero.1 h5)
 simp; omega
theorem CI {q : Rat} {n : Nat} (hn : n < 2 ^ 44) (K : Nat) (pre : aD) : aA P oF K [.rat q n] pre (aG (.int .i64 (bK q)) []) := by
 refine gL fun ⟨hs1, _⟩ => ?_
 obtain ⟨a1, a2, a3⟩ := Sz.gr hs1 hn
 refine bH hT kE hm N7 rfl (of_decide_eq_true (by kernel_rfl)) rfl 60 Rk (fun _ => ?_) K pre
 simp only [aa.all, ay, beq_iff_eq, beq_eq_false_iff_ne, ne_eq]
 refine ⟨⟨by omega, a1⟩, fun hb => bq ?_, fun hb => ⟨by omega, fun hc => bq ?_, fun hc => bq ?_⟩⟩
 ·have h0 : q = 0 := mB.1 (AY.1 (by omega))
  subst h0
  rfl
 ·have := of_decide_eq_true hc
  unfold bK; rw [if_pos this]
 ·have h1 := of_decide_eq_false hc
  have h0 : q ≠ 0 := fun h => hb (by rw [h]; rfl)
  unfold bK; rw [if_neg h1, if_pos (Hl h0 h1)]
def ET : Spec := bu fun l => match l with
 | [.rat q n] => some (aG (.int .i64 (bK q)) [n < 2 ^ 44])
 | _ => none
theorem OQ : ∀ K args pre r, ET K args pre = some r → aA P oF K args pre r := by
 refine bN fun K args r hk hs _ => ?_
 split at hs
 ·simp only [Option.some.injEq] at hs
  subst hs
  exact fun need => CI need K [] trivial
 ·simp at hs
theorem Fu {q : Rat} {n : Nat} (h : Sz q n) : bA (.agg [.bool (decide (q < 0)), .mag q.num.natAbs, .mag (if q.den = 1 then 0 else q.den)]) (.rat q n) := oc h rfl rfl rfl
theorem YM {q : Rat} {n : Nat} (hn : n < 2 ^ 44) (K : Nat) (pre : aD) : aA P vD K [.rat q n] pre (aG (.rat q n) []) := by
 refine gL fun ⟨hs1, _⟩ => ?_
 have hs1 : Sz q n := hs1
 obtain ⟨a1, a2, a3⟩ := Sz.gr hs1 hn
 refine bH hT kE hm PT rfl (of_decide_eq_true (by kernel_rfl)) rfl 60 Uf (fun _ => ?_) K pre
 simp only [aa.all, ay]
 exact ⟨⟨by omega, by omega, a1, by omega, a3, by omega⟩, by omega, Fu hs1⟩
def Kr : Spec := bu fun l => match l with
 | [.rat q n] => some (aG (.rat q n) [n < 2 ^ 44])
 | _ => none
theorem RC : ∀ K args pre r, Kr K args pre = some r → aA P vD K args pre r := by
 refine bN fun K args r hk hs _ => ?_
 split at hs
 ·simp only [Option.some.injEq] at hs
  subst hs
  exact fun need => YM need K [] trivial
 ·simp at hs
theorem OT {n : Int} (h1 : -2 ^ 63 ≤ n) (h2 : n < 2 ^ 63) (K : Nat) (pre : aD) : aA P wG K [.int .i64 n] pre (aG (.mag n.natAbs) []) := by
 refine bH hT kE hm XQ rfl (of_decide_eq_true (by kernel_rfl)) rfl 60 PI (fun _ => ?_) K pre
 simp only [aa.all, ay, beq_iff_eq, beq_eq_false_iff_ne, ne_eq]
 refine ⟨fun hb => ⟨by omega, cI ?_⟩, fun hb => ?_⟩
 ·subst hb; rfl
 ·have e : IntKind.i64.wrap (0 - n) = -n := by rw [wrap_i64 (by omega) (by omega)]; omega
  rw [e]
  have e2 : IntKind.u64.wrap (if n < -n then -n else n) = ((n.natAbs : Nat) : Int) := by
   rw [wrap_u64 (by split <;> omega) (by split <;> omega)]
   split <;> omega
  rw [e2]
  refine ⟨⟨by omega, by omega⟩, cI (by rw [Int.toNat_natCast])⟩
def Fe : Spec := bu fun l => match l with
 | [.int .i64 n] => some (aG (.mag n.natAbs) [-2 ^ 63 ≤ n, n < 2 ^ 63])
 | _ => none
theorem Wt : ∀ K args pre r, Fe K args pre = some r → aA P wG K args pre r := by
 refine bN fun K args r hk hs _ => ?_
 split at hs
 ·simp only [Option.some.injEq] at hs
  subst hs
  exact fun need => OT need.1 need.2 K [] trivial
 ·simp at hs
def Dd : Spec := bu fun l => match l with
 | [.bool b, x, y] => match gm x, gm y with
  | some N, some D => some (aG (.rat (sQ b N D) (bS (sQ b N D))) [nl N < 2 ^ 40, nl D < 2 ^ 40])
  | _, _ => none
 | _ => none
theorem HE : ∀ K args pre r, Dd K args pre = some r → aA P qK K args pre r := by
 refine bN fun K args r hk hs _ => ?_
 split at hs
 ·split at hs
  ·rename_i N D h1 h2
   simp only [Option.some.injEq] at hs
   subst hs
   exact fun need => fc (Vn need.1 need.2 K []) hk ⟨.refl _, jg h1, jg h2, trivial⟩ [] trivial
  ·simp at hs
 ·simp at hs
end Go.Am.B
