/- rational.den, parts, Same, Sign, copied, size: their contracts. -/
import Derived.Test.YtnocdkaonpdmjaaB17
set_option linter.unusedVariables false
namespace Go.Am.B
open Go Go.Am.N AV
theorem rden_ok {q : Rat} {n : Nat} (K : Nat) (pre : Store) : FOK P rational_den K [.rat q n] pre (pres (.mag q.den) []) := by
  refine fok_tree hT GR_ok hm is_den rfl (of_decide_eq_true (by kernel_rfl)) rfl 60 den_end (fun _ => ?_) K pre
  simp only [ATree.all, allP, beq_iff_eq, beq_eq_false_iff_ne, ne_eq]
  refine ⟨by omega, fun hb => avLe0_of_eq ?_, fun hb => ⟨by omega, avLe0_of_eq ?_⟩⟩
  · have h0 := q.den_nz
    have : (if q.den = 1 then 0 else q.den) = 0 := nl_zero_iff.1 (by omega)
    split at this
    · rename_i h; rw [h]
    · omega
  · split
    · rename_i h; rw [if_pos h] at hb; exact absurd (by decide) hb
    · rfl
def s_den : Spec := pureSpec fun l => match l with
  | [.rat q _] => some (pres (.mag q.den) [])
  | _ => none
theorem s_den_ok : ∀ K args pre r, s_den K args pre = some r → FOK P rational_den K args pre r := by
  refine pureSpec_ok fun K args r hk hs _ => ?_
  split at hs
  · simp only [Option.some.injEq] at hs
    subst hs
    exact rden_ok K []
  · simp at hs
def pOK (q : Rat) : Bool := decide (q.num.natAbs < 4294967296) && decide (q.den < 4294967296)
abbrev partsRes (q : Rat) : AV := .tuple [.int .u64 (if pOK q then q.num.natAbs else 0 : Nat), .int .u64 (if pOK q then q.den else 0 : Nat), .bool (pOK q)]
theorem nl_one_iff {N : Nat} : nl N ≤ 1 ↔ N < 4294967296 := nl_spec
theorem parts_ok {q : Rat} {n : Nat} (K : Nat) (pre : Store) : FOK P rational_parts K [.rat q n] pre (pres (partsRes q) []) := by
  refine fok_tree hT GR_ok hm is_parts rfl (of_decide_eq_true (by kernel_rfl)) rfl 60 parts_end (fun _ => ?_) K pre
  simp only [ATree.all, allP, beq_iff_eq, beq_eq_false_iff_ne, ne_eq, decide_eq_true_eq, decide_eq_false_iff_not, Int.toNat_zero]
  have hd := q.den_nz
  have no : ¬ (q.num.natAbs < 4294967296 ∧ q.den < 4294967296) → resOK [.int .u64 0, .int .u64 0, .bool false] (partsRes q) := by
    intro h
    have : pOK q = false := by
      unfold pOK
      by_cases h1 : q.num.natAbs < 4294967296
      · simp [h1]; omega
      · simp [h1]
    unfold partsRes
    rw [this]
    exact ⟨.refl _, .refl _, .refl _, trivial⟩
  have yes : ∀ {x : Int} {v : Bool}, q.num.natAbs < 4294967296 ∧ q.den < 4294967296 → x = (q.den : Nat) → v = true → resOK [.int .u64 (q.num.natAbs : Nat), .int .u64 x, .bool v] (partsRes q) := by
    intro x v h hx hv
    have : pOK q = true := by unfold pOK; simp [h]
    unfold partsRes
    rw [this]
    exact ⟨.refl _, avLe0_int hx, avLe0_bool hv, trivial⟩
  have hden : ∀ {m : Nat}, nl (if q.den = 1 then 0 else q.den) ≤ m ↔ (q.den = 1 ∨ nl q.den ≤ m) := by
    intro m
    by_cases h : q.den = 1
    · simp [h]; simp [nl]
    · simp [h]
  refine ⟨fun hb => ⟨⟨by omega, hb⟩, fun _ => no ?_, fun h => by simp at h⟩, fun hb => ⟨⟨by omega, hb, by omega⟩, fun hc => no ?_, fun hc => ⟨by omega, fun h1 => ⟨⟨by omega, by omega, by omega⟩, ⟨by omega, by omega⟩, ?_⟩, fun h1 => ⟨⟨by omega, by omega⟩, yes ?_ ?_ rfl⟩⟩⟩⟩
  · have := nl_one_iff (N := q.num.natAbs); omega
  · have h2 := of_decide_eq_true (bif_ff hc)
    have h3 := hden (m := 1)
    have h4 := nl_one_iff (N := q.den)
    omega
  · have h2 := of_decide_eq_false (bif_ff hc)
    have hn1 : q.den ≠ 1 := fun h => by rw [if_pos h] at h1; simp [nl] at h1
    rw [if_neg hn1] at h1 h2 ⊢
    have h4 := (nl_one_iff (N := q.den)).1 (by omega)
    have h5 := (nl_one_iff (N := q.num.natAbs)).1 (by omega)
    have hl : limb q.den 0 = q.den := by
      have := val_nl (N := q.den)
      rw [show nl q.den = 1 by omega, val, val] at this
      simpa using this
    rw [hl, wrap_u64 (by omega) (by omega)]
    exact yes ⟨h5, h4⟩ rfl (by simp; omega)
  · have h2 := of_decide_eq_false (bif_ff hc)
    have h3 := hden (m := 1)
    have h3' := hden (m := 0)
    have h4 := nl_one_iff (N := q.den)
    have h5 := nl_one_iff (N := q.num.natAbs)
    have h6 := nl_pos (N := q.den)
    omega
  · have h2 := of_decide_eq_false (bif_ff hc)
    have h3 := hden (m := 0)
    have h6 := nl_pos (N := q.den)
    omega
def s_parts : Spec := pureSpec fun l => match l with
  | [.rat q _] => some (pres (partsRes q) [])
  | _ => none
theorem s_parts_ok : ∀ K args pre r, s_parts K args pre = some r → FOK P rational_parts K args pre r := by
  refine pureSpec_ok fun K args r hk hs _ => ?_
  split at hs
  · simp only [Option.some.injEq] at hs
    subst hs
    exact parts_ok K []
  · simp at hs
theorem rat_eq_iff {q r : Rat} : q = r ↔ (decide (q < 0) = decide (r < 0)) ∧ q.num.natAbs = r.num.natAbs ∧ (if q.den = 1 then 0 else q.den) = (if r.den = 1 then 0 else r.den) := by
  constructor
  · intro h; subst h; exact ⟨rfl, rfl, rfl⟩
  · rintro ⟨h1, h2, h3⟩
    have hd : q.den = r.den := by
      have := q.den_nz
      have := r.den_nz
      split at h3 <;> split at h3 <;> omega
    rw [← rat_sQ q, ← rat_sQ r, h1, h2, hd]
theorem rSame_ok {q r : Rat} {n m : Nat} (hn : n < 2 ^ 44) (hm' : m < 2 ^ 44) (K : Nat) (pre : Store) : FOK P rational_Same K [.rat q n, .rat r m] pre (pres (.bool (decide (q = r))) []) := by
  refine fok_szp fun ⟨hs1, hs2, _⟩ => ?_
  obtain ⟨a1, a2, a3⟩ := Sz.nls hs1 hn
  obtain ⟨b1, b2, b3⟩ := Sz.nls hs2 hm'
  refine fok_tree hT GR_ok hm is_rSame rfl (of_decide_eq_true (by kernel_rfl)) rfl 60 same_end (fun _ => ?_) K pre
  simp only [ATree.all, allP]
  refine ⟨fun hb => ⟨fun hc => ⟨⟨by omega, by omega, hb, by omega, by omega, a1, b1, hc, by omega, by omega, a3, b3⟩, avLe0_bool ?_⟩, fun hc => ⟨⟨by omega, by omega, hb, by omega, by omega, a1, b1, hc⟩, avLe0_bool ?_⟩⟩, fun hb => ⟨fun h => by simp at h, fun _ => ⟨⟨by omega, by omega, hb, trivial⟩, avLe0_bool ?_⟩⟩⟩
  · have h1 := eq_of_beq hb
    have h2 := of_decide_eq_true (bif_tt hc)
    rw [cond_true]
    exact decide_eq_decide.2 ⟨fun h => rat_eq_iff.2 ⟨h1, h2, h⟩, fun h => (rat_eq_iff.1 h).2.2⟩
  · have h2 := of_decide_eq_false (bif_tt hc)
    exact (decide_eq_false fun h => h2 (rat_eq_iff.1 h).2.1).symm
  · refine (decide_eq_false fun h => ?_).symm
    rw [(rat_eq_iff.1 h).1] at hb
    simp at hb
theorem rat_num_zero {q : Rat} : q.num.natAbs = 0 ↔ q = 0 := by rw [Int.natAbs_eq_zero, Rat.num_eq_zero]
theorem rat_pos {q : Rat} (h : q ≠ 0) (h2 : ¬ q < 0) : 0 < q := by
  rw [Rat.lt_iff]
  have h3 : ¬ q.num < 0 := fun h => h2 (rat_lt_zero.2 h)
  have h4 : q.num ≠ 0 := fun h5 => h (Rat.num_eq_zero.1 h5)
  simp; omega
theorem rSign_ok {q : Rat} {n : Nat} (hn : n < 2 ^ 44) (K : Nat) (pre : Store) : FOK P rational_Sign K [.rat q n] pre (pres (.int .i64 (sgnR q)) []) := by
  refine fok_szp fun ⟨hs1, _⟩ => ?_
  obtain ⟨a1, a2, a3⟩ := Sz.nls hs1 hn
  refine fok_tree hT GR_ok hm is_rSign rfl (of_decide_eq_true (by kernel_rfl)) rfl 60 sign_end (fun _ => ?_) K pre
  simp only [ATree.all, allP, beq_iff_eq, beq_eq_false_iff_ne, ne_eq]
  refine ⟨⟨by omega, a1⟩, fun hb => avLe0_int ?_, fun hb => ⟨by omega, fun hc => avLe0_int ?_, fun hc => avLe0_int ?_⟩⟩
  · have h0 : q = 0 := rat_num_zero.1 (bitsN_zero.1 (by omega))
    subst h0
    rfl
  · have := of_decide_eq_true hc
    unfold sgnR; rw [if_pos this]
  · have h1 := of_decide_eq_false hc
    have h0 : q ≠ 0 := fun h => hb (by rw [h]; rfl)
    unfold sgnR; rw [if_neg h1, if_pos (rat_pos h0 h1)]
def s_rSign : Spec := pureSpec fun l => match l with
  | [.rat q n] => some (pres (.int .i64 (sgnR q)) [n < 2 ^ 44])
  | _ => none
theorem s_rSign_ok : ∀ K args pre r, s_rSign K args pre = some r → FOK P rational_Sign K args pre r := by
  refine pureSpec_ok fun K args r hk hs _ => ?_
  split at hs
  · simp only [Option.some.injEq] at hs
    subst hs
    exact fun need => rSign_ok need K [] trivial
  · simp at hs
theorem avLe0_parts {q : Rat} {n : Nat} (h : Sz q n) : avLe0 (.agg [.bool (decide (q < 0)), .mag q.num.natAbs, .mag (if q.den = 1 then 0 else q.den)]) (.rat q n) := avLe0_rat h rfl rfl rfl
theorem size_ok {n : Int} (h1 : -2 ^ 63 ≤ n) (h2 : n < 2 ^ 63) (K : Nat) (pre : Store) : FOK P rational_size K [.int .i64 n] pre (pres (.mag n.natAbs) []) := by
  refine fok_tree hT GR_ok hm is_size rfl (of_decide_eq_true (by kernel_rfl)) rfl 60 size_end (fun _ => ?_) K pre
  simp only [ATree.all, allP, beq_iff_eq, beq_eq_false_iff_ne, ne_eq]
  refine ⟨fun hb => ⟨by omega, avLe0_of_eq ?_⟩, fun hb => ?_⟩
  · subst hb; rfl
  · have e : IntKind.i64.wrap (0 - n) = -n := by rw [wrap_i64 (by omega) (by omega)]; omega
    rw [e]
    have e2 : IntKind.u64.wrap (if n < -n then -n else n) = ((n.natAbs : Nat) : Int) := by
      rw [wrap_u64 (by split <;> omega) (by split <;> omega)]
      split <;> omega
    rw [e2]
    refine ⟨⟨by omega, by omega⟩, avLe0_of_eq (by rw [Int.toNat_natCast])⟩
def s_size : Spec := pureSpec fun l => match l with
  | [.int .i64 n] => some (pres (.mag n.natAbs) [-2 ^ 63 ≤ n, n < 2 ^ 63])
  | _ => none
theorem s_size_ok : ∀ K args pre r, s_size K args pre = some r → FOK P rational_size K args pre r := by
  refine pureSpec_ok fun K args r hk hs _ => ?_
  split at hs
  · simp only [Option.some.injEq] at hs
    subst hs
    exact fun need => size_ok need.1 need.2 K [] trivial
  · simp at hs
def s_reduce : Spec := pureSpec fun l => match l with
  | [.bool b, x, y] => match magOf x, magOf y with
    | some N, some D => some (pres (.rat (sQ b N D) (rsz (sQ b N D))) [nl N < 2 ^ 40, nl D < 2 ^ 40])
    | _, _ => none
  | _ => none
theorem s_reduce_ok : ∀ K args pre r, s_reduce K args pre = some r → FOK P rational_reduce K args pre r := by
  refine pureSpec_ok fun K args r hk hs _ => ?_
  split at hs
  · split at hs
    · rename_i N D h1 h2
      simp only [Option.some.injEq] at hs
      subst hs
      exact fun need => fok_weak (reduce_ok need.1 need.2 K []) hk ⟨.refl _, magOf_le h1, magOf_le h2, trivial⟩ [] trivial
    · simp at hs
  · simp at hs
end Go.Am.B
