/- shapes.Circle. -/
import Derived.Test.YtbghpkgbokbmlaaGreatB94
import Derived.Test.YtbghpkgbokbmlaaGreatC9
import Derived.Test.YtbghpkgbokbmlaaGreatY48
import Derived.Test.YtbghpkgbokbmlaaGreatY45
set_option linter.unusedVariables false
namespace Go.Am.B
open Go Go.Am.N AV ATree AEx IntKind
theorem is_sCi : FnIs P shapes_Circle fn_shapes_Circle (codeOf fn_shapes_Circle) := fnIs get_shapes_Circle (by kernel_rfl) (by kernel_rfl) (by kernel_rfl)
def circP (a : V3) (r : Rat) (j : Nat) : Pl := ⟨⟨a.x + r * cX j, a.y + r * cY j, a.z⟩, cW j⟩
def ciN (r : Rat) (a b : Nat) : Nat := if sgnR r ≤ 0 then a else b
abbrev ciA (a : V3) (r : Rat) : AV := .agg [.int .i64 (ciN r 0 2 : Nat), lsA kcK (ciN r 0 12) 64, lpA (circP a r) (ciN r 0 9) 300]
def s_sCi : Spec := spL (kC (kVs 64) (kC (kRs 64) kN)) (fun a => .tuple [ciA a.1 a.2.1, .int .i64 (ciN a.2.1 7 0 : Nat)]) fun _ => []
theorem ci_c {a : V3} {r : Rat} : funT T (sG :: (gS0 ++ (gV1 ++ tRat))) [11] 200 fn_shapes_Circle (codeOf fn_shapes_Circle) ⟨zipSlots 0 [vA a 64, .rat r 64], [], 0⟩ =
    let c26 : Int := i64.wrap ((1 : Int) + (1 : Int)); let c25 : AV := rat (↑(2 : Int) : Rat) (Max.max 1 (bitsN (Int.natAbs (2 : Int)))); let c24 : Nat := 3 + 2; let c23 : Nat := 1 + 1; let c22 : Nat := 56 + 1; let c21 : AV := rat 0 1; let c19 : Nat := nat_lit 0 + 0; let c18 : Nat := nat_lit 2 + 0; let c17 : Nat := nat_lit 1 + 0; let c16 : Prop := 3 ≤ 3; let c14 : Nat := 224 + 1; let c11 : Nat := 2 ^ 47; let c10 : AV := int i64 (-1 : Int); let c9 : AV := int i64 (1 : Int); let c8 : List AV := [rat (↑(1 : Int) : Rat) (Max.max 1 (bitsN (Int.natAbs (1 : Int))))]; let c3 : AV := int i64 (0 : Int); let c2 : Prop := 0 < 1; let c1 : Nat := 64 + ((64 : Nat) + 64) + 1 + 1 + 1; let c34 : List AV := [c3, c3]; let c32 : List AV := [c9, c3]; let c30 : List AV := [c10, c3]; let c15 : Int := i64.wrap (c26 + (1 : Int)); let c12 : Nat := c23 + 1; let c7 : Nat := c24 + 2; let c5 : AV := agg [agg [c21, c21, c21], c21]; let c33 : AV := int i64 (i64.wrap (c15 + (1 : Int))); let c31 : Nat := c7 + 2; let c27 : Nat := c12 + 1; let c6 : List AV := [agg (agg [rat (a.x + r * (↑(intOf (nth (c9 :: c34) c3 c19)) : Rat) + 0) c1, rat (a.y + r * (↑(intOf (nth (c9 :: c34) c3 c17)) : Rat) + 0) c1, rat (a.z + r * (↑(intOf (nth (c9 :: c34) c3 c18)) : Rat) + 0) c1] :: c8)]; let c20 : Nat := c31 + 2; let c4 : Nat := c27 + 1; let c29 : Nat := c4 + 1; let c13 : Nat := c29 + 1; let c28 : Nat := c13 + 1; some (fork (decide (sgnR r ≤ (0 : Int))) (must [c2] (leaf ret [agg [c3, nil, nil], int i64 (7 : Int)])) (must [c24 * c22 * 2 ≤ c11, c7 * c22 * 2 ≤ c11, c31 * c22 * 2 ≤ c11, c20 * c22 * 2 ≤ c11, (c20 + 1) * c22 * 2 ≤ c11] (must [c2] (must [c16, c2, c2, c2, c2, c2, c2, c2, c2 ∧ 1 * c14 * 2 ≤ c11] (must [c16, c2, c2, c2, c2, c2, c2, c2, c23 * c14 * 2 ≤ c11] (must [c16, c2, c2, c2, c2, c2, c2, c2, c12 * c14 * 2 ≤ c11] (must [c16, c2, c2, c2, c2, c2, c2, c2, c27 * c14 * 2 ≤ c11] (must [c16, c2, c2, c2, c2, c2, c2, c2, c4 * c14 * 2 ≤ c11] (must [c16, c2, c2, c2, c2, c2, c2, c2, c29 * c14 * 2 ≤ c11] (must [c16, c2, c2, c2, c2, c2, c2, c2, c13 * c14 * 2 ≤ c11] (must [c16, c2, c2, c2, c2, c2, c2, c2, c28 * c14 * 2 ≤ c11] (must [c16, c2, c2, c2, c2, c2, c2, c2, (c28 + 1) * c14 * 2 ≤ c11] (must [c2] (leaf ret [agg [int i64 (2 : Int), tab 3 12 fun i ↦ if i + 0 < c20 then if i + 0 < c31 then if i + 0 < c7 then if i + 0 < c24 then if i + 0 < 3 then rat (↑(intOf (nth (c3 :: c34) c3 (i + 0 + 0))) : Rat) 64 else rat (↑(intOf (nth [c9, c9] c3 (i + 0 - 3 + 0 + 0))) : Rat) 64 else rat (↑(intOf (nth [int i64 c26, int i64 c26] c3 (i + 0 - c24 + 0 + 0))) : Rat) 64 else rat (↑(intOf (nth [int i64 c15, int i64 c15] c3 (i + 0 - c7 + 0 + 0))) : Rat) 64 else rat (↑(intOf (nth [c33, c33] c3 (i + 0 - c31 + 0 + 0))) : Rat) 64 else nth [rat (↑(4 : Int) : Rat) (Max.max 1 (bitsN (Int.natAbs (4 : Int))))] c21 (i + 0 - c20 + 0), tab 12 9 fun i ↦ if i + 0 < c28 then if i + 0 < c13 then if i + 0 < c29 then if i + 0 < c4 then if i + 0 < c27 then if i + 0 < c12 then if i + 0 < c23 then if i + 0 < 1 then nth c6 c5 (i + 0 + 0) else nth [agg (agg [rat (a.x + r * (↑(intOf (nth (c9 :: c32) c3 c19)) : Rat) + 0) c1, rat (a.y + r * (↑(intOf (nth (c9 :: c32) c3 c17)) : Rat) + 0) c1, rat (a.z + r * (↑(intOf (nth (c9 :: c32) c3 c18)) : Rat) + 0) c1] :: c8)] c5 (i + 0 - 1 + 0) else nth [agg [agg [rat (a.x + r * (↑(intOf (nth (c3 :: c32) c3 c19)) : Rat) + 0) c1, rat (a.y + r * (↑(intOf (nth (c3 :: c32) c3 c17)) : Rat) + 0) c1, rat (a.z + r * (↑(intOf (nth (c3 :: c32) c3 c18)) : Rat) + 0) c1], c25]] c5 (i + 0 - c23 + 0) else nth [agg (agg [rat (a.x + r * (↑(intOf (nth (c10 :: c32) c3 c19)) : Rat) + 0) c1, rat (a.y + r * (↑(intOf (nth (c10 :: c32) c3 c17)) : Rat) + 0) c1, rat (a.z + r * (↑(intOf (nth (c10 :: c32) c3 c18)) : Rat) + 0) c1] :: c8)] c5 (i + 0 - c12 + 0) else nth [agg (agg [rat (a.x + r * (↑(intOf (nth (c10 :: c34) c3 c19)) : Rat) + 0) c1, rat (a.y + r * (↑(intOf (nth (c10 :: c34) c3 c17)) : Rat) + 0) c1, rat (a.z + r * (↑(intOf (nth (c10 :: c34) c3 c18)) : Rat) + 0) c1] :: c8)] c5 (i + 0 - c27 + 0) else nth [agg (agg [rat (a.x + r * (↑(intOf (nth (c10 :: c30) c3 c19)) : Rat) + 0) c1, rat (a.y + r * (↑(intOf (nth (c10 :: c30) c3 c17)) : Rat) + 0) c1, rat (a.z + r * (↑(intOf (nth (c10 :: c30) c3 c18)) : Rat) + 0) c1] :: c8)] c5 (i + 0 - c4 + 0) else nth [agg [agg [rat (a.x + r * (↑(intOf (nth (c3 :: c30) c3 c19)) : Rat) + 0) c1, rat (a.y + r * (↑(intOf (nth (c3 :: c30) c3 c17)) : Rat) + 0) c1, rat (a.z + r * (↑(intOf (nth (c3 :: c30) c3 c18)) : Rat) + 0) c1], c25]] c5 (i + 0 - c29 + 0) else nth [agg (agg [rat (a.x + r * (↑(intOf (nth (c9 :: c30) c3 c19)) : Rat) + 0) c1, rat (a.y + r * (↑(intOf (nth (c9 :: c30) c3 c17)) : Rat) + 0) c1, rat (a.z + r * (↑(intOf (nth (c9 :: c30) c3 c18)) : Rat) + 0) c1] :: c8)] c5 (i + 0 - c13 + 0) else nth c6 c5 (i + 0 - c28 + 0)], c3])))))))))))))) := by kernel_rfl
theorem pl_le {x y z d x' y' z' d' : Rat} {s1 s2 s3 s4 s : Nat} (h1 : x = x') (h2 : y = y') (h3 : z = z') (h4 : d = d') (k1 : s1 ≤ s) (k2 : s2 ≤ s) (k3 : s3 ≤ s) (k4 : s4 ≤ s) : avLe0 (.agg [.agg [.rat x s1, .rat y s2, .rat z s3], .rat d s4]) (plA ⟨⟨x', y', z'⟩, d'⟩ s) :=
  avLe0_agg ⟨avLe0_agg ⟨avLe0_rat_up h1 k1, avLe0_rat_up h2 k2, avLe0_rat_up h3 k3, trivial⟩, avLe0_rat_up h4 k4, trivial⟩
theorem cz0 {x r : Rat} : x + r * ((0 : Int) : Rat) + 0 = x := by
  rw [Rat.intCast_zero]; grind
theorem cz1 {x r : Rat} : x + r * ((1 : Int) : Rat) + 0 = x + r * 1 := by
  rw [show ((1 : Int) : Rat) = 1 from rfl]; grind
theorem czm {x r : Rat} : x + r * ((-1 : Int) : Rat) + 0 = x + r * (-1) := by
  rw [show ((-1 : Int) : Rat) = -1 from rfl]; grind
theorem cz00 {x r : Rat} : x + r * ((0 : Int) : Rat) + 0 = x + r * 0 := by
  rw [Rat.intCast_zero]; grind
theorem s_sCi_ok : ∀ K args pre r, s_sCi K args pre = some r → FOK P shapes_Circle K args pre r := spL_ok fun ⟨a, r, _⟩ K _ => by
  refine fok_tree (r := pres (.tuple [ciA a r, .int .i64 (ciN r 7 0 : Nat)]) []) hT (gok_strict (gok_app gS0_ok (gok_app gV1_ok tRat_ok))) hm is_sCi rfl (of_decide_eq_true (by kernel_rfl)) rfl 200 ci_c (fun _ => ?_) K []
  simp only [ATree.all, allP, decide_eq_true_eq, decide_eq_false_iff_not]
  refine ⟨fun h => ?_, fun h => ?_⟩
  · have e : ∀ {x y : Nat}, ciN r x y = x := fun {x y} => if_pos h
    exact ⟨by omega, avLe0_agg ⟨avLe0_int (by rw [e]; rfl), by rw [e]; exact avLe0_nil_tab (by omega), by rw [e]; exact avLe0_nil_tab (by omega), trivial⟩, avLe0_int (by rw [e]; rfl), trivial⟩
  · have e : ∀ {x y : Nat}, ciN r x y = y := fun {x y} => if_neg h
    (repeat' with_reducible refine And.intro ?_ ?_)
    all_goals first | omega | decide | skip
    refine ⟨avLe0_agg ⟨avLe0_int (by rw [e]; rfl), ?_, ?_, trivial⟩, avLe0_int (by rw [e]; rfl), trivial⟩
    · rw [e]
      refine avLe0_tab fun i hi => ?_
      match i, hi with
      | 0, _ | 1, _ | 2, _ | 3, _ | 4, _ | 5, _ | 6, _ | 7, _ | 8, _ | 9, _ | 10, _ | 11, _ => exact avLe0_rat_up (by decide +kernel) (by decide)
    · rw [e]
      refine avLe0_tab fun j hj => ?_
      match j, hj with
      | 0, _ => exact pl_le cz1 cz00 cz0 (by decide +kernel) (by decide) (by decide) (by decide) (by decide)
      | 1, _ => exact pl_le cz1 cz1 cz0 (by decide +kernel) (by decide) (by decide) (by decide) (by decide)
      | 2, _ => exact pl_le cz00 cz1 cz0 (by decide +kernel) (by decide) (by decide) (by decide) (by decide)
      | 3, _ => exact pl_le czm cz1 cz0 (by decide +kernel) (by decide) (by decide) (by decide) (by decide)
      | 4, _ => exact pl_le czm cz00 cz0 (by decide +kernel) (by decide) (by decide) (by decide) (by decide)
      | 5, _ => exact pl_le czm czm cz0 (by decide +kernel) (by decide) (by decide) (by decide) (by decide)
      | 6, _ => exact pl_le cz00 czm cz0 (by decide +kernel) (by decide) (by decide) (by decide) (by decide)
      | 7, _ => exact pl_le cz1 czm cz0 (by decide +kernel) (by decide) (by decide) (by decide) (by decide)
      | 8, _ => exact pl_le cz1 cz00 cz0 (by decide +kernel) (by decide) (by decide) (by decide) (by decide)
end Go.Am.B

/- The points of a circle. -/
namespace Go.Am.B
open Go Go.Am.N AV ATree AEx IntKind
theorem circ_sum {ax r n0 n1 n2 x0 x1 x2 w0 w1 w2 : Rat} : 0 + n0 * (w0 * (ax + r * x0)) + n1 * (w1 * (ax + r * x1)) + n2 * (w2 * (ax + r * x2)) = ax * (n0 * w0 + n1 * w1 + n2 * w2) + r * (n0 * (w0 * x0) + n1 * (w1 * x1) + n2 * (w2 * x2)) := by grind
theorem circ_sumz {az n0 n1 n2 w0 w1 w2 : Rat} : 0 + n0 * (w0 * az) + n1 * (w1 * az) + n2 * (w2 * az) = az * (n0 * w0 + n1 * w1 + n2 * w2) := by grind
theorem circ_sumd {n0 n1 n2 w0 w1 w2 : Rat} : 0 + n0 * w0 + n1 * w1 + n2 * w2 = n0 * w0 + n1 * w1 + n2 * w2 := by grind
theorem circ_hom {c : Cu} {a : V3} {r t : Rat} (hp : c.p = 2) (hn : c.n = 12) (hk : ∀ i, i < 12 → c.k i = kcK i) (hf : ∀ j, j < 9 → c.f j = ⟨⟨a.x + r * cX j, a.y + r * cY j, a.z⟩, cW j⟩) (hin : ¬ ivOut c.n c.k t) :
    ∃ C S D : Rat, homV c t = ⟨⟨a.x * D + r * C, a.y * D + r * S, a.z * D⟩, D⟩ ∧ D ≠ 0 ∧ C * C + S * S = D * D := by
  have hkn : Kn 12 2 c.k := kc_kn.congr fun i hi => (hk i hi).symm
  rw [hn] at hin
  have o1 : ¬ t < c.k 0 := fun h => hin (.inl h)
  have o2 : ¬ c.k (12 - 1) < t := fun h => hin (.inr h)
  obtain ⟨hi, hi2, hi3⟩ := hkn.ivl_ok (t := t) (by grind) (by grind)
  obtain ⟨i, hI⟩ : ∃ i, i = ivl 12 c.k t := ⟨_, rfl⟩
  rw [← hI] at hi hi2 hi3
  have hw := hi.at_.wide
  rw [hk i (by omega), hk (i + 1) (by omega)] at hw
  obtain ⟨m, hm4, him⟩ := kc_piece (by omega) hw
  have k1 : c.k (i - 1) = c.k i := by
    rw [hk _ (by omega), hk _ (by omega)]
    have : kcN (i - 1) = kcN i := by unfold kcN; omega
    unfold kcK; rw [this]
  have k2 : c.k (i + 2) = c.k (i + 1) := by
    rw [hk _ (by omega), hk _ (by omega)]
    have : kcN (i + 2) = kcN (i + 1) := by unfold kcN; omega
    unfold kcK; rw [this]
  obtain ⟨b0, b1, b2⟩ := vB_bez (k := c.k) (t := t) (i := i) (a := c.k i) (b := c.k (i + 1)) (by omega) k1 rfl rfl k2
  have hq := circ_piece hm4 b0 b1 b2
  dsimp only at hq
  refine ⟨_, _, _, ?_, hq⟩
  have e2 : c.p.toNat = 2 := by rw [hp]; rfl
  unfold homV
  rw [e2, hn, ← hI, show i - 2 = 2 * m by omega]
  unfold homS
  simp only [sumR, hf (2 * m) (by omega), hf (2 * m + 1) (by omega), hf (2 * m + 2) (by omega), Nat.add_zero]
  rw [circ_sum, circ_sum, circ_sumz, circ_sumd]
theorem circ_ok {c : Cu} {a : V3} {r t : Rat} (hp : c.p = 2) (hn : c.n = 12) (hk : ∀ i, i < 12 → c.k i = kcK i) (hf : ∀ j, j < 9 → c.f j = ⟨⟨a.x + r * cX j, a.y + r * cY j, a.z⟩, cW j⟩) (hin : ¬ ivOut c.n c.k t) :
    ((evP c t).x - a.x) * ((evP c t).x - a.x) + ((evP c t).y - a.y) * ((evP c t).y - a.y) + ((evP c t).z - a.z) * ((evP c t).z - a.z) = r * r ∧ (evP c t).z - a.z = 0 := by
  obtain ⟨C, S, D, h1, h2, h3⟩ := circ_hom hp hn hk hf hin
  unfold evP
  rw [if_neg hin, h1]
  exact circ_alg h2 rfl rfl rfl h3
end Go.Am.B

/- Parameters within a domain. -/
namespace Go.Am.B
open Go Go.Am.N AV ATree AEx IntKind
theorem partV_ok {d : Int} : 0 ≤ partV d ∧ partV d ≤ 1 := by
  unfold partV
  have h1 : 1 ≤ partM d := by
    unfold partM
    have := Int.emod_nonneg (IntKind.i64.wrap (d.tdiv 17)) (show (12 : Int) ≠ 0 by omega)
    omega
  generalize partM d = m at *
  have h2 := Int.emod_nonneg d (show m + 1 ≠ 0 by omega)
  have h3 := Int.emod_lt_of_pos d (show 0 < m + 1 by omega)
  generalize d % (m + 1) = x at *
  have e1 : (0 : Rat) ≤ (x : Rat) := by exact_mod_cast h2
  have e2 : (x : Rat) ≤ (m : Rat) := by exact_mod_cast (show x ≤ m by omega)
  have e3 : (0 : Rat) < (m : Rat) := by exact_mod_cast (show 0 < m by omega)
  have e4 : (x : Rat) / (m : Rat) * (m : Rat) = (x : Rat) := Rat.div_mul_cancel (by intro h; rw [h] at e3; exact absurd e3 (by decide))
  generalize (x : Rat) / (m : Rat) = q at *
  generalize (x : Rat) = u at *
  generalize (m : Rat) = v at *
  refine ⟨?_, ?_⟩
  · rcases Rat.le_total (a := 0) (b := q) with h | h
    · exact h
    · by_cases hq : q = 0
      · rw [hq]; exact Rat.le_refl
      · have := Rat.mul_pos (a := -q) (b := v) (by grind) e3
        grind
  · rcases Rat.le_total (a := q) (b := 1) with h | h
    · exact h
    · by_cases hq : q = 1
      · rw [hq]; exact Rat.le_refl
      · have := Rat.mul_pos (a := q - 1) (b := v) (by grind) e3
        grind
theorem within_ok {a b : Rat} {d : Int} (h : a ≤ b) : a ≤ a + partV d * (b - a) ∧ a + partV d * (b - a) ≤ b := by
  obtain ⟨h1, h2⟩ := partV_ok (d := d)
  generalize partV d = q at *
  have e1 := Rat.mul_nonneg h1 (show 0 ≤ b - a by grind)
  have e2 := Rat.mul_nonneg (show 0 ≤ 1 - q by grind) (show 0 ≤ b - a by grind)
  constructor <;> grind
theorem Kn.in_within {n p : Nat} {k : Nat → Rat} (h : Kn n p k) {d : Int} : ¬ ivOut n k (k 0 + partV d * (k (n - 1) - k 0)) := by
  have hl := h.len
  obtain ⟨h1, h2⟩ := within_ok (d := d) (h.mono (show 0 ≤ n - 1 by omega) (show n - 1 < n by omega))
  rintro (h3 | h3) <;> grind
end Go.Am.B
