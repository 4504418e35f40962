/- fD.Times, ref08.Times; fD.copied. -/
import Derived.Test.YtbghpkgbokbmlaaGreatY45
import Derived.Test.YtbghpkgbokbmlaaGreatC8
import Derived.Test.YtbghpkgbokbmlaaGreatZ2
import Derived.Test.YtbghpkgbokbmlaaGreatC2
import Derived.Test.YtbghpkgbokbmlaaGreatB33
set_option linter.unusedVariables false
namespace Go.Am.B
open Go Go.Am.N AV aa ah IntKind
end Go.Am.B

/- slices.CompactFunc of numbers; fD.Distinct. -/
namespace Go.Am.B
open Go Go.Am.N AV aa ah IntKind
end Go.Am.B

/- fD.Distinct, ref08.Distinct, slices.IsSortedFunc of numbers. -/
namespace Go.Am.B
open Go Go.Am.N AV aa ah IntKind
def kF (g : FuncId) : Kind Unit := ⟨fun v => match v with
 | .func f [] => match Nat.beq f g with
  | true => some ((), [])
  | false => none
 | _ => none, fun _ => .func g [], fun {v a q} h _ => by
  split at h
  ·split at h
   ·rename_i hb
    rw [Nat.eq_of_beq_eq_true hb]; exact .refl _
   ·simp at h
  ·simp at h⟩
end Go.Am.B

/- fD.Check, ref08.Check. -/
namespace Go.Am.B
open Go Go.Am.N AV aa ah IntKind
end Go.Am.B

/- ref02: Valid, Valids, Bits; ref04.Valid; ref10: Short, shortPoles. -/
namespace Go.Am.B
open Go Go.Am.N AV aa ah IntKind
end Go.Am.B

/- ref09: part, function, Values. -/
namespace Go.Am.B
open Go Go.Am.N AV aa ah IntKind
theorem KR : aP P wm qE (au qE) := aL ZB (by kernel_rfl) (by kernel_rfl) (by kernel_rfl)
theorem Gl : aP P tL oy (au oy) := aL Qc (by kernel_rfl) (by kernel_rfl) (by kernel_rfl)
theorem aao : aP P vq ry (au ry) := aL WV (by kernel_rfl) (by kernel_rfl) (by kernel_rfl)
def Jq : aO := (rz, gJ kR kR BM mG) :: iy
abbrev ny : Nat := 8193
def Eh : Spec := eH (kC (p0 ny) (kC (p0 ny) kN)) (fun a => .rat (a.1 / a.2.1) sF) fun _ => []
theorem Pa {a b : Rat} {n : Nat} : bq T Jq [] 60 qE (au qE) ⟨aK 0 [.rat a n, .rat b n], [], 0⟩ =
  let c2 : Prop := n < 2 ^ 41; let c1 : Prop := 0 < 1; some (af [c1, c1, c2, c2, c1] (af [c1, c1] (af [c1] (leaf ret [rat (a / b) (n + n)])))) := by kernel_rfl
theorem Xt : aW P Jq := aD (iB fun _ _ K hn => Jr hn.1 hn.2 K) jw
theorem RL : ∀ K args pre r, Eh K args pre = some r → ay P wm K args pre r := en fun ⟨a, b, _⟩ K _ => by
 refine bt (r := aF (.rat (a / b) sF) []) hT Xt hm KR rfl (of_decide_eq_true (by kernel_rfl)) rfl 60 Pa (fun _ => ?_) K []
 simp only [aa.all, ax]
 have h1 : ny = 8193 := rfl
 (repeat' with_reducible refine And.intro ?_ ?_)
 all_goals first | omega | exact (bI rfl (show ny + ny ≤ sF by decide))
def Ik (d : Nat) : Spec := eH (kC (kL sK) (kC kI (kC kI (kC kI (kC (p0 sK) kN))))) (fun a => .rat (nC a.1.2 a.2.2.2.1.toNat a.2.2.2.2.1 d a.2.1.toNat) (SB d)) fun a => [a.2.2.1 = d, 0 ≤ a.2.1, 0 ≤ a.2.2.2.1, a.2.1 + d + 1 < a.1.1, a.1.1 < 2 ^ 40, a.2.2.2.1 < 2 ^ 40, d ≤ 6]
def Eg (d : Nat) : aO := nG :: (tL, Ik d) :: (wm, Eh) :: (ir, pF) :: iy
abbrev uX (n : Nat) (k : Nat → Rat) (i d a : Nat) (t : Rat) : List AV := [ls k n, .int .i64 i, .int .i64 d, .int .i64 a, .rat t sK]
theorem SS {n i a : Nat} {k : Nat → Rat} {t : Rat} : bq T (nG :: (ir, pF) :: iy) [17] 60 oy (au oy) ⟨aK 0 (uX n k i 0 a t), [], 0⟩ =
  let c1 : List Prop := [(0 : Nat) < 1]; some (fork ((↑i : Int) == (↑a : Int)) (af c1 (af c1 (leaf ret [rat (↑(1 : Int) : Rat) 1]))) (af c1 (af c1 (leaf ret [agg [AV.bool false, mag 0, mag 0]])))) := by kernel_rfl
theorem Tk {n i d a : Nat} {k : Nat → Rat} {t : Rat} : bq T (Eg d) [200014, 23, 29] 60 oy (au oy) ⟨aK 0 (uX n k i (d + 1) a t), [], 0⟩ =
  let c22 : Prop := sK + sK + 1 ≤ ny; let c21 : Int := (↑d : Int); let c20 : Prop := n < 2 ^ 40; let c15 : Prop := bZ (fun i ↦ rat (k i) sK) n sK; let c14 : Int := (↑(d + 1) : Int); let c10 : Int := (↑a : Int); let c6 : Int := (↑i : Int); let c5 : Prop := 0 < 1; let c4 : Nat := 2 ^ 41; let c3 : Int := (2 : Int) ^ 63; let c19 : Prop := c10 < (2 : Int) ^ 40; let c17 : Prop := (0 : Int) ≤ c6 ∧ c6.toNat < n; let c16 : Bool := decide (c10 < c6); let c12 : List Prop := [sK < c4, sK < c4, c22, c22, c5]; let c11 : aa (List AV) := af [c5] (af [c5] (leaf ret [agg [AV.bool false, mag 0, mag 0]])); let c9 : Int := c6 + (1 : Int); let c7 : Int := c14 - (1 : Int); let c2 : Int := c6 + c14; let c13 : Prop := -c3 ≤ c2 ∧ c2 < c3; let c8 : Int := c2 + (1 : Int); let c18 : Prop := (0 : Int) ≤ c8 ∧ c8.toNat < n; let c1 : aa (List AV) := af (c5 :: c17 :: (sK < c4) :: (sK < c4) :: c13 :: ((0 : Int) ≤ c2 ∧ c2.toNat < n) :: c17 :: c12) (af (c13 :: (-c3 ≤ c8 ∧ c8 < c3) :: c18 :: c5 :: (sK < c4) :: (sK < c4) :: c13 :: (-c3 ≤ c8 ∧ c8 < c3) :: c18 :: (-c3 ≤ c9 ∧ c9 < c3) :: ((0 : Int) ≤ c9 ∧ c9.toNat < n) :: c12) (af [c5, -c3 ≤ c7 ∧ c7 < c3, c5, c15, sK ≤ sK, c7 = c21, (0 : Int) ≤ c6, (0 : Int) ≤ c10, c6 + c21 + (1 : Int) < (↑n : Int), c20, c19, d ≤ 6, sF < c4, SB d < c4, c5, -c3 ≤ c9 ∧ c9 < c3, -c3 ≤ c7 ∧ c7 < c3, c5, c15, sK ≤ sK, c7 = c21, (0 : Int) ≤ c9, (0 : Int) ≤ c10, c9 + c21 + (1 : Int) < (↑n : Int), c20, c19, d ≤ 6, sF < c4, SB d < c4, sF + SB d < c4, sF + SB d < c4, c5] (af [c5] (leaf ret [rat ((t - k c6.toNat) / (k c2.toNat - k c6.toNat) * nC (fun i ↦ aY (rat (k i) sK)) c10.toNat t d c6.toNat + (k c8.toNat - t) / (k c8.toNat - k c9.toNat) * nC (fun i ↦ aY (rat (k i) sK)) c10.toNat t d c9.toNat) (sF + SB d + (sF + SB d) + 1)])))); some (af [(c14 == (0 : Int)) = false] (fork c16 (af [c16 = true] (fork true c11 c1)) (af [c16 = false, c13] (fork (bif false then true else decide (c10 > c2)) c11 c1)))) := by kernel_rfl
def qL (p : Nat) : aO := nG :: (qd, B5) :: (tL, Ik p) :: iy
abbrev nk : List Nat := [0, 1, 5, 9, 11, 12, 6, 7, 8]
abbrev wA (n : Nat) (k : Nat → Rat) (p a : Nat) (v : AV) (i : Int) : List AV := [ls k n, .int .i64 p, .ptr 0 0 3 0 [], .int .i64 a, v, .int .i64 i, .int .i64 0, .nil, .int .i64 0]
noncomputable abbrev wC : Code := au ry
noncomputable abbrev zC : Code := part wC [1,1,1,1,0,1,0,0]
theorem PZ {n p : Nat} {k : Nat → Rat} {t : Rat} : aI T (qL p) [21] 60 nk (before wC [1,1,1,1,0,1]) ⟨aK 0 [ls k n, .int .i64 p, .rat t sK], [], 0⟩ =
  let c7 : AV := int i64 (0 : Int); let c6 : Int := fj n (fun i ↦ aY (rat (k i) sK)) t; let c5 : Int := (↑p : Int); let c4 : AV := aj 3 n fun i ↦ rat (k i) 4096; let c3 : AV := ptr 0 0 (bw (rat t sK)).size 0 []; let c2 : Nat × aA := ((0 : Nat), aA.mk false true (bw (rat t sK)).size 1 fun x ↦ rat t 4096); let c1 : Int := (↑(pU n (fun i ↦ aY (rat (k i) sK)) t) : Int); some (af [(0 : Nat) < 1, bZ (fun i ↦ rat (k i) sK) n sK, sK ≤ sK, Kn n c5.toNat fun i ↦ aY (rat (k i) sK), (0 : Int) ≤ c5, n < 2 ^ 40] (fork (c6 != (0 : Int)) (leaf ret ([c4, int i64 c5, c3, int i64 c1, tuple [], tuple [], c7, nil, int i64 c6], [c2])) (af [-(2 : Int) ^ 63 ≤ c1 - c5 ∧ c1 - c5 < (2 : Int) ^ 63] (leaf normal ([c4, int i64 c5, c3, int i64 c1, nil, int i64 (c1 - c5), c7, nil, c7], [c2]))))) := by kernel_rfl
theorem Yf {n p a : Nat} {k : Nat → Rat} {t : Rat} {i : Int} : aI T (qL p) [28] 60 nk [zC] ⟨aB nk (wA n k p a .nil i), [(0, tP t sK)], 2⟩ =
  let c6 : Int := (↑p : Int); let c5 : Int := (↑a : Int); let c4 : AV := int i64 (0 : Int); let c3 : AV := ptr 0 0 3 0 []; let c2 : AV := aj 3 n fun i ↦ rat (k i) 4096; let c1 : Nat × aA := ((0 : Nat), aA.mk false true 3 1 fun x ↦ rat t 4096); some (fork (decide (i ≤ c5)) (af [(0 : Nat) < 1, bZ (fun i ↦ rat (k i) sK) n sK, sK ≤ sK, c6 = c6, (0 : Int) ≤ i, (0 : Int) ≤ c5, i + c6 + (1 : Int) < (↑n : Int), n < 2 ^ 40, c5 < (2 : Int) ^ 40, p ≤ 6, (1 : Nat) * 3 ≤ 2 ^ 24, (0 : Nat) < 1 ∧ 1 * ((56 : Nat) + 1) * 2 ≤ 2 ^ 47] (af [-(2 : Int) ^ 63 ≤ i + (1 : Int) ∧ i + (1 : Int) < (2 : Int) ^ 63] (leaf normal ([c2, int i64 c6, c3, int i64 c5, own 45058 3 0 1, int i64 (i + (1 : Int)), c4, nil, c4], [((45058 : Nat), aA.mk true true 3 1 fun i_1 ↦ nth [rat (nC (fun i ↦ aY (rat (k i) sK)) c5.toNat t p i.toNat) (SB p)] (rat 0 1) (i_1 + 0)), c1])))) (leaf (exit 0) ([c2, int i64 c6, c3, int i64 c5, nil, int i64 i, c4, nil, c4], [c1]))) := by kernel_rfl
theorem Mv {n p a j : Nat} {k x : Nat → Rat} {t : Rat} {i : Int} : aI T (qL p) [28] 60 nk [zC] ⟨aB nk (wA n k p a (.own 1 3 0 (j + 1)) i), [(1, BR (j + 1) x fun _ => SB p), (0, tP t sK)], 2⟩ =
  let c7 : Int := (↑p : Int); let c6 : Int := (↑a : Int); let c5 : AV := int i64 (0 : Int); let c4 : AV := ptr 0 0 3 0 []; let c3 : AV := aj 3 n fun i ↦ rat (k i) 4096; let c2 : Nat := j + 1; let c1 : Nat × aA := ((0 : Nat), aA.mk false true 3 1 fun x ↦ rat t 4096); let c8 : Nat := c2 + 1; some (fork (decide (i ≤ c6)) (af [(0 : Nat) < 1, bZ (fun i ↦ rat (k i) sK) n sK, sK ≤ sK, c7 = c7, (0 : Int) ≤ i, (0 : Int) ≤ c6, i + c7 + (1 : Int) < (↑n : Int), n < 2 ^ 40, c6 < (2 : Int) ^ 40, p ≤ 6, (1 : Nat) * 3 ≤ 2 ^ 24, c8 * ((56 : Nat) + 1) * 2 ≤ 2 ^ 47] (af [-(2 : Int) ^ 63 ≤ i + (1 : Int) ∧ i + (1 : Int) < (2 : Int) ^ 63] (leaf normal ([c3, int i64 c7, c4, int i64 c6, own 45058 3 0 c8, int i64 (i + (1 : Int)), c5, nil, c5], [((45058 : Nat), aA.mk true true 3 c8 fun i_1 ↦ if i_1 < c2 then rat (x i_1) (SB p) else nth [rat (nC (fun i ↦ aY (rat (k i) sK)) c6.toNat t p i.toNat) (SB p)] (rat 0 1) (i_1 - c2 + 0)), c1])))) (leaf (exit 0) ([c3, int i64 c7, c4, int i64 c6, own 1 3 0 c2, int i64 i, c5, nil, c5], [((1 : Nat), aA.mk true true 3 c2 fun i ↦ rat (x i) (SB p)), c1]))) := by kernel_rfl
theorem L8 {n p a j : Nat} {k x : Nat → Rat} {t : Rat} {i : Int} : ct T (qL p) [] 60 ry [part wC [1,1,1,1,1]] ⟨aB nk (wA n k p a (.own 1 3 0 (j + 1)) i), [(1, BR (j + 1) x fun _ => SB p), (0, tP t sK)], 2⟩ =
  let c1 : Int := (↑a : Int) - (↑p : Int); some (af [-(2 : Int) ^ 63 ≤ c1 ∧ c1 < (2 : Int) ^ 63] (leaf ret [int i64 c1, aj 3 (j + 1) fun i ↦ rat (x (i + 0)) (SB p), int i64 (0 : Int)])) := by kernel_rfl
theorem Xr : aW P (nG :: (ir, pF) :: iy) := ep (aD (xg yT) jw)
theorem JZ {n : Nat} {k : Nat → Rat} {t : Rat} (hn : n < 2 ^ 40) : ∀ d i a, i + d + 1 < n → a < 2 ^ 40 → d ≤ 6 → ∀ K, ay P tL K (uX n k i d a t) [] (aF (.rat (nC k a t d i) (SB d)) [])
 | 0, i, a, hi, ha, hd, K => by
  refine bt (r := aF (.rat (nC k a t 0 i) (SB 0)) []) hT Xr hm Gl rfl (of_decide_eq_true (by kernel_rfl)) rfl 60 SS (fun _ => ?_) K []
  simp only [aa.all, ax, beq_iff_eq, beq_eq_false_iff_ne, ne_eq]
  refine ⟨fun h => ⟨by omega, by omega, ?_⟩, fun h => ⟨by omega, by omega, ?_⟩⟩
  ·unfold nC; rw [if_pos (by omega)]; exact bI rfl (by decide)
  ·unfold nC; rw [if_neg (by omega)]; exact ji (k := 65535)
 | d + 1, i, a, hi, ha, hd, K => by
  have hΓ : aW P (Eg d) := ep (aD (en fun ⟨⟨n', k'⟩, i', d', a', t', _⟩ K hn' => by
   obtain ⟨h1, h2, h3, h4, h5, h6, h7⟩ := hn'
   simp only at h1 h2 h3 h4 h5 h6
   have := JZ (n := n') (k := k') (t := t') h5 d i'.toNat a'.toNat (by omega) (by omega) h7 K
   unfold uX at this
   rw [Int.toNat_of_nonneg h2, Int.toNat_of_nonneg h3] at this
   rw [h1]
   exact this) (aD RL (aD (xg yT) jw)))
  refine bt (r := aF (.rat (nC k a t (d + 1) i) (SB (d + 1))) []) hT hΓ hm Gl rfl (of_decide_eq_true (by kernel_rfl)) rfl 60 Tk (fun _ => ?_) K []
  have h1 := JT (d := d)
  have h2 := Jl (d := d)
  have h3 := De (d := d) (by omega)
  have h4 : sV = 268435456 := rfl
  have h5 := Y7
  have h6 : sK = 4096 := rfl
  have h7 : ny = 8193 := rfl
  simp only [aa.all, ax, pR, beq_eq_false_iff_ne, ne_eq, decide_eq_true_eq, decide_eq_false_iff_not, cond_false, Int.toNat_natCast, show ((i : Int) + ((d + 1 : Nat) : Int)).toNat = i + (d + 1) by omega, show ((i : Int) + ((d + 1 : Nat) : Int) + 1).toNat = i + (d + 2) by omega, show ((i : Int) + 1).toNat = i + 1 by omega]
  rw [nC]
  (repeat' with_reducible first | refine And.intro ?_ ?_ | intro _)
  all_goals first | omega | exact eP (Nat.le_refl _) | exact absurd ‹true = false› (by decide) | (rw [if_pos (by omega)]; exact ji (k := SB (d + 1) - 1)) | skip
  all_goals first | (rw [if_pos (by omega), show SB (d + 1) = SB (d + 1) - 1 + 1 by omega]; exact ji) | skip
  rw [if_neg (by omega)]
  exact bI rfl (by omega)
theorem Zx {p : Nat} : aW P (qL p) := ep (aD Gm (aD (en fun ⟨⟨n', k'⟩, i', d', a', t', _⟩ K hn' => by
 obtain ⟨h1, h2, h3, h4, h5, h6, h7⟩ := hn'
 simp only at h1 h2 h3 h4 h5 h6
 have := JZ (n := n') (k := k') (t := t') h5 p i'.toNat a'.toNat (by omega) (by omega) h7 K
 unfold uX at this
 rw [Int.toNat_of_nonneg h2, Int.toNat_of_nonneg h3] at this
 rw [h1]
 exact this) jw))
theorem Ln {n p : Nat} {k : Nat → Rat} {t : Rat} (h : Kn n p k) (hp6 : p ≤ 6) (hn : n < 2 ^ 40) (K : Nat) : ay P vq K [ls k n, .int .i64 p, .rat t sK] [] (aF (Aw n k p t) []) := by
 refine kQ (r := aF (Aw n k p t) []) hT Zx hm aao rfl (of_decide_eq_true (by kernel_rfl)) rfl [1,1,1,1,0,1] (i := 0) (y := zC) (z := part wC [1,1,1,1,1]) (by kernel_rfl) (by kernel_rfl) (by kernel_rfl) (f1 := [21]) (f2 := [28]) (f3 := []) 60 nk 2
  (fun j : Nat => wA n k p (dh n k t) (match j with
   | 0 => .nil
   | _ + 1 => .own 1 3 0 j) ((dh n k t : Int) - p + j)) (fun j => match j with
   | 0 => [(0, tP t sK)]
   | _ + 1 => [(1, BR j (fun j => nC k (dh n k t) t p (dh n k t - p + j)) fun _ => SB p), (0, tP t sK)])
  (fun j => j ≤ p + 1 ∧ ¬ ef n k t) (fun j => j = p + 1 ∧ ¬ ef n k t) (fun j => p + 1 - j) (fun _ => ⟨⟨_, PZ, ?_⟩, fun j ⟨hj, hin⟩ => ?_, fun j ⟨hj, hin⟩ => ?_⟩) K []
 ·simp only [aa.all, ax, pR, bne_iff_ne, ne_eq, bne_eq_false_iff_eq, Int.toNat_natCast]
  refine ⟨⟨by omega, eP (Nat.le_refl _), Nat.le_refl _, h, by omega, hn⟩, fun hout => ?_, fun hin => ?_⟩
  ·have h1 := U2 hout
   exact ⟨[.int .i64 0, .nil, .int .i64 (fj n k t)], by kernel_rfl, by rw [show fj n k t = 7 by unfold fj; rw [if_pos h1]]; exact RU h1⟩
  ·have hin := Ev hin
   have hv := h.xI hin
   have hii : pU n k t = dh n k t := by unfold pU; rw [if_neg hin]
   simp only [hii]
   exact ⟨by omega, 0, ⟨by omega, hin⟩, [(0, 0)], rfl, by simp only [Int.natCast_zero, Int.add_zero]; rfl, rfl, aU rfl rfl (aR rfl rfl) trivial⟩
 ·have hv := h.xI hin
  cases j with
  | zero =>
   refine ⟨_, Yf, ?_⟩
   simp only [aa.all, ax, pR, decide_eq_true_eq, decide_eq_false_iff_not, Int.toNat_natCast, Int.natCast_zero, Int.add_zero]
   refine ⟨fun h1 => ⟨⟨by omega, eP (Nat.le_refl _), Nat.le_refl _, trivial, by omega, by omega, by omega, hn, by omega, by omega, by omega, by omega⟩, by omega, 1, ⟨by omega, hin⟩, by dsimp only; omega, [(0, 0), (1, 45058)], rfl, rfl, rfl, cz rfl rfl rfl (fun i hi => Kf (y := fun j => nC k (dh n k t) t p (dh n k t - p + j)) (by rw [show ((dh n k t : Int) - p).toNat = dh n k t - p by omega]; rfl) (Nat.le_refl _) hi) (aU rfl rfl (aR rfl rfl) trivial)⟩, fun h1 => by omega⟩
  | succ j =>
   refine ⟨_, Mv, ?_⟩
   simp only [aa.all, ax, pR, decide_eq_true_eq, decide_eq_false_iff_not, Int.toNat_natCast]
   refine ⟨fun h1 => ⟨⟨by omega, eP (Nat.le_refl _), Nat.le_refl _, trivial, by omega, by omega, by omega, hn, by omega, by omega, by omega, by omega⟩, by omega, j + 2, ⟨by omega, hin⟩, by dsimp only; omega, [(0, 0), (1, 45058)], rfl, by rw [show (dh n k t : Int) - p + ((j + 1 : Nat) : Int) + 1 = (dh n k t : Int) - p + ((j + 2 : Nat) : Int) by omega]; rfl, rfl,
    cz rfl rfl rfl (fun i hi => Jc (y := fun j => nC k (dh n k t) t p (dh n k t - p + j)) (fun _ _ => rfl) (by rw [show ((dh n k t : Int) - p + ((j + 1 : Nat) : Int)).toNat = dh n k t - p + (j + 1) by omega]) (Nat.le_refl _) (Nat.le_refl _) hi) (aU rfl rfl (aR rfl rfl) trivial)⟩,
    fun h1 => ⟨rfl, j + 1, ⟨by omega, hin⟩, [(0, 0), (1, 1)], rfl, rfl, rfl, cz rfl rfl rfl (fun i hi => aR rfl rfl) (aU rfl rfl (aR rfl rfl) trivial)⟩⟩
 ·subst hj
  have hv := h.xI hin
  refine ⟨_, L8, ?_⟩
  simp only [aa.all, ax]
  refine ⟨by omega, X1 hin fun j hj => bI ?_ (De hp6)⟩
  have h1 : ¬ t < k 0 := fun h => hin (.inl h)
  have h2 : ¬ k (n - 1) < t := fun h => hin (.inr h)
  have hat : At n k (dh n k t) := (h.E4 (by grind) (by grind)).1.at_
  exact (Gc hat hv.1 (by omega) j (by omega)).symm
theorem Z3 : ∀ K args pre r, E5 K args pre = some r → ay P vq K args pre r := en fun ⟨⟨n, k⟩, p, t, _⟩ K hn => by
 obtain ⟨h1, h2, h3, h4⟩ := hn
 have h3 : p ≤ 6 := h3
 have := Ln h1 (by simp only; omega) h4 K (t := t)
 rw [Int.toNat_of_nonneg h2] at this
 exact this
end Go.Am.B

/- ref10: Lift, Homogeneous, Drop, Eval. -/
namespace Go.Am.B
open Go Go.Am.N AV aa ah IntKind
theorem EF : aP P wD qX (au qX) := aL Sh (by kernel_rfl) (by kernel_rfl) (by kernel_rfl)
theorem MR : aP P B6 wB (au wB) := aL Ks (by kernel_rfl) (by kernel_rfl) (by kernel_rfl)
theorem Tw : aP P ru uO (au uO) := aL OY (by kernel_rfl) (by kernel_rfl) (by kernel_rfl)
theorem CX : aP P vg sj (au sj) := aL aaD (by kernel_rfl) (by kernel_rfl) (by kernel_rfl)
theorem VC : aP P wz sJ (au sJ) := aL Nr (by kernel_rfl) (by kernel_rfl) (by kernel_rfl)
noncomputable def C1 : aO := (yx, gJ kR kR Ql mG) :: (wD, cP T iy [] 60 qX) :: iy
abbrev sH : Nat := 2147483648
abbrev sE : Nat := 4294967298
def y7 (h : Pl) : V3 := ⟨((1 : Int) : Rat) / h.d * h.n.x, ((1 : Int) : Rat) / h.d * h.n.y, ((1 : Int) : Rat) / h.d * h.n.z⟩
def HF : Spec := eH (kC (Xy sH) kN) (fun a => .agg [vA (y7 a.1) sE, .rat a.1.d sH]) fun _ => []
noncomputable def Kt : aO := (wD, cP T iy [] 60 qX) :: iy
noncomputable def wZ : aO := nG :: (vq, E5) :: (B6, cP T Kt [] 60 wB) :: iy
abbrev ud : List Nat := [2, 4, 5, 6, 8, 9]
abbrev yN (p i : Nat) (x : Nat → Rat) (j : Nat) : List AV := [.ptr 0 0 3 0 [], .ptr 1 0 12 0 [], .int .i64 ((i : Int) - p), .aj 3 (p + 1) (fun j => .rat (x j) sV), .ptr 2 0 12 0 [], .int .i64 j]
abbrev oI (h : Pl) (s : Nat) : aA := ⟨false, true, 12, 1, fun _ => jP h s⟩
abbrev zB (c : Cu) (r : Nat) : aA := ⟨false, true, 3, 1, fun _ => cr c sK r⟩
noncomputable abbrev p7 : Code := au sj
theorem Lg {h : Pl} {s : Nat} : bq T C1 [] 60 uO (au uO) ⟨aK 0 [jP h s], [], 0⟩ =
  let c9 : Prop := (0 : Int) ≤ (0 : Int); let c8 : Rat := (↑(1 : Int) : Rat) / h.d; let c7 : Int := (↑(4 : Nat) : Int); let c6 : Int := (↑(3 : Nat) : Int); let c4 : Nat := 2 ^ 41; let c3 : Int := i64.wrap ((0 : Int) + (1 : Int)); let c2 : Nat := Max.max 1 (aQ (Int.natAbs (1 : Int))); let c1 : Prop := 0 < 1; let c11 : Int := i64.wrap (c3 + (1 : Int)); let c10 : Prop := (0 : Int) ≤ (3 : Int) ∧ (3 : Int) < c7; let c5 : Prop := (0 : Int) ≤ c11 ∧ c11 < c6; some (af [-(2 : Int) ^ 63 ≤ (1 : Int), (1 : Int) < (2 : Int) ^ 63, c10, c1, c2 < c4, s < c4, c9 ∧ (0 : Int) < c7, c1, (0 : Int) ≤ (1 : Int) ∧ (1 : Int) < c7, c1, (0 : Int) ≤ (2 : Int) ∧ (2 : Int) < c7, c1, c1, c9 ∧ (0 : Int) < c6, c1, c2 + s < c4, s < c4, c9 ∧ (0 : Int) < c6, c1, c1, (0 : Int) ≤ c3 ∧ c3 < c6, c1, c2 + s < c4, s < c4, (0 : Int) ≤ c3 ∧ c3 < c6, c1, c1, c5, c1, c2 + s < c4, s < c4, c5, c1, c1, c1, c1, c10, c1, c1] (af [c1] (leaf ret [agg [agg [rat (c8 * h.n.x) (c2 + s + s), rat (c8 * h.n.y) (c2 + s + s), rat (c8 * h.n.z) (c2 + s + s)], rat h.d s]]))) := by kernel_rfl
theorem Nq {c : Cu} {t : Rat} {r : Nat} : aI T wZ [] 60 ud (before p7 [1,1,1,0,1]) ⟨aK 0 [cr c sK r, .rat t sK], [], 0⟩ =
  let c5 : Prop := 0 < 1; let c4 : Nat := dh c.n (fun i ↦ aY (rat (c.k i) sK)) t; let c3 : Prop := ef c.n (fun i ↦ aY (rat (c.k i) sK)) t; let c2 : AV := rat 0 1; let c1 : aA := aA.mk false true 12 1 fun x ↦ agg [c2, c2, c2, c2]; some (af [c5, c5, c5, bZ (fun i ↦ rat (c.k i) sK) c.n sK, sK ≤ sK, Kn c.n c.p.toNat fun i ↦ aY (rat (c.k i) sK), (0 : Int) ≤ c.p, c.p ≤ (6 : Int), c.n < 2 ^ 40] (leaf normal ([ptr 0 0 (bw (cr c sK r)).size 0 [], ptr 8192 0 12 0 [], int i64 (if c3 then (0 : Int) else (↑c4 : Int) - (↑c.p.toNat : Int)), aj 3 (if c3 then 0 else c.p.toNat + 1) fun j ↦ rat (vB (fun i ↦ aY (rat (c.k i) sK)) c4 t c.p.toNat j) 268435456, ptr 65536 0 12 0 [], int i64 (0 : Int)], [((65536 : Nat), c1), ((8192 : Nat), c1), ((0 : Nat), aA.mk false true (bw (cr c sK r)).size 1 fun x ↦ agg [int i64 c.p, aj 3 c.n fun i ↦ rat (c.k i) 4096, aj 12 c.m fun i ↦ agg [agg [rat (c.f i).n.x r, rat (c.f i).n.y r, rat (c.f i).n.z r], rat (c.f i).d r]])]))) := by kernel_rfl
theorem Zk {c : Cu} {h : Pl} {p i j s r : Nat} {x : Nat → Rat} : aI T wZ [25] 60 ud [part p7 [1,1,1,0,1,0,0]] ⟨aB ud (yN p i x j), [(2, oI h s), (1, oI ⟨⟨0, 0, 0⟩, 0⟩ 1), (0, zB c r)], 3⟩ =
  let c35 : Nat := p + 1; let c30 : Int := (↑i : Int) - (↑p : Int); let c27 : AV := ptr 0 0 3 0 []; let c26 : Nat := sV + (r + r); let c25 : AV := ptr 2 0 12 0 []; let c24 : AV := ptr 1 0 12 0 []; let c21 : AV := rat 0 1; let c19 : Int := (↑j : Int); let c18 : Prop := (0 : Int) ≤ (0 : Int); let c15 : Int := (↑(3 : Nat) : Int); let c14 : Bool := 0 == 0; let c11 : Int := (↑(4 : Nat) : Int); let c9 : Int := (2 : Int) ^ 63; let c7 : Nat := 2 ^ 41; let c4 : Prop := 0 < 1; let c3 : Int := (0 : Int) + (1 : Int); let c37 : Rat := x c19.toNat; let c36 : Int := c19 + (1 : Int); let c33 : Prop := c18 ∧ (0 : Int) < c11; let c32 : Prop := c18 ∧ (0 : Int) < c15; let c31 : Prop := (0 : Int) ≤ i64.wrap c3 ∧ i64.wrap c3 < c15; let c29 : Prop := (0 : Int) ≤ c3 ∧ c3 < c11; let c20 : AV := aj 3 c35 fun j ↦ rat (x j) 268435456; let c17 : Int := i64.wrap (i64.wrap c3 + (1 : Int)); let c16 : Int := c3 + (1 : Int); let c12 : Prop := (0 : Int) ≤ c19 ∧ c19.toNat < c35; let c6 : List (Nat × aA) := [((1 : Nat), aA.mk false true 12 1 fun x ↦ agg [c21, c21, c21, c21]), ((0 : Nat), aA.mk false true 3 1 fun x ↦ agg [int i64 c.p, aj 3 c.n fun i ↦ rat (c.k i) 4096, aj 12 c.m fun i ↦ agg [agg [rat (c.f i).n.x r, rat (c.f i).n.y r, rat (c.f i).n.z r], rat (c.f i).d r]])]; let c5 : Int := c30 + c19; let c38 : Prop := (0 : Int) ≤ c17 ∧ c17 < c15; let c23 : Prop := (0 : Int) ≤ c16 ∧ c16 < c11; let c22 : Pl := c.f c5.toNat; let c8 : Int := c16 + (1 : Int); let c28 : Prop := (0 : Int) ≤ c8 ∧ c8 < c11; let c2 : AV := agg ((jP h s).kids.set (Int.toNat (0 : Int)) (bw (jt (h.n.x, s) (c37 * (c22.d * c22.n.x), c26)))); let c34 : AV := if c14 = true then c2 else jP h s; let c10 : AV := agg (c34.kids.set c3.toNat (bw (jt (h.n.y, s) (c37 * (c22.d * c22.n.y), c26)))); let c1 : AV := if c14 = true then c10 else c34; let c13 : AV := agg (c1.kids.set c16.toNat (bw (jt (h.n.z, s) (c37 * (c22.d * c22.n.z), c26)))); some (fork (decide (c19 < (↑c35 : Int))) (af [c4, -c9 ≤ c5 ∧ c5 < c9, (0 : Int) ≤ c5 ∧ c5.toNat < c.m, c4, c4, c4, c32, c4, r < c7, r < c7, c32, c4, c4, c31, c4, r < c7, r < c7, c31, c4, c4, c38, c4, r < c7, r < c7, c38, c4, c4, c4, c4, c4, c32, c4, (0 : Int) ≤ (1 : Int) ∧ (1 : Int) < c15, c4, (0 : Int) ≤ (2 : Int) ∧ (2 : Int) < c15, c4, c4, c4, c4, c4] (af [c33, c4, c12, c33, c4, sV < c7, r + r < c7, s < c7, c26 < c7, c33, c4] (af [-c9 ≤ c3 ∧ c3 < c9] (af [c29, c4, c12, c29, c4, sV < c7, r + r < c7, s < c7, c26 < c7, c29, c4] (af [-c9 ≤ c16 ∧ c16 < c9] (af [c23, c4, c12, c23, c4, sV < c7, r + r < c7, s < c7, c26 < c7, c23, c4] (af [-c9 ≤ c8 ∧ c8 < c9] (af [c28, c4, c12, c28, c4, sV < c7, r < c7, s < c7, sV + r < c7, c28, c4] (af [-c9 ≤ c8 + (1 : Int) ∧ c8 + (1 : Int) < c9] (af [-c9 ≤ c36 ∧ c36 < c9] (leaf normal ([c27, c24, int i64 c30, c20, c25, int i64 c36], ((2 : Nat), aA.mk false true 12 1 fun j ↦ if (j == 0) = true then agg ((if c14 = true then c13 else c1).kids.set c8.toNat (bw (jt (h.d, s) (c37 * c22.d, sV + r)))) else if (j == 0) = true then c13 else if (j == 0) = true then c10 else if (j == 0) = true then c2 else jP h s) :: c6)))))))))))) (leaf (exit 0) ([c27, c24, int i64 c30, c20, c25, int i64 c19], ((2 : Nat), aA.mk false true 12 1 fun x ↦ agg [rat h.n.x s, rat h.n.y s, rat h.n.z s, rat h.d s]) :: c6))) := by kernel_rfl
theorem J4 {c : Cu} {h : Pl} {p i j s r : Nat} {x : Nat → Rat} : ct T wZ [] 60 sj [part p7 [1,1,1,1]] ⟨aB ud (yN p i x j), [(2, oI h s), (1, oI ⟨⟨0, 0, 0⟩, 0⟩ 1), (0, zB c r)], 3⟩ =
  let c1 : Prop := 0 < 1; some (af [c1, c1] (af [c1] (leaf ret [agg [rat h.n.x s, rat h.n.y s, rat h.n.z s, rat h.d s]]))) := by kernel_rfl
def Bf (c : Cu) (x : Nat → Rat) (b j : Nat) : Pl :=
 ⟨⟨lg j fun j => x j * ((c.f (b + j)).d * (c.f (b + j)).n.x), lg j fun j => x j * ((c.f (b + j)).d * (c.f (b + j)).n.y), lg j fun j => x j * ((c.f (b + j)).d * (c.f (b + j)).n.z)⟩, lg j fun j => x j * (c.f (b + j)).d⟩
def zH (r j : Nat) : Nat := 1 + j * (sV + (r + r) + 1)
def oQ (c : Cu) (t : Rat) : Pl := Bf c (vB c.k (dh c.n c.k t) t c.p.toNat) (dh c.n c.k t - c.p.toNat) (c.p.toNat + 1)
theorem OO : aW P C1 := aD (iB fun _ _ K hn => Y2 hn.1 hn.2 K) (aD (cV hT jw hm EF _ _) jw)
theorem W3 {h : Pl} {s s' : Nat} (hs : s < 2 ^ 40) (hs' : 1 + s + s ≤ s') (K : Nat) : ay P ru K [jP h s] [] (aF (.agg [vA (y7 h) s', .rat h.d s]) []) := by
 refine bt (r := aF (.agg [vA (y7 h) s', .rat h.d s]) []) hT OO hm Tw rfl (of_decide_eq_true (by kernel_rfl)) rfl 60 (Lg (s := s)) (fun _ => ?_) K []
 have e1 : i64.wrap ((0 : Int) + 1) = 1 := rfl
 have e2 : i64.wrap ((1 : Int) + 1) = 2 := rfl
 simp only [aa.all, ax, MS, e1, e2]
 refine ⟨?_, by omega, cq ⟨cq ⟨bI rfl (by omega), bI rfl (by omega), bI rfl (by omega), trivial⟩, .refl _, trivial⟩⟩
 (repeat' with_reducible refine And.intro ?_ ?_)
 all_goals omega
theorem N7 : ∀ K args pre r, HF K args pre = some r → ay P ru K args pre r := en fun ⟨h, _⟩ K _ => W3 (by decide) (by decide) K
theorem G0 : aW P wZ := ep (aD Z3 (aD (cV hT (aD (cV hT jw hm EF _ _) jw) hm MR _ _) jw))
theorem Kg {c : Cu} {t : Rat} {r s : Nat} (hr : 1 + 7 * (sV + (r + r) + 1) ≤ s) (hs : s < 2 ^ 40) (hk : Kn c.n c.p.toNat c.k) (h0 : 0 ≤ c.p) (h6 : c.p ≤ 6) (hn : c.n < 2 ^ 40) (hm2 : (c.m : Int) = (c.n : Int) - c.p - 1) (hin : ¬ ef c.n c.k t) (K : Nat) : ay P vg K [cr c sK r, .rat t sK] [] (aF (jP (oQ c t) s) []) := by
 refine fX (r := aF (jP (oQ c t) s) []) hT CX rfl (of_decide_eq_true (by kernel_rfl)) rfl (fun _ cx h00 => ?_) K []
 have hkp := pC h00
 obtain ⟨q, hq⟩ : ∃ q, q = c.p.toNat := ⟨_, rfl⟩
 have hq2 : c.p = (q : Int) := by omega
 obtain ⟨i, hi⟩ : ∃ i, i = dh c.n c.k t := ⟨_, rfl⟩
 obtain ⟨x, hx⟩ : ∃ x, x = vB c.k i t q := ⟨_, rfl⟩
 have hiv := hk.xI hin
 rw [← hi, ← hq] at hiv
 have hV : oQ c t = Bf c x (i - q) (q + 1) := by unfold oQ; rw [← hi, ← hq, ← hx]
 rw [hV]
 have h1 : sK = 4096 := rfl
 have h2 : sV = 268435456 := rfl
 have z0 : zH r 0 = 1 := by unfold zH; rw [Nat.zero_mul]
 have zS : ∀ j, zH r (j + 1) = zH r j + (sV + (r + r) + 1) := fun j => by unfold zH; rw [Nat.add_mul, Nat.one_mul]; omega
 have zle : ∀ j, j ≤ 7 → zH r j ≤ s := fun j hj => by
  have := Nat.mul_le_mul_right (sV + (r + r) + 1) hj
  unfold zH; omega
 refine ak.kz hT G0 hm (x := p7) [1,1,1,0,1] (i := 0) (y := part p7 [1,1,1,0,1,0,0]) (z := part p7 [1,1,1,1]) (by kernel_rfl) (by kernel_rfl) (by kernel_rfl) CX.dst hkp (f1 := []) (f2 := [25]) 60 ud 3 (fun j : Nat => yN q i x j) (fun j => [(2, oI (Bf c x (i - q) j) (zH r j)), (1, oI ⟨⟨0, 0, 0⟩, 0⟩ 1), (0, zB c r)]) (fun j => j ≤ q + 1) (fun j => j = q + 1) (fun j => q + 1 - j) (fun _ => False) ⟨_, Nq, ?_⟩ (fun j hj => ⟨_, Zk, ?_⟩) (fun j hj => ?_) (fun _ _ h => h.elim)
 ·simp only [aa.all, ax]
  simp only [pR, show ef c.n (fun i => c.k i) t = ef c.n c.k t from rfl, if_neg hin]
  refine ⟨⟨by omega, by omega, by omega, eP (Nat.le_refl _), Nat.le_refl _, hk, h0, h6, hn⟩, 0, Nat.zero_le _, [(0, 0), (1, 8192), (2, 65536)], rfl, ?_, rfl, aU rfl rfl (aR rfl (by rw [z0]; rfl)) (aU rfl rfl (aR rfl rfl) (aU rfl rfl (aR rfl rfl) trivial))⟩
  show _ = (yN q i x 0).map _
  rw [hx, hq, hi]; rfl
 ·simp only [aa.all, ax, decide_eq_true_eq, decide_eq_false_iff_not, show ((i : Int) - q + j).toNat = i - q + j by omega, Int.toNat_natCast, show i64.wrap ((0 : Int) + 1) = 1 from rfl, show i64.wrap ((1 : Int) + 1) = 2 from rfl]
  have hz1 := zS j
  refine ⟨fun h => ?_, fun h => ⟨rfl, j, by omega, [(0, 0), (1, 1), (2, 2)], rfl, rfl, rfl, aU rfl rfl (aR rfl rfl) (aU rfl rfl (aR rfl rfl) (aU rfl rfl (aR rfl rfl) trivial))⟩⟩
  have hz := zle j (by omega)
  have hz2 := zle (j + 1) (by omega)
  (repeat' with_reducible refine And.intro ?_ ?_)
  all_goals first | omega | skip
  exact ⟨j + 1, by omega, by dsimp only; omega, [(0, 0), (1, 1), (2, 2)], rfl, rfl, rfl, aU rfl rfl (.inr ⟨rfl, cq ⟨bI rfl (by omega), bI rfl (by omega), bI rfl (by omega), bI rfl (by omega), trivial⟩⟩) (aU rfl rfl (aR rfl rfl) (aU rfl rfl (aR rfl rfl) trivial))⟩
 ·subst hj
  refine ak.jE ((az.fin hT G0 hm 60 J4 (by kernel_rfl) ?_).mono fun _ _ h => .inl h)
  simp only [aa.all, ax]
  have hz := zle (q + 1) (by omega)
  exact ⟨by omega, by omega, cq ⟨dF (by omega), dF (by omega), dF (by omega), dF (by omega), trivial⟩⟩
def Ft : Spec := eH (kC (jQ sK sK) (kC (p0 sK) kN)) (fun a => jP (oQ a.1 a.2.1) sH) fun a => [Kn a.1.n a.1.p.toNat a.1.k, 0 ≤ a.1.p, a.1.p ≤ 6, a.1.n < 2 ^ 40, (a.1.m : Int) = (a.1.n : Int) - a.1.p - 1, ¬ ef a.1.n a.1.k a.2.1]
noncomputable def GB : aO := sG :: (qd, B5) :: (vg, Ft) :: (ru, HF) :: []
theorem N6 : ∀ K args pre r, Ft K args pre = some r → ay P vg K args pre r := en fun ⟨c, t, _⟩ K hn => Kg (by decide) (by decide) hn.1 hn.2.1 hn.2.2.1 hn.2.2.2.1 hn.2.2.2.2.1 hn.2.2.2.2.2 K
theorem MP : aW P GB := cR (aD Gm (aD N6 (aD N7 bg)))
theorem YJ {c : Cu} {t : Rat} : bq T GB [18] 60 sJ (au sJ) ⟨aK 0 [cr c sK sK, .rat t sK], [], 0⟩ =
  let c9 : Prop := c.n < 2 ^ 40; let c7 : Prop := bZ (fun i ↦ rat (c.k i) sK) c.n sK; let c5 : Int := fj c.n (fun i ↦ aY (rat (c.k i) sK)) t; let c4 : AV := rat 0 1; let c3 : Nat := c.p.toNat; let c1 : Nat := dh c.n (fun i ↦ aY (rat (c.k i) sK)) t; let c10 : Nat := c1 - c3; let c8 : Nat := c3 + 1; let c6 : Prop := Kn c.n c3 fun i ↦ aY (rat (c.k i) sK); let c2 : Rat := (↑(1 : Int) : Rat) / lg c8 fun j ↦ vB (fun i ↦ aY (rat (c.k i) sK)) c1 t c3 j * aY (rat (c.f (c10 + j)).d sK); some (af [c7, sK ≤ sK, c6, (0 : Int) ≤ c.p, c9] (fork (c5 != (0 : Int)) (af [(0 : Nat) < 1] (leaf ret [agg [c4, c4, c4], int i64 c5])) (af [c7, eZ (fun i ↦ aS (c.f i) sK) c.m sK, sK ≤ sK, c6, (0 : Int) ≤ c.p, c.p ≤ (6 : Int), c9, (↑c.m : Int) = (↑c.n : Int) - c.p - (1 : Int), ¬ef c.n (fun i ↦ aY (rat (c.k i) sK)) t, sH ≤ sH, sH ≤ sH, sH ≤ sH, sH ≤ sH] (af [(0 : Nat) < 1] (leaf ret [agg [rat (c2 * lg c8 fun j ↦ vB (fun i ↦ aY (rat (c.k i) sK)) c1 t c3 j * (aY (rat (c.f (c10 + j)).d sK) * aY (rat (c.f (c10 + j)).n.x sK))) 4294967298, rat (c2 * lg c8 fun j ↦ vB (fun i ↦ aY (rat (c.k i) sK)) c1 t c3 j * (aY (rat (c.f (c10 + j)).d sK) * aY (rat (c.f (c10 + j)).n.y sK))) 4294967298, rat (c2 * lg c8 fun j ↦ vB (fun i ↦ aY (rat (c.k i) sK)) c1 t c3 j * (aY (rat (c.f (c10 + j)).d sK) * aY (rat (c.f (c10 + j)).n.z sK))) 4294967298], int i64 (0 : Int)]))))) := by kernel_rfl
def v9 (c : Cu) (t : Rat) : V3 := if ef c.n c.k t then ⟨0, 0, 0⟩ else y7 (oQ c t)
def E2 : Spec := eH (kC (jQ sK sK) (kC (p0 sK) kN)) (fun a => .tuple [vA (v9 a.1 a.2.1) sE, .int .i64 (fj a.1.n a.1.k a.2.1)]) fun a => [Kn a.1.n a.1.p.toNat a.1.k, 0 ≤ a.1.p, a.1.p ≤ 6, a.1.n < 2 ^ 40, (a.1.m : Int) = (a.1.n : Int) - a.1.p - 1]
theorem Zl : ∀ K args pre r, E2 K args pre = some r → ay P wz K args pre r := en fun ⟨c, t, _⟩ K hn => by
 obtain ⟨hk, h0, h6, hn, hm2⟩ := hn
 have hk : Kn c.n c.p.toNat c.k := hk
 have h6 : c.p ≤ 6 := h6
 have hm2 : (c.m : Int) = (c.n : Int) - c.p - 1 := hm2
 refine bt (r := aF (.tuple [vA (v9 c t) sE, .int .i64 (fj c.n c.k t)]) []) hT MP hm VC rfl (of_decide_eq_true (by kernel_rfl)) rfl 60 YJ (fun _ => ?_) K []
 simp only [aa.all, ax, pR, bne_iff_ne, bne_eq_false_iff_eq, ne_eq, show ef c.n (fun i => c.k i) t = ef c.n c.k t from rfl, show fj c.n (fun i => c.k i) t = fj c.n c.k t from rfl]
 refine ⟨⟨eP (Nat.le_refl _), Nat.le_refl _, hk, h0, hn⟩, fun hout => ?_, fun hin => ?_⟩
 ·have ho : ef c.n c.k t := by
   unfold fj at hout
   by_cases ho : ef c.n c.k t
   ·exact ho
   ·rw [if_neg ho] at hout; exact absurd rfl hout
  refine ⟨by omega, ?_, .refl _, trivial⟩
  unfold v9
  rw [if_pos ho]
  exact cq ⟨dF (by decide), dF (by decide), dF (by decide), trivial⟩
 ·have hi := Ev hin
  refine ⟨⟨eP (Nat.le_refl _), jK (Nat.le_refl _), Nat.le_refl _, hk, h0, h6, hn, hm2, hi, by omega, by omega⟩, by omega, ?_, bB hin.symm, trivial⟩
  unfold v9
  rw [if_neg hi]
  exact .refl _
end Go.Am.B

/- ref12: row, Swap, IsoV, IsoU, Eval. -/
namespace Go.Am.B
open Go Go.Am.N AV aa ah IntKind
abbrev VF : aA := ⟨false, true, 5, 1, fun _ => .agg [.int .i64 0, .int .i64 0, .nil, .nil, .nil]⟩
structure SfW (s : Sf) : Prop where
 ku : Kn s.a s.u.toNat s.ku
 kv : Kn s.b s.v.toNat s.kv
 u0 : 0 ≤ s.u
 u6 : s.u ≤ 6
 v0 : 0 ≤ s.v
 v6 : s.v ≤ 6
 a : s.a < 2 ^ 30
 b : s.b < 2 ^ 30
 n : (s.n : Int) = (s.a : Int) - s.u - 1
 m : (s.m : Int) = (s.b : Int) - s.v - 1
end Go.Am.B

/- shapes.ints, ref14.ints. -/
namespace Go.Am.B
open Go Go.Am.N AV aa ah IntKind
theorem AJ : aP P qk n8 (au n8) := aL YI (by kernel_rfl) (by kernel_rfl) (by kernel_rfl)
theorem DH : aP P wU qf (au qf) := aL SQ (by kernel_rfl) (by kernel_rfl) (by kernel_rfl)
abbrev mW (n : Nat) (z : Nat → Int) : AV := .aj 1 n (fun i => .int .i64 (z i))
abbrev mb (n : Nat) (z : Nat → Int) : aA := ⟨true, true, 3, n, fun i => .rat ((z i : Int) : Rat) 64⟩
noncomputable abbrev jL : Code := au n8
abbrev jZ : List Nat := [3, 6, 7, 8]
abbrev sn (n : Nat) (z : Nat → Int) (v : AV) (i : Int) : List AV := [v, mW n z, .int .i64 n, .int .i64 i]
noncomputable abbrev j5 : Code := au qf
abbrev lI : List Nat := [0, 3, 4]
abbrev yF (n : Nat) (z : Nat → Int) (v : AV) (i : Int) : List AV := [mW n z, v, .int .i64 i]
def qB : aO := nG :: [(mU, AK)]
def uT : aO := nG :: [(ir, qx)]
theorem Yq {n : Nat} {z : Nat → Int} : aI T qB [] 60 jZ (before jL [1,1,0,1]) ⟨aK 0 [mW n z], [], 0⟩ =
  some (leaf normal ([nil, aj 1 n fun i ↦ int i64 (z i), int i64 (↑n : Int), int i64 (0 : Int)], [])) := by kernel_rfl
theorem Lk {n : Nat} {z : Nat → Int} : aI T qB [9] 60 jZ [part jL [1,1,0,1,0,0]] ⟨aB jZ (sn n z .nil 0), [], 1⟩ =
  let c4 : Int := (↑n : Int); let c3 : AV := aj 1 n fun i ↦ int i64 (z i); let c2 : Int := (2 : Int) ^ 63; let c1 : Nat := Int.toNat (0 : Int); some (fork (decide ((0 : Int) < c4)) (af [(0 : Int) ≤ (0 : Int) ∧ c1 < n] (af [-c2 ≤ z c1, z c1 < c2, (1 : Nat) * 3 ≤ 2 ^ 24, (0 : Nat) < 1 ∧ 1 * ((56 : Nat) + 1) * 2 ≤ 2 ^ 47] (af [-c2 ≤ (0 : Int) + (1 : Int) ∧ (0 : Int) + (1 : Int) < c2] (leaf normal ([own 32769 3 0 1, c3, int i64 c4, int i64 (1 : Int)], [((32769 : Nat), aA.mk true true 3 1 fun i ↦ nth [rat (↑(z c1) : Rat) (Max.max 1 (aQ (z c1).natAbs))] (rat 0 1) (i + 0))]))))) (leaf (exit 0) ([nil, c3, int i64 c4, int i64 (0 : Int)], []))) := by kernel_rfl
theorem Oh {n i : Nat} {z : Nat → Int} : aI T qB [9] 60 jZ [part jL [1,1,0,1,0,0]] ⟨aB jZ (sn n z (.own 0 3 0 (i + 1)) ((i + 1 : Nat) : Int)), [(0, mb (i + 1) z)], 1⟩ =
  let c8 : Int := (↑n : Int); let c4 : AV := aj 1 n fun i ↦ int i64 (z i); let c3 : Int := (2 : Int) ^ 63; let c2 : Nat := i + 1; let c5 : Nat := c2 + 1; let c1 : Int := (↑c2 : Int); let c7 : Int := z c1.toNat; let c6 : Int := c1 + (1 : Int); some (fork (decide (c1 < c8)) (af [(0 : Int) ≤ c1 ∧ c1.toNat < n] (af [-c3 ≤ c7, c7 < c3, (1 : Nat) * 3 ≤ 2 ^ 24, c5 * ((56 : Nat) + 1) * 2 ≤ 2 ^ 47] (af [-c3 ≤ c6 ∧ c6 < c3] (leaf normal ([own 32769 3 0 c5, c4, int i64 c8, int i64 c6], [((32769 : Nat), aA.mk true true 3 c5 fun i ↦ if i < c2 then rat (↑(z i) : Rat) 64 else nth [rat (↑c7 : Rat) (Max.max 1 (aQ c7.natAbs))] (rat 0 1) (i - c2 + 0))]))))) (leaf (exit 0) ([own 0 3 0 c2, c4, int i64 c8, int i64 c1], [((0 : Nat), aA.mk true true 3 c2 fun i ↦ rat (↑(z i) : Rat) 64)]))) := by kernel_rfl
theorem KA {n i : Nat} {z : Nat → Int} : aI T qB [] 60 [2] [part jL [1,1,1]] ⟨aB jZ (sn n z (.own 0 3 0 (i + 1)) ((i + 1 : Nat) : Int)), [(0, mb (i + 1) z)], 1⟩ =
  some (leaf ret ([own 0 3 0 (i + 1)], [((0 : Nat), aA.mk true true 3 (i + 1) fun i ↦ rat (↑(z i) : Rat) 64)])) := by kernel_rfl
theorem Sj {n i : Nat} {z : Nat → Int} : ct T qB [] 60 n8 [part jL [1,1,1]] ⟨aB jZ (sn n z (.own 0 3 0 (i + 1)) ((i + 1 : Nat) : Int)), [(0, mb (i + 1) z)], 1⟩ =
  some (leaf ret [aj 3 (i + 1) fun i ↦ rat (↑(z (i + 0)) : Rat) 64]) := by kernel_rfl
theorem Rl {n : Nat} {z : Nat → Int} : aI T uT [] 60 lI (before j5 [1,1,0,1]) ⟨aK 0 [mW n z], [], 0⟩ =
  some (leaf normal ([aj 1 n fun i ↦ int i64 (z i), nil, int i64 (0 : Int)], [])) := by kernel_rfl
theorem Tx {n : Nat} {z : Nat → Int} : aI T uT [8] 60 lI [part j5 [1,1,0,1,0,0]] ⟨aB lI (yF n z .nil 0), [], 1⟩ =
  let c3 : AV := aj 1 n fun i ↦ int i64 (z i); let c2 : Int := (2 : Int) ^ 63; let c1 : Nat := Int.toNat (0 : Int); some (fork (decide ((0 : Int) < (↑n : Int))) (af [(0 : Int) ≤ (0 : Int) ∧ c1 < n, -c2 ≤ z c1, z c1 < c2, (1 : Nat) * 3 ≤ 2 ^ 24, (0 : Nat) < 1 ∧ 1 * ((56 : Nat) + 1) * 2 ≤ 2 ^ 47] (af [-c2 ≤ (0 : Int) + (1 : Int) ∧ (0 : Int) + (1 : Int) < c2] (leaf normal ([c3, own 45057 3 0 1, int i64 (1 : Int)], [((45057 : Nat), aA.mk true true 3 1 fun i ↦ nth [rat (↑(z c1) : Rat) (Max.max 1 (aQ (z c1).natAbs))] (rat 0 1) (i + 0))])))) (leaf (exit 0) ([c3, nil, int i64 (0 : Int)], []))) := by kernel_rfl
theorem OX {n i : Nat} {z : Nat → Int} : aI T uT [8] 60 lI [part j5 [1,1,0,1,0,0]] ⟨aB lI (yF n z (.own 0 3 0 (i + 1)) ((i + 1 : Nat) : Int)), [(0, mb (i + 1) z)], 1⟩ =
  let c4 : AV := aj 1 n fun i ↦ int i64 (z i); let c3 : Int := (2 : Int) ^ 63; let c2 : Nat := i + 1; let c5 : Nat := c2 + 1; let c1 : Int := (↑c2 : Int); let c7 : Int := z c1.toNat; let c6 : Int := c1 + (1 : Int); some (fork (decide (c1 < (↑n : Int))) (af [(0 : Int) ≤ c1 ∧ c1.toNat < n, -c3 ≤ c7, c7 < c3, (1 : Nat) * 3 ≤ 2 ^ 24, c5 * ((56 : Nat) + 1) * 2 ≤ 2 ^ 47] (af [-c3 ≤ c6 ∧ c6 < c3] (leaf normal ([c4, own 45057 3 0 c5, int i64 c6], [((45057 : Nat), aA.mk true true 3 c5 fun i ↦ if i < c2 then rat (↑(z i) : Rat) 64 else nth [rat (↑c7 : Rat) (Max.max 1 (aQ c7.natAbs))] (rat 0 1) (i - c2 + 0))])))) (leaf (exit 0) ([c4, own 0 3 0 c2, int i64 c1], [((0 : Nat), aA.mk true true 3 c2 fun i ↦ rat (↑(z i) : Rat) 64)]))) := by kernel_rfl
theorem Xf {n i : Nat} {z : Nat → Int} : aI T uT [] 60 [2] [part j5 [1,1,1]] ⟨aB lI (yF n z (.own 0 3 0 (i + 1)) ((i + 1 : Nat) : Int)), [(0, mb (i + 1) z)], 1⟩ =
  some (leaf ret ([own 0 3 0 (i + 1)], [((0 : Nat), aA.mk true true 3 (i + 1) fun i ↦ rat (↑(z i) : Rat) 64)])) := by kernel_rfl
theorem DD {rl : List (Nat × Nat)} {l i s s' s2 : Nat} {x y : Nat → Rat} {t : Rat} (hx : ∀ i, i < l → x i = y i) (ht : t = y l) (h1 : s ≤ s2) (h2 : Sz (y l) s2) (hi : i < l + 1) : gm rl (if i < l then .rat (x i) s else nth [.rat t s'] (.rat 0 1) (i - l + 0)) (.rat (y i) s2) := by
 by_cases h : i < l
 ·rw [if_pos h, hx i h]; exact .inr ⟨rfl, bI rfl h1⟩
 ·have : i = l := by omega
  subst this
  rw [if_neg h, Nat.sub_self]
  exact .inr ⟨rfl, eE ht h2⟩
theorem zg : aW P qB := ep (aD CG bg)
theorem FB : aW P uT := ep (aD sX bg)
abbrev Eu (n : Nat) (z : Nat → Int) (i : Nat) : List AV := sn n z (match i with
 | 0 => .nil
 | _ + 1 => .own 0 3 0 i) i
abbrev w9 (z : Nat → Int) (i : Nat) : aC := match i with
 | 0 => []
 | _ + 1 => [(0, mb i z)]
theorem F7 {P' : ah → aE → Prop} {n : Nat} {z : Nat → Int} (hn : 0 < n) (hn2 : n < 2 ^ 20) (hz : ∀ i, i < n → -2 ^ 63 ≤ z i ∧ z i < 2 ^ 63) (c : Ctx) (hk : Kept [] c) (hD : ak Go.Am.N.P c n8.ntmps (part jL [1,1,1]) ⟨aB jZ (Eu n z n), w9 z n, 1⟩ P') : ak Go.Am.N.P c n8.ntmps jL ⟨aK 0 [mW n z], [], 0⟩ P' := by
 have hs : ∀ i, i < n → Sz ((z i : Int) : Rat) 64 := fun i hi => wV (y := 0) (hz i hi).1 (hz i hi).2
 refine ak.kz hT zg hm (x := jL) [1,1,0,1] (i := 0) (y := part jL [1,1,0,1,0,0]) (z := part jL [1,1,1]) (by kernel_rfl) (by kernel_rfl) (by kernel_rfl) AJ.dst hk (f1 := []) (f2 := [9]) 60 jZ 1 (fun i : Nat => Eu n z i) (fun i => w9 z i) (fun i => i ≤ n) (fun i => i = n) (fun i => n - i) (fun _ => False) ⟨_, Yq, ?_⟩ (fun i hi => ?_) (fun i hi => ?_) (fun _ _ h => h.elim)
 ·simp only [aa.all, ax]
  exact ⟨0, Nat.zero_le _, gh.vals rfl⟩
 ·cases i with
  | zero =>
   refine ⟨_, Lk, ?_⟩
   simp only [aa.all, ax, decide_eq_true_eq, decide_eq_false_iff_not]
   refine ⟨fun h => ⟨⟨by omega, by omega⟩, ⟨(hz 0 hn).1, (hz 0 hn).2, by omega, by omega, by omega⟩, by omega, 1, by omega, by dsimp only; omega, [(0, 32769)], rfl, rfl, rfl, cz rfl rfl rfl (fun j hj => ?_) trivial⟩, fun h => by omega⟩
   have hj : j = 0 := by omega
   subst hj
   exact .inr ⟨rfl, eE rfl (hs 0 hn)⟩
  | succ i =>
   refine ⟨_, Oh, ?_⟩
   simp only [aa.all, ax, decide_eq_true_eq, decide_eq_false_iff_not]
   have e : ((i + 1 : Nat) : Int).toNat = i + 1 := by omega
   simp only [e]
   refine ⟨fun h => ⟨⟨by omega, by omega⟩, ⟨(hz (i + 1) (by omega)).1, (hz (i + 1) (by omega)).2, by omega, by omega⟩, by omega, i + 2, by omega, by dsimp only; omega, [(0, 32769)], rfl, rfl, rfl, cz rfl rfl rfl (fun j hj => DD (x := fun i => ((z i : Int) : Rat)) (y := fun i => ((z i : Int) : Rat)) (fun _ _ => rfl) rfl (Nat.le_refl _) (hs (i + 1) (by omega)) hj) trivial⟩, fun h => ⟨rfl, i + 1, by omega, [(0, 0)], rfl, rfl, rfl, cz rfl rfl rfl (fun j hj => aR rfl rfl) trivial⟩⟩
 ·subst hi; exact hD
abbrev G8 (n : Nat) (z : Nat → Int) (i : Nat) : List AV := yF n z (match i with
 | 0 => .nil
 | _ + 1 => .own 0 3 0 i) i
theorem ZF {P' : ah → aE → Prop} {n : Nat} {z : Nat → Int} (hn : 0 < n) (hn2 : n < 2 ^ 20) (hz : ∀ i, i < n → -2 ^ 63 ≤ z i ∧ z i < 2 ^ 63) (c : Ctx) (hk : Kept [] c) (hD : ak Go.Am.N.P c qf.ntmps (part j5 [1,1,1]) ⟨aB lI (G8 n z n), w9 z n, 1⟩ P') : ak Go.Am.N.P c qf.ntmps j5 ⟨aK 0 [mW n z], [], 0⟩ P' := by
 have hs : ∀ i, i < n → Sz ((z i : Int) : Rat) 64 := fun i hi => wV (y := 0) (hz i hi).1 (hz i hi).2
 refine ak.kz hT FB hm (x := j5) [1,1,0,1] (i := 0) (y := part j5 [1,1,0,1,0,0]) (z := part j5 [1,1,1]) (by kernel_rfl) (by kernel_rfl) (by kernel_rfl) DH.dst hk (f1 := []) (f2 := [8]) 60 lI 1 (fun i : Nat => G8 n z i) (fun i => w9 z i) (fun i => i ≤ n) (fun i => i = n) (fun i => n - i) (fun _ => False) ⟨_, Rl, ?_⟩ (fun i hi => ?_) (fun i hi => ?_) (fun _ _ h => h.elim)
 ·simp only [aa.all, ax]
  exact ⟨0, Nat.zero_le _, gh.vals rfl⟩
 ·cases i with
  | zero =>
   refine ⟨_, Tx, ?_⟩
   simp only [aa.all, ax, decide_eq_true_eq, decide_eq_false_iff_not]
   refine ⟨fun h => ⟨⟨⟨by omega, by omega⟩, (hz 0 hn).1, (hz 0 hn).2, by omega, by omega, by omega⟩, by omega, 1, by omega, by dsimp only; omega, [(0, 45057)], rfl, rfl, rfl, cz rfl rfl rfl (fun j hj => ?_) trivial⟩, fun h => by omega⟩
   have hj : j = 0 := by omega
   subst hj
   exact .inr ⟨rfl, eE rfl (hs 0 hn)⟩
  | succ i =>
   refine ⟨_, OX, ?_⟩
   simp only [aa.all, ax, decide_eq_true_eq, decide_eq_false_iff_not]
   have e : ((i + 1 : Nat) : Int).toNat = i + 1 := by omega
   simp only [e]
   refine ⟨fun h => ⟨⟨⟨by omega, by omega⟩, (hz (i + 1) (by omega)).1, (hz (i + 1) (by omega)).2, by omega, by omega⟩, by omega, i + 2, by omega, by dsimp only; omega, [(0, 45057)], rfl, rfl, rfl, cz rfl rfl rfl (fun j hj => DD (x := fun i => ((z i : Int) : Rat)) (y := fun i => ((z i : Int) : Rat)) (fun _ _ => rfl) rfl (Nat.le_refl _) (hs (i + 1) (by omega)) hj) trivial⟩, fun h => ⟨rfl, i + 1, by omega, [(0, 0)], rfl, rfl, rfl, cz rfl rfl rfl (fun j hj => aR rfl rfl) trivial⟩⟩
 ·subst hi; exact hD
def wQ : Nat → (Nat → AV) → Bool
 | 0, _ => true
 | n + 1, f => wQ n f && match f n with
  | .int .i64 z => decide (-2 ^ 63 ≤ z) && decide (z < 2 ^ 63)
  | _ => false
def TB (n : Nat) (f : Nat → AV) : Bool := Nat.beq n 3 && !(decide (intOf (f 0) = 0) && decide (intOf (f 1) = 0))
def y8 (n : Nat) (f : Nat → AV) : Bool := Nat.blt 0 n && Nat.blt n 100 && wQ n f
def yK : Spec := oS fun K l => match l with
 | [.aj 1 n f] => match y8 n f, TB n f with
  | true, true => some ⟨.aj 3 n (fun i => .rat ((intOf (f i) : Int) : Rat) 64), [], []⟩
  | true, false => some ⟨nc [.own K 3 0 n], [(K, mb n fun i => intOf (f i))], []⟩
  | _, _ => none
 | _ => none
def C7 : Spec := oS fun K l => match l with
 | [.aj 1 n f] => match y8 n f with
  | true => some ⟨nc [.own K 3 0 n], [(K, mb n fun i => intOf (f i))], []⟩
  | false => none
 | _ => none
theorem ze : ∀ {n : Nat} {f : Nat → AV}, wQ n f = true → ∀ i, i < n → f i = .int .i64 (intOf (f i)) ∧ -2 ^ 63 ≤ intOf (f i) ∧ intOf (f i) < 2 ^ 63
 | 0, _, _, i, hi => by omega
 | n + 1, f, h, i, hi => by
  simp only [wQ, Bool.and_eq_true] at h
  by_cases he : i = n
  ·subst he
   have h2 := h.2
   split at h2
   ·rename_i z hz
    simp only [Bool.and_eq_true, decide_eq_true_eq] at h2
    rw [hz]
    exact ⟨rfl, h2⟩
   ·simp at h2
  ·exact ze h.1 i (by omega)
theorem Bk {n : Nat} {f : Nat → AV} (h : y8 n f = true) : 0 < n ∧ n < 100 ∧ (∀ i, i < n → -2 ^ 63 ≤ intOf (f i) ∧ intOf (f i) < 2 ^ 63) ∧ dB [.aj 1 n f] [mW n fun i => intOf (f i)] := by
 simp only [y8, Bool.and_eq_true, Nat.blt_eq] at h
 exact ⟨h.1.1, h.1.2, fun i hi => (ze h.2 i hi).2, qw rfl fun i hi => (ze h.2 i hi).1, trivial⟩
theorem By : ∀ K args pre r, yK K args pre = some r → ay P qk K args pre r := by
 refine yA fun K args r hk hs => ?_
 split at hs
 ·rename_i n f
  split at hs
  ·rename_i h1 h2
   obtain ⟨a1, a2, a3, a4⟩ := Bk h1
   simp only [Option.some.injEq] at hs
   subst hs
   refine fk (fX (r := aF (.aj 3 n (fun i => .rat ((intOf (f i) : Int) : Rat) 64)) []) hT AJ rfl (of_decide_eq_true (by kernel_rfl)) rfl (fun _ c h0 => F7 a1 (by omega) a3 c (pC h0) ?_) K []) hk a4 []
   obtain ⟨m, rfl⟩ : ∃ m, n = m + 1 := ⟨n - 1, by omega⟩
   refine ak.jE ((az.fin hT zg hm 60 Sj (by kernel_rfl) ?_).mono fun _ _ h => .inl h)
   simp only [aa.all, ax]
   exact .refl _
  ·rename_i h1 h2
   obtain ⟨a1, a2, a3, a4⟩ := Bk h1
   simp only [Option.some.injEq] at hs
   subst hs
   refine G4 hT AJ (fun _ => Bn hk rfl a4) (of_decide_eq_true (by kernel_rfl)) fun _ c hkp => F7 a1 (by omega) a3 c hkp ?_
   obtain ⟨m, rfl⟩ : ∃ m, n = m + 1 := ⟨n - 1, by omega⟩
   refine ak.bk hT zg hm 60 [2] KA (by kernel_rfl) fun s' hs' => ⟨.inr rfl, [2], _, [.own 0 3 0 (m + 1)], _, 0, _, hs', by kernel_rfl, ⟨⟨rfl, cy (by simp [aZ, look]) rfl rfl⟩, trivial⟩, rfl, g9 rfl fun i hi => aG rfl⟩
  ·simp at hs
 ·simp at hs
theorem aaI : ∀ K args pre r, C7 K args pre = some r → ay P wU K args pre r := by
 refine yA fun K args r hk hs => ?_
 split at hs
 ·rename_i n f
  split at hs
  ·rename_i h1
   obtain ⟨a1, a2, a3, a4⟩ := Bk h1
   simp only [Option.some.injEq] at hs
   subst hs
   refine G4 hT DH (fun _ => Bn hk rfl a4) (of_decide_eq_true (by kernel_rfl)) fun _ c hkp => ZF a1 (by omega) a3 c hkp ?_
   obtain ⟨m, rfl⟩ : ∃ m, n = m + 1 := ⟨n - 1, by omega⟩
   refine ak.bk hT FB hm 60 [2] Xf (by kernel_rfl) fun s' hs' => ⟨.inr rfl, [2], _, [.own 0 3 0 (m + 1)], _, 0, _, hs', by kernel_rfl, ⟨⟨rfl, cy (by simp [aZ, look]) rfl rfl⟩, trivial⟩, rfl, g9 rfl fun i hi => aG rfl⟩
  ·simp at hs
 ·simp at hs
end Go.Am.B

/- ref10.Check. -/
namespace Go.Am.B
open Go Go.Am.N AV aa ah IntKind
end Go.Am.B

/- ref09.Sum; contracts of sums. -/
namespace Go.Am.B
open Go Go.Am.N AV aa ah IntKind
end Go.Am.B

/- basis.Blossom. -/
namespace Go.Am.B
open Go Go.Am.N AV aa ah IntKind
end Go.Am.B

/- ref09.Polar, ref09.Blossom; contracts of polar forms. -/
namespace Go.Am.B
open Go Go.Am.N AV aa ah IntKind
end Go.Am.B

/- ref02: SameList, Mid, Text; ref08.Greville. -/
namespace Go.Am.B
open Go Go.Am.N AV aa ah IntKind
theorem Qg : aP P og uR (au uR) := aL VR (by kernel_rfl) (by kernel_rfl) (by kernel_rfl)
theorem P1 : aP P yg vH (au vH) := aL RH (by kernel_rfl) (by kernel_rfl) (by kernel_rfl)
theorem Us : aP P tF kA (au kA) := aL Rr (by kernel_rfl) (by kernel_rfl) (by kernel_rfl)
abbrev qJ : List Nat := [0, 1, 4, 5]
abbrev zO (n m : Nat) (f g : Nat → Rat) (i : Nat) : List AV := [bH f n sU, bH g m sU, .bool false, .int .i64 i]
noncomputable abbrev rj : Code := au uR
theorem Rw {n m : Nat} {f g : Nat → Rat} : aI T od [10] 60 qJ (before rj [1,1,0,1]) ⟨aK 0 [bH f n sU, bH g m sU], [], 0⟩ =
  let c2 : AV := aj 3 m fun i ↦ rat (g i) 4294967296; let c1 : AV := aj 3 n fun i ↦ rat (f i) 4294967296; some (fork ((↑n : Int) != (↑m : Int)) (leaf ret ([c1, c2, AV.bool false, tuple []], [])) (leaf normal ([c1, c2, AV.bool false, int i64 (0 : Int)], []))) := by kernel_rfl
theorem Z6 {n m i : Nat} {f g : Nat → Rat} : aI T od [14, 26] 60 qJ [part rj [1,1,0,1,0,0]] ⟨aB qJ (zO n m f g i), [], 0⟩ =
  let c4 : AV := aj 3 m fun i ↦ rat (g i) 4294967296; let c3 : AV := aj 3 n fun i ↦ rat (f i) 4294967296; let c2 : Int := (↑i : Int); let c5 : Int := c2 + (1 : Int); let c1 : List AV × aC := ([c3, c4, AV.bool false, int i64 c2], []); some (fork (decide (c2 < (↑n : Int))) (af [(0 : Int) ≤ c2 ∧ c2.toNat < n, (0 : Int) ≤ c2 ∧ c2.toNat < m] (fork (!decide (f c2.toNat = g c2.toNat)) (leaf ret c1) (af [-(2 : Int) ^ 63 ≤ c5 ∧ c5 < (2 : Int) ^ 63] (leaf normal ([c3, c4, AV.bool false, int i64 c5], []))))) (leaf (exit 0) c1)) := by kernel_rfl
theorem Rv {n m i : Nat} {f g : Nat → Rat} : ct T od [] 60 uR [part rj [1,1,1]] ⟨aB qJ (zO n m f g i), [], 0⟩ =
  some (leaf ret [AV.bool true]) := by kernel_rfl
def fJ (n : Nat) (f : Nat → Rat) (m : Nat) (g : Nat → Rat) : Bool := decide (n = m ∧ ∀ i, i < n → f i = g i)
theorem Sr {n m : Nat} {f g : Nat → Rat} (hn : n < 2 ^ 40) (hm2 : m < 2 ^ 40) (K : Nat) : ay P og K [bH f n sU, bH g m sU] [] (aF (.bool (fJ n f m g)) []) := by
 refine kQ (r := aF (.bool (fJ n f m g)) []) hT Db hm Qg rfl (of_decide_eq_true (by kernel_rfl)) rfl [1,1,0,1] (i := 0) (y := part rj [1,1,0,1,0,0]) (z := part rj [1,1,1]) (by kernel_rfl) (by kernel_rfl) (by kernel_rfl) (f1 := [10]) (f2 := [14, 26]) (f3 := []) 60 qJ 0
  (fun i : Nat => zO n m f g i) (fun _ => []) (fun i => i ≤ n ∧ n = m ∧ ∀ j, j < i → f j = g j) (fun i => i = n ∧ n = m ∧ ∀ j, j < i → f j = g j) (fun i => n - i) (fun _ => ⟨⟨_, Rw, ?_⟩, fun i ⟨h1, h2, h3⟩ => ⟨_, Z6, ?_⟩, fun i ⟨h1, h2, h3⟩ => ⟨_, Rv, ?_⟩⟩) K []
 ·simp only [aa.all, ax, bne_iff_ne, ne_eq, bne_eq_false_iff_eq]
  exact ⟨fun h => ⟨[.bool false], by kernel_rfl, fQ (decide_eq_false (fun hh => h (by omega))).symm⟩, fun h => ⟨0, ⟨by omega, by omega, fun j hj => by omega⟩, .vals rfl⟩⟩
 ·simp only [aa.all, ax, decide_eq_true_eq, decide_eq_false_iff_not, Bool.not_eq_true', Bool.not_eq_false', Int.toNat_natCast]
  (repeat' with_reducible first | refine And.intro ?_ ?_ | intro _)
  all_goals first | omega | skip
  ·rename_i a b
   exact ⟨[.bool false], by kernel_rfl, fQ (decide_eq_false (fun hh => b (hh.2 i (by omega)))).symm⟩
  ·rename_i a b
   refine ⟨i + 1, ⟨by omega, h2, fun j hj => ?_⟩, by dsimp only; omega, .vals rfl⟩
   by_cases hj2 : j = i
   ·subst hj2; exact b
   ·exact h3 j (by omega)
  ·exact ⟨rfl, i, ⟨by omega, h2, h3⟩, .vals rfl⟩
 ·subst h1
  exact fQ (decide_eq_true ⟨h2, h3⟩).symm
def wu : Spec := eH (kC (kL sU) (kC (kL sU) kN)) (fun a => .bool (fJ a.1.1 a.1.2 a.2.1.1 a.2.1.2)) fun a => [a.1.1 < 2 ^ 40, a.2.1.1 < 2 ^ 40]
theorem Ap : ∀ K args pre r, wu K args pre = some r → ay P og K args pre r := en fun _ K hn => Sr hn.1 hn.2 K
end Go.Am.B

/- brepkernelmade: Number. -/
namespace Go.Am.B
open Go Go.Am.N AV
end Go.Am.B

/- law09: made, at. -/
namespace Go.Am.B
open Go Go.Am.N AV aa ah IntKind
end Go.Am.B

/- ref02.Text of a few numbers; law09.awake. -/
namespace Go.Am.B
open Go Go.Am.N AV aa ah IntKind
def yM : aO := [sG, (pQ, zP)]
theorem UG : bq T yM [] 60 kA (au kA) ⟨aK 0 [.mag 3], [], 0⟩ =
  let c1 : Int := (↑(1 : Nat) : Int); some (af [nl 3 < 2 ^ 40, (0 : Int) < (1000000000 : Int), (1000000000 : Int) < (2 : Int) ^ 32] (af [(10 : Int) ≠ (0 : Int), (0 : Nat) < 1 ∧ 1 * ((1 : Nat) + 1) * 2 ≤ 2 ^ 47] (af [(10 : Int) ≠ (0 : Int)] (af [(0 : Int) ≤ c1 ∧ c1 ≤ c1 ∧ c1 ≤ (2 : Int) ^ 47 ∧ c1 * c1 ≤ (2 : Int) ^ 47] (leaf ret [str [UInt8.ofNat (u8.wrap (u32.wrap ((48 : Int) + (↑((3 : Nat) % Int.toNat (1000000000 : Int)) : Int).tmod (10 : Int)))).toNat]]))))) := by kernel_rfl
theorem aaU : aW P yM := cR (aD DQ bg)
theorem Kn.congr {n p : Nat} {k k' : Nat → Rat} (h : Kn n p k) (e : ∀ i, i < n → k i = k' i) : Kn n p k' := by
 have hp := h.p1
 have hl := h.len
 refine ⟨h.p1, h.len, fun i hi => ?_, fun i hi => ?_, fun i h1 h2 => ?_, fun i h1 h2 => ?_⟩
 ·rw [← e i (by omega), ← e (i + 1) hi]; exact h.sorted i hi
 ·rw [← e i (by omega), ← e 0 (by omega)]; exact h.first i hi
 ·rw [← e i h2, ← e (n - 1) (by omega)]; exact h.last i h1 h2
 ·rw [← e i (by omega), ← e (i + p) (by omega)]; exact h.mult i h1 h2
theorem MQ {f : Nat → Rat} (h : ∀ i, i < 6 → f i = iZ 2 0 (fun _ => ((0 : Int) : Rat)) ((0 : Int) : Rat) i) : Kn 6 2 f :=
 ((KG.start (p := 2) (by omega) (z := 0) (by omega) (by omega)).done : Kn (2 * 2 + 2 + 0) 2 _).congr fun i hi => (h i hi).symm
end Go.Am.B

/- shapes, vector, ref14: by the evaluator; law14.awake. -/
namespace Go.Am.B
open Go Go.Am.N AV aa ah IntKind
theorem Tj : aP P wK r5 (au r5) := aL RG (by kernel_rfl) (by kernel_rfl) (by kernel_rfl)
theorem Xx {q : Rat} {n : Nat} : bq T GA [8] 60 r5 (au r5) ⟨aK 0 [.rat q n], [], 0⟩ =
  let c4 : Int := (↑(nl q.num.natAbs) : Int); let c3 : Bool := !decide (q < 0); let c2 : List AV := [mag q.num.natAbs, mag (if q.den = 1 then 0 else q.den)]; let c1 : Prop := 0 < 1; some (af [c1, n < 2 ^ 44, c1] (fork c3 (af [c1, c3 = true, c1, c1] (af [c1, c1] (af [c1] (leaf ret [agg (AV.bool (bif true then decide (c4 > (0 : Int)) else false) :: c2)])))) (af [c1, c3 = false, c1] (af [c1, c1] (af [c1] (leaf ret [agg (AV.bool false :: c2)])))))) := by kernel_rfl
theorem Q7 {q : Rat} {n : Nat} (hn : n < 2 ^ 40) (K : Nat) : ay P wK K [.rat q n] [] (aF (.rat (-q) n) []) := by
 refine gT fun ⟨hs1, _⟩ => ?_
 have hs1 : Sz q n := hs1
 have hs2 := hs1.neg
 have e1 : (-q).num.natAbs = q.num.natAbs := by rw [Rat.neg_num, Int.natAbs_neg]
 have e2 : (-q).den = q.den := Rat.neg_den q
 refine bt (r := aF (.rat (-q) n) []) hT oZ hm Tj rfl (of_decide_eq_true (by kernel_rfl)) rfl 60 Xx (fun _ => ?_) K []
 simp only [aa.all, ax]
 refine ⟨⟨by omega, by omega, by omega⟩, fun hb => ⟨⟨by omega, hb, by omega, by omega⟩, ⟨by omega, by omega⟩, by omega, j6 hs2 ?_ e1.symm (by rw [e2])⟩, fun hb => ⟨⟨by omega, hb, by omega⟩, ⟨by omega, by omega⟩, by omega, j6 hs2 ?_ e1.symm (by rw [e2])⟩⟩
 ·have hq : ¬ q < 0 := by simpa using hb
  rw [cond_true]
  have h1 : ¬ q.num < 0 := fun h => hq (fc.2 h)
  exact ((decide_eq_decide (p := -q < 0) (q := (nl q.num.natAbs : Int) > 0)).2 (by
   rw [fc, Rat.neg_num]
   have := eL (N := q.num.natAbs)
   omega)).symm
 ·have hq : q < 0 := by simpa using hb
  have := fc.1 hq
  exact (decide_eq_false (p := -q < 0) (by rw [fc, Rat.neg_num]; omega)).symm
def HL : aO := [(wK, bA fun l => match l with
 | [.rat q n] => match Nat.blt n (2 ^ 40) with
  | true => some (aF (.rat (-q) n) [])
  | false => none
 | _ => none)]
noncomputable def ov : aO := [(Bl, cP T (sG :: jf) [] 60 zw), (zV, cP T (sG :: jf) [] 60 Bx), (Dx, cP T (sG :: jf) [] 60 Ii)]
noncomputable def zJ : aO := [(AR, cP T (sG :: ov) [] 60 Bp), (JX, cP T (sG :: ov) [] 60 FL), (A8, cP T (sG :: ov) [] 60 Ai)]
noncomputable def Jj : aO := [(BY, cP T (sG :: zJ) [] 60 BZ)]
noncomputable def oT : aO := [(qk, yK), (yR, cP T [sG] [] 60 uw), (Dl, cP T (sG :: (zJ ++ jf)) [] 60 Ct), (qy, cP T (sG :: (qk, yK) :: jf) [] 200 iP)]
noncomputable def Fb : aO := [(Fw, cP T (sG :: oT) [] 200 Gv), (Fq, cP T (sG :: oT) [] 200 Hl), (D3, cP T (sG :: (ov ++ (HL ++ jf))) [] 200 C8)]
noncomputable def Je : aO := [(mC, cP T (sG :: (l7, cP T (sG :: jf) [] 200 pS) :: (oT ++ jf)) [] 400 lW)]
noncomputable def rF : aO := [(wU, C7), (Jh, cP T (sG :: gC) [] 60 Ex), (Dg, cP T (sG :: gC) [] 60 I6)]
noncomputable def FH : aO := [(C0, cP T (sG :: rF) [] 200 HE)]
noncomputable def nL : aO := [(Im, cP T (sG :: gC) [] 60 JG), (CV, cP T (sG :: gC) [] 60 HA), (CT, cP T (sG :: gC) [] 60 IE), (JO, cP T (sG :: gC) [] 60 G6), (Gj, cP T (sG :: gC) [100010, 100017] 60 EJ)]
noncomputable def EX : aO := [(og, wu), (oY, cP T (sG :: (nL ++ gC)) [200029, 200042] 200 o7)]
noncomputable def It : aO := [(Iw, cP T (sG :: EX) [100010, 100017] 60 Fh)]
def GH : Spec := bA fun l => match l with
 | [.mag 3] => some (aF (.str [51]) [])
 | [.mag 5] => some (aF (.str [53]) [])
 | _ => none
def K4 : aO := [sG, (tF, GH)]
def Ef : Spec := bA fun l => match l with
 | [.rat q _] => match decide (q = 3 / 5) with
  | true => some (aF (.str [51, 47, 53]) [])
  | false => none
 | _ => none
noncomputable def Jv : aO := sG :: (wz, E2) :: (oE, yb) :: (yg, Ef) :: (Fb ++ (Je ++ (FH ++ (nL ++ (Jj ++ (It ++ gC))))))
theorem ML : bq T yM [] 60 kA (au kA) ⟨aK 0 [.mag 5], [], 0⟩ =
  let c1 : Int := (↑(1 : Nat) : Int); some (af [nl 5 < 2 ^ 40, (0 : Int) < (1000000000 : Int), (1000000000 : Int) < (2 : Int) ^ 32] (af [(10 : Int) ≠ (0 : Int), (0 : Nat) < 1 ∧ 1 * ((1 : Nat) + 1) * 2 ≤ 2 ^ 47] (af [(10 : Int) ≠ (0 : Int)] (af [(0 : Int) ≤ c1 ∧ c1 ≤ c1 ∧ c1 ≤ (2 : Int) ^ 47 ∧ c1 * c1 ≤ (2 : Int) ^ 47] (leaf ret [str [UInt8.ofNat (u8.wrap (u32.wrap ((48 : Int) + (↑((5 : Nat) % Int.toNat (1000000000 : Int)) : Int).tmod (10 : Int)))).toNat]]))))) := by kernel_rfl
theorem Xu : bq T K4 [] 60 vH (au vH) ⟨aK 0 [.agg [.bool false, .mag 3, .mag 5]], [], 0⟩ =
  some (leaf ret [str [(51 : UInt8), (47 : UInt8), (53 : UInt8)]]) := by kernel_rfl
theorem UK : bq T Jv [100027, 100033, 100038, 100043, 100047, 100053] 200 AE (au AE) ⟨aK 0 [], [], 0⟩ =
  let c49 : Int := (↑(4 : Nat) : Int); let c48 : List UInt8 := [(51 : UInt8), (47 : UInt8), (53 : UInt8)]; let c47 : Prop := 3 ≤ 3; let c46 : Prop := (0 : Int) ≤ (0 : Int); let c44 : Rat := 0 * 0; let c42 : Nat := 2 ^ 40; let c41 : Nat := 224 + 1; let c28 : Int := i64.wrap (i64.wrap ((2 : Int) * (4 : Int)) + (1 : Int)); let c27 : Int := (2 : Int) ^ 63; let c25 : Rat := (↑(2 : Int) : Rat); let c22 : Nat := Int.toNat (0 : Int) + 1; let c21 : Nat := nat_lit 0 + 0; let c20 : Nat := nat_lit 2 + 0; let c19 : Nat := 1 + 1; let c18 : Nat := nat_lit 1 + 0; let c17 : AV := rat 0 1; let c15 : Rat := (↑(0 : Int) : Rat); let c14 : Nat := 24 + 1; let c12 : Nat := 56 + 1; let c11 : Nat := 3 + 2; let c7 : Nat := 2 ^ 47; let c6 : AV := int i64 (1 : Int); let c3 : AV := int i64 (0 : Int); let c2 : Prop := 0 < 1; let c1 : Rat := (↑(1 : Int) : Rat); let c53 : List AV := [c6, c3]; let c52 : Prop := c11 * c12 * 2 ≤ c7; let c50 : Nat := c22 + 1; let c45 : Nat := c11 + 1; let c43 : Nat := c19 + 1; let c40 : Rat := c1 / (c1 + c1 * c1); let c39 : Prop := (bif false then true else !decide (c1 = c1)) = false; let c38 : Nat := c11 + 2 + 2; let c35 : Rat := (↑(intOf (nth [c6, c3, c3] c3 c21)) : Rat) + 0; let c32 : Rat := (↑(intOf (nth [c6, c3, c3] c3 c18)) : Rat) + 0; let c31 : Rat := (↑(intOf (nth [c6, c3, c3] c3 c20)) : Rat) + 0; let c24 : Rat := 0 + 0 * c1 + c44 + c1 * 0 + 0; let c23 : List AV := [c3, c3, c3, c6, c6, c6]; let c9 : AV := rat c15 (Max.max 1 (aQ (Int.natAbs (0 : Int)))); let c8 : AV := rat c1 (Max.max 1 (aQ (Int.natAbs (1 : Int)))); let c5 : Prop := c2 ∧ 1 * c41 * 2 ≤ c7; let c4 : Prop := c19 * c41 * 2 ≤ c7; let c37 : Rat := (↑(intOf (nth (c3 :: c53) c3 c18)) : Rat) + 0; let c36 : Rat := (↑(intOf (nth (c3 :: c53) c3 c20)) : Rat) + 0; let c34 : Rat := (↑(intOf (nth (c3 :: c53) c3 c21)) : Rat) + 0; let c33 : Rat := (↑(intOf (nth (c6 :: c53) c3 c20)) : Rat) + 0; let c30 : Rat := (↑(intOf (nth (c6 :: c53) c3 c18)) : Rat) + 0; let c29 : Rat := (↑(intOf (nth (c6 :: c53) c3 c21)) : Rat) + 0; let c16 : Rat := 0 + (c1 - c1 * c1) * c40 * c1 + -((c1 + c1) * c40) * 0 + c44 + 0; let c13 : Rat := 0 + (c1 + c1) * c40 * c1 + ((c1 - c1 * c1) * c40 + 0) * 0 + c44 + 0; let c10 : Nat := c43 + 1 + 1; let c51 : Nat := c10 + 1 + 1; let c26 : Nat := c51 + 1; some (af [c2, c2, c2, c2, c2, c2, c2, -c27 ≤ (1 : Int), (1 : Int) < c27, -c27 ≤ (2 : Int), (2 : Int) < c27, bZ (fun i ↦ rat (↑(intOf (nth c23 c3 (i + 0 + 0))) : Rat) 64) 6 sK, eZ (fun i ↦ nth [agg [agg [c8, c9, c9], c8], agg [agg [c8, c8, c9], c8], agg [agg [c9, c8, c9], rat c25 (Max.max 1 (aQ (Int.natAbs (2 : Int))))]] (agg [agg [c17, c17, c17], c17]) (i + 0)) 3 sK, (64 : Nat) ≤ sK, Kn 6 (Int.toNat (2 : Int)) fun i ↦ aY (rat (↑(intOf (nth c23 c3 (i + 0 + 0))) : Rat) 64), (0 : Int) ≤ (2 : Int), (2 : Int) ≤ (6 : Int), (6 : Nat) < c42, (↑(3 : Nat) : Int) = (↑(6 : Nat) : Int) - (2 : Int) - (1 : Int)] (af [c2, c2, c2, c2, c2, c2, c2, c2, c2, c2] (af [c2, c2, c2, c2, c2, c2, c2, c2, c2, c2, c2, c52, (c11 + 2) * c12 * 2 ≤ c7, c38 * c12 * 2 ≤ c7, (c38 + 2) * c12 * 2 ≤ c7, (c38 + 2 + 1) * c12 * 2 ≤ c7, c46 ∧ (0 : Int) ≤ c49 ∧ c49 ≤ (2 : Int) ^ 47 ∧ c49 * (↑(56 : Nat) : Int) ≤ (2 : Int) ^ 47, c22 * c12 * 2 ≤ c7, c50 * c12 * 2 ≤ c7, (c50 + 1) * c12 * 2 ≤ c7, (c50 + 1 + 1) * c12 * 2 ≤ c7, c2, c2, c46 ∧ (0 : Int) ≤ c28 ∧ c28 ≤ (↑(9 : Nat) : Int), c5, c4, c2 ∧ 1 * c14 * 2 ≤ c7, c5, c4, c19 * c14 * 2 ≤ c7, c5, c4, c43 * c14 * 2 ≤ c7, c5, c4, (c43 + 1) * c14 * 2 ≤ c7, c5, c4, c10 * c14 * 2 ≤ c7, c5, c4, (c10 + 1) * c14 * 2 ≤ c7, c5, c4, c51 * c14 * 2 ≤ c7, c5, c4, c26 * c14 * 2 ≤ c7, c5, c4, (c26 + 1) * c14 * 2 ≤ c7, c2] (af [(fj 6 (fun i ↦ aY (rat (↑(intOf (nth c23 c3 (i + 0 + 0))) : Rat) 64)) (c1 / c25) == (0 : Int)) = true, (bif true then c48 == c48 else false) = true, c52, c45 * c12 * 2 ≤ c7, c2, c2, c46 ∧ (0 : Int) ≤ (3 : Int) ∧ (3 : Int) ≤ (↑(9 : Nat) : Int), c47, c2, c2, c2, c5, c47, c2, c2, c2, c4, c47, c2, c2, c2, c43 * c41 * 2 ≤ c7, c2, c2, c2, c2, c2, c2, c2, c2, ((2 : Int) == (2 : Int)) = true, bZ (fun i ↦ if i + 0 < c11 then if i + 0 < 3 then rat (↑(intOf (nth [c3, c3, c3] c3 (i + 0 + 0))) : Rat) 64 else rat (↑(intOf (nth [c6, c6] c3 (i + 0 - 3 + 0 + 0))) : Rat) 64 else nth [c8] c17 (i + 0 - c11 + 0)) c45 sU, bZ (fun i ↦ rat (↑(intOf (nth c23 c3 (i + 0 + 0))) : Rat) 64) 6 sU, c45 < c42, (6 : Nat) < c42, (bif true then fJ c45 (fun i ↦ aY (if i + 0 < c11 then if i + 0 < 3 then rat (↑(intOf (nth [c3, c3, c3] c3 (i + 0 + 0))) : Rat) 64 else rat (↑(intOf (nth [c6, c6] c3 (i + 0 - 3 + 0 + 0))) : Rat) 64 else nth [c8] c17 (i + 0 - c11 + 0))) 6 fun i ↦ aY (rat (↑(intOf (nth c23 c3 (i + 0 + 0))) : Rat) 64) else false) = true, decide (c35 = c1) = true, (bif true then decide (c32 = c15) else false) = true, (!bif true then decide (c31 = c15) else false) = false, c39, decide (c29 = c1) = true, (bif true then decide (c30 = c1) else false) = true, (!bif true then decide (c33 = c15) else false) = false, c39, decide (c34 = c15) = true, (bif true then decide (c37 = c1) else false) = true, (!bif true then decide (c36 = c15) else false) = false, (bif false then true else !decide (c25 = c25)) = false, (bif true then bif true then true else false else false) = true, c2, decide (c16 = 0) = true, (bif true then decide (c13 = c1) else false) = true, (bif true then bif true then decide (c24 = 0) else false else false) = true, (bif true then (0 : Int) == (0 : Int) else false) = true, (bif true then (↑(c26 + 1) : Int) == (9 : Int) else false) = true] (leaf ret [AV.bool true]))))) := by kernel_rfl
theorem OH : aW P HL := aD (by
 refine bQ fun K args r hk hs _ => ?_
 split at hs
 ·split at hs
  ·rename_i hb
   simp only [Option.some.injEq] at hs
   subst hs
   exact Q7 (by rw [Nat.blt_eq] at hb; exact hb) K
  ·simp at hs
 ·simp at hs) bg
theorem oN : aW P ov := aD (cV hT (cR jx) hm (aL HI (by kernel_rfl) (by kernel_rfl) (by kernel_rfl)) _ _) (aD (cV hT (cR jx) hm (aL DP (by kernel_rfl) (by kernel_rfl) (by kernel_rfl)) _ _) (aD (cV hT (cR jx) hm (aL Oq (by kernel_rfl) (by kernel_rfl) (by kernel_rfl)) _ _) bg))
theorem FZ : aW P zJ := aD (cV hT (cR oN) hm (aL Hs (by kernel_rfl) (by kernel_rfl) (by kernel_rfl)) _ _) (aD (cV hT (cR oN) hm (aL KZ (by kernel_rfl) (by kernel_rfl) (by kernel_rfl)) _ _) (aD (cV hT (cR oN) hm (aL Ji (by kernel_rfl) (by kernel_rfl) (by kernel_rfl)) _ _) bg))
theorem Qb : aW P Jj := aD (cV hT (cR FZ) hm (aL CO (by kernel_rfl) (by kernel_rfl) (by kernel_rfl)) _ _) bg
theorem s5 : aW P oT := aD By (aD (cV hT (cR bg) hm (aL FE (by kernel_rfl) (by kernel_rfl) (by kernel_rfl)) _ _) (aD (cV hT (cR (gk FZ jx)) hm (aL NZ (by kernel_rfl) (by kernel_rfl) (by kernel_rfl)) _ _) (aD (cV hT (cR (aD By jx)) hm (aL IQ (by kernel_rfl) (by kernel_rfl) (by kernel_rfl)) _ _) bg)))
theorem X6 : aW P Fb := aD (cV hT (cR s5) hm (aL Qa (by kernel_rfl) (by kernel_rfl) (by kernel_rfl)) _ _) (aD (cV hT (cR s5) hm (aL Rd (by kernel_rfl) (by kernel_rfl) (by kernel_rfl)) _ _) (aD (cV hT (cR (gk oN (gk OH jx))) hm (aL Pe (by kernel_rfl) (by kernel_rfl) (by kernel_rfl)) _ _) bg))
theorem MF : aW P Je := aD (cV hT (cR (aD (cV hT (cR jx) hm (aL IN (by kernel_rfl) (by kernel_rfl) (by kernel_rfl)) _ _) (gk s5 jx))) hm (aL Ja (by kernel_rfl) (by kernel_rfl) (by kernel_rfl)) _ _) bg
theorem yl : aW P rF := aD aaI (aD (cV hT (cR gO) hm (aL UJ (by kernel_rfl) (by kernel_rfl) (by kernel_rfl)) _ _) (aD (cV hT (cR gO) hm (aL OM (by kernel_rfl) (by kernel_rfl) (by kernel_rfl)) _ _) bg))
theorem ZQ : aW P FH := aD (cV hT (cR yl) hm (aL M4 (by kernel_rfl) (by kernel_rfl) (by kernel_rfl)) _ _) bg
theorem pI : aW P nL := aD (cV hT (cR gO) hm (aL P7 (by kernel_rfl) (by kernel_rfl) (by kernel_rfl)) _ _) (aD (cV hT (cR gO) hm (aL XP (by kernel_rfl) (by kernel_rfl) (by kernel_rfl)) _ _) (aD (cV hT (cR gO) hm (aL XY (by kernel_rfl) (by kernel_rfl) (by kernel_rfl)) _ _) (aD (cV hT (cR gO) hm (aL T2 (by kernel_rfl) (by kernel_rfl) (by kernel_rfl)) _ _) (aD (cV hT (cR gO) hm (aL Ye (by kernel_rfl) (by kernel_rfl) (by kernel_rfl)) _ _) bg))))
theorem P3 : aW P EX := aD Ap (aD (cV hT (cR (gk pI gO)) hm (aL Jy (by kernel_rfl) (by kernel_rfl) (by kernel_rfl)) _ _) bg)
theorem Ra : aW P It := aD (cV hT (cR P3) hm (aL YC (by kernel_rfl) (by kernel_rfl) (by kernel_rfl)) _ _) bg
theorem Vw : ∀ K args pre r, GH K args pre = some r → ay P tF K args pre r := by
 refine bQ fun K args r hk hs _ => ?_
 have fin : ∀ {N : Nat} {t : aa (List AV)} {l : List UInt8}, bq T yM [] 60 kA (au kA) ⟨aK 0 [.mag N], [], 0⟩ = some t → (t.all fun _ us => dN us (.str l)) → ay P tF K [.mag N] [] (aF (.str l) []) := fun h1 h2 =>
  bt (r := aF _ []) hT aaU hm Us rfl (of_decide_eq_true (by kernel_rfl)) rfl 60 h1 (fun _ => h2) K []
 split at hs <;> simp only [Option.some.injEq, reduceCtorEq] at hs
 all_goals subst hs
 ·exact fin UG (by simp only [aa.all, ax]; exact ⟨by decide, by decide, by decide, by decide, .refl _⟩)
 ·exact fin ML (by simp only [aa.all, ax]; exact ⟨by decide, by decide, by decide, by decide, .refl _⟩)
theorem Lt : ∀ K args pre r, Ef K args pre = some r → ay P yg K args pre r := by
 refine bQ fun K args r hk hs _ => ?_
 split at hs
 ·rename_i q n
  split at hs
  all_goals simp only [Option.some.injEq, reduceCtorEq] at hs
  all_goals subst hs
  obtain rfl : q = 3 / 5 := of_decide_eq_true ‹_›
  exact fk (bt (r := aF _ []) hT (cR (aD Vw bg)) hm P1 rfl (of_decide_eq_true (by kernel_rfl)) rfl 60 Xu (fun _ => .refl _) K []) rfl (show dB [_] [_] from ⟨by rw [← show kids (.rat (3 / 5) n) = [.bool false, .mag 3, .mag 5] from by kernel_rfl]; exact Hz, trivial⟩) []
 ·simp at hs
theorem J0 : aW P Jv := cR (aD Zl (aD Bm (aD Lt (gk X6 (gk MF (gk ZQ (gk pI (gk Qb (gk Ra gO)))))))))
theorem Zo (K : Nat) : ay P wG K [] [] (aF (.bool true) []) := by
 refine bt (r := aF (.bool true) []) hT J0 hm (aL WM (by kernel_rfl) (by kernel_rfl) (by kernel_rfl)) rfl (of_decide_eq_true (by kernel_rfl)) rfl 200 UK (fun _ => ?_) K []
 simp only [aa.all, ax]
 (repeat' with_reducible first | refine And.intro ?_ ?_)
 all_goals first | omega | decide | skip
 ·intro i hi
  match i, hi with
  | 0, _ | 1, _ | 2, _ | 3, _ | 4, _ | 5, _ => exact dF (by decide)
 ·intro i hi
  match i, hi with
  | 0, _ | 1, _ | 2, _ => exact cq ⟨cq ⟨dF (by decide), dF (by decide), dF (by decide), trivial⟩, dF (by decide), trivial⟩
 ·refine MQ fun i hi => ?_
  match i, hi with
  | 0, _ | 1, _ | 2, _ | 3, _ | 4, _ | 5, _ => decide +kernel
 ·decide +kernel
 ·intro i hi
  match i, hi with
  | 0, _ | 1, _ | 2, _ | 3, _ | 4, _ | 5, _ => exact dF (by decide)
 ·intro i hi
  match i, hi with
  | 0, _ | 1, _ | 2, _ | 3, _ | 4, _ | 5, _ => exact dF (by decide)
 all_goals first | exact .refl _ | decide +kernel
def FD : Spec := bA fun l => match l with
 | [] => some (aF (.bool true) [])
 | _ => none
theorem Qh : ∀ K args pre r, FD K args pre = some r → ay P wG K args pre r := by
 refine bQ fun K args r hk hs _ => ?_
 split at hs
 ·simp only [Option.some.injEq] at hs
  subst hs
  exact Zo K
 ·simp at hs
end Go.Am.B
