/- knots.Times, ref08.Times; knots.copied. -/
import Derived.Test.YtbghpkgbokbmlaaGreatY45
import Derived.Test.YtbghpkgbokbmlaaGreatC8
import Derived.Test.YtbghpkgbokbmlaaGreatZ2
import Derived.Test.YtbghpkgbokbmlaaGreatC2
import Derived.Test.YtbghpkgbokbmlaaGreatB33
set_option linter.unusedVariables false
namespace Go.Am.B
open Go Go.Am.N AV aa ah IntKind
end Go.Am.B

/- slices.CompactFunc of numbers; knots.Distinct. -/
namespace Go.Am.B
open Go Go.Am.N AV aa ah IntKind
end Go.Am.B

/- knots.Distinct, ref08.Distinct, slices.IsSortedFunc of numbers. -/
namespace Go.Am.B
open Go Go.Am.N AV aa ah IntKind
end Go.Am.B

/- knots.Check, ref08.Check. -/
namespace Go.Am.B
open Go Go.Am.N AV aa ah IntKind
end Go.Am.B

/- Poles, lists of poles, curves, surfaces as arguments. -/
namespace Go.Am.B
open Go Go.Am.N AV
def jw : AV → Pl
 | .agg [.agg [x, y, z], w] => ⟨⟨bQ x, bQ y, bQ z⟩, bQ w⟩
 | _ => ⟨⟨0, 0, 0⟩, 0⟩
def iC (f : Nat → AV) (n s : Nat) : Prop := ∀ i, i < n → bp (f i) (eu (jw (f i)) s)
abbrev iM (f : Nat → Pl) (n s : Nat) : AV := .ak 12 n (fun i => eu (f i) s)
theorem yG {u v : Pl} {n k : Nat} (h : u = v) (hk : n ≤ k) : bp (eu u n) (eu v k) :=
 h ▸ cN ⟨EK rfl hk, bJ rfl hk, trivial⟩
theorem ux {f : Nat → Pl} {n s s' : Nat} (h : s ≤ s') : iC (fun i => eu (f i) s) n s' := fun _ _ => yG rfl h
def yI : AV → Option (Nat × (Nat → AV))
 | .ak 12 n f => some (n, f)
 | .nil => some (0, fun _ => .nil)
 | _ => none
theorem Tr {v : AV} {n s : Nat} {f : Nat → AV} (h : yI v = some (n, f)) (ha : iC f n s) : bp v (iM (fun i => jw (f i)) n s) := by
 unfold yI at h
 split at h
 ·simp only [Option.some.injEq, Prod.mk.injEq] at h
  obtain ⟨rfl, rfl⟩ := h
  exact iV ha
 ·simp only [Option.some.injEq, Prod.mk.injEq] at h
  obtain ⟨rfl, rfl⟩ := h
  exact fK (by omega)
 ·simp at h
def uA (s : Nat) : Kind (Nat × (Nat → Pl)) := ⟨fun v => match yI v with
 | some (n, f) => some ((n, fun i => jw (f i)), [iC f n s])
 | none => none, fun a => iM a.2 a.1 s, fun {v a q} h hq => by
  split at h
  ·rename_i h1
   simp only [Option.some.injEq, Prod.mk.injEq] at h
   obtain ⟨rfl, rfl⟩ := h
   exact Tr h1 hq
  ·simp at h⟩
def IK (s : Nat) : Kind V3 := ⟨fun v => match v with
 | .agg [x, y, z] => match ga x, ga y, ga z with
  | some (x, a), some (y, b), some (z, c) => some (⟨x, y, z⟩, [a ≤ s, b ≤ s, c ≤ s])
  | _, _, _ => none
 | _ => none, fun a => vA a s, fun {v a q} h hq => by
  split at h
  ·split at h
   ·rename_i h1 h2 h3
    simp only [Option.some.injEq, Prod.mk.injEq] at h
    obtain ⟨rfl, rfl⟩ := h
    exact cN ⟨(gD h1).trans (bJ rfl hq.1), (gD h2).trans (bJ rfl hq.2.1), (gD h3).trans (bJ rfl hq.2.2), trivial⟩
   ·simp at h
  ·simp at h⟩
abbrev iF (h : Pl) (s : Nat) : AV := .agg [.rat h.n.x s, .rat h.n.y s, .rat h.n.z s, .rat h.d s]
def LX (s : Nat) : Kind Pl := ⟨fun v => match v with
 | .agg [x, y, z, w] => match ga x, ga y, ga z, ga w with
  | some (x, a), some (y, b), some (z, c), some (w, d) => some (⟨⟨x, y, z⟩, w⟩, [a ≤ s, b ≤ s, c ≤ s, d ≤ s])
  | _, _, _, _ => none
 | _ => none, fun a => iF a s, fun {v a q} h hq => by
  split at h
  ·split at h
   ·rename_i h1 h2 h3 h4
    simp only [Option.some.injEq, Prod.mk.injEq] at h
    obtain ⟨rfl, rfl⟩ := h
    exact cN ⟨(gD h1).trans (bJ rfl hq.1), (gD h2).trans (bJ rfl hq.2.1), (gD h3).trans (bJ rfl hq.2.2.1), (gD h4).trans (bJ rfl hq.2.2.2), trivial⟩
   ·simp at h
  ·simp at h⟩
structure Cu where
 p : Int
 n : Nat
 k : Nat → Rat
 m : Nat
 f : Nat → Pl
abbrev gv (c : Cu) (s r : Nat) : AV := .agg [.int .i64 c.p, g8 c.k c.n s, iM c.f c.m r]
def vl (s r : Nat) : Kind Cu := ⟨fun v => match v with
 | .agg [p, k, f] => match kI.read p, (kL s).read k, (uA r).read f with
  | some (p, q1), some ((n, k), q2), some ((m, f), q3) => some (⟨p, n, k, m, f⟩, q1 ++ (q2 ++ q3))
  | _, _, _ => none
 | _ => none, fun a => gv a s r, fun {v a q} h hq => by
  split at h
  ·split at h
   ·rename_i h1 h2 h3
    simp only [Option.some.injEq, Prod.mk.injEq] at h
    obtain ⟨rfl, rfl⟩ := h
    obtain ⟨q1, hq⟩ := dU.1 hq
    obtain ⟨q2, q3⟩ := dU.1 hq
    exact cN ⟨kI.ok h1 q1, (kL s).ok h2 q2, (uA r).ok h3 q3, trivial⟩
   ·simp at h
  ·simp at h⟩
structure Sf where
 u : Int
 v : Int
 a : Nat
 ku : Nat → Rat
 b : Nat
 kv : Nat → Rat
 n : Nat
 m : Nat
 f : Nat → Nat → Pl
theorem CX {rl : List (Nat × Nat)} {l i s s' s2 : Nat} {x y : Nat → Pl} {t : AV} {z : AV} (hx : ∀ i, i < l → x i = y i) (ht : bp t (eu (y l) s')) (hk : keys t = []) (h1 : s ≤ s2) (h2 : s' ≤ s2) (hi : i < l + 1) :
  gG rl (if i < l then eu (x i) s else nth [t] z (i - l + 0)) (eu (y i) s2) := by
 by_cases h : i < l
 ·rw [if_pos h, hx i h]; exact .inr ⟨rfl, yG rfl h1⟩
 ·have : i = l := by omega
  subst this
  rw [if_neg h, Nat.sub_self]
  exact .inr ⟨hk, ht.trans (yG rfl h2)⟩
end Go.Am.B

/- ref02: Valid, Valids, Bits; ref04.Valid; ref10: Short, shortPoles. -/
namespace Go.Am.B
open Go Go.Am.N AV aa ah IntKind
end Go.Am.B

/- ref09: part, function, Values. -/
namespace Go.Am.B
open Go Go.Am.N AV aa ah IntKind
theorem RY : aO P vw rJ (au rJ) := aL UU (by kernel_rfl) (by kernel_rfl) (by kernel_rfl)
theorem DC : aO P rM l5 (au l5) := aL Kq (by kernel_rfl) (by kernel_rfl) (by kernel_rfl)
theorem Rx : aO P pD oU (au oU) := aL Tu (by kernel_rfl) (by kernel_rfl) (by kernel_rfl)
def Cv : aP := (oB, jA kR kR vf kP) :: iq
abbrev lX : Nat := 8193
def Bs : Spec := gF (kC (lf lX) (kC (lf lX) kN)) (fun a => .rat (a.1 / a.2.1) sF) fun _ => []
theorem Pb {a b : Rat} {n : Nat} : bw T Cv [] 60 rJ (au rJ) ⟨aM 0 [.rat a n, .rat b n], [], 0⟩ =
  let c2 : Prop := n < 2 ^ 41; let c1 : Prop := 0 < 1; some (af [c1, c1, c2, c2, c1] (af [c1, c1] (af [c1] (leaf ret [rat (a / b) (n + n)])))) := by kernel_rfl
theorem SL : aX P Cv := aE (kn fun _ _ K hn => yC hn.1 hn.2 K) ja
theorem Q2 : ∀ K args pre r, Bs K args pre = some r → az P vw K args pre r := fU fun ⟨a, b, _⟩ K _ => by
 refine bC (r := aG (.rat (a / b) sF) []) hT SL hm RY rfl (of_decide_eq_true (by kernel_rfl)) rfl 60 Pb (fun _ => ?_) K []
 simp only [aa.all, ay]
 have h1 : lX = 8193 := rfl
 (repeat' with_reducible refine And.intro ?_ ?_)
 all_goals first | omega | exact (bJ rfl (show lX + lX ≤ sF by decide))
def A1 (d : Nat) : Spec := gF (kC (kL sK) (kC kI (kC kI (kC kI (kC (lf sK) kN))))) (fun a => .rat (nC a.1.2 a.2.2.2.1.toNat a.2.2.2.2.1 d a.2.1.toNat) (SB d)) fun a => [a.2.2.1 = d, 0 ≤ a.2.1, 0 ≤ a.2.2.2.1, a.2.1 + d + 1 < a.1.1, a.1.1 < 2 ^ 40, a.2.2.2.1 < 2 ^ 40, d ≤ 6]
def F2 (d : Nat) : aP := nG :: (rM, A1 d) :: (vw, Bs) :: (gW, nB) :: iq
abbrev pH (n : Nat) (k : Nat → Rat) (i d a : Nat) (t : Rat) : List AV := [ls k n, .int .i64 i, .int .i64 d, .int .i64 a, .rat t sK]
theorem Gy {n i a : Nat} {k : Nat → Rat} {t : Rat} : bw T (nG :: (gW, nB) :: iq) [17] 60 l5 (au l5) ⟨aM 0 (pH n k i 0 a t), [], 0⟩ =
  let c1 : List Prop := [(0 : Nat) < 1]; some (fork ((↑i : Int) == (↑a : Int)) (af c1 (af c1 (leaf ret [rat (↑(1 : Int) : Rat) 1]))) (af c1 (af c1 (leaf ret [agg [AV.bool false, mag 0, mag 0]])))) := by kernel_rfl
theorem I3 {n i d a : Nat} {k : Nat → Rat} {t : Rat} : bw T (F2 d) [200014, 23, 29] 60 l5 (au l5) ⟨aM 0 (pH n k i (d + 1) a t), [], 0⟩ =
  let c22 : Prop := sK + sK + 1 ≤ lX; let c21 : Int := (↑d : Int); let c20 : Prop := n < 2 ^ 40; let c15 : Prop := fl (fun i ↦ rat (k i) sK) n sK; let c14 : Int := (↑(d + 1) : Int); let c10 : Int := (↑a : Int); let c6 : Int := (↑i : Int); let c5 : Prop := 0 < 1; let c4 : Nat := 2 ^ 41; let c3 : Int := (2 : Int) ^ 63; let c19 : Prop := c10 < (2 : Int) ^ 40; let c17 : Prop := (0 : Int) ≤ c6 ∧ c6.toNat < n; let c16 : Bool := decide (c10 < c6); let c12 : List Prop := [sK < c4, sK < c4, c22, c22, c5]; let c11 : aa (List AV) := af [c5] (af [c5] (leaf ret [agg [AV.bool false, mag 0, mag 0]])); let c9 : Int := c6 + (1 : Int); let c7 : Int := c14 - (1 : Int); let c2 : Int := c6 + c14; let c13 : Prop := -c3 ≤ c2 ∧ c2 < c3; let c8 : Int := c2 + (1 : Int); let c18 : Prop := (0 : Int) ≤ c8 ∧ c8.toNat < n; let c1 : aa (List AV) := af (c5 :: c17 :: (sK < c4) :: (sK < c4) :: c13 :: ((0 : Int) ≤ c2 ∧ c2.toNat < n) :: c17 :: c12) (af (c13 :: (-c3 ≤ c8 ∧ c8 < c3) :: c18 :: c5 :: (sK < c4) :: (sK < c4) :: c13 :: (-c3 ≤ c8 ∧ c8 < c3) :: c18 :: (-c3 ≤ c9 ∧ c9 < c3) :: ((0 : Int) ≤ c9 ∧ c9.toNat < n) :: c12) (af [c5, -c3 ≤ c7 ∧ c7 < c3, c5, c15, sK ≤ sK, c7 = c21, (0 : Int) ≤ c6, (0 : Int) ≤ c10, c6 + c21 + (1 : Int) < (↑n : Int), c20, c19, d ≤ 6, sF < c4, SB d < c4, c5, -c3 ≤ c9 ∧ c9 < c3, -c3 ≤ c7 ∧ c7 < c3, c5, c15, sK ≤ sK, c7 = c21, (0 : Int) ≤ c9, (0 : Int) ≤ c10, c9 + c21 + (1 : Int) < (↑n : Int), c20, c19, d ≤ 6, sF < c4, SB d < c4, sF + SB d < c4, sF + SB d < c4, c5] (af [c5] (leaf ret [rat ((t - k c6.toNat) / (k c2.toNat - k c6.toNat) * nC (fun i ↦ bQ (rat (k i) sK)) c10.toNat t d c6.toNat + (k c8.toNat - t) / (k c8.toNat - k c9.toNat) * nC (fun i ↦ bQ (rat (k i) sK)) c10.toNat t d c9.toNat) (sF + SB d + (sF + SB d) + 1)])))); some (af [(c14 == (0 : Int)) = false] (fork c16 (af [c16 = true] (fork true c11 c1)) (af [c16 = false, c13] (fork (bif false then true else decide (c10 > c2)) c11 c1)))) := by kernel_rfl
def r9 (p : Nat) : aP := nG :: (n5, yw) :: (rM, A1 p) :: iq
abbrev l9 : List Nat := [0, 1, 5, 9, 11, 12, 6, 7, 8]
abbrev vE (n : Nat) (k : Nat → Rat) (p a : Nat) (v : AV) (i : Int) : List AV := [ls k n, .int .i64 p, .ptr 0 0 3 0 [], .int .i64 a, v, .int .i64 i, .int .i64 0, .nil, .int .i64 0]
noncomputable abbrev um : Code := au oU
noncomputable abbrev v5 : Code := part um [1,1,1,1,0,1,0,0]
theorem Rb {n p : Nat} {k : Nat → Rat} {t : Rat} : aI T (r9 p) [21] 60 l9 (before um [1,1,1,1,0,1]) ⟨aM 0 [ls k n, .int .i64 p, .rat t sK], [], 0⟩ =
  let c7 : AV := int i64 (0 : Int); let c6 : Int := eB n (fun i ↦ bQ (rat (k i) sK)) t; let c5 : Int := (↑p : Int); let c4 : AV := ak 3 n fun i ↦ rat (k i) 4096; let c3 : AV := ptr 0 0 (bN (rat t sK)).size 0 []; let c2 : Nat × aJ := ((0 : Nat), aJ.mk false true (bN (rat t sK)).size 1 fun x ↦ rat t 4096); let c1 : Int := (↑(mB n (fun i ↦ bQ (rat (k i) sK)) t) : Int); some (af [(0 : Nat) < 1, fl (fun i ↦ rat (k i) sK) n sK, sK ≤ sK, Kn n c5.toNat fun i ↦ bQ (rat (k i) sK), (0 : Int) ≤ c5, n < 2 ^ 40] (fork (c6 != (0 : Int)) (leaf ret ([c4, int i64 c5, c3, int i64 c1, tuple [], tuple [], c7, nil, int i64 c6], [c2])) (af [-(2 : Int) ^ 63 ≤ c1 - c5 ∧ c1 - c5 < (2 : Int) ^ 63] (leaf normal ([c4, int i64 c5, c3, int i64 c1, nil, int i64 (c1 - c5), c7, nil, c7], [c2]))))) := by kernel_rfl
theorem M9 {n p a : Nat} {k : Nat → Rat} {t : Rat} {i : Int} : aI T (r9 p) [28] 60 l9 [v5] ⟨aB l9 (vE n k p a .nil i), [(0, tP t sK)], 2⟩ =
  let c6 : Int := (↑p : Int); let c5 : Int := (↑a : Int); let c4 : AV := int i64 (0 : Int); let c3 : AV := ptr 0 0 3 0 []; let c2 : AV := ak 3 n fun i ↦ rat (k i) 4096; let c1 : Nat × aJ := ((0 : Nat), aJ.mk false true 3 1 fun x ↦ rat t 4096); some (fork (decide (i ≤ c5)) (af [(0 : Nat) < 1, fl (fun i ↦ rat (k i) sK) n sK, sK ≤ sK, c6 = c6, (0 : Int) ≤ i, (0 : Int) ≤ c5, i + c6 + (1 : Int) < (↑n : Int), n < 2 ^ 40, c5 < (2 : Int) ^ 40, p ≤ 6, (1 : Nat) * 3 ≤ 2 ^ 24, (0 : Nat) < 1 ∧ 1 * ((56 : Nat) + 1) * 2 ≤ 2 ^ 47] (af [-(2 : Int) ^ 63 ≤ i + (1 : Int) ∧ i + (1 : Int) < (2 : Int) ^ 63] (leaf normal ([c2, int i64 c6, c3, int i64 c5, own 45058 3 0 1, int i64 (i + (1 : Int)), c4, nil, c4], [((45058 : Nat), aJ.mk true true 3 1 fun i_1 ↦ nth [rat (nC (fun i ↦ bQ (rat (k i) sK)) c5.toNat t p i.toNat) (SB p)] (rat 0 1) (i_1 + 0)), c1])))) (leaf (exit 0) ([c2, int i64 c6, c3, int i64 c5, nil, int i64 i, c4, nil, c4], [c1]))) := by kernel_rfl
theorem IP {n p a j : Nat} {k x : Nat → Rat} {t : Rat} {i : Int} : aI T (r9 p) [28] 60 l9 [v5] ⟨aB l9 (vE n k p a (.own 1 3 0 (j + 1)) i), [(1, vI (j + 1) x fun _ => SB p), (0, tP t sK)], 2⟩ =
  let c7 : Int := (↑p : Int); let c6 : Int := (↑a : Int); let c5 : AV := int i64 (0 : Int); let c4 : AV := ptr 0 0 3 0 []; let c3 : AV := ak 3 n fun i ↦ rat (k i) 4096; let c2 : Nat := j + 1; let c1 : Nat × aJ := ((0 : Nat), aJ.mk false true 3 1 fun x ↦ rat t 4096); let c8 : Nat := c2 + 1; some (fork (decide (i ≤ c6)) (af [(0 : Nat) < 1, fl (fun i ↦ rat (k i) sK) n sK, sK ≤ sK, c7 = c7, (0 : Int) ≤ i, (0 : Int) ≤ c6, i + c7 + (1 : Int) < (↑n : Int), n < 2 ^ 40, c6 < (2 : Int) ^ 40, p ≤ 6, (1 : Nat) * 3 ≤ 2 ^ 24, c8 * ((56 : Nat) + 1) * 2 ≤ 2 ^ 47] (af [-(2 : Int) ^ 63 ≤ i + (1 : Int) ∧ i + (1 : Int) < (2 : Int) ^ 63] (leaf normal ([c3, int i64 c7, c4, int i64 c6, own 45058 3 0 c8, int i64 (i + (1 : Int)), c5, nil, c5], [((45058 : Nat), aJ.mk true true 3 c8 fun i_1 ↦ if i_1 < c2 then rat (x i_1) (SB p) else nth [rat (nC (fun i ↦ bQ (rat (k i) sK)) c6.toNat t p i.toNat) (SB p)] (rat 0 1) (i_1 - c2 + 0)), c1])))) (leaf (exit 0) ([c3, int i64 c7, c4, int i64 c6, own 1 3 0 c2, int i64 i, c5, nil, c5], [((1 : Nat), aJ.mk true true 3 c2 fun i ↦ rat (x i) (SB p)), c1]))) := by kernel_rfl
theorem Kh {n p a j : Nat} {k x : Nat → Rat} {t : Rat} {i : Int} : cr T (r9 p) [] 60 oU [part um [1,1,1,1,1]] ⟨aB l9 (vE n k p a (.own 1 3 0 (j + 1)) i), [(1, vI (j + 1) x fun _ => SB p), (0, tP t sK)], 2⟩ =
  let c1 : Int := (↑a : Int) - (↑p : Int); some (af [-(2 : Int) ^ 63 ≤ c1 ∧ c1 < (2 : Int) ^ 63] (leaf ret [int i64 c1, ak 3 (j + 1) fun i ↦ rat (x (i + 0)) (SB p), int i64 (0 : Int)])) := by kernel_rfl
theorem NU : aX P (nG :: (gW, nB) :: iq) := ij (aE (tD sP) ja)
theorem D3 {n : Nat} {k : Nat → Rat} {t : Rat} (hn : n < 2 ^ 40) : ∀ d i a, i + d + 1 < n → a < 2 ^ 40 → d ≤ 6 → ∀ K, az P rM K (pH n k i d a t) [] (aG (.rat (nC k a t d i) (SB d)) [])
 | 0, i, a, hi, ha, hd, K => by
  refine bC (r := aG (.rat (nC k a t 0 i) (SB 0)) []) hT NU hm DC rfl (of_decide_eq_true (by kernel_rfl)) rfl 60 Gy (fun _ => ?_) K []
  simp only [aa.all, ay, beq_iff_eq, beq_eq_false_iff_ne, ne_eq]
  refine ⟨fun h => ⟨by omega, by omega, ?_⟩, fun h => ⟨by omega, by omega, ?_⟩⟩
  ·unfold nC; rw [if_pos (by omega)]; exact bJ rfl (by decide)
  ·unfold nC; rw [if_neg (by omega)]; exact hJ (k := 65535)
 | d + 1, i, a, hi, ha, hd, K => by
  have hΓ : aX P (F2 d) := ij (aE (fU fun ⟨⟨n', k'⟩, i', d', a', t', _⟩ K hn' => by
   obtain ⟨h1, h2, h3, h4, h5, h6, h7⟩ := hn'
   simp only at h1 h2 h3 h4 h5 h6
   have := D3 (n := n') (k := k') (t := t') h5 d i'.toNat a'.toNat (by omega) (by omega) h7 K
   unfold pH at this
   rw [Int.toNat_of_nonneg h2, Int.toNat_of_nonneg h3] at this
   rw [h1]
   exact this) (aE Q2 (aE (tD sP) ja)))
  refine bC (r := aG (.rat (nC k a t (d + 1) i) (SB (d + 1))) []) hT hΓ hm DC rfl (of_decide_eq_true (by kernel_rfl)) rfl 60 I3 (fun _ => ?_) K []
  have h1 := Dn (d := d)
  have h2 := Dr (d := d)
  have h3 := Ac (d := d) (by omega)
  have h4 : sV = 268435456 := rfl
  have h5 := Jc
  have h6 : sK = 4096 := rfl
  have h7 : lX = 8193 := rfl
  simp only [aa.all, ay, nU, beq_eq_false_iff_ne, ne_eq, decide_eq_true_eq, decide_eq_false_iff_not, cond_false, Int.toNat_natCast, show ((i : Int) + ((d + 1 : Nat) : Int)).toNat = i + (d + 1) by omega, show ((i : Int) + ((d + 1 : Nat) : Int) + 1).toNat = i + (d + 2) by omega, show ((i : Int) + 1).toNat = i + 1 by omega]
  rw [nC]
  (repeat' with_reducible first | refine And.intro ?_ ?_ | intro _)
  all_goals first | omega | exact iK (Nat.le_refl _) | exact absurd ‹true = false› (by decide) | (rw [if_pos (by omega)]; exact hJ (k := SB (d + 1) - 1)) | skip
  all_goals first | (rw [if_pos (by omega), show SB (d + 1) = SB (d + 1) - 1 + 1 by omega]; exact hJ) | skip
  rw [if_neg (by omega)]
  exact bJ rfl (by omega)
theorem LQ {p : Nat} : aX P (r9 p) := ij (aE Bv (aE (fU fun ⟨⟨n', k'⟩, i', d', a', t', _⟩ K hn' => by
 obtain ⟨h1, h2, h3, h4, h5, h6, h7⟩ := hn'
 simp only at h1 h2 h3 h4 h5 h6
 have := D3 (n := n') (k := k') (t := t') h5 p i'.toNat a'.toNat (by omega) (by omega) h7 K
 unfold pH at this
 rw [Int.toNat_of_nonneg h2, Int.toNat_of_nonneg h3] at this
 rw [h1]
 exact this) ja))
theorem Kw {n p : Nat} {k : Nat → Rat} {t : Rat} (h : Kn n p k) (hp6 : p ≤ 6) (hn : n < 2 ^ 40) (K : Nat) : az P pD K [ls k n, .int .i64 p, .rat t sK] [] (aG (x7 n k p t) []) := by
 refine ud (r := aG (x7 n k p t) []) hT LQ hm Rx rfl (of_decide_eq_true (by kernel_rfl)) rfl [1,1,1,1,0,1] (i := 0) (y := v5) (z := part um [1,1,1,1,1]) (by kernel_rfl) (by kernel_rfl) (by kernel_rfl) (f1 := [21]) (f2 := [28]) (f3 := []) 60 l9 2
  (fun j : Nat => vE n k p (cG n k t) (match j with
   | 0 => .nil
   | _ + 1 => .own 1 3 0 j) ((cG n k t : Int) - p + j)) (fun j => match j with
   | 0 => [(0, tP t sK)]
   | _ + 1 => [(1, vI j (fun j => nC k (cG n k t) t p (cG n k t - p + j)) fun _ => SB p), (0, tP t sK)])
  (fun j => j ≤ p + 1 ∧ ¬ dG n k t) (fun j => j = p + 1 ∧ ¬ dG n k t) (fun j => p + 1 - j) (fun _ => ⟨⟨_, Rb, ?_⟩, fun j ⟨hj, hin⟩ => ?_, fun j ⟨hj, hin⟩ => ?_⟩) K []
 ·simp only [aa.all, ay, nU, bne_iff_ne, ne_eq, bne_eq_false_iff_eq, Int.toNat_natCast]
  refine ⟨⟨by omega, iK (Nat.le_refl _), Nat.le_refl _, h, by omega, hn⟩, fun hout => ?_, fun hin => ?_⟩
  ·have h1 := TQ hout
   exact ⟨[.int .i64 0, .nil, .int .i64 (eB n k t)], by kernel_rfl, by rw [show eB n k t = 7 by unfold eB; rw [if_pos h1]]; exact Nc h1⟩
  ·have hin := Ar hin
   have hv := h.uL hin
   have hii : mB n k t = cG n k t := by unfold mB; rw [if_neg hin]
   simp only [hii]
   exact ⟨by omega, 0, ⟨by omega, hin⟩, [(0, 0)], rfl, by simp only [Int.natCast_zero, Int.add_zero]; rfl, rfl, cj rfl rfl (bU rfl rfl) trivial⟩
 ·have hv := h.uL hin
  cases j with
  | zero =>
   refine ⟨_, M9, ?_⟩
   simp only [aa.all, ay, nU, decide_eq_true_eq, decide_eq_false_iff_not, Int.toNat_natCast, Int.natCast_zero, Int.add_zero]
   refine ⟨fun h1 => ⟨⟨by omega, iK (Nat.le_refl _), Nat.le_refl _, trivial, by omega, by omega, by omega, hn, by omega, by omega, by omega, by omega⟩, by omega, 1, ⟨by omega, hin⟩, by dsimp only; omega, [(0, 0), (1, 45058)], rfl, rfl, rfl, ep rfl rfl rfl (fun i hi => Jd (y := fun j => nC k (cG n k t) t p (cG n k t - p + j)) (by rw [show ((cG n k t : Int) - p).toNat = cG n k t - p by omega]; rfl) (Nat.le_refl _) hi) (cj rfl rfl (bU rfl rfl) trivial)⟩, fun h1 => by omega⟩
  | succ j =>
   refine ⟨_, IP, ?_⟩
   simp only [aa.all, ay, nU, decide_eq_true_eq, decide_eq_false_iff_not, Int.toNat_natCast]
   refine ⟨fun h1 => ⟨⟨by omega, iK (Nat.le_refl _), Nat.le_refl _, trivial, by omega, by omega, by omega, hn, by omega, by omega, by omega, by omega⟩, by omega, j + 2, ⟨by omega, hin⟩, by dsimp only; omega, [(0, 0), (1, 45058)], rfl, by rw [show (cG n k t : Int) - p + ((j + 1 : Nat) : Int) + 1 = (cG n k t : Int) - p + ((j + 2 : Nat) : Int) by omega]; rfl, rfl,
    ep rfl rfl rfl (fun i hi => yd (y := fun j => nC k (cG n k t) t p (cG n k t - p + j)) (fun _ _ => rfl) (by rw [show ((cG n k t : Int) - p + ((j + 1 : Nat) : Int)).toNat = cG n k t - p + (j + 1) by omega]) (Nat.le_refl _) (Nat.le_refl _) hi) (cj rfl rfl (bU rfl rfl) trivial)⟩,
    fun h1 => ⟨rfl, j + 1, ⟨by omega, hin⟩, [(0, 0), (1, 1)], rfl, rfl, rfl, ep rfl rfl rfl (fun i hi => bU rfl rfl) (cj rfl rfl (bU rfl rfl) trivial)⟩⟩
 ·subst hj
  have hv := h.uL hin
  refine ⟨_, Kh, ?_⟩
  simp only [aa.all, ay]
  refine ⟨by omega, MV hin fun j hj => bJ ?_ (Ac hp6)⟩
  have h1 : ¬ t < k 0 := fun h => hin (.inl h)
  have h2 : ¬ k (n - 1) < t := fun h => hin (.inr h)
  have hat : At n k (cG n k t) := (h.A4 (by grind) (by grind)).1.at_
  exact (AG hat hv.1 (by omega) j (by omega)).symm
theorem Va : ∀ K args pre r, Dv K args pre = some r → az P pD K args pre r := fU fun ⟨⟨n, k⟩, p, t, _⟩ K hn => by
 obtain ⟨h1, h2, h3, h4⟩ := hn
 have h3 : p ≤ 6 := h3
 have := Kw h1 (by simp only; omega) h4 K (t := t)
 rw [Int.toNat_of_nonneg h2] at this
 exact this
end Go.Am.B

/- ref10: Lift, Homogeneous, Drop, Eval. -/
namespace Go.Am.B
open Go Go.Am.N AV aa ah IntKind
theorem xI : aO P qj ot (au ot) := aL Qz (by kernel_rfl) (by kernel_rfl) (by kernel_rfl)
theorem HX : aO P wh vm (au vm) := aL N7 (by kernel_rfl) (by kernel_rfl) (by kernel_rfl)
theorem Uq : aO P rU qA (au qA) := aL JH (by kernel_rfl) (by kernel_rfl) (by kernel_rfl)
theorem EY : aO P qz p4 (au p4) := aL Nx (by kernel_rfl) (by kernel_rfl) (by kernel_rfl)
theorem T3 : aO P tQ o5 (au o5) := aL PF (by kernel_rfl) (by kernel_rfl) (by kernel_rfl)
noncomputable def Da : aP := (oI, jA kR kR AJ kP) :: (qj, cK T iq [] 60 ot) :: iq
abbrev sH : Nat := 2147483648
abbrev sE : Nat := 4294967298
def vv (h : Pl) : V3 := ⟨((1 : Int) : Rat) / h.d * h.n.x, ((1 : Int) : Rat) / h.d * h.n.y, ((1 : Int) : Rat) / h.d * h.n.z⟩
def CO : Spec := gF (kC (LX sH) kN) (fun a => .agg [vA (vv a.1) sE, .rat a.1.d sH]) fun _ => []
noncomputable def PN : aP := (qj, cK T iq [] 60 ot) :: iq
noncomputable def sY : aP := nG :: (pD, Dv) :: (wh, cK T PN [] 60 vm) :: iq
abbrev rz : List Nat := [2, 4, 5, 6, 8, 9]
abbrev uw (p i : Nat) (x : Nat → Rat) (j : Nat) : List AV := [.ptr 0 0 3 0 [], .ptr 1 0 12 0 [], .int .i64 ((i : Int) - p), .ak 3 (p + 1) (fun j => .rat (x j) sV), .ptr 2 0 12 0 [], .int .i64 j]
abbrev mX (h : Pl) (s : Nat) : aJ := ⟨false, true, 12, 1, fun _ => iF h s⟩
abbrev yD (c : Cu) (r : Nat) : aJ := ⟨false, true, 3, 1, fun _ => gv c sK r⟩
noncomputable abbrev nZ : Code := au p4
theorem Oj {h : Pl} {s : Nat} : bw T Da [] 60 qA (au qA) ⟨aM 0 [iF h s], [], 0⟩ =
  let c9 : Prop := (0 : Int) ≤ (0 : Int); let c8 : Rat := (↑(1 : Int) : Rat) / h.d; let c7 : Int := (↑(4 : Nat) : Int); let c6 : Int := (↑(3 : Nat) : Int); let c4 : Nat := 2 ^ 41; let c3 : Int := i64.wrap ((0 : Int) + (1 : Int)); let c2 : Nat := Max.max 1 (aN (Int.natAbs (1 : Int))); let c1 : Prop := 0 < 1; let c11 : Int := i64.wrap (c3 + (1 : Int)); let c10 : Prop := (0 : Int) ≤ (3 : Int) ∧ (3 : Int) < c7; let c5 : Prop := (0 : Int) ≤ c11 ∧ c11 < c6; some (af [-(2 : Int) ^ 63 ≤ (1 : Int), (1 : Int) < (2 : Int) ^ 63, c10, c1, c2 < c4, s < c4, c9 ∧ (0 : Int) < c7, c1, (0 : Int) ≤ (1 : Int) ∧ (1 : Int) < c7, c1, (0 : Int) ≤ (2 : Int) ∧ (2 : Int) < c7, c1, c1, c9 ∧ (0 : Int) < c6, c1, c2 + s < c4, s < c4, c9 ∧ (0 : Int) < c6, c1, c1, (0 : Int) ≤ c3 ∧ c3 < c6, c1, c2 + s < c4, s < c4, (0 : Int) ≤ c3 ∧ c3 < c6, c1, c1, c5, c1, c2 + s < c4, s < c4, c5, c1, c1, c1, c1, c10, c1, c1] (af [c1] (leaf ret [agg [agg [rat (c8 * h.n.x) (c2 + s + s), rat (c8 * h.n.y) (c2 + s + s), rat (c8 * h.n.z) (c2 + s + s)], rat h.d s]]))) := by kernel_rfl
theorem KK {c : Cu} {t : Rat} {r : Nat} : aI T sY [] 60 rz (before nZ [1,1,1,0,1]) ⟨aM 0 [gv c sK r, .rat t sK], [], 0⟩ =
  let c5 : Prop := 0 < 1; let c4 : Nat := cG c.n (fun i ↦ bQ (rat (c.k i) sK)) t; let c3 : Prop := dG c.n (fun i ↦ bQ (rat (c.k i) sK)) t; let c2 : AV := rat 0 1; let c1 : aJ := aJ.mk false true 12 1 fun x ↦ agg [c2, c2, c2, c2]; some (af [c5, c5, c5, fl (fun i ↦ rat (c.k i) sK) c.n sK, sK ≤ sK, Kn c.n c.p.toNat fun i ↦ bQ (rat (c.k i) sK), (0 : Int) ≤ c.p, c.p ≤ (6 : Int), c.n < 2 ^ 40] (leaf normal ([ptr 0 0 (bN (gv c sK r)).size 0 [], ptr 8192 0 12 0 [], int i64 (if c3 then (0 : Int) else (↑c4 : Int) - (↑c.p.toNat : Int)), ak 3 (if c3 then 0 else c.p.toNat + 1) fun j ↦ rat (vB (fun i ↦ bQ (rat (c.k i) sK)) c4 t c.p.toNat j) 268435456, ptr 65536 0 12 0 [], int i64 (0 : Int)], [((65536 : Nat), c1), ((8192 : Nat), c1), ((0 : Nat), aJ.mk false true (bN (gv c sK r)).size 1 fun x ↦ agg [int i64 c.p, ak 3 c.n fun i ↦ rat (c.k i) 4096, ak 12 c.m fun i ↦ agg [agg [rat (c.f i).n.x r, rat (c.f i).n.y r, rat (c.f i).n.z r], rat (c.f i).d r]])]))) := by kernel_rfl
theorem F8 {c : Cu} {h : Pl} {p i j s r : Nat} {x : Nat → Rat} : aI T sY [25] 60 rz [part nZ [1,1,1,0,1,0,0]] ⟨aB rz (uw p i x j), [(2, mX h s), (1, mX ⟨⟨0, 0, 0⟩, 0⟩ 1), (0, yD c r)], 3⟩ =
  let c35 : Nat := p + 1; let c30 : Int := (↑i : Int) - (↑p : Int); let c27 : AV := ptr 0 0 3 0 []; let c26 : Nat := sV + (r + r); let c25 : AV := ptr 2 0 12 0 []; let c24 : AV := ptr 1 0 12 0 []; let c21 : AV := rat 0 1; let c19 : Int := (↑j : Int); let c18 : Prop := (0 : Int) ≤ (0 : Int); let c15 : Int := (↑(3 : Nat) : Int); let c14 : Bool := 0 == 0; let c11 : Int := (↑(4 : Nat) : Int); let c9 : Int := (2 : Int) ^ 63; let c7 : Nat := 2 ^ 41; let c4 : Prop := 0 < 1; let c3 : Int := (0 : Int) + (1 : Int); let c37 : Rat := x c19.toNat; let c36 : Int := c19 + (1 : Int); let c33 : Prop := c18 ∧ (0 : Int) < c11; let c32 : Prop := c18 ∧ (0 : Int) < c15; let c31 : Prop := (0 : Int) ≤ i64.wrap c3 ∧ i64.wrap c3 < c15; let c29 : Prop := (0 : Int) ≤ c3 ∧ c3 < c11; let c20 : AV := ak 3 c35 fun j ↦ rat (x j) 268435456; let c17 : Int := i64.wrap (i64.wrap c3 + (1 : Int)); let c16 : Int := c3 + (1 : Int); let c12 : Prop := (0 : Int) ≤ c19 ∧ c19.toNat < c35; let c6 : List (Nat × aJ) := [((1 : Nat), aJ.mk false true 12 1 fun x ↦ agg [c21, c21, c21, c21]), ((0 : Nat), aJ.mk false true 3 1 fun x ↦ agg [int i64 c.p, ak 3 c.n fun i ↦ rat (c.k i) 4096, ak 12 c.m fun i ↦ agg [agg [rat (c.f i).n.x r, rat (c.f i).n.y r, rat (c.f i).n.z r], rat (c.f i).d r]])]; let c5 : Int := c30 + c19; let c38 : Prop := (0 : Int) ≤ c17 ∧ c17 < c15; let c23 : Prop := (0 : Int) ≤ c16 ∧ c16 < c11; let c22 : Pl := c.f c5.toNat; let c8 : Int := c16 + (1 : Int); let c28 : Prop := (0 : Int) ≤ c8 ∧ c8 < c11; let c2 : AV := agg ((iF h s).kids.set (Int.toNat (0 : Int)) (bN (l6 (h.n.x, s) (c37 * (c22.d * c22.n.x), c26)))); let c34 : AV := if c14 = true then c2 else iF h s; let c10 : AV := agg (c34.kids.set c3.toNat (bN (l6 (h.n.y, s) (c37 * (c22.d * c22.n.y), c26)))); let c1 : AV := if c14 = true then c10 else c34; let c13 : AV := agg (c1.kids.set c16.toNat (bN (l6 (h.n.z, s) (c37 * (c22.d * c22.n.z), c26)))); some (fork (decide (c19 < (↑c35 : Int))) (af [c4, -c9 ≤ c5 ∧ c5 < c9, (0 : Int) ≤ c5 ∧ c5.toNat < c.m, c4, c4, c4, c32, c4, r < c7, r < c7, c32, c4, c4, c31, c4, r < c7, r < c7, c31, c4, c4, c38, c4, r < c7, r < c7, c38, c4, c4, c4, c4, c4, c32, c4, (0 : Int) ≤ (1 : Int) ∧ (1 : Int) < c15, c4, (0 : Int) ≤ (2 : Int) ∧ (2 : Int) < c15, c4, c4, c4, c4, c4] (af [c33, c4, c12, c33, c4, sV < c7, r + r < c7, s < c7, c26 < c7, c33, c4] (af [-c9 ≤ c3 ∧ c3 < c9] (af [c29, c4, c12, c29, c4, sV < c7, r + r < c7, s < c7, c26 < c7, c29, c4] (af [-c9 ≤ c16 ∧ c16 < c9] (af [c23, c4, c12, c23, c4, sV < c7, r + r < c7, s < c7, c26 < c7, c23, c4] (af [-c9 ≤ c8 ∧ c8 < c9] (af [c28, c4, c12, c28, c4, sV < c7, r < c7, s < c7, sV + r < c7, c28, c4] (af [-c9 ≤ c8 + (1 : Int) ∧ c8 + (1 : Int) < c9] (af [-c9 ≤ c36 ∧ c36 < c9] (leaf normal ([c27, c24, int i64 c30, c20, c25, int i64 c36], ((2 : Nat), aJ.mk false true 12 1 fun j ↦ if (j == 0) = true then agg ((if c14 = true then c13 else c1).kids.set c8.toNat (bN (l6 (h.d, s) (c37 * c22.d, sV + r)))) else if (j == 0) = true then c13 else if (j == 0) = true then c10 else if (j == 0) = true then c2 else iF h s) :: c6)))))))))))) (leaf (exit 0) ([c27, c24, int i64 c30, c20, c25, int i64 c19], ((2 : Nat), aJ.mk false true 12 1 fun x ↦ agg [rat h.n.x s, rat h.n.y s, rat h.n.z s, rat h.d s]) :: c6))) := by kernel_rfl
theorem PZ {c : Cu} {h : Pl} {p i j s r : Nat} {x : Nat → Rat} : cr T sY [] 60 p4 [part nZ [1,1,1,1]] ⟨aB rz (uw p i x j), [(2, mX h s), (1, mX ⟨⟨0, 0, 0⟩, 0⟩ 1), (0, yD c r)], 3⟩ =
  let c1 : Prop := 0 < 1; some (af [c1, c1] (af [c1] (leaf ret [agg [rat h.n.x s, rat h.n.y s, rat h.n.z s, rat h.d s]]))) := by kernel_rfl
def wA (c : Cu) (x : Nat → Rat) (b j : Nat) : Pl :=
 ⟨⟨jc j fun j => x j * ((c.f (b + j)).d * (c.f (b + j)).n.x), jc j fun j => x j * ((c.f (b + j)).d * (c.f (b + j)).n.y), jc j fun j => x j * ((c.f (b + j)).d * (c.f (b + j)).n.z)⟩, jc j fun j => x j * (c.f (b + j)).d⟩
def zH (r j : Nat) : Nat := 1 + j * (sV + (r + r) + 1)
def oD (c : Cu) (t : Rat) : Pl := wA c (vB c.k (cG c.n c.k t) t c.p.toNat) (cG c.n c.k t - c.p.toNat) (c.p.toNat + 1)
theorem Lp : aX P Da := aE (kn fun _ _ K hn => BQ hn.1 hn.2 K) (aE (cM hT ja hm xI _ _) ja)
theorem Ik {h : Pl} {s s' : Nat} (hs : s < 2 ^ 40) (hs' : 1 + s + s ≤ s') (K : Nat) : az P rU K [iF h s] [] (aG (.agg [vA (vv h) s', .rat h.d s]) []) := by
 refine bC (r := aG (.agg [vA (vv h) s', .rat h.d s]) []) hT Lp hm Uq rfl (of_decide_eq_true (by kernel_rfl)) rfl 60 (Oj (s := s)) (fun _ => ?_) K []
 have e1 : i64.wrap ((0 : Int) + 1) = 1 := rfl
 have e2 : i64.wrap ((1 : Int) + 1) = 2 := rfl
 simp only [aa.all, ay, Hj, e1, e2]
 refine ⟨?_, by omega, cN ⟨cN ⟨bJ rfl (by omega), bJ rfl (by omega), bJ rfl (by omega), trivial⟩, .refl _, trivial⟩⟩
 (repeat' with_reducible refine And.intro ?_ ?_)
 all_goals omega
theorem HY : ∀ K args pre r, CO K args pre = some r → az P rU K args pre r := fU fun ⟨h, _⟩ K _ => Ik (by decide) (by decide) K
theorem Bn : aX P sY := ij (aE Va (aE (cM hT (aE (cM hT ja hm xI _ _) ja) hm HX _ _) ja))
theorem Ow {c : Cu} {t : Rat} {r s : Nat} (hr : 1 + 7 * (sV + (r + r) + 1) ≤ s) (hs : s < 2 ^ 40) (hk : Kn c.n c.p.toNat c.k) (h0 : 0 ≤ c.p) (h6 : c.p ≤ 6) (hn : c.n < 2 ^ 40) (hm2 : (c.m : Int) = (c.n : Int) - c.p - 1) (hin : ¬ dG c.n c.k t) (K : Nat) : az P qz K [gv c sK r, .rat t sK] [] (aG (iF (oD c t) s) []) := by
 refine fk (r := aG (iF (oD c t) s) []) hT EY rfl (of_decide_eq_true (by kernel_rfl)) rfl (fun _ cx h00 => ?_) K []
 have hkp := nv h00
 obtain ⟨q, hq⟩ : ∃ q, q = c.p.toNat := ⟨_, rfl⟩
 have hq2 : c.p = (q : Int) := by omega
 obtain ⟨i, hi⟩ : ∃ i, i = cG c.n c.k t := ⟨_, rfl⟩
 obtain ⟨x, hx⟩ : ∃ x, x = vB c.k i t q := ⟨_, rfl⟩
 have hiv := hk.uL hin
 rw [← hi, ← hq] at hiv
 have hV : oD c t = wA c x (i - q) (q + 1) := by unfold oD; rw [← hi, ← hq, ← hx]
 rw [hV]
 have h1 : sK = 4096 := rfl
 have h2 : sV = 268435456 := rfl
 have z0 : zH r 0 = 1 := by unfold zH; rw [Nat.zero_mul]
 have zS : ∀ j, zH r (j + 1) = zH r j + (sV + (r + r) + 1) := fun j => by unfold zH; rw [Nat.add_mul, Nat.one_mul]; omega
 have zle : ∀ j, j ≤ 7 → zH r j ≤ s := fun j hj => by
  have := Nat.mul_le_mul_right (sV + (r + r) + 1) hj
  unfold zH; omega
 refine aq.mm hT Bn hm (x := nZ) [1,1,1,0,1] (i := 0) (y := part nZ [1,1,1,0,1,0,0]) (z := part nZ [1,1,1,1]) (by kernel_rfl) (by kernel_rfl) (by kernel_rfl) EY.dst hkp (f1 := []) (f2 := [25]) 60 rz 3 (fun j : Nat => uw q i x j) (fun j => [(2, mX (wA c x (i - q) j) (zH r j)), (1, mX ⟨⟨0, 0, 0⟩, 0⟩ 1), (0, yD c r)]) (fun j => j ≤ q + 1) (fun j => j = q + 1) (fun j => q + 1 - j) (fun _ => False) ⟨_, KK, ?_⟩ (fun j hj => ⟨_, F8, ?_⟩) (fun j hj => ?_) (fun _ _ h => h.elim)
 ·simp only [aa.all, ay]
  simp only [nU, show dG c.n (fun i => c.k i) t = dG c.n c.k t from rfl, if_neg hin]
  refine ⟨⟨by omega, by omega, by omega, iK (Nat.le_refl _), Nat.le_refl _, hk, h0, h6, hn⟩, 0, Nat.zero_le _, [(0, 0), (1, 8192), (2, 65536)], rfl, ?_, rfl, cj rfl rfl (bU rfl (by rw [z0]; rfl)) (cj rfl rfl (bU rfl rfl) (cj rfl rfl (bU rfl rfl) trivial))⟩
  show _ = (uw q i x 0).map _
  rw [hx, hq, hi]; rfl
 ·simp only [aa.all, ay, decide_eq_true_eq, decide_eq_false_iff_not, show ((i : Int) - q + j).toNat = i - q + j by omega, Int.toNat_natCast, show i64.wrap ((0 : Int) + 1) = 1 from rfl, show i64.wrap ((1 : Int) + 1) = 2 from rfl]
  have hz1 := zS j
  refine ⟨fun h => ?_, fun h => ⟨rfl, j, by omega, [(0, 0), (1, 1), (2, 2)], rfl, rfl, rfl, cj rfl rfl (bU rfl rfl) (cj rfl rfl (bU rfl rfl) (cj rfl rfl (bU rfl rfl) trivial))⟩⟩
  have hz := zle j (by omega)
  have hz2 := zle (j + 1) (by omega)
  (repeat' with_reducible refine And.intro ?_ ?_)
  all_goals first | omega | skip
  exact ⟨j + 1, by omega, by dsimp only; omega, [(0, 0), (1, 1), (2, 2)], rfl, rfl, rfl, cj rfl rfl (.inr ⟨rfl, cN ⟨bJ rfl (by omega), bJ rfl (by omega), bJ rfl (by omega), bJ rfl (by omega), trivial⟩⟩) (cj rfl rfl (bU rfl rfl) (cj rfl rfl (bU rfl rfl) trivial))⟩
 ·subst hj
  refine aq.oz ((ax.fin hT Bn hm 60 PZ (by kernel_rfl) ?_).mono fun _ _ h => .inl h)
  simp only [aa.all, ay]
  have hz := zle (q + 1) (by omega)
  exact ⟨by omega, by omega, cN ⟨dZ (by omega), dZ (by omega), dZ (by omega), dZ (by omega), trivial⟩⟩
def zD : Spec := gF (kC (vl sK sK) (kC (lf sK) kN)) (fun a => iF (oD a.1 a.2.1) sH) fun a => [Kn a.1.n a.1.p.toNat a.1.k, 0 ≤ a.1.p, a.1.p ≤ 6, a.1.n < 2 ^ 40, (a.1.m : Int) = (a.1.n : Int) - a.1.p - 1, ¬ dG a.1.n a.1.k a.2.1]
noncomputable def AO : aP := sG :: (n5, yw) :: (qz, zD) :: (rU, CO) :: []
theorem OC : ∀ K args pre r, zD K args pre = some r → az P qz K args pre r := fU fun ⟨c, t, _⟩ K hn => Ow (by decide) (by decide) hn.1 hn.2.1 hn.2.2.1 hn.2.2.2.1 hn.2.2.2.2.1 hn.2.2.2.2.2 K
theorem I5 : aX P AO := cz (aE Bv (aE OC (aE HY aZ)))
theorem St {c : Cu} {t : Rat} : bw T AO [18] 60 o5 (au o5) ⟨aM 0 [gv c sK sK, .rat t sK], [], 0⟩ =
  let c9 : Prop := c.n < 2 ^ 40; let c7 : Prop := fl (fun i ↦ rat (c.k i) sK) c.n sK; let c5 : Int := eB c.n (fun i ↦ bQ (rat (c.k i) sK)) t; let c4 : AV := rat 0 1; let c3 : Nat := c.p.toNat; let c1 : Nat := cG c.n (fun i ↦ bQ (rat (c.k i) sK)) t; let c10 : Nat := c1 - c3; let c8 : Nat := c3 + 1; let c6 : Prop := Kn c.n c3 fun i ↦ bQ (rat (c.k i) sK); let c2 : Rat := (↑(1 : Int) : Rat) / jc c8 fun j ↦ vB (fun i ↦ bQ (rat (c.k i) sK)) c1 t c3 j * bQ (rat (c.f (c10 + j)).d sK); some (af [c7, sK ≤ sK, c6, (0 : Int) ≤ c.p, c9] (fork (c5 != (0 : Int)) (af [(0 : Nat) < 1] (leaf ret [agg [c4, c4, c4], int i64 c5])) (af [c7, iC (fun i ↦ eu (c.f i) sK) c.m sK, sK ≤ sK, c6, (0 : Int) ≤ c.p, c.p ≤ (6 : Int), c9, (↑c.m : Int) = (↑c.n : Int) - c.p - (1 : Int), ¬dG c.n (fun i ↦ bQ (rat (c.k i) sK)) t, sH ≤ sH, sH ≤ sH, sH ≤ sH, sH ≤ sH] (af [(0 : Nat) < 1] (leaf ret [agg [rat (c2 * jc c8 fun j ↦ vB (fun i ↦ bQ (rat (c.k i) sK)) c1 t c3 j * (bQ (rat (c.f (c10 + j)).d sK) * bQ (rat (c.f (c10 + j)).n.x sK))) 4294967298, rat (c2 * jc c8 fun j ↦ vB (fun i ↦ bQ (rat (c.k i) sK)) c1 t c3 j * (bQ (rat (c.f (c10 + j)).d sK) * bQ (rat (c.f (c10 + j)).n.y sK))) 4294967298, rat (c2 * jc c8 fun j ↦ vB (fun i ↦ bQ (rat (c.k i) sK)) c1 t c3 j * (bQ (rat (c.f (c10 + j)).d sK) * bQ (rat (c.f (c10 + j)).n.z sK))) 4294967298], int i64 (0 : Int)]))))) := by kernel_rfl
def tw (c : Cu) (t : Rat) : V3 := if dG c.n c.k t then ⟨0, 0, 0⟩ else vv (oD c t)
def Ce : Spec := gF (kC (vl sK sK) (kC (lf sK) kN)) (fun a => .tuple [vA (tw a.1 a.2.1) sE, .int .i64 (eB a.1.n a.1.k a.2.1)]) fun a => [Kn a.1.n a.1.p.toNat a.1.k, 0 ≤ a.1.p, a.1.p ≤ 6, a.1.n < 2 ^ 40, (a.1.m : Int) = (a.1.n : Int) - a.1.p - 1]
theorem SS : ∀ K args pre r, Ce K args pre = some r → az P tQ K args pre r := fU fun ⟨c, t, _⟩ K hn => by
 obtain ⟨hk, h0, h6, hn, hm2⟩ := hn
 have hk : Kn c.n c.p.toNat c.k := hk
 have h6 : c.p ≤ 6 := h6
 have hm2 : (c.m : Int) = (c.n : Int) - c.p - 1 := hm2
 refine bC (r := aG (.tuple [vA (tw c t) sE, .int .i64 (eB c.n c.k t)]) []) hT I5 hm T3 rfl (of_decide_eq_true (by kernel_rfl)) rfl 60 St (fun _ => ?_) K []
 simp only [aa.all, ay, nU, bne_iff_ne, bne_eq_false_iff_eq, ne_eq, show dG c.n (fun i => c.k i) t = dG c.n c.k t from rfl, show eB c.n (fun i => c.k i) t = eB c.n c.k t from rfl]
 refine ⟨⟨iK (Nat.le_refl _), Nat.le_refl _, hk, h0, hn⟩, fun hout => ?_, fun hin => ?_⟩
 ·have ho : dG c.n c.k t := by
   unfold eB at hout
   by_cases ho : dG c.n c.k t
   ·exact ho
   ·rw [if_neg ho] at hout; exact absurd rfl hout
  refine ⟨by omega, ?_, .refl _, trivial⟩
  unfold tw
  rw [if_pos ho]
  exact cN ⟨dZ (by decide), dZ (by decide), dZ (by decide), trivial⟩
 ·have hi := Ar hin
  refine ⟨⟨iK (Nat.le_refl _), ux (Nat.le_refl _), Nat.le_refl _, hk, h0, h6, hn, hm2, hi, by omega, by omega⟩, by omega, ?_, bf hin.symm, trivial⟩
  unfold tw
  rw [if_neg hi]
  exact .refl _
end Go.Am.B

/- shapes.ints, ref14.ints. -/
namespace Go.Am.B
open Go Go.Am.N AV aa ah IntKind
theorem xB : aO P p8 l8 (au l8) := aL Ss (by kernel_rfl) (by kernel_rfl) (by kernel_rfl)
theorem A2 : aO P tc mM (au mM) := aL Pv (by kernel_rfl) (by kernel_rfl) (by kernel_rfl)
abbrev mh (n : Nat) (z : Nat → Int) : AV := .ak 1 n (fun i => .int .i64 (z i))
abbrev jV (n : Nat) (z : Nat → Int) : aJ := ⟨true, true, 3, n, fun i => .rat ((z i : Int) : Rat) 64⟩
noncomputable abbrev iH : Code := au l8
abbrev jk : List Nat := [3, 6, 7, 8]
abbrev qV (n : Nat) (z : Nat → Int) (v : AV) (i : Int) : List AV := [v, mh n z, .int .i64 n, .int .i64 i]
noncomputable abbrev jn : Code := au mM
abbrev kG : List Nat := [0, 3, 4]
abbrev uZ (n : Nat) (z : Nat → Int) (v : AV) (i : Int) : List AV := [mh n z, v, .int .i64 i]
def nk : aP := nG :: [(lG, xG)]
def sn : aP := nG :: [(gW, qp)]
theorem HZ {n : Nat} {z : Nat → Int} : aI T nk [] 60 jk (before iH [1,1,0,1]) ⟨aM 0 [mh n z], [], 0⟩ =
  some (leaf normal ([nil, ak 1 n fun i ↦ int i64 (z i), int i64 (↑n : Int), int i64 (0 : Int)], [])) := by kernel_rfl
theorem Ld {n : Nat} {z : Nat → Int} : aI T nk [9] 60 jk [part iH [1,1,0,1,0,0]] ⟨aB jk (qV n z .nil 0), [], 1⟩ =
  let c4 : Int := (↑n : Int); let c3 : AV := ak 1 n fun i ↦ int i64 (z i); let c2 : Int := (2 : Int) ^ 63; let c1 : Nat := Int.toNat (0 : Int); some (fork (decide ((0 : Int) < c4)) (af [(0 : Int) ≤ (0 : Int) ∧ c1 < n] (af [-c2 ≤ z c1, z c1 < c2, (1 : Nat) * 3 ≤ 2 ^ 24, (0 : Nat) < 1 ∧ 1 * ((56 : Nat) + 1) * 2 ≤ 2 ^ 47] (af [-c2 ≤ (0 : Int) + (1 : Int) ∧ (0 : Int) + (1 : Int) < c2] (leaf normal ([own 32769 3 0 1, c3, int i64 c4, int i64 (1 : Int)], [((32769 : Nat), aJ.mk true true 3 1 fun i ↦ nth [rat (↑(z c1) : Rat) (Max.max 1 (aN (z c1).natAbs))] (rat 0 1) (i + 0))]))))) (leaf (exit 0) ([nil, c3, int i64 c4, int i64 (0 : Int)], []))) := by kernel_rfl
theorem Oc {n i : Nat} {z : Nat → Int} : aI T nk [9] 60 jk [part iH [1,1,0,1,0,0]] ⟨aB jk (qV n z (.own 0 3 0 (i + 1)) ((i + 1 : Nat) : Int)), [(0, jV (i + 1) z)], 1⟩ =
  let c8 : Int := (↑n : Int); let c4 : AV := ak 1 n fun i ↦ int i64 (z i); let c3 : Int := (2 : Int) ^ 63; let c2 : Nat := i + 1; let c5 : Nat := c2 + 1; let c1 : Int := (↑c2 : Int); let c7 : Int := z c1.toNat; let c6 : Int := c1 + (1 : Int); some (fork (decide (c1 < c8)) (af [(0 : Int) ≤ c1 ∧ c1.toNat < n] (af [-c3 ≤ c7, c7 < c3, (1 : Nat) * 3 ≤ 2 ^ 24, c5 * ((56 : Nat) + 1) * 2 ≤ 2 ^ 47] (af [-c3 ≤ c6 ∧ c6 < c3] (leaf normal ([own 32769 3 0 c5, c4, int i64 c8, int i64 c6], [((32769 : Nat), aJ.mk true true 3 c5 fun i ↦ if i < c2 then rat (↑(z i) : Rat) 64 else nth [rat (↑c7 : Rat) (Max.max 1 (aN c7.natAbs))] (rat 0 1) (i - c2 + 0))]))))) (leaf (exit 0) ([own 0 3 0 c2, c4, int i64 c8, int i64 c1], [((0 : Nat), aJ.mk true true 3 c2 fun i ↦ rat (↑(z i) : Rat) 64)]))) := by kernel_rfl
theorem RG {n i : Nat} {z : Nat → Int} : aI T nk [] 60 [2] [part iH [1,1,1]] ⟨aB jk (qV n z (.own 0 3 0 (i + 1)) ((i + 1 : Nat) : Int)), [(0, jV (i + 1) z)], 1⟩ =
  some (leaf ret ([own 0 3 0 (i + 1)], [((0 : Nat), aJ.mk true true 3 (i + 1) fun i ↦ rat (↑(z i) : Rat) 64)])) := by kernel_rfl
theorem L9 {n i : Nat} {z : Nat → Int} : cr T nk [] 60 l8 [part iH [1,1,1]] ⟨aB jk (qV n z (.own 0 3 0 (i + 1)) ((i + 1 : Nat) : Int)), [(0, jV (i + 1) z)], 1⟩ =
  some (leaf ret [ak 3 (i + 1) fun i ↦ rat (↑(z (i + 0)) : Rat) 64]) := by kernel_rfl
theorem NX {n : Nat} {z : Nat → Int} : aI T sn [] 60 kG (before jn [1,1,0,1]) ⟨aM 0 [mh n z], [], 0⟩ =
  some (leaf normal ([ak 1 n fun i ↦ int i64 (z i), nil, int i64 (0 : Int)], [])) := by kernel_rfl
theorem QU {n : Nat} {z : Nat → Int} : aI T sn [8] 60 kG [part jn [1,1,0,1,0,0]] ⟨aB kG (uZ n z .nil 0), [], 1⟩ =
  let c3 : AV := ak 1 n fun i ↦ int i64 (z i); let c2 : Int := (2 : Int) ^ 63; let c1 : Nat := Int.toNat (0 : Int); some (fork (decide ((0 : Int) < (↑n : Int))) (af [(0 : Int) ≤ (0 : Int) ∧ c1 < n, -c2 ≤ z c1, z c1 < c2, (1 : Nat) * 3 ≤ 2 ^ 24, (0 : Nat) < 1 ∧ 1 * ((56 : Nat) + 1) * 2 ≤ 2 ^ 47] (af [-c2 ≤ (0 : Int) + (1 : Int) ∧ (0 : Int) + (1 : Int) < c2] (leaf normal ([c3, own 45057 3 0 1, int i64 (1 : Int)], [((45057 : Nat), aJ.mk true true 3 1 fun i ↦ nth [rat (↑(z c1) : Rat) (Max.max 1 (aN (z c1).natAbs))] (rat 0 1) (i + 0))])))) (leaf (exit 0) ([c3, nil, int i64 (0 : Int)], []))) := by kernel_rfl
theorem PI {n i : Nat} {z : Nat → Int} : aI T sn [8] 60 kG [part jn [1,1,0,1,0,0]] ⟨aB kG (uZ n z (.own 0 3 0 (i + 1)) ((i + 1 : Nat) : Int)), [(0, jV (i + 1) z)], 1⟩ =
  let c4 : AV := ak 1 n fun i ↦ int i64 (z i); let c3 : Int := (2 : Int) ^ 63; let c2 : Nat := i + 1; let c5 : Nat := c2 + 1; let c1 : Int := (↑c2 : Int); let c7 : Int := z c1.toNat; let c6 : Int := c1 + (1 : Int); some (fork (decide (c1 < (↑n : Int))) (af [(0 : Int) ≤ c1 ∧ c1.toNat < n, -c3 ≤ c7, c7 < c3, (1 : Nat) * 3 ≤ 2 ^ 24, c5 * ((56 : Nat) + 1) * 2 ≤ 2 ^ 47] (af [-c3 ≤ c6 ∧ c6 < c3] (leaf normal ([c4, own 45057 3 0 c5, int i64 c6], [((45057 : Nat), aJ.mk true true 3 c5 fun i ↦ if i < c2 then rat (↑(z i) : Rat) 64 else nth [rat (↑c7 : Rat) (Max.max 1 (aN c7.natAbs))] (rat 0 1) (i - c2 + 0))])))) (leaf (exit 0) ([c4, own 0 3 0 c2, int i64 c1], [((0 : Nat), aJ.mk true true 3 c2 fun i ↦ rat (↑(z i) : Rat) 64)]))) := by kernel_rfl
theorem JE {n i : Nat} {z : Nat → Int} : aI T sn [] 60 [2] [part jn [1,1,1]] ⟨aB kG (uZ n z (.own 0 3 0 (i + 1)) ((i + 1 : Nat) : Int)), [(0, jV (i + 1) z)], 1⟩ =
  some (leaf ret ([own 0 3 0 (i + 1)], [((0 : Nat), aJ.mk true true 3 (i + 1) fun i ↦ rat (↑(z i) : Rat) 64)])) := by kernel_rfl
theorem EU {rl : List (Nat × Nat)} {l i s s' s2 : Nat} {x y : Nat → Rat} {t : Rat} (hx : ∀ i, i < l → x i = y i) (ht : t = y l) (h1 : s ≤ s2) (h2 : Sz (y l) s2) (hi : i < l + 1) : gG rl (if i < l then .rat (x i) s else nth [.rat t s'] (.rat 0 1) (i - l + 0)) (.rat (y i) s2) := by
 by_cases h : i < l
 ·rw [if_pos h, hx i h]; exact .inr ⟨rfl, bJ rfl h1⟩
 ·have : i = l := by omega
  subst this
  rw [if_neg h, Nat.sub_self]
  exact .inr ⟨rfl, eG ht h2⟩
theorem xS : aX P nk := ij (aE Cl aZ)
theorem As : aX P sn := ij (aE vt aZ)
abbrev BG (n : Nat) (z : Nat → Int) (i : Nat) : List AV := qV n z (match i with
 | 0 => .nil
 | _ + 1 => .own 0 3 0 i) i
abbrev uG (z : Nat → Int) (i : Nat) : aC := match i with
 | 0 => []
 | _ + 1 => [(0, jV i z)]
theorem Bb {P' : ah → aA → Prop} {n : Nat} {z : Nat → Int} (hn : 0 < n) (hn2 : n < 2 ^ 20) (hz : ∀ i, i < n → -2 ^ 63 ≤ z i ∧ z i < 2 ^ 63) (c : Ctx) (hk : Kept [] c) (hD : aq Go.Am.N.P c l8.ntmps (part iH [1,1,1]) ⟨aB jk (BG n z n), uG z n, 1⟩ P') : aq Go.Am.N.P c l8.ntmps iH ⟨aM 0 [mh n z], [], 0⟩ P' := by
 have hs : ∀ i, i < n → Sz ((z i : Int) : Rat) 64 := fun i hi => x3 (y := 0) (hz i hi).1 (hz i hi).2
 refine aq.mm hT xS hm (x := iH) [1,1,0,1] (i := 0) (y := part iH [1,1,0,1,0,0]) (z := part iH [1,1,1]) (by kernel_rfl) (by kernel_rfl) (by kernel_rfl) xB.dst hk (f1 := []) (f2 := [9]) 60 jk 1 (fun i : Nat => BG n z i) (fun i => uG z i) (fun i => i ≤ n) (fun i => i = n) (fun i => n - i) (fun _ => False) ⟨_, HZ, ?_⟩ (fun i hi => ?_) (fun i hi => ?_) (fun _ _ h => h.elim)
 ·simp only [aa.all, ay]
  exact ⟨0, Nat.zero_le _, jb.vals rfl⟩
 ·cases i with
  | zero =>
   refine ⟨_, Ld, ?_⟩
   simp only [aa.all, ay, decide_eq_true_eq, decide_eq_false_iff_not]
   refine ⟨fun h => ⟨⟨by omega, by omega⟩, ⟨(hz 0 hn).1, (hz 0 hn).2, by omega, by omega, by omega⟩, by omega, 1, by omega, by dsimp only; omega, [(0, 32769)], rfl, rfl, rfl, ep rfl rfl rfl (fun j hj => ?_) trivial⟩, fun h => by omega⟩
   have hj : j = 0 := by omega
   subst hj
   exact .inr ⟨rfl, eG rfl (hs 0 hn)⟩
  | succ i =>
   refine ⟨_, Oc, ?_⟩
   simp only [aa.all, ay, decide_eq_true_eq, decide_eq_false_iff_not]
   have e : ((i + 1 : Nat) : Int).toNat = i + 1 := by omega
   simp only [e]
   refine ⟨fun h => ⟨⟨by omega, by omega⟩, ⟨(hz (i + 1) (by omega)).1, (hz (i + 1) (by omega)).2, by omega, by omega⟩, by omega, i + 2, by omega, by dsimp only; omega, [(0, 32769)], rfl, rfl, rfl, ep rfl rfl rfl (fun j hj => EU (x := fun i => ((z i : Int) : Rat)) (y := fun i => ((z i : Int) : Rat)) (fun _ _ => rfl) rfl (Nat.le_refl _) (hs (i + 1) (by omega)) hj) trivial⟩, fun h => ⟨rfl, i + 1, by omega, [(0, 0)], rfl, rfl, rfl, ep rfl rfl rfl (fun j hj => bU rfl rfl) trivial⟩⟩
 ·subst hi; exact hD
abbrev Cj (n : Nat) (z : Nat → Int) (i : Nat) : List AV := uZ n z (match i with
 | 0 => .nil
 | _ + 1 => .own 0 3 0 i) i
theorem S8 {P' : ah → aA → Prop} {n : Nat} {z : Nat → Int} (hn : 0 < n) (hn2 : n < 2 ^ 20) (hz : ∀ i, i < n → -2 ^ 63 ≤ z i ∧ z i < 2 ^ 63) (c : Ctx) (hk : Kept [] c) (hD : aq Go.Am.N.P c mM.ntmps (part jn [1,1,1]) ⟨aB kG (Cj n z n), uG z n, 1⟩ P') : aq Go.Am.N.P c mM.ntmps jn ⟨aM 0 [mh n z], [], 0⟩ P' := by
 have hs : ∀ i, i < n → Sz ((z i : Int) : Rat) 64 := fun i hi => x3 (y := 0) (hz i hi).1 (hz i hi).2
 refine aq.mm hT As hm (x := jn) [1,1,0,1] (i := 0) (y := part jn [1,1,0,1,0,0]) (z := part jn [1,1,1]) (by kernel_rfl) (by kernel_rfl) (by kernel_rfl) A2.dst hk (f1 := []) (f2 := [8]) 60 kG 1 (fun i : Nat => Cj n z i) (fun i => uG z i) (fun i => i ≤ n) (fun i => i = n) (fun i => n - i) (fun _ => False) ⟨_, NX, ?_⟩ (fun i hi => ?_) (fun i hi => ?_) (fun _ _ h => h.elim)
 ·simp only [aa.all, ay]
  exact ⟨0, Nat.zero_le _, jb.vals rfl⟩
 ·cases i with
  | zero =>
   refine ⟨_, QU, ?_⟩
   simp only [aa.all, ay, decide_eq_true_eq, decide_eq_false_iff_not]
   refine ⟨fun h => ⟨⟨⟨by omega, by omega⟩, (hz 0 hn).1, (hz 0 hn).2, by omega, by omega, by omega⟩, by omega, 1, by omega, by dsimp only; omega, [(0, 45057)], rfl, rfl, rfl, ep rfl rfl rfl (fun j hj => ?_) trivial⟩, fun h => by omega⟩
   have hj : j = 0 := by omega
   subst hj
   exact .inr ⟨rfl, eG rfl (hs 0 hn)⟩
  | succ i =>
   refine ⟨_, PI, ?_⟩
   simp only [aa.all, ay, decide_eq_true_eq, decide_eq_false_iff_not]
   have e : ((i + 1 : Nat) : Int).toNat = i + 1 := by omega
   simp only [e]
   refine ⟨fun h => ⟨⟨⟨by omega, by omega⟩, (hz (i + 1) (by omega)).1, (hz (i + 1) (by omega)).2, by omega, by omega⟩, by omega, i + 2, by omega, by dsimp only; omega, [(0, 45057)], rfl, rfl, rfl, ep rfl rfl rfl (fun j hj => EU (x := fun i => ((z i : Int) : Rat)) (y := fun i => ((z i : Int) : Rat)) (fun _ _ => rfl) rfl (Nat.le_refl _) (hs (i + 1) (by omega)) hj) trivial⟩, fun h => ⟨rfl, i + 1, by omega, [(0, 0)], rfl, rfl, rfl, ep rfl rfl rfl (fun j hj => bU rfl rfl) trivial⟩⟩
 ·subst hi; exact hD
def vC : Nat → (Nat → AV) → Bool
 | 0, _ => true
 | n + 1, f => vC n f && match f n with
  | .int .i64 z => decide (-2 ^ 63 ≤ z) && decide (z < 2 ^ 63)
  | _ => false
def IF (n : Nat) (f : Nat → AV) : Bool := Nat.beq n 3 && !(decide (intOf (f 0) = 0) && decide (intOf (f 1) = 0))
def ta (n : Nat) (f : Nat → AV) : Bool := Nat.blt 0 n && Nat.blt n 100 && vC n f
def wO : Spec := nI fun K l => match l with
 | [.ak 1 n f] => match ta n f, IF n f with
  | true, true => some ⟨.ak 3 n (fun i => .rat ((intOf (f i) : Int) : Rat) 64), [], []⟩
  | true, false => some ⟨jr [.own K 3 0 n], [(K, jV n fun i => intOf (f i))], []⟩
  | _, _ => none
 | _ => none
def FQ : Spec := nI fun K l => match l with
 | [.ak 1 n f] => match ta n f with
  | true => some ⟨jr [.own K 3 0 n], [(K, jV n fun i => intOf (f i))], []⟩
  | false => none
 | _ => none
theorem vH : ∀ {n : Nat} {f : Nat → AV}, vC n f = true → ∀ i, i < n → f i = .int .i64 (intOf (f i)) ∧ -2 ^ 63 ≤ intOf (f i) ∧ intOf (f i) < 2 ^ 63
 | 0, _, _, i, hi => by omega
 | n + 1, f, h, i, hi => by
  simp only [vC, Bool.and_eq_true] at h
  by_cases he : i = n
  ·subst he
   have h2 := h.2
   split at h2
   ·rename_i z hz
    simp only [Bool.and_eq_true, decide_eq_true_eq] at h2
    rw [hz]
    exact ⟨rfl, h2⟩
   ·simp at h2
  ·exact vH h.1 i (by omega)
theorem xN {n : Nat} {f : Nat → AV} (h : ta n f = true) : 0 < n ∧ n < 100 ∧ (∀ i, i < n → -2 ^ 63 ≤ intOf (f i) ∧ intOf (f i) < 2 ^ 63) ∧ dj [.ak 1 n f] [mh n fun i => intOf (f i)] := by
 simp only [ta, Bool.and_eq_true, Nat.blt_eq] at h
 exact ⟨h.1.1, h.1.2, fun i hi => (vH h.2 i hi).2, xJ rfl fun i hi => (vH h.2 i hi).1, trivial⟩
theorem AM : ∀ K args pre r, wO K args pre = some r → az P p8 K args pre r := by
 refine ue fun K args r hk hs => ?_
 split at hs
 ·rename_i n f
  split at hs
  ·rename_i h1 h2
   obtain ⟨a1, a2, a3, a4⟩ := xN h1
   simp only [Option.some.injEq] at hs
   subst hs
   refine eF (fk (r := aG (.ak 3 n (fun i => .rat ((intOf (f i) : Int) : Rat) 64)) []) hT xB rfl (of_decide_eq_true (by kernel_rfl)) rfl (fun _ c h0 => Bb a1 (by omega) a3 c (nv h0) ?_) K []) hk a4 []
   obtain ⟨m, rfl⟩ : ∃ m, n = m + 1 := ⟨n - 1, by omega⟩
   refine aq.oz ((ax.fin hT xS hm 60 L9 (by kernel_rfl) ?_).mono fun _ _ h => .inl h)
   simp only [aa.all, ay]
   exact .refl _
  ·rename_i h1 h2
   obtain ⟨a1, a2, a3, a4⟩ := xN h1
   simp only [Option.some.injEq] at hs
   subst hs
   refine ED hT xB (fun _ => xO hk rfl a4) (of_decide_eq_true (by kernel_rfl)) fun _ c hkp => Bb a1 (by omega) a3 c hkp ?_
   obtain ⟨m, rfl⟩ : ∃ m, n = m + 1 := ⟨n - 1, by omega⟩
   refine aq.aV hT xS hm 60 [2] RG (by kernel_rfl) fun s' hs' => ⟨.inr rfl, [2], _, [.own 0 3 0 (m + 1)], _, 0, _, hs', by kernel_rfl, ⟨⟨rfl, cw (by simp [aY, look]) rfl rfl⟩, trivial⟩, rfl, gi rfl fun i hi => aD rfl⟩
  ·simp at hs
 ·simp at hs
theorem MB : ∀ K args pre r, FQ K args pre = some r → az P tc K args pre r := by
 refine ue fun K args r hk hs => ?_
 split at hs
 ·rename_i n f
  split at hs
  ·rename_i h1
   obtain ⟨a1, a2, a3, a4⟩ := xN h1
   simp only [Option.some.injEq] at hs
   subst hs
   refine ED hT A2 (fun _ => xO hk rfl a4) (of_decide_eq_true (by kernel_rfl)) fun _ c hkp => S8 a1 (by omega) a3 c hkp ?_
   obtain ⟨m, rfl⟩ : ∃ m, n = m + 1 := ⟨n - 1, by omega⟩
   refine aq.aV hT As hm 60 [2] JE (by kernel_rfl) fun s' hs' => ⟨.inr rfl, [2], _, [.own 0 3 0 (m + 1)], _, 0, _, hs', by kernel_rfl, ⟨⟨rfl, cw (by simp [aY, look]) rfl rfl⟩, trivial⟩, rfl, gi rfl fun i hi => aD rfl⟩
  ·simp at hs
 ·simp at hs
end Go.Am.B

/- ref10.Check. -/
namespace Go.Am.B
open Go Go.Am.N AV aa ah IntKind
end Go.Am.B

/- ref09.Sum; contracts of sums. -/
namespace Go.Am.B
open Go Go.Am.N AV aa ah IntKind
end Go.Am.B

/- basis.Blossom. -/
namespace Go.Am.B
open Go Go.Am.N AV aa ah IntKind
end Go.Am.B

/- ref09.Polar, ref09.Blossom; contracts of polar forms. -/
namespace Go.Am.B
open Go Go.Am.N AV aa ah IntKind
end Go.Am.B

/- ref02: SameList, Mid, Text; ref08.Greville. -/
namespace Go.Am.B
open Go Go.Am.N AV aa ah IntKind
theorem Tg : aO P mN pY (au pY) := aL H6 (by kernel_rfl) (by kernel_rfl) (by kernel_rfl)
theorem RH : aO P tT sC (au sC) := aL Jx (by kernel_rfl) (by kernel_rfl) (by kernel_rfl)
theorem QI : aO P oR jj (au jj) := aL Gk (by kernel_rfl) (by kernel_rfl) (by kernel_rfl)
abbrev pn : List Nat := [0, 1, 4, 5]
abbrev yA (n m : Nat) (f g : Nat → Rat) (i : Nat) : List AV := [g8 f n sU, g8 g m sU, .bool false, .int .i64 i]
noncomputable abbrev qK : Code := au pY
theorem KH {n m : Nat} {f g : Nat → Rat} : aI T lP [10] 60 pn (before qK [1,1,0,1]) ⟨aM 0 [g8 f n sU, g8 g m sU], [], 0⟩ =
  let c2 : AV := ak 3 m fun i ↦ rat (g i) 4294967296; let c1 : AV := ak 3 n fun i ↦ rat (f i) 4294967296; some (fork ((↑n : Int) != (↑m : Int)) (leaf ret ([c1, c2, AV.bool false, tuple []], [])) (leaf normal ([c1, c2, AV.bool false, int i64 (0 : Int)], []))) := by kernel_rfl
theorem Tj {n m i : Nat} {f g : Nat → Rat} : aI T lP [14, 26] 60 pn [part qK [1,1,0,1,0,0]] ⟨aB pn (yA n m f g i), [], 0⟩ =
  let c4 : AV := ak 3 m fun i ↦ rat (g i) 4294967296; let c3 : AV := ak 3 n fun i ↦ rat (f i) 4294967296; let c2 : Int := (↑i : Int); let c5 : Int := c2 + (1 : Int); let c1 : List AV × aC := ([c3, c4, AV.bool false, int i64 c2], []); some (fork (decide (c2 < (↑n : Int))) (af [(0 : Int) ≤ c2 ∧ c2.toNat < n, (0 : Int) ≤ c2 ∧ c2.toNat < m] (fork (!decide (f c2.toNat = g c2.toNat)) (leaf ret c1) (af [-(2 : Int) ^ 63 ≤ c5 ∧ c5 < (2 : Int) ^ 63] (leaf normal ([c3, c4, AV.bool false, int i64 c5], []))))) (leaf (exit 0) c1)) := by kernel_rfl
theorem HK {n m i : Nat} {f g : Nat → Rat} : cr T lP [] 60 pY [part qK [1,1,1]] ⟨aB pn (yA n m f g i), [], 0⟩ =
  some (leaf ret [AV.bool true]) := by kernel_rfl
def og (n : Nat) (f : Nat → Rat) (m : Nat) (g : Nat → Rat) : Bool := decide (n = m ∧ ∀ i, i < n → f i = g i)
theorem KT {n m : Nat} {f g : Nat → Rat} (hn : n < 2 ^ 40) (hm2 : m < 2 ^ 40) (K : Nat) : az P mN K [g8 f n sU, g8 g m sU] [] (aG (.bool (og n f m g)) []) := by
 refine ud (r := aG (.bool (og n f m g)) []) hT F1 hm Tg rfl (of_decide_eq_true (by kernel_rfl)) rfl [1,1,0,1] (i := 0) (y := part qK [1,1,0,1,0,0]) (z := part qK [1,1,1]) (by kernel_rfl) (by kernel_rfl) (by kernel_rfl) (f1 := [10]) (f2 := [14, 26]) (f3 := []) 60 pn 0
  (fun i : Nat => yA n m f g i) (fun _ => []) (fun i => i ≤ n ∧ n = m ∧ ∀ j, j < i → f j = g j) (fun i => i = n ∧ n = m ∧ ∀ j, j < i → f j = g j) (fun i => n - i) (fun _ => ⟨⟨_, KH, ?_⟩, fun i ⟨h1, h2, h3⟩ => ⟨_, Tj, ?_⟩, fun i ⟨h1, h2, h3⟩ => ⟨_, HK, ?_⟩⟩) K []
 ·simp only [aa.all, ay, bne_iff_ne, ne_eq, bne_eq_false_iff_eq]
  exact ⟨fun h => ⟨[.bool false], by kernel_rfl, fZ (decide_eq_false (fun hh => h (by omega))).symm⟩, fun h => ⟨0, ⟨by omega, by omega, fun j hj => by omega⟩, .vals rfl⟩⟩
 ·simp only [aa.all, ay, decide_eq_true_eq, decide_eq_false_iff_not, Bool.not_eq_true', Bool.not_eq_false', Int.toNat_natCast]
  (repeat' with_reducible first | refine And.intro ?_ ?_ | intro _)
  all_goals first | omega | skip
  ·rename_i a b
   exact ⟨[.bool false], by kernel_rfl, fZ (decide_eq_false (fun hh => b (hh.2 i (by omega)))).symm⟩
  ·rename_i a b
   refine ⟨i + 1, ⟨by omega, h2, fun j hj => ?_⟩, by dsimp only; omega, .vals rfl⟩
   by_cases hj2 : j = i
   ·subst hj2; exact b
   ·exact h3 j (by omega)
  ·exact ⟨rfl, i, ⟨by omega, h2, h3⟩, .vals rfl⟩
 ·subst h1
  exact fZ (decide_eq_true ⟨h2, h3⟩).symm
def xb : Spec := gF (kC (kL sU) (kC (kL sU) kN)) (fun a => .bool (og a.1.1 a.1.2 a.2.1.1 a.2.1.2)) fun a => [a.1.1 < 2 ^ 40, a.2.1.1 < 2 ^ 40]
theorem Dz : ∀ K args pre r, xb K args pre = some r → az P mN K args pre r := fU fun _ K hn => KT hn.1 hn.2 K
end Go.Am.B

/- brepkernelmade: Knots. -/
namespace Go.Am.B
open Go Go.Am.N AV aa ah IntKind
abbrev NA (n : Nat) (z : Nat → Int) (a : Int) : aJ := fF n (fun i => .int .i64 (z i)) a
structure KSt where
 k : Nat → Rat
 t : Rat
 a : Int
theorem Qq {z : Int} (h1 : -2 ^ 63 ≤ z) (h2 : z < 2 ^ 63) : Sz ((z : Rat) / 2) 64 := by
 have := Eu h1 h2 (y := 2) (by omega) (by omega) (by omega)
 simpa using this
theorem KG.sz {p j : Nat} {k : Nat → Rat} {t : Rat} (h : KG p j k t) (hj : j < 2 ^ 50) : Sz t 64 := by
 obtain ⟨z, e, h1, h2⟩ := h.half (p + j) (Nat.le_refl _)
 rw [h.top] at e
 rw [e]
 exact Qq (by omega) (by omega)
end Go.Am.B

/- brepkernelmade: Number. -/
namespace Go.Am.B
open Go Go.Am.N AV
theorem Nd : aO P uE ry (au ry) := aL Uz (by kernel_rfl) (by kernel_rfl) (by kernel_rfl)
theorem NY {n : Nat} {z : Nat → Int} {a : Int} : nh T GP [] 60 ry (au ry) ⟨aM 0 [.ptr 0 0 2 0 []], [(0, fF n (fun i => .int .i64 (z i)) a)], 1⟩ =
  some (aa.af [dg n (fun (i : Nat) ↦ int IntKind.i64 (z i)) a, (0 : Nat) < 1] (aa.af [(0 : Nat) < 1] (aa.leaf ah.ret ([rat (dB n (fun (i : Nat) ↦ int IntKind.i64 (z i)) a) 64], some ⟨false, true, 2, 1, fun (x : Nat) ↦ agg [ak 1 n fun (i : Nat) ↦ int IntKind.i64 (z i), int IntKind.i64 (cu n (fun (i : Nat) ↦ int IntKind.i64 (z i)) a)]⟩)))) := by kernel_rfl
theorem U2 : ∀ K args pre r, iP oe K args pre = some r → az P uE K args pre r := by
 refine sZ fun {k n z a l v b q o} K hg ho hd hq => ?_
 unfold oe at hg
 split at hg
 ·simp only [Option.some.injEq, Prod.mk.injEq] at hg
  obtain ⟨rfl, rfl, rfl⟩ := hg
  refine uh hT CE hm Nd rfl rfl (of_decide_eq_true (by kernel_rfl)) ho 60 NY (fun _ => ?_) K
  simp only [aa.all, ay]
  exact ⟨⟨hd, by omega⟩, by omega, .refl _, _, rfl, rfl, ou rfl rfl⟩
 ·simp at hg
end Go.Am.B

/- law09: made, at. -/
namespace Go.Am.B
open Go Go.Am.N AV aa ah IntKind
end Go.Am.B

/- ref02.Text of a few numbers; law09.awake. -/
namespace Go.Am.B
open Go Go.Am.N AV aa ah IntKind
def tB : aP := [sG, (n6, yT)]
theorem SR : bw T tB [] 60 jj (au jj) ⟨aM 0 [.mag 3], [], 0⟩ =
  let c1 : Int := (↑(1 : Nat) : Int); some (af [nl 3 < 2 ^ 40, (0 : Int) < (1000000000 : Int), (1000000000 : Int) < (2 : Int) ^ 32] (af [(10 : Int) ≠ (0 : Int), (0 : Nat) < 1 ∧ 1 * ((1 : Nat) + 1) * 2 ≤ 2 ^ 47] (af [(10 : Int) ≠ (0 : Int)] (af [(0 : Int) ≤ c1 ∧ c1 ≤ c1 ∧ c1 ≤ (2 : Int) ^ 47 ∧ c1 * c1 ≤ (2 : Int) ^ 47] (leaf ret [str [UInt8.ofNat (u8.wrap (u32.wrap ((48 : Int) + (↑((3 : Nat) % Int.toNat (1000000000 : Int)) : Int).tmod (10 : Int)))).toNat]]))))) := by kernel_rfl
theorem Sr : aX P tB := cz (aE C3 aZ)
theorem Kn.congr {n p : Nat} {k k' : Nat → Rat} (h : Kn n p k) (e : ∀ i, i < n → k i = k' i) : Kn n p k' := by
 have hp := h.p1
 have hl := h.len
 refine ⟨h.p1, h.len, fun i hi => ?_, fun i hi => ?_, fun i h1 h2 => ?_, fun i h1 h2 => ?_⟩
 ·rw [← e i (by omega), ← e (i + 1) hi]; exact h.sorted i hi
 ·rw [← e i (by omega), ← e 0 (by omega)]; exact h.first i hi
 ·rw [← e i h2, ← e (n - 1) (by omega)]; exact h.last i h1 h2
 ·rw [← e i (by omega), ← e (i + p) (by omega)]; exact h.mult i h1 h2
theorem OZ {f : Nat → Rat} (h : ∀ i, i < 6 → f i = tJ 2 0 (fun _ => ((0 : Int) : Rat)) ((0 : Int) : Rat) i) : Kn 6 2 f :=
 ((KG.start (p := 2) (by omega) (z := 0) (by omega) (by omega)).done : Kn (2 * 2 + 2 + 0) 2 _).congr fun i hi => (h i hi).symm
end Go.Am.B

/- shapes, vector, ref14: by the evaluator; law14.awake. -/
namespace Go.Am.B
open Go Go.Am.N AV aa ah IntKind
theorem JN : aO P u5 oO (au oO) := aL J7 (by kernel_rfl) (by kernel_rfl) (by kernel_rfl)
theorem Rd {q : Rat} {n : Nat} : bw T GA [8] 60 oO (au oO) ⟨aM 0 [.rat q n], [], 0⟩ =
  let c4 : Int := (↑(nl q.num.natAbs) : Int); let c3 : Bool := !decide (q < 0); let c2 : List AV := [mag q.num.natAbs, mag (if q.den = 1 then 0 else q.den)]; let c1 : Prop := 0 < 1; some (af [c1, n < 2 ^ 44, c1] (fork c3 (af [c1, c3 = true, c1, c1] (af [c1, c1] (af [c1] (leaf ret [agg (AV.bool (bif true then decide (c4 > (0 : Int)) else false) :: c2)])))) (af [c1, c3 = false, c1] (af [c1, c1] (af [c1] (leaf ret [agg (AV.bool false :: c2)])))))) := by kernel_rfl
theorem LG {q : Rat} {n : Nat} (hn : n < 2 ^ 40) (K : Nat) : az P u5 K [.rat q n] [] (aG (.rat (-q) n) []) := by
 refine gk fun ⟨hs1, _⟩ => ?_
 have hs1 : Sz q n := hs1
 have hs2 := hs1.neg
 have e1 : (-q).num.natAbs = q.num.natAbs := by rw [Rat.neg_num, Int.natAbs_neg]
 have e2 : (-q).den = q.den := Rat.neg_den q
 refine bC (r := aG (.rat (-q) n) []) hT nE hm JN rfl (of_decide_eq_true (by kernel_rfl)) rfl 60 Rd (fun _ => ?_) K []
 simp only [aa.all, ay]
 refine ⟨⟨by omega, by omega, by omega⟩, fun hb => ⟨⟨by omega, hb, by omega, by omega⟩, ⟨by omega, by omega⟩, by omega, kD hs2 ?_ e1.symm (by rw [e2])⟩, fun hb => ⟨⟨by omega, hb, by omega⟩, ⟨by omega, by omega⟩, by omega, kD hs2 ?_ e1.symm (by rw [e2])⟩⟩
 ·have hq : ¬ q < 0 := by simpa using hb
  rw [cond_true]
  have h1 : ¬ q.num < 0 := fun h => hq (eE.2 h)
  exact ((decide_eq_decide (p := -q < 0) (q := (nl q.num.natAbs : Int) > 0)).2 (by
   rw [eE, Rat.neg_num]
   have := dS (N := q.num.natAbs)
   omega)).symm
 ·have hq : q < 0 := by simpa using hb
  have := eE.1 hq
  exact (decide_eq_false (p := -q < 0) (by rw [eE, Rat.neg_num]; omega)).symm
def zR : aP := [(u5, bk fun l => match l with
 | [.rat q n] => match Nat.blt n (2 ^ 40) with
  | true => some (aG (.rat (-q) n) [])
  | false => none
 | _ => none)]
noncomputable def rT : aP := [(DD, cK T (sG :: g9) [] 60 EJ), (Ck, cK T (sG :: g9) [] 60 zK), (Fm, cK T (sG :: g9) [] 60 za)]
noncomputable def tI : aP := [(CI, cK T (sG :: rT) [] 60 Ep), (B8, cK T (sG :: rT) [] 60 Cr), (Bt, cK T (sG :: rT) [] 60 Af)]
noncomputable def EE : aP := [(zy, cK T (sG :: tI) [] 60 Ec)]
noncomputable def nM : aP := [(p8, wO), (zP, cK T [sG] [] 60 DZ), (BP, cK T (sG :: (tI ++ g9)) [] 60 CJ), (Df, cK T (sG :: (p8, wO) :: g9) [] 200 CS)]
noncomputable def yx : aP := [(zw, cK T (sG :: nM) [] 200 z5), (Eb, cK T (sG :: nM) [] 200 Fz), (CL, cK T (sG :: (rT ++ (zR ++ g9))) [] 200 Bw)]
noncomputable def DP : aP := [(CP, cK T (sG :: (D8, cK T (sG :: g9) [] 200 DS) :: (nM ++ g9)) [] 400 Fw)]
noncomputable def mZ : aP := [(tc, FQ), (AI, cK T (sG :: eV) [] 60 BH), (Ew, cK T (sG :: eV) [] 60 Ak)]
noncomputable def BS : aP := [(AN, cK T (sG :: mZ) [] 200 Dq)]
noncomputable def mY : aP := [(Bc, cK T (sG :: eV) [] 60 zU), (BC, cK T (sG :: eV) [] 60 DH), (Bo, cK T (sG :: eV) [] 60 zc), (Cg, cK T (sG :: eV) [] 60 Ds), (FR, cK T (sG :: eV) [100010, 100017] 60 B9)]
noncomputable def Cc : aP := [(mN, xb), (nY, cK T (sG :: (mY ++ eV)) [200029, 200042] 200 oE)]
noncomputable def Ek : aP := [(nX, cK T (sG :: Cc) [100010, 100017] 60 n7)]
def Aa : Spec := bk fun l => match l with
 | [.mag 3] => some (aG (.str [51]) [])
 | [.mag 5] => some (aG (.str [53]) [])
 | _ => none
def Ll : aP := [sG, (oR, Aa)]
def Ab : Spec := bk fun l => match l with
 | [.rat q _] => match decide (q = 3 / 5) with
  | true => some (aG (.str [51, 47, 53]) [])
  | false => none
 | _ => none
noncomputable def z4 : aP := sG :: (tQ, Ce) :: (ng, wB) :: (tT, Ab) :: (yx ++ (DP ++ (BS ++ (mY ++ (EE ++ (Ek ++ eV))))))
theorem S4 : bw T tB [] 60 jj (au jj) ⟨aM 0 [.mag 5], [], 0⟩ =
  let c1 : Int := (↑(1 : Nat) : Int); some (af [nl 5 < 2 ^ 40, (0 : Int) < (1000000000 : Int), (1000000000 : Int) < (2 : Int) ^ 32] (af [(10 : Int) ≠ (0 : Int), (0 : Nat) < 1 ∧ 1 * ((1 : Nat) + 1) * 2 ≤ 2 ^ 47] (af [(10 : Int) ≠ (0 : Int)] (af [(0 : Int) ≤ c1 ∧ c1 ≤ c1 ∧ c1 ≤ (2 : Int) ^ 47 ∧ c1 * c1 ≤ (2 : Int) ^ 47] (leaf ret [str [UInt8.ofNat (u8.wrap (u32.wrap ((48 : Int) + (↑((5 : Nat) % Int.toNat (1000000000 : Int)) : Int).tmod (10 : Int)))).toNat]]))))) := by kernel_rfl
theorem H7 : bw T Ll [] 60 sC (au sC) ⟨aM 0 [.agg [.bool false, .mag 3, .mag 5]], [], 0⟩ =
  some (leaf ret [str [(51 : UInt8), (47 : UInt8), (53 : UInt8)]]) := by kernel_rfl
theorem My : bw T z4 [100027, 100033, 100038, 100043, 100047, 100053] 200 yM (au yM) ⟨aM 0 [], [], 0⟩ =
  let c49 : Int := (↑(4 : Nat) : Int); let c48 : List UInt8 := [(51 : UInt8), (47 : UInt8), (53 : UInt8)]; let c47 : Prop := 3 ≤ 3; let c46 : Prop := (0 : Int) ≤ (0 : Int); let c44 : Rat := 0 * 0; let c42 : Nat := 2 ^ 40; let c41 : Nat := 224 + 1; let c28 : Int := i64.wrap (i64.wrap ((2 : Int) * (4 : Int)) + (1 : Int)); let c27 : Int := (2 : Int) ^ 63; let c25 : Rat := (↑(2 : Int) : Rat); let c22 : Nat := Int.toNat (0 : Int) + 1; let c21 : Nat := nat_lit 0 + 0; let c20 : Nat := nat_lit 2 + 0; let c19 : Nat := 1 + 1; let c18 : Nat := nat_lit 1 + 0; let c17 : AV := rat 0 1; let c15 : Rat := (↑(0 : Int) : Rat); let c14 : Nat := 24 + 1; let c12 : Nat := 56 + 1; let c11 : Nat := 3 + 2; let c7 : Nat := 2 ^ 47; let c6 : AV := int i64 (1 : Int); let c3 : AV := int i64 (0 : Int); let c2 : Prop := 0 < 1; let c1 : Rat := (↑(1 : Int) : Rat); let c53 : List AV := [c6, c3]; let c52 : Prop := c11 * c12 * 2 ≤ c7; let c50 : Nat := c22 + 1; let c45 : Nat := c11 + 1; let c43 : Nat := c19 + 1; let c40 : Rat := c1 / (c1 + c1 * c1); let c39 : Prop := (bif false then true else !decide (c1 = c1)) = false; let c38 : Nat := c11 + 2 + 2; let c35 : Rat := (↑(intOf (nth [c6, c3, c3] c3 c21)) : Rat) + 0; let c32 : Rat := (↑(intOf (nth [c6, c3, c3] c3 c18)) : Rat) + 0; let c31 : Rat := (↑(intOf (nth [c6, c3, c3] c3 c20)) : Rat) + 0; let c24 : Rat := 0 + 0 * c1 + c44 + c1 * 0 + 0; let c23 : List AV := [c3, c3, c3, c6, c6, c6]; let c9 : AV := rat c15 (Max.max 1 (aN (Int.natAbs (0 : Int)))); let c8 : AV := rat c1 (Max.max 1 (aN (Int.natAbs (1 : Int)))); let c5 : Prop := c2 ∧ 1 * c41 * 2 ≤ c7; let c4 : Prop := c19 * c41 * 2 ≤ c7; let c37 : Rat := (↑(intOf (nth (c3 :: c53) c3 c18)) : Rat) + 0; let c36 : Rat := (↑(intOf (nth (c3 :: c53) c3 c20)) : Rat) + 0; let c34 : Rat := (↑(intOf (nth (c3 :: c53) c3 c21)) : Rat) + 0; let c33 : Rat := (↑(intOf (nth (c6 :: c53) c3 c20)) : Rat) + 0; let c30 : Rat := (↑(intOf (nth (c6 :: c53) c3 c18)) : Rat) + 0; let c29 : Rat := (↑(intOf (nth (c6 :: c53) c3 c21)) : Rat) + 0; let c16 : Rat := 0 + (c1 - c1 * c1) * c40 * c1 + -((c1 + c1) * c40) * 0 + c44 + 0; let c13 : Rat := 0 + (c1 + c1) * c40 * c1 + ((c1 - c1 * c1) * c40 + 0) * 0 + c44 + 0; let c10 : Nat := c43 + 1 + 1; let c51 : Nat := c10 + 1 + 1; let c26 : Nat := c51 + 1; some (af [c2, c2, c2, c2, c2, c2, c2, -c27 ≤ (1 : Int), (1 : Int) < c27, -c27 ≤ (2 : Int), (2 : Int) < c27, fl (fun i ↦ rat (↑(intOf (nth c23 c3 (i + 0 + 0))) : Rat) 64) 6 sK, iC (fun i ↦ nth [agg [agg [c8, c9, c9], c8], agg [agg [c8, c8, c9], c8], agg [agg [c9, c8, c9], rat c25 (Max.max 1 (aN (Int.natAbs (2 : Int))))]] (agg [agg [c17, c17, c17], c17]) (i + 0)) 3 sK, (64 : Nat) ≤ sK, Kn 6 (Int.toNat (2 : Int)) fun i ↦ bQ (rat (↑(intOf (nth c23 c3 (i + 0 + 0))) : Rat) 64), (0 : Int) ≤ (2 : Int), (2 : Int) ≤ (6 : Int), (6 : Nat) < c42, (↑(3 : Nat) : Int) = (↑(6 : Nat) : Int) - (2 : Int) - (1 : Int)] (af [c2, c2, c2, c2, c2, c2, c2, c2, c2, c2] (af [c2, c2, c2, c2, c2, c2, c2, c2, c2, c2, c2, c52, (c11 + 2) * c12 * 2 ≤ c7, c38 * c12 * 2 ≤ c7, (c38 + 2) * c12 * 2 ≤ c7, (c38 + 2 + 1) * c12 * 2 ≤ c7, c46 ∧ (0 : Int) ≤ c49 ∧ c49 ≤ (2 : Int) ^ 47 ∧ c49 * (↑(56 : Nat) : Int) ≤ (2 : Int) ^ 47, c22 * c12 * 2 ≤ c7, c50 * c12 * 2 ≤ c7, (c50 + 1) * c12 * 2 ≤ c7, (c50 + 1 + 1) * c12 * 2 ≤ c7, c2, c2, c46 ∧ (0 : Int) ≤ c28 ∧ c28 ≤ (↑(9 : Nat) : Int), c5, c4, c2 ∧ 1 * c14 * 2 ≤ c7, c5, c4, c19 * c14 * 2 ≤ c7, c5, c4, c43 * c14 * 2 ≤ c7, c5, c4, (c43 + 1) * c14 * 2 ≤ c7, c5, c4, c10 * c14 * 2 ≤ c7, c5, c4, (c10 + 1) * c14 * 2 ≤ c7, c5, c4, c51 * c14 * 2 ≤ c7, c5, c4, c26 * c14 * 2 ≤ c7, c5, c4, (c26 + 1) * c14 * 2 ≤ c7, c2] (af [(eB 6 (fun i ↦ bQ (rat (↑(intOf (nth c23 c3 (i + 0 + 0))) : Rat) 64)) (c1 / c25) == (0 : Int)) = true, (bif true then c48 == c48 else false) = true, c52, c45 * c12 * 2 ≤ c7, c2, c2, c46 ∧ (0 : Int) ≤ (3 : Int) ∧ (3 : Int) ≤ (↑(9 : Nat) : Int), c47, c2, c2, c2, c5, c47, c2, c2, c2, c4, c47, c2, c2, c2, c43 * c41 * 2 ≤ c7, c2, c2, c2, c2, c2, c2, c2, c2, ((2 : Int) == (2 : Int)) = true, fl (fun i ↦ if i + 0 < c11 then if i + 0 < 3 then rat (↑(intOf (nth [c3, c3, c3] c3 (i + 0 + 0))) : Rat) 64 else rat (↑(intOf (nth [c6, c6] c3 (i + 0 - 3 + 0 + 0))) : Rat) 64 else nth [c8] c17 (i + 0 - c11 + 0)) c45 sU, fl (fun i ↦ rat (↑(intOf (nth c23 c3 (i + 0 + 0))) : Rat) 64) 6 sU, c45 < c42, (6 : Nat) < c42, (bif true then og c45 (fun i ↦ bQ (if i + 0 < c11 then if i + 0 < 3 then rat (↑(intOf (nth [c3, c3, c3] c3 (i + 0 + 0))) : Rat) 64 else rat (↑(intOf (nth [c6, c6] c3 (i + 0 - 3 + 0 + 0))) : Rat) 64 else nth [c8] c17 (i + 0 - c11 + 0))) 6 fun i ↦ bQ (rat (↑(intOf (nth c23 c3 (i + 0 + 0))) : Rat) 64) else false) = true, decide (c35 = c1) = true, (bif true then decide (c32 = c15) else false) = true, (!bif true then decide (c31 = c15) else false) = false, c39, decide (c29 = c1) = true, (bif true then decide (c30 = c1) else false) = true, (!bif true then decide (c33 = c15) else false) = false, c39, decide (c34 = c15) = true, (bif true then decide (c37 = c1) else false) = true, (!bif true then decide (c36 = c15) else false) = false, (bif false then true else !decide (c25 = c25)) = false, (bif true then bif true then true else false else false) = true, c2, decide (c16 = 0) = true, (bif true then decide (c13 = c1) else false) = true, (bif true then bif true then decide (c24 = 0) else false else false) = true, (bif true then (0 : Int) == (0 : Int) else false) = true, (bif true then (↑(c26 + 1) : Int) == (9 : Int) else false) = true] (leaf ret [AV.bool true]))))) := by kernel_rfl
theorem Nl : aX P zR := aE (by
 refine bD fun K args r hk hs _ => ?_
 split at hs
 ·split at hs
  ·rename_i hb
   simp only [Option.some.injEq] at hs
   subst hs
   exact LG (by rw [Nat.blt_eq] at hb; exact hb) K
  ·simp at hs
 ·simp at hs) aZ
theorem uI : aX P rT := aE (cM hT (cz iW) hm (aL Gi (by kernel_rfl) (by kernel_rfl) (by kernel_rfl)) _ _) (aE (cM hT (cz iW) hm (aL SE (by kernel_rfl) (by kernel_rfl) (by kernel_rfl)) _ _) (aE (cM hT (cz iW) hm (aL Gn (by kernel_rfl) (by kernel_rfl) (by kernel_rfl)) _ _) aZ))
theorem wJ : aX P tI := aE (cM hT (cz uI) hm (aL Pp (by kernel_rfl) (by kernel_rfl) (by kernel_rfl)) _ _) (aE (cM hT (cz uI) hm (aL Lg (by kernel_rfl) (by kernel_rfl) (by kernel_rfl)) _ _) (aE (cM hT (cz uI) hm (aL TY (by kernel_rfl) (by kernel_rfl) (by kernel_rfl)) _ _) aZ))
theorem Lc : aX P EE := aE (cM hT (cz wJ) hm (aL Tk (by kernel_rfl) (by kernel_rfl) (by kernel_rfl)) _ _) aZ
theorem oP : aX P nM := aE AM (aE (cM hT (cz aZ) hm (aL Lh (by kernel_rfl) (by kernel_rfl) (by kernel_rfl)) _ _) (aE (cM hT (cz (ek wJ iW)) hm (aL Rn (by kernel_rfl) (by kernel_rfl) (by kernel_rfl)) _ _) (aE (cM hT (cz (aE AM iW)) hm (aL TX (by kernel_rfl) (by kernel_rfl) (by kernel_rfl)) _ _) aZ)))
theorem zm : aX P yx := aE (cM hT (cz oP) hm (aL Jk (by kernel_rfl) (by kernel_rfl) (by kernel_rfl)) _ _) (aE (cM hT (cz oP) hm (aL LB (by kernel_rfl) (by kernel_rfl) (by kernel_rfl)) _ _) (aE (cM hT (cz (ek uI (ek Nl iW))) hm (aL Ia (by kernel_rfl) (by kernel_rfl) (by kernel_rfl)) _ _) aZ))
theorem NP : aX P DP := aE (cM hT (cz (aE (cM hT (cz iW) hm (aL HS (by kernel_rfl) (by kernel_rfl) (by kernel_rfl)) _ _) (ek oP iW))) hm (aL K9 (by kernel_rfl) (by kernel_rfl) (by kernel_rfl)) _ _) aZ
theorem qI : aX P mZ := aE MB (aE (cM hT (cz fq) hm (aL RS (by kernel_rfl) (by kernel_rfl) (by kernel_rfl)) _ _) (aE (cM hT (cz fq) hm (aL QY (by kernel_rfl) (by kernel_rfl) (by kernel_rfl)) _ _) aZ))
theorem HP : aX P BS := aE (cM hT (cz qI) hm (aL Ud (by kernel_rfl) (by kernel_rfl) (by kernel_rfl)) _ _) aZ
theorem qb : aX P mY := aE (cM hT (cz fq) hm (aL LR (by kernel_rfl) (by kernel_rfl) (by kernel_rfl)) _ _) (aE (cM hT (cz fq) hm (aL T0 (by kernel_rfl) (by kernel_rfl) (by kernel_rfl)) _ _) (aE (cM hT (cz fq) hm (aL ME (by kernel_rfl) (by kernel_rfl) (by kernel_rfl)) _ _) (aE (cM hT (cz fq) hm (aL TT (by kernel_rfl) (by kernel_rfl) (by kernel_rfl)) _ _) (aE (cM hT (cz fq) hm (aL N3 (by kernel_rfl) (by kernel_rfl) (by kernel_rfl)) _ _) aZ))))
theorem OU : aX P Cc := aE Dz (aE (cM hT (cz (ek qb fq)) hm (aL Ft (by kernel_rfl) (by kernel_rfl) (by kernel_rfl)) _ _) aZ)
theorem Tv : aX P Ek := aE (cM hT (cz OU) hm (aL AB (by kernel_rfl) (by kernel_rfl) (by kernel_rfl)) _ _) aZ
theorem Lu : ∀ K args pre r, Aa K args pre = some r → az P oR K args pre r := by
 refine bD fun K args r hk hs _ => ?_
 have fin : ∀ {N : Nat} {t : aa (List AV)} {l : List UInt8}, bw T tB [] 60 jj (au jj) ⟨aM 0 [.mag N], [], 0⟩ = some t → (t.all fun _ us => dL us (.str l)) → az P oR K [.mag N] [] (aG (.str l) []) := fun h1 h2 =>
  bC (r := aG _ []) hT Sr hm QI rfl (of_decide_eq_true (by kernel_rfl)) rfl 60 h1 (fun _ => h2) K []
 split at hs <;> simp only [Option.some.injEq, reduceCtorEq] at hs
 all_goals subst hs
 ·exact fin SR (by simp only [aa.all, ay]; exact ⟨by decide, by decide, by decide, by decide, .refl _⟩)
 ·exact fin S4 (by simp only [aa.all, ay]; exact ⟨by decide, by decide, by decide, by decide, .refl _⟩)
theorem GH : ∀ K args pre r, Ab K args pre = some r → az P tT K args pre r := by
 refine bD fun K args r hk hs _ => ?_
 split at hs
 ·rename_i q n
  split at hs
  all_goals simp only [Option.some.injEq, reduceCtorEq] at hs
  all_goals subst hs
  obtain rfl : q = 3 / 5 := of_decide_eq_true ‹_›
  exact eF (bC (r := aG _ []) hT (cz (aE Lu aZ)) hm RH rfl (of_decide_eq_true (by kernel_rfl)) rfl 60 H7 (fun _ => .refl _) K []) rfl (show dj [_] [_] from ⟨by rw [← show kids (.rat (3 / 5) n) = [.bool false, .mag 3, .mag 5] from by kernel_rfl]; exact DX, trivial⟩) []
 ·simp at hs
theorem K0 : aX P z4 := cz (aE SS (aE BK (aE GH (ek zm (ek NP (ek HP (ek qb (ek Lc (ek Tv fq)))))))))
theorem TA (K : Nat) : az P tK K [] [] (aG (.bool true) []) := by
 refine bC (r := aG (.bool true) []) hT K0 hm (aL To (by kernel_rfl) (by kernel_rfl) (by kernel_rfl)) rfl (of_decide_eq_true (by kernel_rfl)) rfl 200 My (fun _ => ?_) K []
 simp only [aa.all, ay]
 (repeat' with_reducible first | refine And.intro ?_ ?_)
 all_goals first | omega | decide | skip
 ·intro i hi
  match i, hi with
  | 0, _ | 1, _ | 2, _ | 3, _ | 4, _ | 5, _ => exact dZ (by decide)
 ·intro i hi
  match i, hi with
  | 0, _ | 1, _ | 2, _ => exact cN ⟨cN ⟨dZ (by decide), dZ (by decide), dZ (by decide), trivial⟩, dZ (by decide), trivial⟩
 ·refine OZ fun i hi => ?_
  match i, hi with
  | 0, _ | 1, _ | 2, _ | 3, _ | 4, _ | 5, _ => decide +kernel
 ·decide +kernel
 ·intro i hi
  match i, hi with
  | 0, _ | 1, _ | 2, _ | 3, _ | 4, _ | 5, _ => exact dZ (by decide)
 ·intro i hi
  match i, hi with
  | 0, _ | 1, _ | 2, _ | 3, _ | 4, _ | 5, _ => exact dZ (by decide)
 all_goals first | exact .refl _ | decide +kernel
def zC : Spec := bk fun l => match l with
 | [] => some (aG (.bool true) [])
 | _ => none
theorem ND : ∀ K args pre r, zC K args pre = some r → az P tK K args pre r := by
 refine bD fun K args r hk hs _ => ?_
 split at hs
 ·simp only [Option.some.injEq] at hs
  subst hs
  exact TA K
 ·simp at hs
end Go.Am.B

/- ref12: row, Swap, IsoV, IsoU, Eval. -/
namespace Go.Am.B
open Go Go.Am.N AV aa ah IntKind
structure SfW (s : Sf) : Prop where
 ku : Kn s.a s.u.toNat s.ku
 kv : Kn s.b s.v.toNat s.kv
 u0 : 0 ≤ s.u
 u6 : s.u ≤ 6
 v0 : 0 ≤ s.v
 v6 : s.v ≤ 6
 a : s.a < 2 ^ 30
 b : s.b < 2 ^ 30
 n : (s.n : Int) = (s.a : Int) - s.u - 1
 m : (s.m : Int) = (s.b : Int) - s.v - 1
end Go.Am.B

/- ref10: MovePoles, Move; ref12: withRows, Move. -/
namespace Go.Am.B
open Go Go.Am.N AV aa ah IntKind
abbrev sQ : Nat := 1100
end Go.Am.B

/- ref10.SamePoles, Same, ref12.Same for equal arguments. -/
namespace Go.Am.B
open Go Go.Am.N AV aa ah IntKind
theorem UY : aO P nY oE (au oE) := aL Ft (by kernel_rfl) (by kernel_rfl) (by kernel_rfl)
theorem K6 : aO P nX n7 (au n7) := aL AB (by kernel_rfl) (by kernel_rfl) (by kernel_rfl)
noncomputable def uy : aP := nG :: (mY ++ eV)
noncomputable abbrev qi : Code := au oE
abbrev xq (n m : Nat) (f g : Nat → Pl) (i : Nat) : List AV := [iM f n sU, iM g m sU, .bool false, .int .i64 i]
theorem GF {n m : Nat} {f g : Nat → Pl} : aI T uy [200010] 60 [0, 1, 4, 5] (before qi [1,1,0,1]) ⟨aM 0 [iM f n sU, iM g m sU], [], 0⟩ =
  some (af [((↑n : Int) != (↑m : Int)) = false] (leaf normal ([ak 12 n fun i ↦ agg [agg [rat (f i).n.x 4294967296, rat (f i).n.y 4294967296, rat (f i).n.z 4294967296], rat (f i).d 4294967296], ak 12 m fun i ↦ agg [agg [rat (g i).n.x 4294967296, rat (g i).n.y 4294967296, rat (g i).n.z 4294967296], rat (g i).d 4294967296], AV.bool false, int i64 (0 : Int)], []))) := by kernel_rfl
theorem Ml {n m i : Nat} {f g : Nat → Pl} : aI T uy [14, 200029, 200042] 60 [0, 1, 4, 5] [part qi [1,1,0,1,0,0]] ⟨aB [0, 1, 4, 5] (xq n m f g i), [], 0⟩ =
  let c4 : Int := (↑i : Int); let c3 : AV := ak 12 m fun i ↦ agg [agg [rat (g i).n.x 4294967296, rat (g i).n.y 4294967296, rat (g i).n.z 4294967296], rat (g i).d 4294967296]; let c2 : AV := ak 12 n fun i ↦ agg [agg [rat (f i).n.x 4294967296, rat (f i).n.y 4294967296, rat (f i).n.z 4294967296], rat (f i).d 4294967296]; let c8 : Int := c4 + (1 : Int); let c5 : Prop := (0 : Int) ≤ c4; let c1 : Nat := c4.toNat; let c7 : V3 := (f c1).n; let c6 : V3 := (g c1).n; some (fork (decide (c4 < (↑n : Int))) (af [c5 ∧ c1 < n, c5 ∧ c1 < m, decide (c7.x = c6.x) = true, (bif true then decide (c7.y = c6.y) else false) = true, (!bif true then decide (c7.z = c6.z) else false) = false, c5 ∧ c1 < n, c5 ∧ c1 < m] (af [(bif false then true else !decide ((f c1).d = (g c1).d)) = false] (af [-(2 : Int) ^ 63 ≤ c8 ∧ c8 < (2 : Int) ^ 63] (leaf normal ([c2, c3, AV.bool false, int i64 c8], []))))) (leaf (exit 0) ([c2, c3, AV.bool false, int i64 c4], []))) := by kernel_rfl
theorem QL {n m i : Nat} {f g : Nat → Pl} : cr T uy [] 60 oE [part qi [1,1,1]] ⟨aB [0, 1, 4, 5] (xq n m f g i), [], 0⟩ =
  some (leaf ret [AV.bool true]) := by kernel_rfl
theorem K4 : aX P uy := ij (ek qb fq)
theorem R5 {n m : Nat} {f g : Nat → Pl} (hn : n < 2 ^ 30) (hm2 : n = m) (he : ∀ i, i < n → f i = g i) (K : Nat) : az P nY K [iM f n sU, iM g m sU] [] (aG (.bool true) []) := by
 refine ud (r := aG (.bool true) []) hT K4 hm UY rfl (of_decide_eq_true (by kernel_rfl)) rfl [1,1,0,1] (i := 0) (y := part qi [1,1,0,1,0,0]) (z := part qi [1,1,1]) (by kernel_rfl) (by kernel_rfl) (by kernel_rfl) (f1 := [200010]) (f2 := [14, 200029, 200042]) (f3 := []) 60 [0, 1, 4, 5] 0
  (fun i : Nat => xq n m f g i) (fun _ => []) (fun i => i ≤ n) (fun i => i = n) (fun i => n - i) (fun _ => ⟨⟨_, GF, ?_⟩, fun i h1 => ⟨_, Ml, ?_⟩, fun i h1 => ⟨_, QL, ?_⟩⟩) K []
 all_goals try simp only [aa.all, ay, decide_eq_true_eq, decide_eq_false_iff_not, Int.toNat_natCast]
 ·exact ⟨bne_eq_false_iff_eq.2 (by omega), 0, Nat.zero_le _, .vals rfl⟩
 ·refine ⟨fun h => ?_, fun h => ⟨rfl, i, by omega, .vals rfl⟩⟩
  have e := he i (by omega)
  exact ⟨⟨by omega, by omega, by rw [e], decide_eq_true (congrArg (fun p : Pl => p.n.y) e), congrArg (!·) (decide_eq_true (congrArg (fun p : Pl => p.n.z) e)), by omega, by omega⟩, congrArg (!·) (decide_eq_true (congrArg (fun p : Pl => p.d) e)), by omega, i + 1, by omega, by dsimp only; omega, .vals rfl⟩
 ·exact .refl _
def zQ : Spec := gF (kC (uA sU) (kC (uA sU) kN)) (fun _ => .bool true) fun a => [a.1.1 < 2 ^ 30, a.1.1 = a.2.1.1, ∀ i, i < a.1.1 → a.1.2 i = a.2.1.2 i]
theorem JA : ∀ K args pre r, zQ K args pre = some r → az P nY K args pre r := fU fun _ K hn => R5 hn.1 hn.2.1 hn.2.2 K
noncomputable def CV : aP := nG :: (mN, xb) :: (nY, zQ) :: []
theorem KC {c d : Cu} : bw T CV [100010, 100017] 60 n7 (au n7) ⟨aM 0 [gv c sU sU, gv d sU sU], [], 0⟩ =
  let c1 : Prop := 0 < 1; some (af [c1, c1, (c.p == d.p) = true, c1, c1, fl (fun i ↦ rat (c.k i) sU) c.n sU, fl (fun i ↦ rat (d.k i) sU) d.n sU, c.n < 2 ^ 40, d.n < 2 ^ 40, (bif true then og c.n (fun i ↦ bQ (rat (c.k i) sU)) d.n fun i ↦ bQ (rat (d.k i) sU) else false) = true, c1, c1, iC (fun i ↦ eu (c.f i) sU) c.m sU, iC (fun i ↦ eu (d.f i) sU) d.m sU, c.m < 2 ^ 30, c.m = d.m, ∀ (i : Nat), i < c.m → jw (eu (c.f i) sU) = jw (eu (d.f i) sU)] (leaf ret [AV.bool true])) := by kernel_rfl
theorem Pa : aX P CV := ij (aE Dz (aE JA aZ))
theorem MI {n m : Nat} {f g : Nat → Rat} (h : n = m) (he : ∀ i, i < n → f i = g i) : og n f m g = true := decide_eq_true ⟨h, he⟩
structure oo (c d : Cu) : Prop where
 p : c.p = d.p
 n : c.n = d.n
 k : ∀ i, i < c.n → c.k i = d.k i
 m : c.m = d.m
 f : ∀ i, i < c.m → c.f i = d.f i
structure SfEq (s t : Sf) : Prop where
 u : s.u = t.u
 v : s.v = t.v
 a : s.a = t.a
 ku : ∀ i, i < s.a → s.ku i = t.ku i
 b : s.b = t.b
 kv : ∀ i, i < s.b → s.kv i = t.kv i
 n : s.n = t.n
 m : s.m = t.m
 f : ∀ i j, i < s.n → j < s.m → s.f i j = t.f i j
theorem UB {c d : Cu} (h : oo c d) (hn : c.n < 2 ^ 30) (hm2 : c.m < 2 ^ 30) (K : Nat) : az P nX K [gv c sU sU, gv d sU sU] [] (aG (.bool true) []) := by
 obtain ⟨h1, h2, h3, h4, h5⟩ := h
 refine bC (r := aG (.bool true) []) hT Pa hm K6 rfl (of_decide_eq_true (by kernel_rfl)) rfl 60 KC (fun _ => ?_) K []
 simp only [aa.all, ay]
 exact ⟨⟨by omega, by omega, beq_iff_eq.2 h1, by omega, by omega, iK (Nat.le_refl _), iK (Nat.le_refl _), by omega, by omega, MI h2 h3, by omega, by omega, ux (Nat.le_refl _), ux (Nat.le_refl _), hm2, h4, h5⟩, .refl _⟩
def DU : Spec := gF (kC (vl sU sU) (kC (vl sU sU) kN)) (fun _ => .bool true) fun a => [oo a.1 a.2.1, a.1.n < 2 ^ 30, a.1.m < 2 ^ 30]
theorem P2 : ∀ K args pre r, DU K args pre = some r → az P nX K args pre r := fU fun _ K hn => UB hn.1 hn.2.1 hn.2.2 K
end Go.Am.B
