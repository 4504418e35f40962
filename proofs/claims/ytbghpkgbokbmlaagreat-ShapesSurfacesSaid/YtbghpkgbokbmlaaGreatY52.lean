/- shapes.Circle. -/
import Derived.Test.YtbghpkgbokbmlaaGreatY48
import Derived.Test.YtbghpkgbokbmlaaGreatC9
set_option linter.unusedVariables false
namespace Go.Am.B
open Go Go.Am.N AV aa ah IntKind
theorem Hj {x y z d x' y' z' d' : Rat} {s1 s2 s3 s4 s : Nat} (h1 : x = x') (h2 : y = y') (h3 : z = z') (h4 : d = d') (k1 : s1 ≤ s) (k2 : s2 ≤ s) (k3 : s3 ≤ s) (k4 : s4 ≤ s) : bu (.agg [.agg [.rat x s1, .rat y s2, .rat z s3], .rat d s4]) (aS ⟨⟨x', y', z'⟩, d'⟩ s) :=
 cq ⟨cq ⟨bI h1 k1, bI h2 k2, bI h3 k3, trivial⟩, bI h4 k4, trivial⟩
end Go.Am.B

/- shapes.Polyline, ref14.Polyline. -/
namespace Go.Am.B
open Go Go.Am.N AV aa ah IntKind
def vV : AV → V3
 | .agg [x, y, z] => ⟨aY x, aY y, aY z⟩
 | _ => ⟨0, 0, 0⟩
end Go.Am.B

/- ref14: Circle, Rotation; ref04.SameMap. -/
namespace Go.Am.B
open Go Go.Am.N AV aa ah IntKind
end Go.Am.B

/- ref10: MovePoles, Move; ref12: withRows, Move. -/
namespace Go.Am.B
open Go Go.Am.N AV aa ah IntKind
theorem PX : aP P q7 sD (au sD) := aL Pd (by kernel_rfl) (by kernel_rfl) (by kernel_rfl)
theorem VY : aP P pg u5 (au u5) := aL J2 (by kernel_rfl) (by kernel_rfl) (by kernel_rfl)
def Bt (s : Nat) : Kind Mp := ⟨fun v => match z6 v with
 | some (a, q) => some (a.1, (a.2 ≤ s) :: q)
 | none => none, fun a => fK a s, fun {v a q} h hq => by
  split at h
  ·rename_i a q h1
   simp only [Option.some.injEq, Prod.mk.injEq] at h
   obtain ⟨rfl, rfl⟩ := h
   obtain ⟨q1, q2⟩ := (dn (a := [_]) (b := q)).1 hq
   exact (P5 h1 q2).trans (OW rfl q1)
  ·simp at h⟩
def iF (r v : V3) (t : Rat) : Rat := 0 + r.x * v.x + r.y * v.y + r.z * v.z + t
def Qz (m : Mp) (v : V3) : V3 := ⟨iF m.m.a v m.t.x, iF m.m.b v m.t.y, iF m.m.c v m.t.z⟩
def dK (m : Mp) (p : Pl) : Pl := ⟨Qz m p.n, p.d⟩
def iX (m : Mp) (c : Cu) : Cu := ⟨c.p, c.n, c.k, c.m, fun j => dK m (c.f j)⟩
abbrev sM : Nat := 300
abbrev sQ : Nat := 1100
abbrev sW : Nat := 6000
noncomputable def H6 : aO := [(Iq, cP T (sG :: nL) [] 60 FX)]
noncomputable def JB : aO := [(Ej, cP T (sG :: (H6 ++ nL)) [] 60 DS)]
noncomputable def wX : aO := nG :: JB
abbrev vE : List Nat := [0, 3, 4, 5, 6]
abbrev zq (n : Nat) (f : Nat → Pl) (i : Nat) : List AV := [cm f n sQ, .ptr 0 0 36 0 [], .nil, .own 1 12 0 i, .int .i64 i]
abbrev zD (m : Mp) (g : Nat → Pl) (i : Nat) : aC := [(1, ⟨true, true, 12, i, fun i => aS (g i) sW⟩), (0, ⟨false, true, 36, 1, fun _ => fK m sM⟩)]
noncomputable abbrev uo : Code := au sD
theorem YM {n : Nat} {f : Nat → Pl} {m : Mp} : aI T wX [] 60 vE (before uo [1,1,0,1]) ⟨aK 0 [cm f n sQ, fK m sM], [], 0⟩ =
  some (leaf normal ([aj 12 n fun i ↦ agg [agg [rat (f i).n.x 1100, rat (f i).n.y 1100, rat (f i).n.z 1100], rat (f i).d 1100], ptr 0 0 (bw (fK m sM)).size 0 [], nil, nil, int i64 (0 : Int)], [((0 : Nat), aA.mk false true (bw (fK m sM)).size 1 fun x ↦ agg [agg [agg [rat m.m.a.x 300, rat m.m.a.y 300, rat m.m.a.z 300], agg [rat m.m.b.x 300, rat m.m.b.y 300, rat m.m.b.z 300], agg [rat m.m.c.x 300, rat m.m.c.y 300, rat m.m.c.z 300]], agg [rat m.t.x 300, rat m.t.y 300, rat m.t.z 300]])])) := by kernel_rfl
theorem R3 {n i : Nat} {f g : Nat → Pl} {m : Mp} : aI T wX [10] 60 vE [part uo [1,1,0,1,0,0]] ⟨aB vE (zq n f i), zD m g i, 2⟩ =
  let c8 : AV := ptr 0 0 36 0 []; let c7 : AV := rat 0 1; let c6 : Int := (↑i : Int); let c5 : Prop := 0 < 1; let c4 : AV := aj 12 n fun i ↦ agg [agg [rat (f i).n.x 1100, rat (f i).n.y 1100, rat (f i).n.z 1100], rat (f i).d 1100]; let c2 : Nat := 1 + (sM + sQ) + 1 + (sM + sQ) + 1 + (sM + sQ) + 1 + sM + 1; let c1 : List (Nat × aA) := [((0 : Nat), aA.mk false true 36 1 fun x ↦ agg [agg [agg [rat m.m.a.x 300, rat m.m.a.y 300, rat m.m.a.z 300], agg [rat m.m.b.x 300, rat m.m.b.y 300, rat m.m.b.z 300], agg [rat m.m.c.x 300, rat m.m.c.y 300, rat m.m.c.z 300]], agg [rat m.t.x 300, rat m.t.y 300, rat m.t.z 300]])]; let c10 : Int := c6 + (1 : Int); let c9 : Prop := (0 : Int) ≤ c6 ∧ c6.toNat < n; let c3 : V3 := (f c6.toNat).n; some (fork (decide (c6 < (↑n : Int))) (af [c5, c9, c5, c5, c5, c5, c5, c5, c9, (1 : Nat) * 12 ≤ 2 ^ 24, (i + 1) * ((224 : Nat) + 1) * 2 ≤ 2 ^ 47] (af [-(2 : Int) ^ 63 ≤ c10 ∧ c10 < (2 : Int) ^ 63] (leaf normal ([c4, c8, nil, own 77826 12 0 (i + 1), int i64 c10], ((77826 : Nat), aA.mk true true 12 (i + 1) fun i_1 ↦ if i_1 < i then aS (g i_1) sW else nth [agg [agg [rat ((0 : Rat) + m.m.a.x * c3.x + m.m.a.y * c3.y + m.m.a.z * c3.z + m.t.x) c2, rat ((0 : Rat) + m.m.b.x * c3.x + m.m.b.y * c3.y + m.m.b.z * c3.z + m.t.y) c2, rat ((0 : Rat) + m.m.c.x * c3.x + m.m.c.y * c3.y + m.m.c.z * c3.z + m.t.z) c2], rat (f c6.toNat).d sQ]] (agg [agg [c7, c7, c7], c7]) (i_1 - i + 0)) :: c1)))) (leaf (exit 0) ([c4, c8, nil, own 1 12 0 i, int i64 c6], ((1 : Nat), aA.mk true true 12 i fun i ↦ agg [agg [rat (g i).n.x 6000, rat (g i).n.y 6000, rat (g i).n.z 6000], rat (g i).d 6000]) :: c1))) := by kernel_rfl
theorem LR {n i : Nat} {f g : Nat → Pl} {m : Mp} : ct T wX [] 60 sD [part uo [1,1,1]] ⟨aB vE (zq n f i), zD m g i, 2⟩ =
  some (leaf ret [aj 12 i fun i ↦ agg [agg [rat (g (i + 0)).n.x 6000, rat (g (i + 0)).n.y 6000, rat (g (i + 0)).n.z 6000], rat (g (i + 0)).d 6000]]) := by kernel_rfl
theorem aav (m : Mp) : (bw (fK m sM)).size = 36 := by kernel_rfl
theorem Nl : aW P H6 := aD (cV hT (cR pI) hm (aL aae (by kernel_rfl) (by kernel_rfl) (by kernel_rfl)) _ _) bg
theorem R9 : aW P JB := aD (cV hT (cR (gk Nl pI)) hm (aL RM (by kernel_rfl) (by kernel_rfl) (by kernel_rfl)) _ _) bg
theorem ZA : aW P wX := ep R9
theorem Xe {n : Nat} {f : Nat → Pl} {m : Mp} (hn : n < 2 ^ 30) (K : Nat) : ay P q7 K [cm f n sQ, fK m sM] [] (aF (cm (fun j => dK m (f j)) n sW) []) := by
 refine kQ (r := aF (cm (fun j => dK m (f j)) n sW) []) hT ZA hm PX rfl (of_decide_eq_true (by kernel_rfl)) rfl [1,1,0,1] (i := 0) (y := part uo [1,1,0,1,0,0]) (z := part uo [1,1,1]) (by kernel_rfl) (by kernel_rfl) (by kernel_rfl) (f1 := []) (f2 := [10]) (f3 := []) 60 vE 2
  (fun i : Nat => zq n f i) (fun i => zD m (fun j => dK m (f j)) i) (fun i => i ≤ n) (fun i => i = n) (fun i => n - i) (fun _ => ⟨⟨_, YM, ?_⟩, fun i hi => ⟨_, R3, ?_⟩, fun i hi => ⟨_, LR, ?_⟩⟩) K []
 ·simp only [aa.all]
  rw [aav m]
  exact ⟨0, Nat.zero_le _, [(0, 0)], rfl, rfl, rfl, nP rfl (by omega) (by omega) (aU (f := fun _ => fK m sM) rfl rfl (aR rfl rfl) trivial)⟩
 ·simp only [aa.all, ax, decide_eq_true_eq, decide_eq_false_iff_not, Int.toNat_natCast, Nat.add_zero]
  refine ⟨fun h => ⟨by omega, by omega, i + 1, by omega, by dsimp only; omega, [(0, 0), (1, 77826)], rfl, rfl, rfl, cz rfl rfl rfl (fun k hk => ?_) (aU rfl rfl (aR rfl rfl) trivial)⟩, fun h => ⟨rfl, i, by omega, [(0, 0), (1, 1)], rfl, rfl, rfl, cz rfl rfl rfl (fun _ _ => aR rfl rfl) (aU rfl rfl (aR rfl rfl) trivial)⟩⟩
  by_cases h : k < i
  ·rw [if_pos h]; exact aR rfl rfl
  ·have : k = i := by omega
   subst this
   rw [if_neg h, Nat.sub_self]
   exact .inr ⟨rfl, cq ⟨cq ⟨bI rfl (by decide), bI rfl (by decide), bI rfl (by decide), trivial⟩, bI rfl (by decide), trivial⟩⟩
 ·subst hi
  exact .refl _
def E7 : Spec := eH (kC (vN sQ) (kC (Bt sM) kN)) (fun a => cm (fun j => dK a.2.1 (a.1.2 j)) a.1.1 sW) fun a => [a.1.1 < 2 ^ 30]
def CM : aO := [nG, (q7, E7)]
theorem UE : ∀ K args pre r, E7 K args pre = some r → ay P q7 K args pre r := en fun ⟨⟨n, f⟩, m, _⟩ K hn => Xe hn K
theorem Wm : aW P CM := ep (aD UE bg)
theorem QK {c : Cu} {m : Mp} : bq T CM [] 60 u5 (au u5) ⟨aK 0 [cr c sQ sQ, fK m sM], [], 0⟩ =
  let c2 : Prop := sM ≤ sM; let c1 : Prop := 0 < 1; some (af [c1, (0 : Nat) * 3 ≤ 2 ^ 24, c1, ((0 : Nat) + c.n) * ((56 : Nat) + 1) * 2 ≤ 2 ^ 47, c1, c1, eZ (fun i ↦ aS (c.f i) sQ) c.m sQ, Max.max sM sM ≤ sM, c2, c2, c2, c2, c2, c2, c2, c2, c2, c2, c.m < 2 ^ 30, c1] (af [c1] (leaf ret [agg [int i64 c.p, aj 3 ((0 : Nat) + c.n) fun i ↦ rat (c.k (i + 0 - 0)) 1100, aj 12 c.m fun i ↦ agg [agg [rat (iF (V3.mk m.m.a.x m.m.a.y m.m.a.z) (V3.mk (aY (rat (c.f i).n.x sQ)) (aY (rat (c.f i).n.y sQ)) (aY (rat (c.f i).n.z sQ))) m.t.x) 6000, rat (iF (V3.mk m.m.b.x m.m.b.y m.m.b.z) (V3.mk (aY (rat (c.f i).n.x sQ)) (aY (rat (c.f i).n.y sQ)) (aY (rat (c.f i).n.z sQ))) m.t.y) 6000, rat (iF (V3.mk m.m.c.x m.m.c.y m.m.c.z) (V3.mk (aY (rat (c.f i).n.x sQ)) (aY (rat (c.f i).n.y sQ)) (aY (rat (c.f i).n.z sQ))) m.t.z) 6000], rat (aY (rat (c.f i).d sQ)) 6000]]]))) := by kernel_rfl
theorem NR {c : Cu} {m : Mp} (hn : c.n < 2 ^ 30) (hm2 : c.m < 2 ^ 30) (K : Nat) : ay P pg K [cr c sQ sQ, fK m sM] [] (aF (cr (iX m c) sQ sW) []) := by
 refine bt (r := aF (cr (iX m c) sQ sW) []) hT Wm hm VY rfl (of_decide_eq_true (by kernel_rfl)) rfl 60 QK (fun _ => ?_) K []
 simp only [aa.all, ax]
 exact ⟨⟨by omega, by omega, by omega, by omega, by omega, by omega, jK (Nat.le_refl _), by omega, by omega, by omega, by omega, by omega, by omega, by omega, by omega, by omega, by omega, by omega, hm2, by omega⟩, by omega, cq ⟨.refl _, qw (Nat.zero_add _) fun _ _ => rfl, .refl _, trivial⟩⟩
def zj : Spec := eH (kC (jQ sQ sQ) (kC (Bt sM) kN)) (fun a => cr (iX a.2.1 a.1) sQ sW) fun a => [a.1.n < 2 ^ 30, a.1.m < 2 ^ 30]
theorem F5 : ∀ K args pre r, zj K args pre = some r → ay P pg K args pre r := en fun ⟨c, m, _⟩ K hn => NR hn.1 hn.2 K
end Go.Am.B

/- ref10.SamePoles, Same, ref12.Same for equal arguments. -/
namespace Go.Am.B
open Go Go.Am.N AV aa ah IntKind
theorem K5 : aP P oY o7 (au o7) := aL Jy (by kernel_rfl) (by kernel_rfl) (by kernel_rfl)
theorem Lb : aP P sO uU (au uU) := aL OK (by kernel_rfl) (by kernel_rfl) (by kernel_rfl)
noncomputable def w7 : aO := nG :: (nL ++ gC)
noncomputable abbrev tM : Code := au o7
abbrev AY (n m : Nat) (f g : Nat → Pl) (i : Nat) : List AV := [cm f n sU, cm g m sU, .bool false, .int .i64 i]
theorem On {n m : Nat} {f g : Nat → Pl} : aI T w7 [200010] 60 [0, 1, 4, 5] (before tM [1,1,0,1]) ⟨aK 0 [cm f n sU, cm g m sU], [], 0⟩ =
  some (af [((↑n : Int) != (↑m : Int)) = false] (leaf normal ([aj 12 n fun i ↦ agg [agg [rat (f i).n.x 4294967296, rat (f i).n.y 4294967296, rat (f i).n.z 4294967296], rat (f i).d 4294967296], aj 12 m fun i ↦ agg [agg [rat (g i).n.x 4294967296, rat (g i).n.y 4294967296, rat (g i).n.z 4294967296], rat (g i).d 4294967296], AV.bool false, int i64 (0 : Int)], []))) := by kernel_rfl
theorem QT {n m i : Nat} {f g : Nat → Pl} : aI T w7 [14, 200029, 200042] 60 [0, 1, 4, 5] [part tM [1,1,0,1,0,0]] ⟨aB [0, 1, 4, 5] (AY n m f g i), [], 0⟩ =
  let c4 : Int := (↑i : Int); let c3 : AV := aj 12 m fun i ↦ agg [agg [rat (g i).n.x 4294967296, rat (g i).n.y 4294967296, rat (g i).n.z 4294967296], rat (g i).d 4294967296]; let c2 : AV := aj 12 n fun i ↦ agg [agg [rat (f i).n.x 4294967296, rat (f i).n.y 4294967296, rat (f i).n.z 4294967296], rat (f i).d 4294967296]; let c8 : Int := c4 + (1 : Int); let c5 : Prop := (0 : Int) ≤ c4; let c1 : Nat := c4.toNat; let c7 : V3 := (f c1).n; let c6 : V3 := (g c1).n; some (fork (decide (c4 < (↑n : Int))) (af [c5 ∧ c1 < n, c5 ∧ c1 < m, decide (c7.x = c6.x) = true, (bif true then decide (c7.y = c6.y) else false) = true, (!bif true then decide (c7.z = c6.z) else false) = false, c5 ∧ c1 < n, c5 ∧ c1 < m] (af [(bif false then true else !decide ((f c1).d = (g c1).d)) = false] (af [-(2 : Int) ^ 63 ≤ c8 ∧ c8 < (2 : Int) ^ 63] (leaf normal ([c2, c3, AV.bool false, int i64 c8], []))))) (leaf (exit 0) ([c2, c3, AV.bool false, int i64 c4], []))) := by kernel_rfl
theorem S5 {n m i : Nat} {f g : Nat → Pl} : ct T w7 [] 60 o7 [part tM [1,1,1]] ⟨aB [0, 1, 4, 5] (AY n m f g i), [], 0⟩ =
  some (leaf ret [AV.bool true]) := by kernel_rfl
theorem S6 : aW P w7 := ep (gk pI gO)
theorem Mt {n m : Nat} {f g : Nat → Pl} (hn : n < 2 ^ 30) (hm2 : n = m) (he : ∀ i, i < n → f i = g i) (K : Nat) : ay P oY K [cm f n sU, cm g m sU] [] (aF (.bool true) []) := by
 refine kQ (r := aF (.bool true) []) hT S6 hm K5 rfl (of_decide_eq_true (by kernel_rfl)) rfl [1,1,0,1] (i := 0) (y := part tM [1,1,0,1,0,0]) (z := part tM [1,1,1]) (by kernel_rfl) (by kernel_rfl) (by kernel_rfl) (f1 := [200010]) (f2 := [14, 200029, 200042]) (f3 := []) 60 [0, 1, 4, 5] 0
  (fun i : Nat => AY n m f g i) (fun _ => []) (fun i => i ≤ n) (fun i => i = n) (fun i => n - i) (fun _ => ⟨⟨_, On, ?_⟩, fun i h1 => ⟨_, QT, ?_⟩, fun i h1 => ⟨_, S5, ?_⟩⟩) K []
 all_goals try simp only [aa.all, ax, decide_eq_true_eq, decide_eq_false_iff_not, Int.toNat_natCast]
 ·exact ⟨bne_eq_false_iff_eq.2 (by omega), 0, Nat.zero_le _, .vals rfl⟩
 ·refine ⟨fun h => ?_, fun h => ⟨rfl, i, by omega, .vals rfl⟩⟩
  have e := he i (by omega)
  exact ⟨⟨by omega, by omega, by rw [e], decide_eq_true (congrArg (fun p : Pl => p.n.y) e), congrArg (!·) (decide_eq_true (congrArg (fun p : Pl => p.n.z) e)), by omega, by omega⟩, congrArg (!·) (decide_eq_true (congrArg (fun p : Pl => p.d) e)), by omega, i + 1, by omega, by dsimp only; omega, .vals rfl⟩
 ·exact .refl _
def IW : Spec := eH (kC (vN sU) (kC (vN sU) kN)) (fun _ => .bool true) fun a => [a.1.1 < 2 ^ 30, a.1.1 = a.2.1.1, ∀ i, i < a.1.1 → a.1.2 i = a.2.1.2 i]
theorem PN : ∀ K args pre r, IW K args pre = some r → ay P oY K args pre r := en fun _ K hn => Mt hn.1 hn.2.1 hn.2.2 K
noncomputable def xS : aO := nG :: (og, wu) :: (oY, IW) :: []
noncomputable abbrev qY : Code := au uU
abbrev Ck (i : Nat) : List AV := [.ptr 0 0 5 0 [], .ptr 1 0 5 0 [], .bool false, .int .i64 i]
abbrev vX (s t : Sf) : aC := [(1, ⟨false, true, 5, 1, fun _ => dL t sU sU⟩), (0, ⟨false, true, 5, 1, fun _ => dL s sU sU⟩)]
theorem MB {s t : Sf} : aI T xS [200011, 200018, 200026, 200034, 200042] 60 [2, 3, 4, 5] (before qY [1,1,0,1]) ⟨aK 0 [dL s sU sU, dL t sU sU], [], 0⟩ =
  let c4 : Nat := (bw (dL t sU sU)).size; let c3 : Nat := (bw (dL s sU sU)).size; let c2 : Nat := 2 ^ 40; let c1 : Prop := 0 < 1; some (af [c1, c1, (s.u != t.u) = false, c1, c1, (bif false then true else s.v != t.v) = false, c1, c1, bZ (fun i ↦ rat (s.ku i) sU) s.a sU, bZ (fun i ↦ rat (t.ku i) sU) t.a sU, s.a < c2, t.a < c2, (bif false then true else !fJ s.a (fun i ↦ aY (rat (s.ku i) sU)) t.a fun i ↦ aY (rat (t.ku i) sU)) = false, c1, c1, bZ (fun i ↦ rat (s.kv i) sU) s.b sU, bZ (fun i ↦ rat (t.kv i) sU) t.b sU, s.b < c2, t.b < c2, (bif false then true else !fJ s.b (fun i ↦ aY (rat (s.kv i) sU)) t.b fun i ↦ aY (rat (t.kv i) sU)) = false, c1, c1] (af [(bif false then true else (↑s.n : Int) != (↑t.n : Int)) = false] (leaf normal ([ptr 0 0 c3 0 [], ptr 4096 0 c4 0 [], AV.bool false, int i64 (0 : Int)], [((4096 : Nat), aA.mk false true c4 1 fun x ↦ agg [int i64 t.u, int i64 t.v, aj 3 t.a fun i ↦ rat (t.ku i) 4294967296, aj 3 t.b fun i ↦ rat (t.kv i) 4294967296, aj 1 t.n fun i ↦ aj 12 t.m fun i_1 ↦ agg [agg [rat (t.f i i_1).n.x 4294967296, rat (t.f i i_1).n.y 4294967296, rat (t.f i i_1).n.z 4294967296], rat (t.f i i_1).d 4294967296]]), ((0 : Nat), aA.mk false true c3 1 fun x ↦ agg [int i64 s.u, int i64 s.v, aj 3 s.a fun i ↦ rat (s.ku i) 4294967296, aj 3 s.b fun i ↦ rat (s.kv i) 4294967296, aj 1 s.n fun i ↦ aj 12 s.m fun i_1 ↦ agg [agg [rat (s.f i i_1).n.x 4294967296, rat (s.f i i_1).n.y 4294967296, rat (s.f i i_1).n.z 4294967296], rat (s.f i i_1).d 4294967296]])])))) := by kernel_rfl
theorem O9 {s t : Sf} {i : Nat} : aI T xS [47, 200061] 60 [2, 3, 4, 5] [part qY [1,1,0,1,0,0]] ⟨aB [2, 3, 4, 5] (Ck i), vX s t, 2⟩ =
  let c5 : Prop := 0 < 1; let c4 : AV := ptr 1 0 5 0 []; let c3 : AV := ptr 0 0 5 0 []; let c2 : Int := (↑i : Int); let c1 : List (Nat × aA) := [((1 : Nat), aA.mk false true 5 1 fun x ↦ agg [int i64 t.u, int i64 t.v, aj 3 t.a fun i ↦ rat (t.ku i) 4294967296, aj 3 t.b fun i ↦ rat (t.kv i) 4294967296, aj 1 t.n fun i ↦ aj 12 t.m fun i_1 ↦ agg [agg [rat (t.f i i_1).n.x 4294967296, rat (t.f i i_1).n.y 4294967296, rat (t.f i i_1).n.z 4294967296], rat (t.f i i_1).d 4294967296]]), ((0 : Nat), aA.mk false true 5 1 fun x ↦ agg [int i64 s.u, int i64 s.v, aj 3 s.a fun i ↦ rat (s.ku i) 4294967296, aj 3 s.b fun i ↦ rat (s.kv i) 4294967296, aj 1 s.n fun i ↦ aj 12 s.m fun i_1 ↦ agg [agg [rat (s.f i i_1).n.x 4294967296, rat (s.f i i_1).n.y 4294967296, rat (s.f i i_1).n.z 4294967296], rat (s.f i i_1).d 4294967296]])]; let c6 : Int := c2 + (1 : Int); some (af [c5] (fork (decide (c2 < (↑s.n : Int))) (af [c5, (0 : Int) ≤ c2 ∧ c2.toNat < s.n, c5, (0 : Int) ≤ c2 ∧ c2.toNat < t.n, eZ (fun i ↦ aS (s.f c2.toNat i) sU) s.m sU, eZ (fun i ↦ aS (t.f c2.toNat i) sU) t.m sU, s.m < 2 ^ 30, s.m = t.m, ∀ (i : Nat), i < s.m → bD (aS (s.f c2.toNat i) sU) = bD (aS (t.f c2.toNat i) sU)] (af [(!true) = false] (af [-(2 : Int) ^ 63 ≤ c6 ∧ c6 < (2 : Int) ^ 63] (leaf normal ([c3, c4, AV.bool false, int i64 c6], c1))))) (leaf (exit 0) ([c3, c4, AV.bool false, int i64 c2], c1)))) := by kernel_rfl
theorem Qr {s t : Sf} {i : Nat} : ct T xS [] 60 uU [part qY [1,1,1]] ⟨aB [2, 3, 4, 5] (Ck i), vX s t, 2⟩ =
  some (leaf ret [AV.bool true]) := by kernel_rfl
theorem Lm : aW P xS := ep (aD Ap (aD PN bg))
theorem CQ {n m : Nat} {f g : Nat → Rat} (h : n = m) (he : ∀ i, i < n → f i = g i) : fJ n f m g = true := decide_eq_true ⟨h, he⟩
structure CuEq (c d : Cu) : Prop where
 p : c.p = d.p
 n : c.n = d.n
 k : ∀ i, i < c.n → c.k i = d.k i
 m : c.m = d.m
 f : ∀ i, i < c.m → c.f i = d.f i
structure jb (s t : Sf) : Prop where
 u : s.u = t.u
 v : s.v = t.v
 a : s.a = t.a
 ku : ∀ i, i < s.a → s.ku i = t.ku i
 b : s.b = t.b
 kv : ∀ i, i < s.b → s.kv i = t.kv i
 n : s.n = t.n
 m : s.m = t.m
 f : ∀ i j, i < s.n → j < s.m → s.f i j = t.f i j
theorem NI {s t : Sf} (h : jb s t) (hn : s.n < 2 ^ 30) (hm2 : s.m < 2 ^ 30) (ha : s.a < 2 ^ 30) (hb : s.b < 2 ^ 30) (K : Nat) : ay P sO K [dL s sU sU, dL t sU sU] [] (aF (.bool true) []) := by
 obtain ⟨h1, h2, h3, h4, h5, h6, h7, h8, h9⟩ := h
 refine kQ (r := aF (.bool true) []) hT Lm hm Lb rfl (of_decide_eq_true (by kernel_rfl)) rfl [1,1,0,1] (i := 0) (y := part qY [1,1,0,1,0,0]) (z := part qY [1,1,1]) (by kernel_rfl) (by kernel_rfl) (by kernel_rfl) (f1 := [200011, 200018, 200026, 200034, 200042]) (f2 := [47, 200061]) (f3 := []) 60 [2, 3, 4, 5] 2
  (fun i : Nat => Ck i) (fun _ => vX s t) (fun i => i ≤ s.n) (fun i => i = s.n) (fun i => s.n - i) (fun _ => ⟨⟨_, MB, ?_⟩, fun i h1 => ⟨_, O9, ?_⟩, fun i h1 => ⟨_, Qr, ?_⟩⟩) K []
 all_goals try simp only [aa.all, ax, decide_eq_true_eq, decide_eq_false_iff_not, Int.toNat_natCast]
 ·exact ⟨⟨by omega, by omega, bne_eq_false_iff_eq.2 h1, by omega, by omega, bne_eq_false_iff_eq.2 h2, by omega, by omega, eP (Nat.le_refl _), eP (Nat.le_refl _), by omega, by omega, congrArg (!·) (CQ h3 h4), by omega, by omega, eP (Nat.le_refl _), eP (Nat.le_refl _), by omega, by omega, congrArg (!·) (CQ h5 h6), by omega, by omega⟩, bne_eq_false_iff_eq.2 (by omega),
   0, Nat.zero_le _, [(0, 0), (1, 4096)], rfl, rfl, rfl, aU rfl rfl (aR rfl rfl) (aU rfl rfl (aR rfl rfl) trivial)⟩
 ·have re : iQ 2 [(0, 0), (1, 1)] (vX s t) (vX s t) := aU rfl rfl (aR rfl rfl) (aU rfl rfl (aR rfl rfl) trivial)
  exact ⟨by omega, fun h => ⟨⟨by omega, by omega, by omega, by omega, jK (Nat.le_refl _), jK (Nat.le_refl _), hm2, h8, fun j hj => h9 i j (by omega) hj⟩, rfl, by omega, i + 1, by omega, by dsimp only; omega, [(0, 0), (1, 1)], rfl, rfl, rfl, re⟩, fun h => ⟨rfl, i, by omega, [(0, 0), (1, 1)], rfl, rfl, rfl, re⟩⟩
 ·exact .refl _
def I0 : Spec := eH (kC (F1 sU sU) (kC (F1 sU sU) kN)) (fun _ => .bool true) fun a => [jb a.1 a.2.1, a.1.n < 2 ^ 30, a.1.m < 2 ^ 30, a.1.a < 2 ^ 30, a.1.b < 2 ^ 30]
theorem Ys : ∀ K args pre r, I0 K args pre = some r → ay P sO K args pre r := en fun _ K hn => NI hn.1 hn.2.1 hn.2.2.1 hn.2.2.2.1 hn.2.2.2.2 K
end Go.Am.B

/- spline.Copied, shapes.clamped, shapes.Revolve. -/
namespace Go.Am.B
open Go Go.Am.N AV aa ah IntKind
theorem OA : aP P l7 pS (au pS) := aL IN (by kernel_rfl) (by kernel_rfl) (by kernel_rfl)
theorem xl : aP P qy iP (au iP) := aL IQ (by kernel_rfl) (by kernel_rfl) (by kernel_rfl)
theorem Bo : aP P mC lW (au lW) := aL Ja (by kernel_rfl) (by kernel_rfl) (by kernel_rfl)
abbrev A3 (y m : Nat) (k : Nat → Rat) : aA := ⟨true, true, 3, m, fun i => .rat (k i) y⟩
noncomputable abbrev uA : Code := au pS
abbrev vi : List Nat := [3, 9, 10, 11]
abbrev Av (x n : Nat) (k : Nat → Rat) (i : Nat) : List AV := [.own 0 3 0 i, bH k n x, .int .i64 n, .int .i64 i]
noncomputable def xC : aO := nG :: pW
noncomputable def tQ : aO := sG :: (qk, yK) :: jf
theorem TY {x n : Nat} {k : Nat → Rat} : aI T xC [] 60 vi (before uA [1,1,0,1]) ⟨aK 0 [bH k n x], [], 0⟩ =
  let c1 : Int := (↑n : Int); some (af [(0 : Int) ≤ (0 : Int) ∧ (0 : Int) ≤ c1 ∧ c1 ≤ (2 : Int) ^ 47 ∧ c1 * (↑(56 : Nat) : Int) ≤ (2 : Int) ^ 47] (leaf normal ([own 12288 3 0 0, aj 3 n fun i ↦ rat (k i) x, int i64 c1, int i64 (0 : Int)], [((12288 : Nat), aA.mk true true 3 0 fun x ↦ rat 0 1)]))) := by kernel_rfl
theorem Yw {x y n i : Nat} {k : Nat → Rat} : aI T xC [12] 60 vi [part uA [1,1,0,1,0,0]] ⟨aB vi (Av x n k i), [(0, A3 y i k)], 1⟩ =
  let c4 : Int := (↑n : Int); let c2 : AV := aj 3 n fun i ↦ rat (k i) x; let c1 : Int := (↑i : Int); let c3 : Int := c1 + (1 : Int); some (fork (decide (c1 < c4)) (af [(0 : Int) ≤ c1 ∧ c1.toNat < n, (0 : Nat) < 1] (af [(0 : Nat) < 1, x < 2 ^ 42, (1 : Nat) < 2 ^ 42, (1 : Nat) * 3 ≤ 2 ^ 24, (i + 1) * ((56 : Nat) + 1) * 2 ≤ 2 ^ 47] (af [-(2 : Int) ^ 63 ≤ c3 ∧ c3 < (2 : Int) ^ 63] (leaf normal ([own 40961 3 0 (i + 1), c2, int i64 c4, int i64 c3], [((40961 : Nat), aA.mk true true 3 (i + 1) fun i_1 ↦ if i_1 < i then rat (k i_1) y else nth [rat (k c1.toNat + 0) (x + 1 + 1)] (rat 0 1) (i_1 - i + 0))]))))) (leaf (exit 0) ([own 0 3 0 i, c2, int i64 c4, int i64 c1], [((0 : Nat), aA.mk true true 3 i fun i ↦ rat (k i) y)]))) := by kernel_rfl
theorem PT {x y n i : Nat} {k : Nat → Rat} : ct T xC [] 60 pS [part uA [1,1,1]] ⟨aB vi (Av x n k i), [(0, A3 y i k)], 1⟩ =
  some (leaf ret [aj 3 i fun i ↦ rat (k (i + 0)) y]) := by kernel_rfl
theorem Q9 : bq T tQ [] 200 iP (au iP) ⟨aK 0 [.int .i64 1], [], 0⟩ =
  let c2 : AV := int i64 (0 : Int); let c1 : Nat := 3 + 2; some (af [c1 * ((56 : Nat) + 1) * 2 ≤ 2 ^ 47] (af [(c1 + 1) * ((56 : Nat) + 1) * 2 ≤ 2 ^ 47] (leaf ret [aj 3 6 fun i ↦ if i + 0 < c1 then if i + 0 < 3 then rat (↑(intOf (nth [c2, c2, c2] c2 (i + 0 + 0))) : Rat) 64 else rat (↑(intOf (nth [int i64 (1 : Int), int i64 (1 : Int)] c2 (i + 0 - 3 + 0 + 0))) : Rat) 64 else nth [rat (↑(1 : Int) : Rat) (Max.max 1 (aQ (Int.natAbs (1 : Int))))] (rat 0 1) (i + 0 - c1 + 0)]))) := by kernel_rfl
theorem Z5 : bq T tQ [] 200 iP (au iP) ⟨aK 0 [.int .i64 2], [], 0⟩ =
  let c6 : Nat := 56 + 1; let c5 : Nat := 2 ^ 47; let c4 : AV := int i64 (i64.wrap ((1 : Int) + (1 : Int))); let c2 : AV := int i64 (0 : Int); let c1 : Nat := 3 + 2; let c3 : Nat := c1 + 2; some (af [c1 * c6 * 2 ≤ c5] (af [c3 * c6 * 2 ≤ c5] (af [(c3 + 1) * c6 * 2 ≤ c5] (leaf ret [aj 3 8 fun i ↦ if i + 0 < c3 then if i + 0 < c1 then if i + 0 < 3 then rat (↑(intOf (nth [c2, c2, c2] c2 (i + 0 + 0))) : Rat) 64 else rat (↑(intOf (nth [int i64 (1 : Int), int i64 (1 : Int)] c2 (i + 0 - 3 + 0 + 0))) : Rat) 64 else rat (↑(intOf (nth [c4, c4] c2 (i + 0 - c1 + 0 + 0))) : Rat) 64 else nth [rat (↑(2 : Int) : Rat) (Max.max 1 (aQ (Int.natAbs (2 : Int))))] (rat 0 1) (i + 0 - c3 + 0)])))) := by kernel_rfl
theorem LU : bq T tQ [] 200 iP (au iP) ⟨aK 0 [.int .i64 3], [], 0⟩ =
  let c6 : Nat := 56 + 1; let c5 : Nat := 2 ^ 47; let c4 : Nat := 3 + 2; let c3 : AV := int i64 (0 : Int); let c2 : Int := i64.wrap ((1 : Int) + (1 : Int)); let c8 : AV := int i64 (i64.wrap (c2 + (1 : Int))); let c1 : Nat := c4 + 2; let c7 : Nat := c1 + 2; some (af [c4 * c6 * 2 ≤ c5] (af [c1 * c6 * 2 ≤ c5] (af [c7 * c6 * 2 ≤ c5] (af [(c7 + 1) * c6 * 2 ≤ c5] (leaf ret [aj 3 10 fun i ↦ if i + 0 < c7 then if i + 0 < c1 then if i + 0 < c4 then if i + 0 < 3 then rat (↑(intOf (nth [c3, c3, c3] c3 (i + 0 + 0))) : Rat) 64 else rat (↑(intOf (nth [int i64 (1 : Int), int i64 (1 : Int)] c3 (i + 0 - 3 + 0 + 0))) : Rat) 64 else rat (↑(intOf (nth [int i64 c2, int i64 c2] c3 (i + 0 - c4 + 0 + 0))) : Rat) 64 else rat (↑(intOf (nth [c8, c8] c3 (i + 0 - c1 + 0 + 0))) : Rat) 64 else nth [rat (↑(3 : Int) : Rat) (Max.max 1 (aQ (Int.natAbs (3 : Int))))] (rat 0 1) (i + 0 - c7 + 0)]))))) := by kernel_rfl
theorem RX : bq T tQ [] 200 iP (au iP) ⟨aK 0 [.int .i64 4], [], 0⟩ =
  let c8 : Int := i64.wrap ((1 : Int) + (1 : Int)); let c7 : Nat := 3 + 2; let c6 : Nat := 2 ^ 47; let c5 : Nat := 56 + 1; let c3 : AV := int i64 (0 : Int); let c2 : Int := i64.wrap (c8 + (1 : Int)); let c1 : Nat := c7 + 2; let c10 : AV := int i64 (i64.wrap (c2 + (1 : Int))); let c9 : Nat := c1 + 2; let c4 : Nat := c9 + 2; some (af [c7 * c5 * 2 ≤ c6] (af [c1 * c5 * 2 ≤ c6] (af [c9 * c5 * 2 ≤ c6] (af [c4 * c5 * 2 ≤ c6] (af [(c4 + 1) * c5 * 2 ≤ c6] (leaf ret [aj 3 12 fun i ↦ if i + 0 < c4 then if i + 0 < c9 then if i + 0 < c1 then if i + 0 < c7 then if i + 0 < 3 then rat (↑(intOf (nth [c3, c3, c3] c3 (i + 0 + 0))) : Rat) 64 else rat (↑(intOf (nth [int i64 (1 : Int), int i64 (1 : Int)] c3 (i + 0 - 3 + 0 + 0))) : Rat) 64 else rat (↑(intOf (nth [int i64 c8, int i64 c8] c3 (i + 0 - c7 + 0 + 0))) : Rat) 64 else rat (↑(intOf (nth [int i64 c2, int i64 c2] c3 (i + 0 - c1 + 0 + 0))) : Rat) 64 else rat (↑(intOf (nth [c10, c10] c3 (i + 0 - c9 + 0 + 0))) : Rat) 64 else nth [rat (↑(4 : Int) : Rat) (Max.max 1 (aQ (Int.natAbs (4 : Int))))] (rat 0 1) (i + 0 - c4 + 0)])))))) := by kernel_rfl
theorem P2 : aW P xC := ep qN
theorem Ve {x y n : Nat} {k : Nat → Rat} (hxy : x + 10 ≤ y) (hy : y < 2 ^ 40) (hn : n < 2 ^ 40) (K : Nat) : ay P l7 K [bH k n x] [] (aF (bH k n y) []) := by
 refine kQ (r := aF (bH k n y) []) hT P2 hm OA rfl (of_decide_eq_true (by kernel_rfl)) rfl [1,1,0,1] (i := 0) (y := part uA [1,1,0,1,0,0]) (z := part uA [1,1,1]) (by kernel_rfl) (by kernel_rfl) (by kernel_rfl) (f1 := []) (f2 := [12]) (f3 := []) 60 vi 1
  (fun i : Nat => Av x n k i) (fun i => [(0, A3 y i k)]) (fun i => i ≤ n) (fun i => i = n) (fun i => n - i) (fun _ => ⟨⟨_, TY, ?_⟩, fun i hi => ⟨_, Yw, ?_⟩, fun i hi => ⟨_, PT, ?_⟩⟩) K []
 ·simp only [aa.all, ax]
  exact ⟨by omega, 0, Nat.zero_le _, [(0, 12288)], rfl, rfl, rfl, cz rfl rfl rfl (fun i hi => absurd hi (Nat.not_lt_zero i)) trivial⟩
 ·simp only [aa.all, ax, decide_eq_true_eq, decide_eq_false_iff_not, Int.toNat_natCast, Nat.add_zero]
  exact ⟨fun h2 => ⟨by omega, by omega, by omega, i + 1, by omega, by dsimp only; omega, [(0, 40961)], rfl, rfl, rfl, cz rfl rfl rfl (fun j hj => Jc (fun _ _ => rfl) (Rat.add_zero _) (Nat.le_refl _) (by omega) hj) trivial⟩, fun h2 => ⟨rfl, i, by omega, [(0, 0)], rfl, rfl, rfl, cz rfl rfl rfl (fun j hj => aR rfl rfl) trivial⟩⟩
 ·subst hi
  simp only [aa.all, ax]
  exact qw rfl fun j hj => rfl
def zc (x y : Nat) : Spec := eH (kC (kL x) kN) (fun a => bH a.1.2 a.1.1 y) fun a => [x + 10 ≤ y, y < 2 ^ 40, a.1.1 < 2 ^ 40]
def dz (q i : Nat) : Rat := ((min ((i - 1) / 2) q : Nat) : Rat)
def yu : Spec := bA fun l => match l with
 | [.int .i64 q] => some (aF (bH (dz q.toNat) (2 * q.toNat + 4) 64) [1 ≤ q, q ≤ 4])
 | _ => none
theorem zQ (x y : Nat) : ∀ K args pre r, zc x y K args pre = some r → ay P l7 K args pre r := en fun ⟨⟨n, k⟩, _⟩ K hn => Ve hn.1 hn.2.1 hn.2.2 K
theorem wg : aW P tQ := cR (aD By jx)
theorem Ud {q : Nat} (h1 : 1 ≤ q) (h4 : q ≤ 4) (K : Nat) : ay P qy K [.int .i64 (q : Int)] [] (aF (bH (dz q) (2 * q + 4) 64) []) := by
 rcases (show q = 1 ∨ q = 2 ∨ q = 3 ∨ q = 4 by omega) with rfl | rfl | rfl | rfl
 ·refine bt (r := aF (bH (dz 1) 6 64) []) hT wg hm xl rfl (of_decide_eq_true (by kernel_rfl)) rfl 200 Q9 (fun _ => ?_) K []
  simp only [aa.all, ax]
  (repeat' with_reducible refine And.intro ?_ ?_)
  all_goals first | omega | skip
  refine dP fun i hi => ?_
  match i, hi with
  | 0, _ | 1, _ | 2, _ | 3, _ | 4, _ | 5, _ => exact bI (by decide +kernel) (by decide)
 ·refine bt (r := aF (bH (dz 2) 8 64) []) hT wg hm xl rfl (of_decide_eq_true (by kernel_rfl)) rfl 200 Z5 (fun _ => ?_) K []
  simp only [aa.all, ax]
  (repeat' with_reducible refine And.intro ?_ ?_)
  all_goals first | omega | skip
  refine dP fun i hi => ?_
  match i, hi with
  | 0, _ | 1, _ | 2, _ | 3, _ | 4, _ | 5, _ | 6, _ | 7, _ => exact bI (by decide +kernel) (by decide)
 ·refine bt (r := aF (bH (dz 3) 10 64) []) hT wg hm xl rfl (of_decide_eq_true (by kernel_rfl)) rfl 200 LU (fun _ => ?_) K []
  simp only [aa.all, ax]
  (repeat' with_reducible refine And.intro ?_ ?_)
  all_goals first | omega | skip
  refine dP fun i hi => ?_
  match i, hi with
  | 0, _ | 1, _ | 2, _ | 3, _ | 4, _ | 5, _ | 6, _ | 7, _ | 8, _ | 9, _ => exact bI (by decide +kernel) (by decide)
 ·refine bt (r := aF (bH (dz 4) 12 64) []) hT wg hm xl rfl (of_decide_eq_true (by kernel_rfl)) rfl 200 RX (fun _ => ?_) K []
  simp only [aa.all, ax]
  (repeat' with_reducible refine And.intro ?_ ?_)
  all_goals first | omega | skip
  refine dP fun i hi => ?_
  match i, hi with
  | 0, _ | 1, _ | 2, _ | 3, _ | 4, _ | 5, _ | 6, _ | 7, _ | 8, _ | 9, _ | 10, _ | 11, _ => exact bI (by decide +kernel) (by decide)
theorem VD : ∀ K args pre r, yu K args pre = some r → ay P qy K args pre r := by
 refine bQ fun K args r hk hs _ => ?_
 split at hs
 ·rename_i q
  simp only [Option.some.injEq] at hs
  subst hs
  intro need
  obtain ⟨h1, h4⟩ := need
  have h4 : q ≤ 4 := h4
  have := Ud (q := q.toNat) (by omega) (by omega) K
  rw [Int.toNat_of_nonneg (by omega)] at this
  exact this trivial
 ·simp at hs
end Go.Am.B

/- shapes.Revolve. -/
namespace Go.Am.B
open Go Go.Am.N AV aa ah IntKind
theorem aar : aP P yR uw (au uw) := aL FE (by kernel_rfl) (by kernel_rfl) (by kernel_rfl)
noncomputable def mZ (x w : Nat) : aO := nG :: (qy, yu) :: (l7, zc x w) :: (yR, cP T [sG] [] 60 uw) :: pW
def cI : Nat → Int
 | 0 => 1 | 1 => 1 | 2 => 0 | 3 => -1 | 4 => -1 | 5 => -1 | 6 => 0 | 7 => 1 | 8 => 1 | _ => 0
def cJ : Nat → Int
 | 0 => 0 | 1 => 1 | 2 => 1 | 3 => 1 | 4 => 0 | 5 => -1 | 6 => -1 | 7 => -1 | _ => 0
def dG : Nat → Int
 | 0 => 1 | 1 => 1 | 2 => 2 | 3 => 1 | 4 => 1 | 5 => 1 | 6 => 2 | 7 => 1 | 8 => 1 | _ => 0
abbrev rdA (q : Nat) : AV := .aj 3 (2 * q + 1) (fun i => .agg [.int .i64 (cI i), .int .i64 (cJ i), .int .i64 (dG i)])
def gf (c : Cu) (i j : Nat) : Pl := ⟨⟨(cI i : Rat) * (c.f j).n.x - (cJ i : Rat) * (c.f j).n.y, (cJ i : Rat) * (c.f j).n.x + (cI i : Rat) * (c.f j).n.y, (c.f j).n.z⟩, (dG i : Rat) * (c.f j).d⟩
noncomputable abbrev wv : Code := au lW
noncomputable abbrev qa : Code := part wv [1,1,1,1,0,1,0,0]
noncomputable abbrev nF : Code := part qa [1,1,0,0]
abbrev kW : List Nat := [2, 4, 5, 6, 36, 37, 38]
abbrev pZ (q i : Nat) : List AV := [.ptr 0 0 3 0 [], .ptr 1 0 5 0 [], .int .i64 0, .ptr 2 0 5 0 [], rdA q, .int .i64 ((2 * q + 1 : Nat) : Int), .int .i64 i]
abbrev SM (c : Cu) (x r : Nat) : aA := ⟨false, true, 3, 1, fun _ => cr c x r⟩
abbrev rvZ : aA := ⟨false, true, 5, 1, fun _ => .agg [.int .i64 0, .int .i64 0, .nil, .nil, .nil]⟩
abbrev RI (w : Nat) (c : Cu) (q : Nat) (v : AV) : aA := ⟨false, true, 5, 1, fun _ => .agg [.int .i64 2, .int .i64 c.p, bH (dz q) (2 * q + 4) 64, bH c.k c.n w, v]⟩
abbrev J8 (w : Nat) (c : Cu) (i : Nat) : aA := ⟨true, true, 1, i, fun i => cm (gf c i) c.m w⟩
abbrev mz (x r w : Nat) (c : Cu) (q i : Nat) : aC := [(3, J8 w c i), (2, RI w c q (.own 3 1 0 i)), (1, rvZ), (0, SM c x r)]
abbrev qZ : List Nat := [2, 4, 5, 6, 36, 37, 38, 10, 11, 12, 13, 52, 53, 54]
abbrev Ao (r : Nat) (c : Cu) (q i j : Nat) : List AV := pZ q i ++ [.ptr 4 0 3 0 [], .ptr 5 0 3 0 [], .ptr 6 0 3 0 [], .own 7 12 0 j, cm c.f c.m r, .int .i64 c.m, .int .i64 j]
abbrev Ov (i : Nat) : aC := [(6, tP (dG i : Rat) 64), (5, tP (cJ i : Rat) 64), (4, tP (cI i : Rat) 64)]
abbrev VM (w : Nat) (c : Cu) (i j : Nat) : aA := ⟨true, true, 12, j, fun j => aS (gf c i j) w⟩
abbrev zf (x r w : Nat) (c : Cu) (q i j : Nat) : aC := (7, VM w c i j) :: (Ov i ++ mz x r w c q i)
abbrev pX (w : Nat) (c : Cu) (q : Nat) : AV := dL ⟨2, c.p, 2 * q + 4, dz q, c.n, c.k, 2 * q + 1, c.m, gf c⟩ w w
theorem J1 {x r w : Nat} {c : Cu} {q : Nat} : aI T (mZ x w) [200019, 200022] 60 kW (before wv [1,1,1,1,0,1]) ⟨aK 0 [cr c x r, .int .i64 (q : Int)], [], 0⟩ =
  let c10 : AV := int i64 (2 : Int); let c9 : Nat := Int.toNat (0 : Int); let c7 : Int := (2 : Int) ^ 63; let c6 : Int := (↑q : Int); let c5 : AV := int i64 (-1 : Int); let c4 : Prop := 0 < 1; let c2 : AV := int i64 (1 : Int); let c1 : AV := int i64 (0 : Int); let c11 : Int := (2 : Int) * c6; let c8 : AV := agg [c1, c1, nil, nil, nil]; let c3 : Int := c11 + (1 : Int); some (af [decide (c6 < (1 : Int)) = false] (af [(bif false then true else decide (c6 > (4 : Int))) = false] (af [c4, (1 : Int) ≤ c6, c6 ≤ (4 : Int), c4, bZ (fun i ↦ rat (c.k i) x) c.n x, x + 10 ≤ w, w < 2 ^ 40, c.n < 2 ^ 40, c4] (af [c4, c4] (af [-c7 ≤ c11 ∧ c11 < c7, -c7 ≤ c3 ∧ c3 < c7, c4, (0 : Int) ≤ (0 : Int) ∧ (0 : Int) ≤ c3 ∧ c3 ≤ (↑(9 : Nat) : Int)] (leaf normal ([ptr 0 0 (bw (cr c x r)).size 0 [], ptr 4096 0 5 0 [], c1, ptr 69632 0 5 0 [], aj 3 (c3.toNat - c9) fun i ↦ nth [agg [c2, c1, c2], agg [c2, c2, c2], agg [c1, c2, c10], agg [c5, c2, c2], agg [c5, c1, c2], agg [c5, c5, c2], agg [c1, c5, c10], agg [c2, c5, c2], agg [c2, c1, c2]] (agg [c1, c1, c1]) (i + c9), int i64 (↑(c3.toNat - c9) : Int), c1], [((69632 : Nat), aA.mk false true 5 1 fun j ↦ if (j == 0) = true then bw (agg ((((c8.kids.set 0 (bw c10)).set 1 (bw (int i64 c.p))).set 2 (bw (bH (dz c6.toNat) ((2 : Nat) * c6.toNat + 4) 64))).set 3 (bw (bH (fun i ↦ aY (rat (c.k i) x)) c.n w)))) else c8), ((4096 : Nat), aA.mk false true 5 1 fun x ↦ c8), ((0 : Nat), aA.mk false true (bw (cr c x r)).size 1 fun x_1 ↦ agg [int i64 c.p, aj 3 c.n fun i ↦ rat (c.k i) x, aj 12 c.m fun i ↦ agg [agg [rat (c.f i).n.x r, rat (c.f i).n.y r, rat (c.f i).n.z r], rat (c.f i).d r]])]))))))) := by kernel_rfl
theorem Tl {x r w : Nat} {c : Cu} {q i : Nat} : aI T (mZ x w) [39] 60 kW (before qa [1,1,0]) ⟨aB kW (pZ q i), mz x r w c q i, 4⟩ =
  let c3 : AV := int i64 (0 : Int); let c2 : Nat := 2 * q + 1; let c1 : List AV × aC := ([ptr 0 0 3 0 [], ptr 1 0 5 0 [], c3, ptr 2 0 5 0 [], aj 3 c2 fun i ↦ agg [int i64 (cI i), int i64 (cJ i), int i64 (dG i)], int i64 (↑c2 : Int), int i64 (↑i : Int)], [((3 : Nat), aA.mk true true 1 i fun i ↦ aj 12 c.m fun i_1 ↦ agg [agg [rat ((↑(cI i) : Rat) * (c.f i_1).n.x - (↑(cJ i) : Rat) * (c.f i_1).n.y) w, rat ((↑(cJ i) : Rat) * (c.f i_1).n.x + (↑(cI i) : Rat) * (c.f i_1).n.y) w, rat (c.f i_1).n.z w], rat ((↑(dG i) : Rat) * (c.f i_1).d) w]), ((2 : Nat), aA.mk false true 5 1 fun x ↦ agg [int i64 (2 : Int), int i64 c.p, aj 3 ((2 : Nat) * q + 4) fun i ↦ rat (dz q i) 64, aj 3 c.n fun i ↦ rat (c.k i) w, own 3 1 0 i]), ((1 : Nat), aA.mk false true 5 1 fun x ↦ agg [c3, c3, nil, nil, nil]), ((0 : Nat), aA.mk false true 3 1 fun x_1 ↦ agg [int i64 c.p, aj 3 c.n fun i ↦ rat (c.k i) x, aj 12 c.m fun i ↦ agg [agg [rat (c.f i).n.x r, rat (c.f i).n.y r, rat (c.f i).n.z r], rat (c.f i).d r]])]); some (fork (decide ((↑i : Int) < (↑c2 : Int))) (leaf normal c1) (leaf (exit 0) c1)) := by kernel_rfl
theorem Li {x r w : Nat} {c : Cu} {q i : Nat} : aI T (mZ x w) [] 60 qZ (before nF [1,1,1,0,1]) ⟨aB kW (pZ q i), mz x r w c q i, 4⟩ =
  let c8 : Int := (↑(3 : Nat) : Int); let c7 : AV := rat 0 1; let c6 : AV := int i64 (0 : Int); let c5 : Nat := 2 * q + 1; let c4 : Int := (2 : Int) ^ 63; let c3 : AV := aj 12 c.m fun i ↦ agg [agg [rat (c.f i).n.x r, rat (c.f i).n.y r, rat (c.f i).n.z r], rat (c.f i).d r]; let c2 : Prop := 0 < 1; let c1 : Nat := (↑i : Int).toNat; some (af [(0 : Int) ≤ (↑i : Int) ∧ c1 < c5, c2] (af [(0 : Int) ≤ (0 : Int) ∧ (0 : Int) < c8, c2, -c4 ≤ cI c1, cI c1 < c4, (0 : Int) ≤ (1 : Int) ∧ (1 : Int) < c8, c2, -c4 ≤ cJ c1, cJ c1 < c4, (0 : Int) ≤ (2 : Int) ∧ (2 : Int) < c8, c2, -c4 ≤ dG c1, dG c1 < c4, c2, c2, c2] (af [c2] (leaf normal ([ptr 0 0 3 0 [], ptr 1 0 5 0 [], c6, ptr 2 0 5 0 [], aj 3 c5 fun i ↦ agg [int i64 (cI i), int i64 (cJ i), int i64 (dG i)], int i64 (↑c5 : Int), int i64 (↑i : Int), ptr 53252 0 3 0 [], ptr 57348 0 3 0 [], ptr 61444 0 3 0 [], nil, c3, int i64 (↑c.m : Int), c6], [((3 : Nat), aA.mk true true 1 i fun i ↦ aj 12 c.m fun i_1 ↦ agg [agg [rat ((↑(cI i) : Rat) * (c.f i_1).n.x - (↑(cJ i) : Rat) * (c.f i_1).n.y) w, rat ((↑(cJ i) : Rat) * (c.f i_1).n.x + (↑(cI i) : Rat) * (c.f i_1).n.y) w, rat (c.f i_1).n.z w], rat ((↑(dG i) : Rat) * (c.f i_1).d) w]), ((61444 : Nat), aA.mk false true 3 1 fun j ↦ if (j == 0) = true then bw (rat (↑(dG c1) : Rat) (Max.max 1 (aQ (dG c1).natAbs))) else c7), ((57348 : Nat), aA.mk false true 3 1 fun j ↦ if (j == 0) = true then bw (rat (↑(cJ c1) : Rat) (Max.max 1 (aQ (cJ c1).natAbs))) else c7), ((53252 : Nat), aA.mk false true 3 1 fun j ↦ if (j == 0) = true then bw (rat (↑(cI c1) : Rat) (Max.max 1 (aQ (cI c1).natAbs))) else c7), ((2 : Nat), aA.mk false true 5 1 fun x ↦ agg [int i64 (2 : Int), int i64 c.p, aj 3 ((2 : Nat) * q + 4) fun i ↦ rat (dz q i) 64, aj 3 c.n fun i ↦ rat (c.k i) w, own 3 1 0 i]), ((1 : Nat), aA.mk false true 5 1 fun x ↦ agg [c6, c6, nil, nil, nil]), ((0 : Nat), aA.mk false true 3 1 fun x_1 ↦ agg [int i64 c.p, aj 3 c.n fun i ↦ rat (c.k i) x, c3])]))))) := by kernel_rfl
theorem Ou {x r w : Nat} {c : Cu} {q i j : Nat} : aI T (mZ x w) [55] 60 qZ [part nF [1,1,1,0,1,0,0]] ⟨aB qZ (Ao r c q i j), zf x r w c q i j, 8⟩ =
  let c26 : Rat := (↑(dG i) : Rat); let c25 : Int := (↑c.m : Int); let c22 : AV := int i64 (0 : Int); let c21 : AV := ptr 1 0 5 0 []; let c20 : AV := ptr 0 0 3 0 []; let c19 : AV := ptr 5 0 3 0 []; let c18 : Nat := 2 * q + 1; let c17 : AV := ptr 6 0 3 0 []; let c16 : AV := ptr 4 0 3 0 []; let c15 : AV := ptr 2 0 5 0 []; let c13 : Rat := (↑(cJ i) : Rat); let c12 : Rat := (↑(cI i) : Rat); let c10 : Int := (↑(3 : Nat) : Int); let c9 : AV := rat 0 1; let c8 : Nat := 64 + r; let c7 : Int := (↑j : Int); let c5 : AV := aj 12 c.m fun i ↦ agg [agg [rat (c.f i).n.x r, rat (c.f i).n.y r, rat (c.f i).n.z r], rat (c.f i).d r]; let c4 : Prop := 0 < 1; let c3 : Nat := 2 ^ 42; let c2 : Nat × aA := ((3 : Nat), aA.mk true true 1 i fun i ↦ aj 12 c.m fun i_1 ↦ agg [agg [rat ((↑(cI i) : Rat) * (c.f i_1).n.x - (↑(cJ i) : Rat) * (c.f i_1).n.y) w, rat ((↑(cJ i) : Rat) * (c.f i_1).n.x + (↑(cI i) : Rat) * (c.f i_1).n.y) w, rat (c.f i_1).n.z w], rat ((↑(dG i) : Rat) * (c.f i_1).d) w]); let c27 : Int := c7 + (1 : Int); let c24 : Prop := (0 : Int) ≤ (1 : Int) ∧ (1 : Int) < c10; let c23 : Prop := (0 : Int) ≤ (0 : Int) ∧ (0 : Int) < c10; let c14 : Prop := 64 < c3; let c11 : V3 := (c.f c7.toNat).n; let c6 : AV := aj 3 c18 fun i ↦ agg [int i64 (cI i), int i64 (cJ i), int i64 (dG i)]; let c1 : List (Nat × aA) := [((6 : Nat), aA.mk false true 3 1 fun x ↦ rat c26 64), ((5 : Nat), aA.mk false true 3 1 fun x ↦ rat c13 64), ((4 : Nat), aA.mk false true 3 1 fun x ↦ rat c12 64), ((2 : Nat), aA.mk false true 5 1 fun x ↦ agg [int i64 (2 : Int), int i64 c.p, aj 3 ((2 : Nat) * q + 4) fun i ↦ rat (dz q i) 64, aj 3 c.n fun i ↦ rat (c.k i) w, own 3 1 0 i]), ((1 : Nat), aA.mk false true 5 1 fun x ↦ agg [c22, c22, nil, nil, nil]), ((0 : Nat), aA.mk false true 3 1 fun x_1 ↦ agg [int i64 c.p, aj 3 c.n fun i ↦ rat (c.k i) x, c5])]; some (fork (decide (c7 < c25)) (af [(0 : Int) ≤ c7 ∧ c7.toNat < c.m, c4] (af [c4, c23, c4, c14, r < c3, c4, c24, c4, c14, r < c3, c8 < c3, c8 < c3, c4, c23, c4, c14, r < c3, c4, c24, c4, c14, r < c3, c8 < c3, c8 < c3, (0 : Int) ≤ (2 : Int) ∧ (2 : Int) < c10, c4, r < c3, (1 : Nat) < c3, c4] (af [c4, c4, c4, c14, r < c3, (1 : Nat) * 12 ≤ 2 ^ 24, (j + 1) * ((224 : Nat) + 1) * 2 ≤ 2 ^ 47] (af [-(2 : Int) ^ 63 ≤ c27 ∧ c27 < (2 : Int) ^ 63] (leaf normal ([c20, c21, c22, c15, c6, int i64 (↑c18 : Int), int i64 (↑i : Int), c16, c19, c17, own 176136 12 0 (j + 1), c5, int i64 c25, int i64 c27], c2 :: ((176136 : Nat), aA.mk true true 12 (j + 1) fun i_1 ↦ if i_1 < j then aS (gf c i i_1) w else nth [agg [agg [rat (c12 * c11.x - c13 * c11.y) (c8 + c8 + 1), rat (c13 * c11.x + c12 * c11.y) (c8 + c8 + 1), rat (c11.z + 0) (r + 1 + 1)], rat (c26 * (c.f c7.toNat).d) c8]] (agg [agg [c9, c9, c9], c9]) (i_1 - j + 0)) :: c1)))))) (leaf (exit 2) ([c20, c21, c22, c15, c6, int i64 (↑c18 : Int), int i64 (↑i : Int), c16, c19, c17, own 7 12 0 j, c5, int i64 c25, int i64 c7], c2 :: ((7 : Nat), aA.mk true true 12 j fun j ↦ agg [agg [rat (c12 * (c.f j).n.x - c13 * (c.f j).n.y) w, rat (c13 * (c.f j).n.x + c12 * (c.f j).n.y) w, rat (c.f j).n.z w], rat (c26 * (c.f j).d) w]) :: c1))) := by kernel_rfl
theorem QU {x r w : Nat} {c : Cu} {q i j : Nat} : aI T (mZ x w) [] 60 kW [part nF [1,1,1,1], part qa [1,1,1]] ⟨aB qZ (Ao r c q i j), zf x r w c q i j, 8⟩ =
  let c4 : Nat := 2 * q + 1; let c3 : AV := int i64 (0 : Int); let c2 : Int := (↑i : Int) + (1 : Int); let c1 : AV := agg [int i64 (2 : Int), int i64 c.p, bH (dz q) ((2 : Nat) * q + 4) 64, bH c.k c.n w, own 3 1 0 i]; some (af [(0 : Nat) < 1, (1 : Nat) * 1 ≤ 2 ^ 24, (i + 1) * ((24 : Nat) + 1) * 2 ≤ 2 ^ 47, (0 : Nat) < 1] (af [-(2 : Int) ^ 63 ≤ c2 ∧ c2 < (2 : Int) ^ 63] (leaf normal ([ptr 0 0 3 0 [], ptr 1 0 5 0 [], c3, ptr 2 0 5 0 [], aj 3 c4 fun i ↦ agg [int i64 (cI i), int i64 (cJ i), int i64 (dG i)], int i64 (↑c4 : Int), int i64 c2], [((16392 : Nat), aA.mk true true 1 (i + 1) fun i_1 ↦ if i_1 < i then cm (gf c i_1) c.m w else nth [aj 12 j fun i_2 ↦ aS (gf c i (i_2 + 0)) w] nil (i_1 - i + 0)), ((2 : Nat), aA.mk false true 5 1 fun j ↦ if (j == 0) = true then agg (c1.kids.set 4 (bw (own (nat_lit 16391 + 1) 1 0 (i + 1)))) else c1), ((1 : Nat), aA.mk false true 5 1 fun x ↦ agg [c3, c3, nil, nil, nil]), ((0 : Nat), aA.mk false true 3 1 fun x_1 ↦ agg [int i64 c.p, aj 3 c.n fun i ↦ rat (c.k i) x, aj 12 c.m fun i ↦ agg [agg [rat (c.f i).n.x r, rat (c.f i).n.y r, rat (c.f i).n.z r], rat (c.f i).d r]])])))) := by kernel_rfl
theorem V4 {x r w : Nat} {c : Cu} {q i : Nat} : ct T (mZ x w) [] 60 lW [part wv [1,1,1,1,1]] ⟨aB kW (pZ q i), mz x r w c q i, 4⟩ =
  let c1 : Prop := 0 < 1; some (af [c1, c1] (af [c1] (leaf ret [agg [int i64 (2 : Int), int i64 c.p, aj 3 ((2 : Nat) * q + 4) fun i ↦ rat (dz q i) 64, aj 3 c.n fun i ↦ rat (c.k i) w, aj 1 i fun i ↦ aj 12 c.m fun i_1 ↦ agg [agg [rat ((↑(cI (i + 0)) : Rat) * (c.f i_1).n.x - (↑(cJ (i + 0)) : Rat) * (c.f i_1).n.y) w, rat ((↑(cJ (i + 0)) : Rat) * (c.f i_1).n.x + (↑(cI (i + 0)) : Rat) * (c.f i_1).n.y) w, rat (c.f i_1).n.z w], rat ((↑(dG (i + 0)) : Rat) * (c.f i_1).d) w]], int i64 (0 : Int)]))) := by kernel_rfl
theorem uq {x w : Nat} : aW P (mZ x w) := ep (aD VD (aD (zQ x w) (aD (cV hT (cR bg) hm aar _ _) qN)))
theorem Jm (i : Nat) : (-1 ≤ cI i ∧ cI i ≤ 1) ∧ (-1 ≤ cJ i ∧ cJ i ≤ 1) ∧ (0 ≤ dG i ∧ dG i ≤ 2) := by
 match i with
 | 0 | 1 | 2 | 3 | 4 | 5 | 6 | 7 | 8 => decide
 | i + 9 => exact ⟨by show -1 ≤ (0 : Int) ∧ (0 : Int) ≤ 1; decide, by show -1 ≤ (0 : Int) ∧ (0 : Int) ≤ 1; decide, by show 0 ≤ (0 : Int) ∧ (0 : Int) ≤ 2; decide⟩
theorem EL (i : Nat) : Max.max 1 (aQ (cI i).natAbs) ≤ 64 ∧ Max.max 1 (aQ (cJ i).natAbs) ≤ 64 ∧ Max.max 1 (aQ (dG i).natAbs) ≤ 64 := by
 match i with
 | 0 | 1 | 2 | 3 | 4 | 5 | 6 | 7 | 8 => decide
 | i + 9 => exact ⟨by show Max.max 1 (aQ (Int.natAbs 0)) ≤ 64; decide, by show Max.max 1 (aQ (Int.natAbs 0)) ≤ 64; decide, by show Max.max 1 (aQ (Int.natAbs 0)) ≤ 64; decide⟩
theorem TF {x y z d x' y' z' d' : Rat} {s1 s2 s3 s4 s : Nat} (h1 : x = x') (h2 : y = y') (h3 : z = z') (h4 : d = d') (k1 : s1 ≤ s) (k2 : s2 ≤ s) (k3 : s3 ≤ s) (k4 : s4 ≤ s) : bu (.agg [.agg [.rat x s1, .rat y s2, .rat z s3], .rat d s4]) (aS ⟨⟨x', y', z'⟩, d'⟩ s) :=
 cq ⟨cq ⟨bI h1 k1, bI h2 k2, bI h3 k3, trivial⟩, bI h4 k4, trivial⟩
theorem Px {rl : List (Nat × Nat)} {c : Cu} {w i j k s1 s2 s3 : Nat} {d : AV} (hk : k < j + 1) (h1 : s1 ≤ w) (h2 : s2 ≤ w) (h3 : s3 ≤ w) : gm rl (if k < j then aS (gf c i k) w else nth [.agg [.agg [.rat ((cI i : Rat) * (c.f j).n.x - (cJ i : Rat) * (c.f j).n.y) s1, .rat ((cJ i : Rat) * (c.f j).n.x + (cI i : Rat) * (c.f j).n.y) s1, .rat ((c.f j).n.z + 0) s2], .rat ((dG i : Rat) * (c.f j).d) s3]] d (k - j + 0)) (aS (gf c i k) w) := by
 by_cases h : k < j
 ·rw [if_pos h]; exact aR rfl rfl
 ·have : k = j := by omega
  subst this
  rw [if_neg h, Nat.sub_self]
  exact .inr ⟨rfl, TF rfl rfl (Rat.add_zero _) rfl h1 h1 h2 h3⟩
theorem tY {w : Nat} {rl : List (Nat × Nat)} {c : Cu} {q : Nat} {u v : AV} (hu : u.isTuple = false) (h : fq (aZ rl) u v) : gm rl (.agg [.int .i64 2, .int .i64 c.p, bH (dz q) (2 * q + 4) 64, bH c.k c.n w, u]) (.agg [.int .i64 2, .int .i64 c.p, bH (dz q) (2 * q + 4) 64, bH c.k c.n w, v]) :=
 qi ⟨⟨rfl, aG rfl⟩, ⟨rfl, aG rfl⟩, ⟨rfl, aG rfl⟩, ⟨rfl, aG rfl⟩, ⟨hu, h⟩, trivial⟩
theorem Sa : (fun i => nth [.agg [.int i64 1, .int i64 0, .int i64 1], .agg [.int i64 1, .int i64 1, .int i64 1], .agg [.int i64 0, .int i64 1, .int i64 2], .agg [.int i64 (-1), .int i64 1, .int i64 1], .agg [.int i64 (-1), .int i64 0, .int i64 1], .agg [.int i64 (-1), .int i64 (-1), .int i64 1], .agg [.int i64 0, .int i64 (-1), .int i64 2], .agg [.int i64 1, .int i64 (-1), .int i64 1], .agg [.int i64 1, .int i64 0, .int i64 1]] (.agg [.int i64 0, .int i64 0, .int i64 0]) (i + Int.toNat 0)) = fun i => .agg [.int .i64 (cI i), .int .i64 (cJ i), .int .i64 (dG i)] := by
 funext i
 match i with
 | 0 | 1 | 2 | 3 | 4 | 5 | 6 | 7 | 8 => rfl
 | i + 9 => rfl
theorem SH {x r w : Nat} (hx : x + 10 ≤ w) (hr : 2 * r + 200 ≤ w) (hw : w < 2 ^ 40) {c : Cu} {q : Nat} (h1 : 1 ≤ q) (h4 : q ≤ 4) (hn : c.n < 2 ^ 30) (hm2 : c.m < 2 ^ 30) (K : Nat) : ay P mC K [cr c x r, .int .i64 (q : Int)] [] (aF (.tuple [pX w c q, .int .i64 0]) []) := by
 refine fX (r := aF (.tuple [pX w c q, .int .i64 0]) []) hT Bo rfl (of_decide_eq_true (by kernel_rfl)) rfl (fun _ cx h0 => ?_) K []
 have hk := pC h0
 refine ak.Mn hT (uq (x := x) (w := w)) hm [1,1,1,1,0,1] (i := 0) (y := qa) (z := part wv [1,1,1,1,1]) (by kernel_rfl) (by kernel_rfl) (by kernel_rfl) Bo.dst hk (f1 := [200019, 200022]) 60 kW 4 (fun i : Nat => pZ q i) (fun i => mz x r w c q i)
  (fun i => i ≤ 2 * q + 1) (fun i => i = 2 * q + 1) (fun i => 2 * q + 1 - i) (fun _ => False) ⟨_, J1, ?_⟩ (fun i hi => ?_) (fun i hi => ?_) (fun _ _ h => h.elim)
 ·have e0 : (2 * (q : Int) + 1).toNat - Int.toNat 0 = 2 * q + 1 := by omega
  simp only [aa.all, ax, decide_eq_false_iff_not, cond_false, Sa, e0, Int.toNat_natCast]
  exact ⟨by omega, by omega, ⟨by omega, by omega, by omega, by omega, eP (Nat.le_refl _), by omega, by omega⟩, by omega, ⟨by omega, by omega, by omega, by omega, by omega, by omega⟩,
   0, Nat.zero_le _, [(0, 0), (1, 4096), (2, 69632)], rfl, rfl, rfl, nP rfl (by omega) (by omega) (aU rfl rfl (tY rfl (tn (by omega))) (aU rfl rfl (aR rfl rfl) (aU rfl rfl (aR rfl rfl) trivial)))⟩
 ·obtain ⟨⟨x1, x2⟩, ⟨y1, y2⟩, w1, w2⟩ := Jm i
  obtain ⟨b1, b2, b3⟩ := EL i
  have re : ∀ {i}, iQ 4 [(0, 0), (1, 1), (2, 2), (3, 3)] (mz x r w c q i) (mz x r w c q i) := fun {i} => cz rfl rfl rfl (fun _ _ => aR rfl rfl) (aU rfl rfl (tY rfl (cy rfl rfl rfl)) (aU rfl rfl (aR rfl rfl) (aU rfl rfl (aR rfl rfl) trivial)))
  refine ak.Es hT (uq (x := x) (w := w)) hm (y := qa) (x1 := nF) (zb := part qa [1,1,1]) [1,1,0] (j := 1) (by kernel_rfl) (by kernel_rfl) (by kernel_rfl) (by kernel_rfl) hk (f1 := [39]) 60 kW 4 (fun _ : Unit => pZ q i) (fun _ => mz x r w c q i) (fun _ => i < 2 * q + 1) ⟨_, Tl, ?_⟩ (fun _ hr => ?_)
  ·simp only [aa.all, ax, decide_eq_true_eq, decide_eq_false_iff_not]
   exact ⟨fun h => ⟨(), by omega, _, rfl, rfl, rfl, re⟩, fun h s' hs' => ⟨rfl, i, by omega, gh.le ⟨_, rfl, rfl, rfl, re⟩ hs' hk⟩⟩
  ·refine ak.kz hT (uq (x := x) (w := w)) hm (x := nF) [1,1,1,0,1] (i := 2) (y := part nF [1,1,1,0,1,0,0]) (z := part nF [1,1,1,1]) (by kernel_rfl) (by kernel_rfl) (by kernel_rfl) (by kernel_rfl) hk (f1 := []) (f2 := [55]) 60 qZ 8 (fun j : Nat => Ao r c q i j) (fun j => zf x r w c q i j) (fun j => j ≤ c.m) (fun j => j = c.m) (fun j => c.m - j) (fun _ => False) ⟨_, Li, ?_⟩ (fun j hj => ⟨_, Ou, ?_⟩) (fun j hj => ?_) (fun _ _ h => h.elim)
   ·simp only [aa.all, ax, Int.toNat_natCast]
    exact ⟨⟨by omega, by omega⟩, ⟨by omega, by omega, by omega, by omega, by omega, by omega, by omega, by omega, by omega, by omega, by omega, by omega, by omega, by omega⟩, by omega, 0, Nat.zero_le _, [(0, 0), (1, 1), (2, 2), (3, 3), (4, 53252), (5, 57348), (6, 61444)], rfl, rfl, rfl,
     nP rfl (by omega) (by omega) (aU rfl rfl (.inr ⟨rfl, dF b3⟩) (aU rfl rfl (.inr ⟨rfl, dF b2⟩) (aU rfl rfl (.inr ⟨rfl, dF b1⟩) (cz rfl rfl rfl (fun _ _ => aR rfl rfl) (aU rfl rfl (tY rfl (cy rfl rfl rfl)) (aU rfl rfl (aR rfl rfl) (aU rfl rfl (aR rfl rfl) trivial)))))))⟩
   ·simp only [aa.all, ax, decide_eq_true_eq, decide_eq_false_iff_not, Int.toNat_natCast, Nat.add_zero]
    refine ⟨fun h => ⟨by omega, ?_, by omega, by omega, j + 1, by omega, by dsimp only; omega, [(0, 0), (1, 1), (2, 2), (3, 3), (4, 4), (5, 5), (6, 6), (7, 176136)], rfl, rfl, rfl, cz rfl rfl rfl (fun k hk => Px hk (by omega) (by omega) (by omega)) ?_⟩, fun h => ⟨rfl, j, by omega, [(0, 0), (1, 1), (2, 2), (3, 3), (4, 4), (5, 5), (6, 6), (7, 7)], rfl, rfl, rfl, cz rfl rfl rfl (fun _ _ => aR rfl rfl) ?_⟩⟩
    ·omega
    all_goals exact aU rfl rfl (aR rfl rfl) (aU rfl rfl (aR rfl rfl) (aU rfl rfl (aR rfl rfl) (cz rfl rfl rfl (fun _ _ => aR rfl rfl) (aU rfl rfl (tY rfl (cy rfl rfl rfl)) (aU rfl rfl (aR rfl rfl) (aU rfl rfl (aR rfl rfl) trivial))))))
   ·subst hj
    refine ak.tail (fun s' h => absurd h.1 (by decide)) (az.bk hT (uq (x := x) (w := w)) hm 60 kW QU (by kernel_rfl) ?_)
    simp only [aa.all, ax]
    refine ⟨by omega, by omega, fun s' hs' => ⟨i + 1, by omega, by dsimp only; omega, gh.le ⟨[(0, 0), (1, 1), (2, 2), (3, 16392)], rfl, rfl, rfl, cz rfl rfl rfl (fun k hk => aR ?_ ?_) (aU rfl rfl (tY rfl (cy rfl rfl rfl)) (aU rfl rfl (aR rfl rfl) (aU rfl rfl (aR rfl rfl) trivial)))⟩ hs' hk⟩⟩
    all_goals
     by_cases h : k < i
     ·rw [if_pos h]; try rfl
     ·have : k = i := by omega
      subst this
      rw [if_neg h, Nat.sub_self]; try rfl
 ·subst hi
  refine ak.jE ((az.fin hT (uq (x := x) (w := w)) hm 60 V4 (by kernel_rfl) ?_).mono fun _ _ h => .inl h)
  simp only [aa.all, ax]
  exact ⟨by omega, by omega, cq ⟨.refl _, .refl _, dP fun _ _ => dF (by omega), .refl _, .refl _, trivial⟩, .refl _, trivial⟩
def Dm (x r w : Nat) : Spec := eH (kC (jQ x r) (kC kI kN)) (fun a => .tuple [pX w a.1 a.2.1.toNat, .int .i64 0]) fun a => [x + 10 ≤ w, 2 * r + 200 ≤ w, w < 2 ^ 40, 1 ≤ a.2.1, a.2.1 ≤ 4, a.1.n < 2 ^ 30, a.1.m < 2 ^ 30]
theorem aaJ (x r w : Nat) : ∀ K args pre v, Dm x r w K args pre = some v → ay P mC K args pre v := en fun ⟨c, q, _⟩ K hn => by
 obtain ⟨hx, hr, hw, h1, h2, h3, h4⟩ := hn
 simp only at h1 h2
 have := SH hx hr hw (q := q.toNat) (by omega) (by omega) h3 h4 K
 rw [Int.toNat_of_nonneg (by omega)] at this
 exact this
end Go.Am.B

/- slices.EqualFunc of numbers; curve.Move. -/
namespace Go.Am.B
open Go Go.Am.N AV aa ah IntKind
abbrev xx : FuncId := HT
noncomputable abbrev xd : Func := Gr
theorem Mj : aP P xx xd (au xd) := aL VP (by kernel_rfl) (by kernel_rfl) (by kernel_rfl)
theorem Z1 : aP P qu tX (au tX) := aL Rc (by kernel_rfl) (by kernel_rfl) (by kernel_rfl)
noncomputable abbrev rq : Code := au xd
abbrev v5 : List Nat := [0, 1, 2, 6, 15, 16, 17]
abbrev zo (n m : Nat) (f g : Nat → Rat) (i : Nat) : List AV := [bH f n sU, bH g m sU, .func kf [], .bool false, bH f n sU, .int .i64 n, .int .i64 i]
noncomputable def AP : aO := [(Bl, cP T pW [] 60 zw), (zV, cP T pW [] 60 Bx)]
noncomputable def H8 : aO := [(AR, cP T AP [] 60 Bp), (A8, cP T AP [] 60 Ai)]
noncomputable def HU : aO := [(BY, cP T H8 [] 60 BZ)]
noncomputable def xV (x y : Nat) : aO := nG :: (l7, zc x y) :: (HU ++ pW)
abbrev vS : List Nat := [3, 4, 5, 15, 16, 17]
abbrev AA (c : Cu) (r i : Nat) : List AV := [.ptr 1 0 36 0 [], .ptr 2 0 3 0 [], .ptr 3 0 3 0 [], cm c.f c.m r, .int .i64 c.m, .int .i64 i]
abbrev A9 (c : Cu) (m : Mp) (y w s i : Nat) : aC := [(4, ⟨true, true, 12, i, fun j => aS (dK m (c.f j)) w⟩), (3, ⟨false, true, 3, 1, fun _ => .agg [.int .i64 c.p, bH c.k c.n y, .own 4 12 0 i]⟩), (2, ⟨false, true, 3, 1, fun _ => .agg [.int .i64 0, .nil, .nil]⟩), (1, ⟨false, true, 36, 1, fun _ => fK m s⟩)]
noncomputable abbrev vQ : Code := au tX
theorem Yj {n m : Nat} {f g : Nat → Rat} : aI T wE [14] 60 v5 (before rq [1,1,0,1]) ⟨aK 0 [bH f n sU, bH g m sU, .func kf []], [], 0⟩ =
  let c2 : AV := aj 3 m fun i ↦ rat (g i) 4294967296; let c1 : AV := aj 3 n fun i ↦ rat (f i) 4294967296; some (fork ((↑n : Int) != (↑m : Int)) (leaf ret ([c1, c2, func 135 [], AV.bool false, tuple [], tuple [], tuple []], [])) (leaf normal ([c1, c2, func 135 [], AV.bool false, c1, int i64 (↑n : Int), int i64 (0 : Int)], []))) := by kernel_rfl
theorem XQ {n m i : Nat} {f g : Nat → Rat} : aI T wE [18, 30] 60 v5 [part rq [1,1,0,1,0,0]] ⟨aB v5 (zo n m f g i), [], 0⟩ =
  let c7 : Int := (↑n : Int); let c5 : AV := aj 3 m fun i ↦ rat (g i) 4294967296; let c4 : Prop := 0 < 1; let c3 : Int := (↑i : Int); let c1 : AV := aj 3 n fun i ↦ rat (f i) 4294967296; let c6 : Int := c3 + (1 : Int); let c2 : List AV × aC := ([c1, c5, func 135 [], AV.bool false, c1, int i64 c7, int i64 c3], []); some (fork (decide (c3 < c7)) (af [(0 : Int) ≤ c3 ∧ c3.toNat < n, c4] (af [(0 : Int) ≤ c3 ∧ c3.toNat < m, c4] (af [c4, c4] (fork (!decide (f c3.toNat = g c3.toNat)) (leaf ret c2) (af [-(2 : Int) ^ 63 ≤ c6 ∧ c6 < (2 : Int) ^ 63] (leaf normal ([c1, c5, func 135 [], AV.bool false, c1, int i64 c7, int i64 c6], []))))))) (leaf (exit 0) c2)) := by kernel_rfl
theorem MU {n m i : Nat} {f g : Nat → Rat} : ct T wE [] 60 xd [part rq [1,1,1]] ⟨aB v5 (zo n m f g i), [], 0⟩ =
  some (leaf ret [AV.bool true]) := by kernel_rfl
theorem aas {x y r s : Nat} {c : Cu} {m : Mp} : aI T (xV x y) [] 60 vS (before vQ [1,1,0,1]) ⟨aK 0 [cr c x r, fK m s], [], 0⟩ =
  let c2 : Prop := 0 < 1; let c1 : AV := agg [int i64 (0 : Int), nil, nil]; some (af [c2, c2, bZ (fun i ↦ rat (c.k i) x) c.n x, x + 10 ≤ y, y < 2 ^ 40, c.n < 2 ^ 40, c2] (af [c2] (leaf normal ([ptr 4096 0 (bw (fK m s)).size 0 [], ptr 8192 0 3 0 [], ptr 36864 0 3 0 [], aj 12 c.m fun i ↦ agg [agg [rat (c.f i).n.x r, rat (c.f i).n.y r, rat (c.f i).n.z r], rat (c.f i).d r], int i64 (↑c.m : Int), int i64 (0 : Int)], [((36864 : Nat), aA.mk false true 3 1 fun j ↦ if (j == 0) = true then bw (agg ((c1.kids.set 0 (bw (int i64 c.p))).set 1 (bw (bH (fun i ↦ aY (rat (c.k i) x)) c.n y)))) else c1), ((8192 : Nat), aA.mk false true 3 1 fun x ↦ c1), ((4096 : Nat), aA.mk false true (bw (fK m s)).size 1 fun x ↦ agg [agg [agg [rat m.m.a.x s, rat m.m.a.y s, rat m.m.a.z s], agg [rat m.m.b.x s, rat m.m.b.y s, rat m.m.b.z s], agg [rat m.m.c.x s, rat m.m.c.y s, rat m.m.c.z s]], agg [rat m.t.x s, rat m.t.y s, rat m.t.z s]])])))) := by kernel_rfl
theorem Qt {x y r s w i : Nat} {c : Cu} {m : Mp} : aI T (xV x y) [18] 60 vS [part vQ [1,1,0,1,0,0]] ⟨aB vS (AA c r i), A9 c m y w s i, 5⟩ =
  let c25 : Int := (↑c.m : Int); let c24 : Int := (↑(3 : Nat) : Int); let c20 : AV := own 4 12 0 i; let c19 : AV := ptr 2 0 3 0 []; let c18 : AV := ptr 3 0 3 0 []; let c17 : AV := ptr 1 0 36 0 []; let c15 : AV := rat 0 1; let c14 : Int := (↑i : Int); let c12 : Nat := 1 + (s + r) + 1; let c11 : Int := i64.wrap ((0 : Int) + (1 : Int)); let c9 : AV := aj 12 c.m fun i ↦ agg [agg [rat (c.f i).n.x r, rat (c.f i).n.y r, rat (c.f i).n.z r], rat (c.f i).d r]; let c6 : List (Nat × aA) := [((2 : Nat), aA.mk false true 3 1 fun x ↦ agg [int i64 (0 : Int), nil, nil]), ((1 : Nat), aA.mk false true 36 1 fun x ↦ agg [agg [agg [rat m.m.a.x s, rat m.m.a.y s, rat m.m.a.z s], agg [rat m.m.b.x s, rat m.m.b.y s, rat m.m.b.z s], agg [rat m.m.c.x s, rat m.m.c.y s, rat m.m.c.z s]], agg [rat m.t.x s, rat m.t.y s, rat m.t.z s]])]; let c4 : Nat := 2 ^ 42; let c1 : Prop := 0 < 1; let c28 : Int := i64.wrap (c11 + (1 : Int)); let c27 : Int := c14 + (1 : Int); let c26 : Prop := r < c4; let c23 : Prop := s < c4; let c22 : Prop := 1 < c4; let c16 : Prop := s + r < c4; let c13 : AV := agg [int i64 c.p, bH c.k c.n y, c20]; let c8 : V3 := (c.f c14.toNat).n; let c7 : Nat := c12 + (s + r) + 1; let c5 : Prop := (0 : Int) ≤ (0 : Int) ∧ (0 : Int) < c24; let c3 : Prop := (0 : Int) ≤ c11 ∧ c11 < c24; let c10 : Nat := c7 + (s + r) + 1; let c2 : Prop := (0 : Int) ≤ c28 ∧ c28 < c24; let c21 : Nat := c10 + s + 1; some (fork (decide (c14 < c25)) (af [(0 : Int) ≤ c14 ∧ c14.toNat < c.m, c1] (af [c1, c1, c1, c1, c1, c1, c5, c1, c1, c1, c1, c5, c1, c5, c1, c23, c26, c22, c16, c1, c1, c3, c1, c3, c1, c23, c26, c12 < c4, c16, c1, c1, c2, c1, c2, c1, c23, c26, c7 < c4, c16, c1, c1, c1, c1, c5, c1, c3, c1, c1, c1, c1, c5, c1, c5, c1, c23, c26, c22, c16, c1, c1, c3, c1, c3, c1, c23, c26, c12 < c4, c16, c1, c1, c2, c1, c2, c1, c23, c26, c7 < c4, c16, c1, c1, c1, c1, c3, c1, c2, c1, c1, c1, c1, c5, c1, c5, c1, c23, c26, c22, c16, c1, c1, c3, c1, c3, c1, c23, c26, c12 < c4, c16, c1, c1, c2, c1, c2, c1, c23, c26, c7 < c4, c16, c1, c1, c1, c1, c2, c1, c1, c1, c1, c1, c1, c1, c5, c1, c5, c1, c10 < c4, c23, c5, c1, c3, c1, c3, c1, c10 < c4, c23, c3, c1, c2, c1, c2, c1, c10 < c4, c23, c2, c1, c1, c1, c1, c1, c1, c1, c1, c1, c26, c22, (1 : Nat) * 12 ≤ 2 ^ 24, (i + 1) * ((224 : Nat) + 1) * 2 ≤ 2 ^ 47, c1] (af [-(2 : Int) ^ 63 ≤ c27 ∧ c27 < (2 : Int) ^ 63] (leaf normal ([c17, c19, c18, c9, int i64 c25, int i64 c27], ((69637 : Nat), aA.mk true true 12 (i + 1) fun i_1 ↦ if i_1 < i then aS (dK m (c.f i_1)) w else nth [agg [agg [rat ((0 : Rat) + m.m.a.x * c8.x + m.m.a.y * c8.y + m.m.a.z * c8.z + m.t.x) c21, rat ((0 : Rat) + m.m.b.x * c8.x + m.m.b.y * c8.y + m.m.b.z * c8.z + m.t.y) c21, rat ((0 : Rat) + m.m.c.x * c8.x + m.m.c.y * c8.y + m.m.c.z * c8.z + m.t.z) c21], rat ((c.f c14.toNat).d + 0) (r + 1 + 1)]] (agg [agg [c15, c15, c15], c15]) (i_1 - i + 0)) :: ((3 : Nat), aA.mk false true 3 1 fun j ↦ if (j == 0) = true then agg (c13.kids.set 2 (bw (own (nat_lit 69636 + 1) 12 0 (i + 1)))) else c13) :: c6))))) (leaf (exit 0) ([c17, c19, c18, c9, int i64 c25, int i64 c14], ((4 : Nat), aA.mk true true 12 i fun j ↦ agg [agg [rat (iF m.m.a (c.f j).n m.t.x) w, rat (iF m.m.b (c.f j).n m.t.y) w, rat (iF m.m.c (c.f j).n m.t.z) w], rat (c.f j).d w]) :: ((3 : Nat), aA.mk false true 3 1 fun x ↦ agg [int i64 c.p, aj 3 c.n fun i ↦ rat (c.k i) y, c20]) :: c6))) := by kernel_rfl
theorem MT {x y r s w i : Nat} {c : Cu} {m : Mp} : ct T (xV x y) [] 60 tX [part vQ [1,1,1]] ⟨aB vS (AA c r i), A9 c m y w s i, 5⟩ =
  let c1 : Prop := 0 < 1; some (af [c1, c1] (af [c1] (leaf ret [agg [int i64 c.p, aj 3 c.n fun i ↦ rat (c.k i) y, aj 12 i fun i ↦ agg [agg [rat (iF m.m.a (c.f (i + 0)).n m.t.x) w, rat (iF m.m.b (c.f (i + 0)).n m.t.y) w, rat (iF m.m.c (c.f (i + 0)).n m.t.z) w], rat (c.f (i + 0)).d w]]]))) := by kernel_rfl
theorem PE {n m : Nat} {f g : Nat → Rat} (hn : n < 2 ^ 40) (hm2 : m < 2 ^ 40) (K : Nat) : ay P xx K [bH f n sU, bH g m sU, .func kf []] [] (aF (.bool (fJ n f m g)) []) := by
 refine kQ (r := aF (.bool (fJ n f m g)) []) hT LQ hm Mj rfl (of_decide_eq_true (by kernel_rfl)) rfl [1,1,0,1] (i := 0) (y := part rq [1,1,0,1,0,0]) (z := part rq [1,1,1]) (by kernel_rfl) (by kernel_rfl) (by kernel_rfl) (f1 := [14]) (f2 := [18, 30]) (f3 := []) 60 v5 0
  (fun i : Nat => zo n m f g i) (fun _ => []) (fun i => i ≤ n ∧ n = m ∧ ∀ j, j < i → f j = g j) (fun i => i = n ∧ n = m ∧ ∀ j, j < i → f j = g j) (fun i => n - i) (fun _ => ⟨⟨_, Yj, ?_⟩, fun i ⟨h1, h2, h3⟩ => ⟨_, XQ, ?_⟩, fun i ⟨h1, h2, h3⟩ => ⟨_, MU, ?_⟩⟩) K []
 ·simp only [aa.all, ax, bne_iff_ne, ne_eq, bne_eq_false_iff_eq]
  exact ⟨fun h => ⟨[.bool false], by kernel_rfl, fQ (decide_eq_false (fun hh => h (by omega))).symm⟩, fun h => ⟨0, ⟨by omega, by omega, fun j hj => by omega⟩, .vals rfl⟩⟩
 ·simp only [aa.all, ax, decide_eq_true_eq, decide_eq_false_iff_not, Bool.not_eq_true', Bool.not_eq_false', Int.toNat_natCast]
  (repeat' with_reducible first | refine And.intro ?_ ?_ | intro _)
  all_goals first | omega | skip
  ·rename_i a b
   exact ⟨[.bool false], by kernel_rfl, fQ (decide_eq_false (fun hh => b (hh.2 i (by omega)))).symm⟩
  ·rename_i a b
   refine ⟨i + 1, ⟨by omega, h2, fun j hj => ?_⟩, by dsimp only; omega, .vals rfl⟩
   by_cases hj2 : j = i
   ·subst hj2; exact b
   ·exact h3 j (by omega)
  ·exact ⟨rfl, i, ⟨by omega, h2, h3⟩, .vals rfl⟩
 ·subst h1
  exact fQ (decide_eq_true ⟨h2, h3⟩).symm
theorem Iz : aW P AP := aD (cV hT qN hm (aL HI (by kernel_rfl) (by kernel_rfl) (by kernel_rfl)) _ _) (aD (cV hT qN hm (aL DP (by kernel_rfl) (by kernel_rfl) (by kernel_rfl)) _ _) bg)
theorem OU : aW P H8 := aD (cV hT Iz hm (aL Hs (by kernel_rfl) (by kernel_rfl) (by kernel_rfl)) _ _) (aD (cV hT Iz hm (aL Ji (by kernel_rfl) (by kernel_rfl) (by kernel_rfl)) _ _) bg)
theorem Qd : aW P HU := aD (cV hT OU hm (aL CO (by kernel_rfl) (by kernel_rfl) (by kernel_rfl)) _ _) bg
theorem Zw {x y : Nat} : aW P (xV x y) := ep (aD (zQ x y) (gk Qd qN))
theorem Hq {rl : List (Nat × Nat)} {c : Cu} {y a i : Nat} (h : aZ rl 4 = some a) : gm rl (.agg [.int .i64 c.p, bH c.k c.n y, .own a 12 0 i]) (.agg [.int .i64 c.p, bH c.k c.n y, .own 4 12 0 i]) :=
 qi ⟨⟨rfl, aG rfl⟩, ⟨rfl, aG rfl⟩, ⟨rfl, cy h rfl rfl⟩, trivial⟩
theorem W2 (m : Mp) (s : Nat) : (bw (fK m s)).size = 36 := by kernel_rfl
theorem YN {x y r s w : Nat} {c : Cu} {m : Mp} (hx : x + 10 ≤ y) (hy : y < 2 ^ 40) (hw : 4 * s + 3 * r + 10 ≤ w) (hw2 : w < 2 ^ 40) (hn : c.n < 2 ^ 30) (hm2 : c.m < 2 ^ 30) (K : Nat) : ay P qu K [cr c x r, fK m s] [] (aF (cr (iX m c) y w) []) := by
 refine kQ (r := aF (cr (iX m c) y w) []) hT (Zw (x := x) (y := y)) hm Z1 rfl (of_decide_eq_true (by kernel_rfl)) rfl [1,1,0,1] (i := 0) (y := part vQ [1,1,0,1,0,0]) (z := part vQ [1,1,1]) (by kernel_rfl) (by kernel_rfl) (by kernel_rfl) (f1 := []) (f2 := [18]) (f3 := []) 60 vS 5
  (fun i : Nat => AA c r i) (fun i => A9 c m y w s i) (fun i => i ≤ c.m) (fun i => i = c.m) (fun i => c.m - i) (fun _ => ⟨⟨_, aas, ?_⟩, fun i hi => ⟨_, Qt, ?_⟩, fun i hi => ⟨_, MT, ?_⟩⟩) K []
 ·simp only [aa.all, ax]
  rw [W2 m s]
  exact ⟨⟨by omega, by omega, eP (Nat.le_refl _), by omega, by omega, by omega, by omega⟩, by omega, 0, Nat.zero_le _, [(1, 4096), (2, 8192), (3, 36864)], rfl, rfl, rfl, nP rfl (by omega) (by omega) (aU rfl rfl (qi ⟨⟨rfl, aG rfl⟩, ⟨rfl, aG rfl⟩, ⟨rfl, tn (by omega)⟩, trivial⟩) (aU rfl rfl (aR rfl rfl) (aU rfl rfl (aR rfl rfl) trivial)))⟩
 ·set_option maxRecDepth 10000 in simp only [aa.all, ax, decide_eq_true_eq, decide_eq_false_iff_not, Int.toNat_natCast, Nat.add_zero]
  refine ⟨fun h => ?_, fun h => ⟨rfl, i, by omega, [(1, 1), (2, 2), (3, 3), (4, 4)], rfl, rfl, rfl, cz rfl rfl rfl (fun _ _ => aR rfl rfl) (aU rfl rfl (Hq rfl) (aU rfl rfl (aR rfl rfl) (aU rfl rfl (aR rfl rfl) trivial)))⟩⟩
  have w1 : i64.wrap (0 + 1) = 1 := by decide
  have w2 : i64.wrap (i64.wrap (0 + 1) + 1) = 2 := by decide
  rw [w2, w1]
  refine ⟨by omega, ?_, by omega, i + 1, by omega, by dsimp only; omega, [(1, 1), (2, 2), (3, 3), (4, 69637)], rfl, rfl, rfl, cz rfl rfl rfl (fun k hk => zE (y := fun j => dK m (c.f j)) (fun _ _ => rfl) (s' := w) ?_ rfl (Nat.le_refl _) (Nat.le_refl _) hk) (aU rfl rfl (Hq rfl) (aU rfl rfl (aR rfl rfl) (aU rfl rfl (aR rfl rfl) trivial)))⟩
  ·(repeat' with_reducible refine And.intro ?_ ?_) <;> omega
  ·exact cq ⟨cq ⟨bI rfl (by omega), bI rfl (by omega), bI rfl (by omega), trivial⟩, bI (Rat.add_zero _) (by omega), trivial⟩
 ·subst hi
  simp only [aa.all, ax]
  exact ⟨by omega, by omega, .refl _⟩
def Ea : Spec := eH (kC (kL sU) (kC (kL sU) (kC (kF kf) kN))) (fun a => .bool (fJ a.1.1 a.1.2 a.2.1.1 a.2.1.2)) fun a => [a.1.1 < 2 ^ 40, a.2.1.1 < 2 ^ 40]
theorem KP : ∀ K args pre r, Ea K args pre = some r → ay P xx K args pre r := en fun _ K hn => PE hn.1 hn.2 K
end Go.Am.B

/- Ruled, Extrude, Bilinear (shapes and ref14). -/
namespace Go.Am.B
open Go Go.Am.N AV aa ah IntKind
theorem UT : aP P oP tI (au tI) := aL Wi (by kernel_rfl) (by kernel_rfl) (by kernel_rfl)
theorem Wb : aP P oM uz (au uz) := aL Tn (by kernel_rfl) (by kernel_rfl) (by kernel_rfl)
theorem WK : aP P th vv (au vv) := aL Yv (by kernel_rfl) (by kernel_rfl) (by kernel_rfl)
theorem Xw : aP P rG ue (au ue) := aL Xn (by kernel_rfl) (by kernel_rfl) (by kernel_rfl)
theorem Zy : aP P tR uV (au uV) := aL Su (by kernel_rfl) (by kernel_rfl) (by kernel_rfl)
theorem XI : aP P vK rS (au rS) := aL aan (by kernel_rfl) (by kernel_rfl) (by kernel_rfl)
def Ch (x r s y w : Nat) : Spec := eH (kC (jQ x r) (kC (Bt s) kN)) (fun a => cr (iX a.2.1 a.1) y w) fun a => [x + 10 ≤ y, y < 2 ^ 40, 4 * s + 3 * r + 10 ≤ w, w < 2 ^ 40, a.1.n < 2 ^ 30, a.1.m < 2 ^ 30]
abbrev dj : Nat := 1200
abbrev ew : Nat := 27000
abbrev dH : Nat := 1300
abbrev dS : Nat := 82000
def cT (c d : Cu) : Bool := (c.p == d.p) && fJ c.n c.k d.n d.k
def bN (b : Bool) (a : Nat) : Nat := bif b then a else 0
def fo (i : Nat) : Rat := if i < 2 then 0 else 1
def mI (c d : Cu) : Sf := ⟨(bN (cT c d) 1 : Nat), bif cT c d then c.p else 0, bN (cT c d) 4, fo, bN (cT c d) c.n, c.k, bN (cT c d) 2, bN (cT c d) c.m, fun i j => if i = 0 then c.f j else d.f j⟩
def iC (c d : Cu) : Int := bif cT c d then 0 else 5
noncomputable def Fa : aO := nG :: (xx, Ea) :: (l7, zc dj dH) :: (qu, Ch dj ew 1 dH dS) :: (ov ++ oT)
noncomputable def Gu : aO := nG :: (og, wu) :: rF
theorem Qx {c d : Cu} : bq T Fa [12, 19] 60 tI (au tI) ⟨aK 0 [cr c dj ew, cr d dj ew], [], 0⟩ =
  let c16 : AV := int i64 (1 : Int); let c15 : Rat := (↑(1 : Int) : Rat); let c13 : Prop := bZ (fun i ↦ rat (c.k i) dj) c.n dj; let c12 : Prop := dj + 10 ≤ dH; let c11 : Prop := 4 * 1 + 3 * ew + 10 ≤ dS; let c10 : Nat := 2 ^ 30; let c7 : AV := int i64 (0 : Int); let c6 : Prop := 1 ≤ 1; let c5 : Nat := 2 ^ 40; let c3 : Prop := 0 < 1; let c2 : Nat := Max.max 1 (aQ (Int.natAbs (1 : Int))); let c17 : Prop := Max.max c2 1 ≤ 1; let c14 : Prop := c2 ≤ 1; let c9 : aa (List AV) := af [c3] (af [c3] (leaf ret [agg [c7, c7, nil, nil, nil], int i64 (5 : Int)])); let c8 : Prop := 1 ≤ c2; let c4 : Mp := Mp.mk (M3.mk (V3.mk c15 0 0) (V3.mk 0 c15 0) (V3.mk 0 0 c15)) (V3.mk 0 0 0); let c1 : aa (List AV) := af [c3, c3] (af [c3, (4 : Nat) * 1 ≤ 2 ^ 24, c3, c13, c12, dH < c5, c.n < c5, c3, c3, c13, eZ (fun i ↦ aS (c.f i) ew) c.m ew, c17, c8, c8, c8, c8, c14, c6, c6, c14, c6, c6, c12, dH < c5, c11, dS < c5, c.n < c10, c.m < c10, c3, c3, bZ (fun i ↦ rat (d.k i) dj) d.n dj, eZ (fun i ↦ aS (d.f i) ew) d.m ew, c17, c8, c8, c8, c8, c14, c6, c6, c14, c6, c6, c12, dH < c5, c11, dS < c5, d.n < c10, d.m < c10, (2 : Nat) * 1 ≤ 2 ^ 24, c3] (af [c3] (leaf ret [agg [c16, int i64 c.p, aj 3 4 fun i ↦ rat (↑(intOf (nth [c7, c7, c16, c16] c7 (i + 0 + 0))) : Rat) 64, aj 3 c.n fun i ↦ rat (aY (rat (c.k i) dj)) 1300, aj 1 2 fun i ↦ nth [aj 12 c.m fun i ↦ aS (dK c4 (bD (aS (c.f i) ew))) dS, aj 12 d.m fun i ↦ aS (dK c4 (bD (aS (d.f i) ew))) dS] nil (i + 0)], c7]))); some (fork (c.p != d.p) (af [c3, c3, (c.p != d.p) = true] (fork true c9 c1)) (af [c3, c3, (c.p != d.p) = false, c3, c3, bZ (fun i ↦ rat (c.k i) dj) c.n sU, bZ (fun i ↦ rat (d.k i) dj) d.n sU, c.n < c5, d.n < c5] (fork (bif false then true else !fJ c.n (fun i ↦ aY (rat (c.k i) dj)) d.n fun i ↦ aY (rat (d.k i) dj)) c9 c1))) := by kernel_rfl
theorem QZ {c d : Cu} : bq T Gu [11, 18] 60 uz (au uz) ⟨aK 0 [cr c dj ew, cr d dj ew], [], 0⟩ =
  let c8 : AV := int i64 (1 : Int); let c7 : Nat := 2 ^ 47; let c5 : Nat := 2 ^ 24; let c4 : AV := int i64 (0 : Int); let c3 : AV := rat 0 1; let c2 : Prop := 0 < 1; let c10 : Prop := 0 * 12 ≤ c5; let c9 : AV := agg [agg [c3, c3, c3], c3]; let c6 : aa (List AV) := af [c2] (af [c2] (leaf ret [agg [c4, c4, nil, nil, nil], int i64 (5 : Int)])); let c1 : aa (List AV) := af [c2, (4 : Nat) * 1 ≤ c5, (0 : Nat) * 3 ≤ c5, c2, ((0 : Nat) + c.n) * ((56 : Nat) + 1) * 2 ≤ c7, c10, c2, ((0 : Nat) + c.m) * ((224 : Nat) + 1) * 2 ≤ c7, c10, c2, ((0 : Nat) + d.m) * ((224 : Nat) + 1) * 2 ≤ c7, (2 : Nat) * 1 ≤ c5, c2] (af [c2] (leaf ret [agg [c8, int i64 c.p, aj 3 4 fun i ↦ rat (↑(intOf (nth [c4, c4, c8, c8] c4 (i + 0 + 0))) : Rat) 64, aj 3 ((0 : Nat) + c.n) fun i ↦ rat (c.k (i + 0 - 0)) 1200, aj 1 2 fun i ↦ nth [aj 12 ((0 : Nat) + c.m) fun i ↦ if i + 0 < 0 then nth [] c9 (i + 0) else aS (c.f (i + 0 - 0)) ew, aj 12 ((0 : Nat) + d.m) fun i ↦ if i + 0 < 0 then nth [] c9 (i + 0) else aS (d.f (i + 0 - 0)) ew] nil (i + 0)], c4])); some (fork (c.p != d.p) (af [c2, c2, (c.p != d.p) = true] (fork true c6 c1)) (af [c2, c2, (c.p != d.p) = false, c2, c2, bZ (fun i ↦ rat (c.k i) dj) c.n sU, bZ (fun i ↦ rat (d.k i) dj) d.n sU, c.n < 2 ^ 40, d.n < 2 ^ 40] (fork (bif false then true else !fJ c.n (fun i ↦ aY (rat (c.k i) dj)) d.n fun i ↦ aY (rat (d.k i) dj)) c6 c1))) := by kernel_rfl
theorem G3 (x r s y w : Nat) : ∀ K args pre v, Ch x r s y w K args pre = some v → ay P qu K args pre v := en fun _ K hn => YN hn.1 hn.2.1 hn.2.2.1 hn.2.2.2.1 hn.2.2.2.2.1 hn.2.2.2.2.2 K
theorem ZR : aW P Fa := ep (aD KP (aD (zQ _ _) (aD (G3 _ _ _ _ _) (gk oN s5))))
theorem Vi : aW P Gu := ep (aD Ap yl)
theorem yQ {y w : Nat} {c d : Cu} (h : cT c d = false) : dB [.agg [.int .i64 0, .int .i64 0, .nil, .nil, .nil], .int .i64 5] [dL (mI c d) y w, .int .i64 (iC c d)] := by
 unfold iC
 show dB _ [.agg [.int .i64 (bN (cT c d) 1 : Nat), .int .i64 (bif cT c d then c.p else 0), .aj 3 (bN (cT c d) 4) _, .aj 3 (bN (cT c d) c.n) _, .aj 1 (bN (cT c d) 2) _], _]
 rw [h]
 exact ⟨cq ⟨.refl _, .refl _, gD (by omega), gD (by omega), gD (by omega), trivial⟩, .refl _, trivial⟩
theorem Y3 {y : Nat} (hy : 64 ≤ y) : bu (.aj 3 4 fun i => .rat ((intOf (nth [.int .i64 0, .int .i64 0, .int .i64 1, .int .i64 1] (.int .i64 0) (i + 0 + 0)) : Int) : Rat) 64) (bH fo 4 y) := dP fun i hi => by
 match i, hi with
 | 0, _ | 1, _ | 2, _ | 3, _ => exact bI (by decide +kernel) hy
theorem En {y w : Nat} (hy : 64 ≤ y) {c d : Cu} {K U V : AV} (h : cT c d = true) (hm2 : c.m = d.m) (hK : bu K (bH c.k c.n y)) (hU : bu U (cm c.f c.m w)) (hV : bu V (cm d.f d.m w)) :
  dB [.agg [.int .i64 1, .int .i64 c.p, .aj 3 4 fun i => .rat ((intOf (nth [.int .i64 0, .int .i64 0, .int .i64 1, .int .i64 1] (.int .i64 0) (i + 0 + 0)) : Int) : Rat) 64, K, .aj 1 2 fun i => nth [U, V] .nil (i + 0)], .int .i64 0] [dL (mI c d) y w, .int .i64 (iC c d)] := by
 unfold iC
 show dB _ [.agg [.int .i64 (bN (cT c d) 1 : Nat), .int .i64 (bif cT c d then c.p else 0), .aj 3 (bN (cT c d) 4) _, .aj 3 (bN (cT c d) c.n) _, .aj 1 (bN (cT c d) 2) fun i => .aj 12 (bN (cT c d) c.m) fun j => aS (if i = 0 then c.f j else d.f j) w], _]
 rw [h]
 refine ⟨cq ⟨.refl _, .refl _, Y3 hy, hK, dP fun i hi => ?_, trivial⟩, .refl _, trivial⟩
 match i, hi with
 | 0, _ => exact hU
 | 1, _ =>
  show bu V (.aj 12 c.m fun j => aS (d.f j) w)
  rw [hm2]; exact hV
theorem F4 {p : Pl} : dK ⟨⟨⟨((1 : Int) : Rat), 0, 0⟩, ⟨0, ((1 : Int) : Rat), 0⟩, ⟨0, 0, ((1 : Int) : Rat)⟩⟩, ⟨0, 0, 0⟩⟩ p = p := by
 obtain ⟨⟨x, y, z⟩, w⟩ := p
 show (⟨⟨0 + 1 * x + 0 * y + 0 * z + 0, 0 + 0 * x + 1 * y + 0 * z + 0, 0 + 0 * x + 0 * y + 1 * z + 0⟩, w⟩ : Pl) = ⟨⟨x, y, z⟩, w⟩
 congr 2 <;> grind
theorem CE {c d : Cu} (h : (c.p != d.p) = true) : cT c d = false := by
 unfold cT; rw [show (c.p == d.p) = false by simpa using h]; rfl
theorem ym {c d : Cu} (h : (c.p != d.p) = false) : cT c d = fJ c.n c.k d.n d.k := by
 unfold cT; rw [show (c.p == d.p) = true by simpa using h]; rfl
theorem UZ {c d : Cu} (hcd : cT c d = true → c.m = d.m) (h1 : c.n < 2 ^ 30) (h2 : c.m < 2 ^ 30) (h3 : d.n < 2 ^ 30) (h4 : d.m < 2 ^ 30) (K : Nat) : ay P oP K [cr c dj ew, cr d dj ew] [] (aF (.tuple [dL (mI c d) dH dS, .int .i64 (iC c d)]) []) := by
 refine bt (r := aF (.tuple [dL (mI c d) dH dS, .int .i64 (iC c d)]) []) hT ZR hm UT rfl (of_decide_eq_true (by kernel_rfl)) rfl 60 Qx (fun _ => ?_) K []
 have q1 : Max.max 1 (aQ (Int.natAbs 1)) = 1 := by decide
 simp only [aa.all, ax, q1]
 refine ⟨fun h => ⟨⟨by omega, by omega, h⟩, fun _ => ⟨by omega, by omega, yQ (CE h)⟩, fun h' => absurd h' (by decide)⟩, fun h => ⟨⟨by omega, by omega, h, by omega, by omega, eP (by decide), eP (by decide), by omega, by omega⟩, fun h' => ⟨by omega, by omega, yQ ?_⟩, fun h' => ?_⟩⟩
 ·have h2 : (!fJ c.n c.k d.n d.k) = true := h'
  rw [ym h]; simpa using h2
 ·have h2 : (!fJ c.n c.k d.n d.k) = false := h'
  have hok : cT c d = true := by rw [ym h]; simpa using h2
  (repeat' with_reducible refine And.intro ?_ ?_)
  all_goals first | omega | (with_reducible exact eP (Nat.le_refl _)) | (with_reducible exact jK (Nat.le_refl _)) | decide | skip
  refine En (by decide) hok (hcd hok) (.refl _) (dP fun j _ => ?_) (dP fun j _ => ?_)
  ·show bu (aS (dK _ (c.f j)) dS) _
   rw [F4]; exact .refl _
  ·show bu (aS (dK _ (d.f j)) dS) _
   rw [F4]; exact .refl _
theorem Rt {c d : Cu} (hcd : cT c d = true → c.m = d.m) (h1 : c.n < 2 ^ 30) (h2 : c.m < 2 ^ 30) (h3 : d.n < 2 ^ 30) (h4 : d.m < 2 ^ 30) (K : Nat) : ay P oM K [cr c dj ew, cr d dj ew] [] (aF (.tuple [dL (mI c d) dH dS, .int .i64 (iC c d)]) []) := by
 refine bt (r := aF (.tuple [dL (mI c d) dH dS, .int .i64 (iC c d)]) []) hT Vi hm Wb rfl (of_decide_eq_true (by kernel_rfl)) rfl 60 QZ (fun _ => ?_) K []
 simp only [aa.all, ax, Nat.zero_add]
 refine ⟨fun h => ⟨⟨by omega, by omega, h⟩, fun _ => ⟨by omega, by omega, yQ (CE h)⟩, fun h' => absurd h' (by decide)⟩, fun h => ⟨⟨by omega, by omega, h, by omega, by omega, eP (by decide), eP (by decide), by omega, by omega⟩, fun h' => ⟨by omega, by omega, yQ ?_⟩, fun h' => ?_⟩⟩
 ·have h2 : (!fJ c.n c.k d.n d.k) = true := h'
  rw [ym h]; simpa using h2
 ·have h2 : (!fJ c.n c.k d.n d.k) = false := h'
  have hok : cT c d = true := by rw [ym h]; simpa using h2
  (repeat' with_reducible refine And.intro ?_ ?_)
  all_goals first | omega | decide | skip
  exact En (by decide) hok (hcd hok) (dP fun _ _ => dF (by decide)) (dP fun _ _ => oc rfl (by decide)) (dP fun _ _ => oc rfl (by decide))
def pK : Spec := eH (kC (jQ dj ew) (kC (jQ dj ew) kN)) (fun a => .tuple [dL (mI a.1 a.2.1) dH dS, .int .i64 (iC a.1 a.2.1)]) fun a => [cT a.1 a.2.1 = true → a.1.m = a.2.1.m, a.1.n < 2 ^ 30, a.1.m < 2 ^ 30, a.2.1.n < 2 ^ 30, a.2.1.m < 2 ^ 30]
def kO (v : V3) : Mp := ⟨⟨⟨((1 : Int) : Rat), 0, 0⟩, ⟨0, ((1 : Int) : Rat), 0⟩, ⟨0, 0, ((1 : Int) : Rat)⟩⟩, v⟩
def rm (c : Cu) (v : V3) : Sf := mI c (iX (kO v) c)
noncomputable def El : aO := nG :: (qu, Ch 64 64 64 100 1000) :: (oP, pK) :: ov
noncomputable def ID : aO := nG :: (pg, zj) :: (oM, pK) :: (JF, cP T (sG :: (nL ++ gC)) [] 60 Dn) :: []
noncomputable def HB : aO := sG :: oT
noncomputable def HP : aO := sG :: (rF ++ gC)
def vl (a b c d : V3) : Sf := ⟨1, 1, 4, fo, 4, fo, 2, 2, fun i j => ⟨if i = 0 then (if j = 0 then a else c) else (if j = 0 then b else d), 1⟩⟩
theorem EN : ∀ K args pre r, pK K args pre = some r → ay P oP K args pre r := en fun _ K hn => UZ hn.1 hn.2.1 hn.2.2.1 hn.2.2.2.1 hn.2.2.2.2 K
theorem DN : ∀ K args pre r, pK K args pre = some r → ay P oM K args pre r := en fun _ K hn => Rt hn.1 hn.2.1 hn.2.2.1 hn.2.2.2.1 hn.2.2.2.2 K
theorem RF {c : Cu} {v : V3} : bq T El [] 60 vv (au vv) ⟨aK 0 [cr c 64 64, vA v 64], [], 0⟩ =
  let c7 : Rat := (↑(1 : Int) : Rat); let c5 : Nat := 2 ^ 30; let c4 : Prop := 0 < 1; let c3 : Nat := Max.max 1 (aQ (Int.natAbs (1 : Int))); let c6 : Prop := 1 ≤ c3; let c2 : Mp := Mp.mk (M3.mk (V3.mk c7 0 0) (V3.mk 0 c7 0) (V3.mk 0 0 c7)) (V3.mk v.x v.y v.z); let c1 : Bool := cT (Cu.mk c.p c.n (fun i ↦ aY (rat (c.k i) 64)) c.m fun i ↦ bD (aS (c.f i) 64)) (Cu.mk c.p c.n (fun i ↦ aY (rat (aY (rat (c.k i) 64)) 100)) c.m fun i ↦ bD (aS (dK c2 (bD (aS (c.f i) 64))) 1000)); some (af [c4, c4] (af [c4, c4] (af [c4, c4, c4, bZ (fun i ↦ rat (c.k i) 64) c.n 64, eZ (fun i ↦ aS (c.f i) 64) c.m 64, Max.max c3 64 ≤ 64, c6, c6, c6, c6, c3 ≤ 1, (1 : Nat) ≤ 1, (1 : Nat) ≤ 1, c3 ≤ 1, (64 : Nat) ≤ 64, (64 : Nat) ≤ 64, (64 : Nat) + 10 ≤ 100, (100 : Nat) < 2 ^ 40, (4 : Nat) * 64 + 3 * 64 + 10 ≤ 1000, (1000 : Nat) < 2 ^ 40, c.n < c5, c.m < c5, bZ (fun i ↦ rat (c.k i) 64) c.n dj, eZ (fun i ↦ aS (c.f i) 64) c.m ew, bZ (fun i ↦ rat (aY (rat (c.k i) 64)) 100) c.n dj, eZ (fun i ↦ aS (dK c2 (bD (aS (c.f i) 64))) 1000) c.m ew, c1 = true → c.m = c.m, c.n < c5, c.m < c5, c.n < c5, c.m < c5, c4] (af [c4, c4] (af [c4] (leaf ret [agg [int i64 (↑(bN c1 1) : Int), int i64 (bif c1 then c.p else (0 : Int)), aj 3 (bN c1 4) fun i ↦ rat (fo i) 1300, aj 3 (bN c1 c.n) fun i ↦ rat (aY (rat (c.k i) 64)) 1300, aj 1 (bN c1 2) fun i ↦ aj 12 (bN c1 c.m) fun i_1 ↦ agg [agg [rat (if i = 0 then bD (aS (c.f i_1) 64) else bD (aS (dK c2 (bD (aS (c.f i_1) 64))) 1000)).n.x 82000, rat (if i = 0 then bD (aS (c.f i_1) 64) else bD (aS (dK c2 (bD (aS (c.f i_1) 64))) 1000)).n.y 82000, rat (if i = 0 then bD (aS (c.f i_1) 64) else bD (aS (dK c2 (bD (aS (c.f i_1) 64))) 1000)).n.z 82000], rat (if i = 0 then bD (aS (c.f i_1) 64) else bD (aS (dK c2 (bD (aS (c.f i_1) 64))) 1000)).d 82000]]])))))) := by kernel_rfl
theorem SC {c : Cu} {v : V3} : bq T ID [] 60 ue (au ue) ⟨aK 0 [cr c 64 64, vA v 64], [], 0⟩ =
  let c7 : Rat := (↑(1 : Int) : Rat); let c5 : Nat := 2 ^ 30; let c4 : Prop := 0 < 1; let c3 : Nat := Max.max 1 (aQ (Int.natAbs (1 : Int))); let c6 : Prop := 1 ≤ c3; let c2 : Mp := Mp.mk (M3.mk (V3.mk c7 0 0) (V3.mk 0 c7 0) (V3.mk 0 0 c7)) (V3.mk v.x v.y v.z); let c1 : Bool := cT (Cu.mk c.p c.n (fun i ↦ aY (rat (c.k i) 64)) c.m fun i ↦ bD (aS (c.f i) 64)) (Cu.mk c.p c.n (fun i ↦ aY (rat (aY (rat (c.k i) 64)) sQ)) c.m fun i ↦ bD (aS (dK c2 (bD (aS (c.f i) 64))) sW)); some (af [c4, c4, c4, c4, c4] (af [c4, c4] (af [c4, c4, c4, bZ (fun i ↦ rat (c.k i) 64) c.n sQ, eZ (fun i ↦ aS (c.f i) 64) c.m sQ, Max.max c3 64 ≤ sM, c6, c6, c6, c6, c3 ≤ 1, (1 : Nat) ≤ 1, (1 : Nat) ≤ 1, c3 ≤ 1, (64 : Nat) ≤ 64, (64 : Nat) ≤ 64, c.n < c5, c.m < c5, bZ (fun i ↦ rat (c.k i) 64) c.n dj, eZ (fun i ↦ aS (c.f i) 64) c.m ew, bZ (fun i ↦ rat (aY (rat (c.k i) 64)) sQ) c.n dj, eZ (fun i ↦ aS (dK c2 (bD (aS (c.f i) 64))) sW) c.m ew, c1 = true → c.m = c.m, c.n < c5, c.m < c5, c.n < c5, c.m < c5, c4] (af [c4, c4] (af [c4] (leaf ret [agg [int i64 (↑(bN c1 1) : Int), int i64 (bif c1 then c.p else (0 : Int)), aj 3 (bN c1 4) fun i ↦ rat (fo i) 1300, aj 3 (bN c1 c.n) fun i ↦ rat (aY (rat (c.k i) 64)) 1300, aj 1 (bN c1 2) fun i ↦ aj 12 (bN c1 c.m) fun i_1 ↦ agg [agg [rat (if i = 0 then bD (aS (c.f i_1) 64) else bD (aS (dK c2 (bD (aS (c.f i_1) 64))) sW)).n.x 82000, rat (if i = 0 then bD (aS (c.f i_1) 64) else bD (aS (dK c2 (bD (aS (c.f i_1) 64))) sW)).n.y 82000, rat (if i = 0 then bD (aS (c.f i_1) 64) else bD (aS (dK c2 (bD (aS (c.f i_1) 64))) sW)).n.z 82000], rat (if i = 0 then bD (aS (c.f i_1) 64) else bD (aS (dK c2 (bD (aS (c.f i_1) 64))) sW)).d 82000]]])))))) := by kernel_rfl
theorem QW {a b c d : V3} : bq T HB [] 200 uV (au uV) ⟨aK 0 [vA a 64, vA b 64, vA c 64, vA d 64], [], 0⟩ =
  let c7 : AV := int i64 (0 : Int); let c6 : AV := int i64 (1 : Int); let c5 : AV := rat 0 1; let c4 : List AV := [rat (↑(1 : Int) : Rat) (Max.max 1 (aQ (Int.natAbs (1 : Int))))]; let c3 : Prop := 0 < 1; let c1 : Nat := 64 + 1 + 1; let c8 : AV := agg [agg [c5, c5, c5], c5]; let c2 : AV := aj 3 4 fun i ↦ rat (↑(intOf (nth [c7, c7, c6, c6] c7 (i + 0 + 0))) : Rat) 64; some (af [c3, c3, c3, c3, c3, c3, c3, c3, c3, c3, c3, c3] (af [c3] (leaf ret [agg [c6, c6, c2, c2, aj 1 2 fun i ↦ nth [aj 12 2 fun i ↦ nth [agg (agg [rat (a.x + 0) c1, rat (a.y + 0) c1, rat (a.z + 0) c1] :: c4), agg (agg [rat (c.x + 0) c1, rat (c.y + 0) c1, rat (c.z + 0) c1] :: c4)] c8 (i + 0), aj 12 2 fun i ↦ nth [agg (agg [rat (b.x + 0) c1, rat (b.y + 0) c1, rat (b.z + 0) c1] :: c4), agg (agg [rat (d.x + 0) c1, rat (d.y + 0) c1, rat (d.z + 0) c1] :: c4)] c8 (i + 0)] nil (i + 0)]]))) := by kernel_rfl
theorem S1 {a b c d : V3} : bq T HP [] 200 rS (au rS) ⟨aK 0 [vA a 64, vA b 64, vA c 64, vA d 64], [], 0⟩ =
  let c5 : AV := int i64 (0 : Int); let c4 : AV := int i64 (1 : Int); let c3 : Prop := 0 < 1; let c2 : AV := rat 0 1; let c1 : List AV := [rat (↑(1 : Int) : Rat) (Max.max 1 (aQ (Int.natAbs (1 : Int))))]; let c6 : AV := agg [agg [c2, c2, c2], c2]; some (af [((0 : Nat) + 4) * ((56 : Nat) + 1) * 2 ≤ 2 ^ 47, c3, c3, c3, c3] (af [c3] (leaf ret [agg [c4, c4, aj 3 4 fun i ↦ rat (↑(intOf (nth [c5, c5, c4, c4] c5 (i + 0 + 0))) : Rat) 64, aj 3 4 fun i ↦ rat (↑(intOf (nth [c5, c5, c4, c4] c5 (i + 0 - 0 + 0 + 0))) : Rat) 64, aj 1 2 fun i ↦ nth [aj 12 2 fun i ↦ nth [agg (agg [rat a.x 64, rat a.y 64, rat a.z 64] :: c1), agg (agg [rat c.x 64, rat c.y 64, rat c.z 64] :: c1)] c6 (i + 0), aj 12 2 fun i ↦ nth [agg (agg [rat b.x 64, rat b.y 64, rat b.z 64] :: c1), agg (agg [rat d.x 64, rat d.y 64, rat d.z 64] :: c1)] c6 (i + 0)] nil (i + 0)]]))) := by kernel_rfl
theorem NV : aW P El := ep (aD (G3 _ _ _ _ _) (aD EN oN))
theorem MN : aW P ID := ep (aD F5 (aD DN (aD (cV hT (cR (gk pI gO)) hm (aL Pu (by kernel_rfl) (by kernel_rfl) (by kernel_rfl)) _ _) bg)))
theorem Rg : aW P HB := cR s5
theorem Wr : aW P HP := cR (gk yl gO)
theorem Sl {c : Cu} {v : V3} (h1 : c.n < 2 ^ 30) (h2 : c.m < 2 ^ 30) (K : Nat) : ay P th K [cr c 64 64, vA v 64] [] (aF (dL (rm c v) dH dS) []) := by
 refine bt (r := aF (dL (rm c v) dH dS) []) hT NV hm WK rfl (of_decide_eq_true (by kernel_rfl)) rfl 60 RF (fun _ => ?_) K []
 have q1 : Max.max 1 (aQ (Int.natAbs 1)) = 1 := by decide
 simp only [aa.all, ax, q1]
 (repeat' with_reducible refine And.intro ?_ ?_)
 all_goals first | omega | decide | (with_reducible exact eP (by decide)) | (with_reducible exact jK (by decide)) | exact (fun _ => trivial) | exact .refl _
theorem aaH {c : Cu} {v : V3} (h1 : c.n < 2 ^ 30) (h2 : c.m < 2 ^ 30) (K : Nat) : ay P rG K [cr c 64 64, vA v 64] [] (aF (dL (rm c v) dH dS) []) := by
 refine bt (r := aF (dL (rm c v) dH dS) []) hT MN hm Xw rfl (of_decide_eq_true (by kernel_rfl)) rfl 60 SC (fun _ => ?_) K []
 have q1 : Max.max 1 (aQ (Int.natAbs 1)) = 1 := by decide
 simp only [aa.all, ax, q1]
 (repeat' with_reducible refine And.intro ?_ ?_)
 all_goals first | omega | decide | (with_reducible exact eP (by decide)) | (with_reducible exact jK (by decide)) | exact (fun _ => trivial) | exact .refl _
theorem yp {F : Nat → AV} (hF : ∀ i, F i = .rat ((intOf (nth [.int .i64 0, .int .i64 0, .int .i64 1, .int .i64 1] (.int .i64 0) i) : Int) : Rat) 64) : bu (.aj 3 4 F) (bH fo 4 64) := dP fun i hi => by
 rw [hF]
 match i, hi with
 | 0, _ | 1, _ | 2, _ | 3, _ => exact bI (by decide +kernel) (by decide)
theorem Pq {a b c d : V3} (K : Nat) : ay P tR K [vA a 64, vA b 64, vA c 64, vA d 64] [] (aF (dL (vl a b c d) 64 100) []) := by
 refine bt (r := aF (dL (vl a b c d) 64 100) []) hT Rg hm Zy rfl (of_decide_eq_true (by kernel_rfl)) rfl 200 QW (fun _ => ?_) K []
 simp only [aa.all, ax]
 (repeat' with_reducible refine And.intro ?_ ?_)
 all_goals first | omega | decide | skip
 refine cq ⟨.refl _, .refl _, yp fun _ => rfl, yp fun _ => rfl, dP fun i hi => ?_, trivial⟩
 match i, hi with
 | 0, _ | 1, _ =>
  refine dP fun j hj => ?_
  match j, hj with
  | 0, _ | 1, _ => exact Hj (Rat.add_zero _) (Rat.add_zero _) (Rat.add_zero _) rfl (by decide) (by decide) (by decide) (by decide)
theorem T1 {a b c d : V3} (K : Nat) : ay P vK K [vA a 64, vA b 64, vA c 64, vA d 64] [] (aF (dL (vl a b c d) 64 100) []) := by
 refine bt (r := aF (dL (vl a b c d) 64 100) []) hT Wr hm XI rfl (of_decide_eq_true (by kernel_rfl)) rfl 200 S1 (fun _ => ?_) K []
 simp only [aa.all, ax]
 (repeat' with_reducible refine And.intro ?_ ?_)
 all_goals first | omega | decide | skip
 refine cq ⟨.refl _, .refl _, yp fun _ => rfl, yp fun _ => rfl, dP fun i hi => ?_, trivial⟩
 match i, hi with
 | 0, _ | 1, _ =>
  refine dP fun j hj => ?_
  match j, hj with
  | 0, _ | 1, _ => exact Hj rfl rfl rfl rfl (by decide) (by decide) (by decide) (by decide)
def xR : Spec := eH (kC (jQ 64 64) (kC (p8 64) kN)) (fun a => dL (rm a.1 a.2.1) dH dS) fun a => [a.1.n < 2 ^ 30, a.1.m < 2 ^ 30]
theorem aaA : ∀ K args pre r, xR K args pre = some r → ay P th K args pre r := en fun _ K hn => Sl hn.1 hn.2 K
theorem WL : ∀ K args pre r, xR K args pre = some r → ay P rG K args pre r := en fun _ K hn => aaH hn.1 hn.2 K
def wM : Spec := eH (kC (p8 64) (kC (p8 64) (kC (p8 64) (kC (p8 64) kN)))) (fun a => dL (vl a.1 a.2.1 a.2.2.1 a.2.2.2.1) 64 100) fun _ => []
theorem U5 : ∀ K args pre r, wM K args pre = some r → ay P tR K args pre r := en fun _ K _ => Pq K
theorem Ox : ∀ K args pre r, wM K args pre = some r → ay P vK K args pre r := en fun _ K _ => T1 K
end Go.Am.B

/- ref14: turned, weight, rounds, Revolve. -/
namespace Go.Am.B
open Go Go.Am.N AV aa ah IntKind
theorem jX : aP P r6 fh (au fh) := aL Kq (by kernel_rfl) (by kernel_rfl) (by kernel_rfl)
theorem Kx : aP P wh rU (au rU) := aL OT (by kernel_rfl) (by kernel_rfl) (by kernel_rfl)
theorem wP : aP P s6 jj (au jj) := aL Zf (by kernel_rfl) (by kernel_rfl) (by kernel_rfl)
theorem AD : aP P nZ mS (au mS) := aL Mq (by kernel_rfl) (by kernel_rfl) (by kernel_rfl)
noncomputable def jO : aO := sG :: (mQ, wS) :: gC
noncomputable def uZ : aO := sG :: rF
def gH (p : V3) (i : Nat) : V3 := ⟨(cI i : Rat) * p.x - (cJ i : Rat) * p.y, (cJ i : Rat) * p.x + (cI i : Rat) * p.y, p.z⟩
def EI : Spec := eH (kC (p8 64) (kC kI kN)) (fun a => vA (gH a.1 a.2.1.toNat) 200) fun a => [0 ≤ a.2.1, a.2.1 ≤ 8]
def HX : Spec := eH (kC kI kN) (fun a => .int .i64 (dG a.1.toNat)) fun a => [0 ≤ a.1, a.1 ≤ 8]
noncomputable def n5 : aO := nG :: (s6, yu) :: (wN, FC) :: (r6, EI) :: (wh, HX) :: iy
noncomputable abbrev uW : Code := au mS
noncomputable abbrev uL : Code := part uW [1,1,1,0,1,0,0]
noncomputable abbrev vG : Code := part uL [1,0,0]
abbrev nO : List Nat := [2, 4, 5, 6, 7]
abbrev vr (i : Nat) : List AV := [.ptr 0 0 3 0 [], .ptr 1 0 5 0 [], .int .i64 0, .ptr 2 0 5 0 [], .int .i64 i]
abbrev Ut (c : Cu) (q : Nat) (v w : AV) : aA := ⟨false, true, 5, 1, fun _ => .agg [.int .i64 2, .int .i64 c.p, bH (dz q) (2 * q + 4) 64, v, w]⟩
abbrev ou (c : Cu) (q i : Nat) : aC := [(3, ⟨true, true, 1, i, fun i => cm (gf c i) c.m 400⟩), (5, ⟨true, true, 3, c.n, fun i => .rat (c.k i) 64⟩), (2, Ut c q (.own 5 3 0 c.n) (.own 3 1 0 i)), (1, VF), (0, ⟨false, true, 3, 1, fun _ => cr c 64 64⟩)]
abbrev qG : List Nat := [2, 4, 5, 6, 7, 8, 9]
abbrev BG (i j : Nat) : List AV := vr i ++ [.own 6 12 0 j, .int .i64 j]
abbrev AI (c : Cu) (q i j : Nat) : aC := (6, ⟨true, true, 12, j, fun j => aS (gf c i j) 400⟩) :: ou c q i
theorem NG {p : V3} : bq T jO [] 200 fh (au fh) ⟨aK 0 [vA p 64, .int .i64 0], [], 0⟩ =
  some (af [(2 : Int) ≠ (0 : Int)] (af [(2 : Int) ≠ (0 : Int)] (af [(0 : Nat) < 1] (leaf ret [agg [rat p.x 64, rat p.y 64, rat p.z 64]])))) := by kernel_rfl
theorem ZC {p : V3} : bq T jO [] 200 fh (au fh) ⟨aK 0 [vA p 64, .int .i64 1], [], 0⟩ =
  some (af [(2 : Int) ≠ (0 : Int)] (af [(2 : Int) ≠ (0 : Int)] (af [(0 : Nat) < 1] (leaf ret [agg [rat (p.x - p.y) 129, rat (p.x + p.y) 129, rat p.z 64]])))) := by kernel_rfl
theorem RP {p : V3} : bq T jO [] 200 fh (au fh) ⟨aK 0 [vA p 64, .int .i64 2], [], 0⟩ =
  let c1 : Prop := (2 : Int) ≠ (0 : Int); some (af [c1] (af [c1] (af [c1] (af [(0 : Nat) < 1] (leaf ret [agg [rat (-p.y) 64, rat p.x 64, rat p.z 64]]))))) := by kernel_rfl
theorem Xq {p : V3} : bq T jO [] 200 fh (au fh) ⟨aK 0 [vA p 64, .int .i64 3], [], 0⟩ =
  let c1 : Prop := (2 : Int) ≠ (0 : Int); some (af [c1] (af [c1] (af [c1] (af [(0 : Nat) < 1] (leaf ret [agg [rat (-(p.x + p.y)) 129, rat (p.x - p.y) 129, rat p.z 64]]))))) := by kernel_rfl
theorem UC {p : V3} : bq T jO [] 200 fh (au fh) ⟨aK 0 [vA p 64, .int .i64 4], [], 0⟩ =
  let c1 : List Prop := [(2 : Int) ≠ (0 : Int)]; some (af c1 (af c1 (af c1 (af c1 (af [(0 : Nat) < 1] (leaf ret [agg [rat (-p.x) 64, rat (-p.y) 64, rat p.z 64]])))))) := by kernel_rfl
theorem TK {p : V3} : bq T jO [] 200 fh (au fh) ⟨aK 0 [vA p 64, .int .i64 5], [], 0⟩ =
  let c1 : List Prop := [(2 : Int) ≠ (0 : Int)]; some (af c1 (af c1 (af c1 (af c1 (af [(0 : Nat) < 1] (leaf ret [agg [rat (-(p.x - p.y)) 129, rat (-(p.x + p.y)) 129, rat p.z 64]])))))) := by kernel_rfl
theorem Sg {p : V3} : bq T jO [] 200 fh (au fh) ⟨aK 0 [vA p 64, .int .i64 6], [], 0⟩ =
  let c1 : List Prop := [(2 : Int) ≠ (0 : Int)]; some (af c1 (af c1 (af c1 (af c1 (af c1 (af [(0 : Nat) < 1] (leaf ret [agg [rat (- -p.y) 64, rat (-p.x) 64, rat p.z 64]]))))))) := by kernel_rfl
theorem Vk {p : V3} : bq T jO [] 200 fh (au fh) ⟨aK 0 [vA p 64, .int .i64 7], [], 0⟩ =
  let c1 : List Prop := [(2 : Int) ≠ (0 : Int)]; some (af c1 (af c1 (af c1 (af c1 (af c1 (af [(0 : Nat) < 1] (leaf ret [agg [rat (- -(p.x + p.y)) 129, rat (-(p.x - p.y)) 129, rat p.z 64]]))))))) := by kernel_rfl
theorem La {p : V3} : bq T jO [] 200 fh (au fh) ⟨aK 0 [vA p 64, .int .i64 8], [], 0⟩ =
  let c1 : List Prop := [(2 : Int) ≠ (0 : Int)]; some (af c1 (af c1 (af c1 (af c1 (af c1 (af c1 (af [(0 : Nat) < 1] (leaf ret [agg [rat (- -p.x) 64, rat (- -p.y) 64, rat p.z 64]])))))))) := by kernel_rfl
theorem UP {x : Int} : bq T [nG] [5] 60 rU (au rU) ⟨aK 0 [.int .i64 x], [], 0⟩ =
  some (af [(4 : Int) ≠ (0 : Int)] (fork (x.tmod (4 : Int) == (2 : Int)) (leaf ret [int i64 (2 : Int)]) (leaf ret [int i64 (1 : Int)]))) := by kernel_rfl
theorem Ym : bq T uZ [] 200 jj (au jj) ⟨aK 0 [.int .i64 1], [], 0⟩ =
  let c6 : Nat := 8 + 1; let c5 : Nat := 2 ^ 47; let c4 : AV := int i64 (i64.wrap ((0 : Int) + (1 : Int))); let c2 : AV := int i64 (0 : Int); let c1 : Nat := 1 + 2; let c3 : Nat := c1 + 2; some (af [c1 * c6 * 2 ≤ c5] (af [c3 * c6 * 2 ≤ c5] (af [(c3 + 1) * c6 * 2 ≤ c5] (leaf ret [aj 3 6 fun i ↦ rat (↑(intOf (if i + 0 + 0 < c3 then if i + 0 + 0 < c1 then if i + 0 + 0 < 1 then nth [c2] c2 (i + 0 + 0) else nth [c2, c2] c2 (i + 0 + 0 - 1 + 0) else nth [c4, c4] c2 (i + 0 + 0 - c1 + 0) else nth [int i64 (1 : Int)] c2 (i + 0 + 0 - c3 + 0))) : Rat) 64])))) := by kernel_rfl
theorem Nv : bq T uZ [] 200 jj (au jj) ⟨aK 0 [.int .i64 2], [], 0⟩ =
  let c6 : Nat := 8 + 1; let c5 : Nat := 2 ^ 47; let c4 : Nat := 1 + 2; let c3 : Int := i64.wrap ((0 : Int) + (1 : Int)); let c2 : AV := int i64 (0 : Int); let c8 : AV := int i64 (i64.wrap (c3 + (1 : Int))); let c1 : Nat := c4 + 2; let c7 : Nat := c1 + 2; some (af [c4 * c6 * 2 ≤ c5] (af [c1 * c6 * 2 ≤ c5] (af [c7 * c6 * 2 ≤ c5] (af [(c7 + 1) * c6 * 2 ≤ c5] (leaf ret [aj 3 8 fun i ↦ rat (↑(intOf (if i + 0 + 0 < c7 then if i + 0 + 0 < c1 then if i + 0 + 0 < c4 then if i + 0 + 0 < 1 then nth [c2] c2 (i + 0 + 0) else nth [c2, c2] c2 (i + 0 + 0 - 1 + 0) else nth [int i64 c3, int i64 c3] c2 (i + 0 + 0 - c4 + 0) else nth [c8, c8] c2 (i + 0 + 0 - c1 + 0) else nth [int i64 (2 : Int)] c2 (i + 0 + 0 - c7 + 0))) : Rat) 64]))))) := by kernel_rfl
theorem Pj : bq T uZ [] 200 jj (au jj) ⟨aK 0 [.int .i64 3], [], 0⟩ =
  let c8 : Int := i64.wrap ((0 : Int) + (1 : Int)); let c7 : Nat := 1 + 2; let c6 : Nat := 8 + 1; let c5 : Nat := 2 ^ 47; let c3 : AV := int i64 (0 : Int); let c2 : Int := i64.wrap (c8 + (1 : Int)); let c1 : Nat := c7 + 2; let c10 : AV := int i64 (i64.wrap (c2 + (1 : Int))); let c9 : Nat := c1 + 2; let c4 : Nat := c9 + 2; some (af [c7 * c6 * 2 ≤ c5] (af [c1 * c6 * 2 ≤ c5] (af [c9 * c6 * 2 ≤ c5] (af [c4 * c6 * 2 ≤ c5] (af [(c4 + 1) * c6 * 2 ≤ c5] (leaf ret [aj 3 10 fun i ↦ rat (↑(intOf (if i + 0 + 0 < c4 then if i + 0 + 0 < c9 then if i + 0 + 0 < c1 then if i + 0 + 0 < c7 then if i + 0 + 0 < 1 then nth [c3] c3 (i + 0 + 0) else nth [c3, c3] c3 (i + 0 + 0 - 1 + 0) else nth [int i64 c8, int i64 c8] c3 (i + 0 + 0 - c7 + 0) else nth [int i64 c2, int i64 c2] c3 (i + 0 + 0 - c1 + 0) else nth [c10, c10] c3 (i + 0 + 0 - c9 + 0) else nth [int i64 (3 : Int)] c3 (i + 0 + 0 - c4 + 0))) : Rat) 64])))))) := by kernel_rfl
theorem SV : bq T uZ [] 200 jj (au jj) ⟨aK 0 [.int .i64 4], [], 0⟩ =
  let c9 : Int := i64.wrap ((0 : Int) + (1 : Int)); let c7 : Nat := 8 + 1; let c5 : Nat := 2 ^ 47; let c4 : AV := int i64 (0 : Int); let c3 : Nat := 1 + 2; let c10 : Nat := c3 + 2; let c2 : Int := i64.wrap (c9 + (1 : Int)); let c8 : Int := i64.wrap (c2 + (1 : Int)); let c1 : Nat := c10 + 2; let c12 : AV := int i64 (i64.wrap (c8 + (1 : Int))); let c11 : Nat := c1 + 2; let c6 : Nat := c11 + 2; some (af [c3 * c7 * 2 ≤ c5] (af [c10 * c7 * 2 ≤ c5] (af [c1 * c7 * 2 ≤ c5] (af [c11 * c7 * 2 ≤ c5] (af [c6 * c7 * 2 ≤ c5] (af [(c6 + 1) * c7 * 2 ≤ c5] (leaf ret [aj 3 12 fun i ↦ rat (↑(intOf (if i + 0 + 0 < c6 then if i + 0 + 0 < c11 then if i + 0 + 0 < c1 then if i + 0 + 0 < c10 then if i + 0 + 0 < c3 then if i + 0 + 0 < 1 then nth [c4] c4 (i + 0 + 0) else nth [c4, c4] c4 (i + 0 + 0 - 1 + 0) else nth [int i64 c9, int i64 c9] c4 (i + 0 + 0 - c3 + 0) else nth [int i64 c2, int i64 c2] c4 (i + 0 + 0 - c10 + 0) else nth [int i64 c8, int i64 c8] c4 (i + 0 + 0 - c1 + 0) else nth [c12, c12] c4 (i + 0 + 0 - c11 + 0) else nth [int i64 (4 : Int)] c4 (i + 0 + 0 - c6 + 0))) : Rat) 64]))))))) := by kernel_rfl
theorem kS : aW P jO := cR (aD Cg gO)
theorem xM : aW P uZ := cR yl
theorem ki {p x : V3} {i : Nat} {s1 s2 : Nat} (h : x = gH p i) (h1 : s1 ≤ 200) (h2 : s2 ≤ 200) : bu (.agg [.rat x.x s1, .rat x.y s1, .rat x.z s2]) (vA (gH p i) 200) := by
 subst h
 exact cq ⟨bI rfl h1, bI rfl h1, bI rfl h2, trivial⟩
theorem j8 {p : V3} {i : Nat} {X Y x y : Rat} (hX : (cI i : Rat) = X) (hY : (cJ i : Rat) = Y) (h1 : x = X * p.x - Y * p.y) (h2 : y = Y * p.x + X * p.y) : (⟨x, y, p.z⟩ : V3) = gH p i := by
 unfold gH
 rw [hX, hY, h1, h2]
theorem VU {p : V3} {i : Nat} (hi : i < 9) (K : Nat) : ay P r6 K [vA p 64, .int .i64 (i : Int)] [] (aF (vA (gH p i) 200) []) := by
 match i, hi with
 | 0, _ =>
  refine bt (r := aF (vA (gH p 0) 200) []) hT kS hm jX rfl (of_decide_eq_true (by kernel_rfl)) rfl 200 NG (fun _ => ?_) K []
  simp only [aa.all, ax]
  (repeat' with_reducible refine And.intro ?_ ?_)
  all_goals first | omega | skip
  exact ki (x := ⟨p.x, p.y, p.z⟩) (j8 (X := 1) (Y := 0) rfl rfl (by grind) (by grind)) (by decide) (by decide)
 | 1, _ =>
  refine bt (r := aF (vA (gH p 1) 200) []) hT kS hm jX rfl (of_decide_eq_true (by kernel_rfl)) rfl 200 ZC (fun _ => ?_) K []
  simp only [aa.all, ax]
  (repeat' with_reducible refine And.intro ?_ ?_)
  all_goals first | omega | skip
  exact ki (x := ⟨p.x - p.y, p.x + p.y, p.z⟩) (j8 (X := 1) (Y := 1) rfl rfl (by grind) (by grind)) (by decide) (by decide)
 | 2, _ =>
  refine bt (r := aF (vA (gH p 2) 200) []) hT kS hm jX rfl (of_decide_eq_true (by kernel_rfl)) rfl 200 RP (fun _ => ?_) K []
  simp only [aa.all, ax]
  (repeat' with_reducible refine And.intro ?_ ?_)
  all_goals first | omega | skip
  exact ki (x := ⟨-p.y, p.x, p.z⟩) (j8 (X := 0) (Y := 1) rfl rfl (by grind) (by grind)) (by decide) (by decide)
 | 3, _ =>
  refine bt (r := aF (vA (gH p 3) 200) []) hT kS hm jX rfl (of_decide_eq_true (by kernel_rfl)) rfl 200 Xq (fun _ => ?_) K []
  simp only [aa.all, ax]
  (repeat' with_reducible refine And.intro ?_ ?_)
  all_goals first | omega | skip
  exact ki (x := ⟨-(p.x + p.y), p.x - p.y, p.z⟩) (j8 (X := -1) (Y := 1) rfl rfl (by grind) (by grind)) (by decide) (by decide)
 | 4, _ =>
  refine bt (r := aF (vA (gH p 4) 200) []) hT kS hm jX rfl (of_decide_eq_true (by kernel_rfl)) rfl 200 UC (fun _ => ?_) K []
  simp only [aa.all, ax]
  (repeat' with_reducible refine And.intro ?_ ?_)
  all_goals first | omega | skip
  exact ki (x := ⟨-p.x, -p.y, p.z⟩) (j8 (X := -1) (Y := 0) rfl rfl (by grind) (by grind)) (by decide) (by decide)
 | 5, _ =>
  refine bt (r := aF (vA (gH p 5) 200) []) hT kS hm jX rfl (of_decide_eq_true (by kernel_rfl)) rfl 200 TK (fun _ => ?_) K []
  simp only [aa.all, ax]
  (repeat' with_reducible refine And.intro ?_ ?_)
  all_goals first | omega | skip
  exact ki (x := ⟨-(p.x - p.y), -(p.x + p.y), p.z⟩) (j8 (X := -1) (Y := -1) rfl rfl (by grind) (by grind)) (by decide) (by decide)
 | 6, _ =>
  refine bt (r := aF (vA (gH p 6) 200) []) hT kS hm jX rfl (of_decide_eq_true (by kernel_rfl)) rfl 200 Sg (fun _ => ?_) K []
  simp only [aa.all, ax]
  (repeat' with_reducible refine And.intro ?_ ?_)
  all_goals first | omega | skip
  exact ki (x := ⟨- -p.y, -p.x, p.z⟩) (j8 (X := 0) (Y := -1) rfl rfl (by grind) (by grind)) (by decide) (by decide)
 | 7, _ =>
  refine bt (r := aF (vA (gH p 7) 200) []) hT kS hm jX rfl (of_decide_eq_true (by kernel_rfl)) rfl 200 Vk (fun _ => ?_) K []
  simp only [aa.all, ax]
  (repeat' with_reducible refine And.intro ?_ ?_)
  all_goals first | omega | skip
  exact ki (x := ⟨- -(p.x + p.y), -(p.x - p.y), p.z⟩) (j8 (X := 1) (Y := -1) rfl rfl (by grind) (by grind)) (by decide) (by decide)
 | 8, _ =>
  refine bt (r := aF (vA (gH p 8) 200) []) hT kS hm jX rfl (of_decide_eq_true (by kernel_rfl)) rfl 200 La (fun _ => ?_) K []
  simp only [aa.all, ax]
  (repeat' with_reducible refine And.intro ?_ ?_)
  all_goals first | omega | skip
  exact ki (x := ⟨- -p.x, - -p.y, p.z⟩) (j8 (X := 1) (Y := 0) rfl rfl (by grind) (by grind)) (by decide) (by decide)
theorem OS : ∀ K args pre r, EI K args pre = some r → ay P r6 K args pre r := en fun ⟨p, i, _⟩ K hn => by
 obtain ⟨h1, h2⟩ := hn
 have h2 : i ≤ 8 := h2
 simp only at h1
 have := VU (p := p) (i := i.toNat) (by omega) K
 rw [Int.toNat_of_nonneg h1] at this
 exact this
theorem X7 : ∀ K args pre r, HX K args pre = some r → ay P wh K args pre r := en fun ⟨x, _⟩ K hn => by
 obtain ⟨h1, h2⟩ := hn
 have h2 : x ≤ 8 := h2
 simp only at h1
 refine bt (r := aF (.int .i64 (dG x.toNat)) []) hT (ep bg) hm Kx rfl (of_decide_eq_true (by kernel_rfl)) rfl 60 UP (fun _ => ?_) K []
 obtain ⟨i, rfl⟩ : ∃ i : Nat, x = (i : Int) := ⟨x.toNat, by omega⟩
 have hi : i < 9 := by omega
 simp only [aa.all, ax, Int.toNat_natCast]
 match i, hi with
 | 0, _ | 1, _ | 3, _ | 4, _ | 5, _ | 7, _ | 8, _ => exact ⟨by decide, fun h => absurd h (by decide), fun _ => .refl _⟩
 | 2, _ | 6, _ => exact ⟨by decide, fun _ => .refl _, fun h => absurd h (by decide)⟩
theorem Ph {q : Nat} (h1 : 1 ≤ q) (h4 : q ≤ 4) (K : Nat) : ay P s6 K [.int .i64 (q : Int)] [] (aF (bH (dz q) (2 * q + 4) 64) []) := by
 rcases (show q = 1 ∨ q = 2 ∨ q = 3 ∨ q = 4 by omega) with rfl | rfl | rfl | rfl
 ·refine bt (r := aF (bH (dz 1) 6 64) []) hT xM hm wP rfl (of_decide_eq_true (by kernel_rfl)) rfl 200 Ym (fun _ => ?_) K []
  simp only [aa.all, ax]
  (repeat' with_reducible refine And.intro ?_ ?_)
  all_goals first | omega | skip
  refine dP fun i hi => ?_
  match i, hi with
  | 0, _ | 1, _ | 2, _ | 3, _ | 4, _ | 5, _ => exact bI (by decide +kernel) (by decide)
 ·refine bt (r := aF (bH (dz 2) 8 64) []) hT xM hm wP rfl (of_decide_eq_true (by kernel_rfl)) rfl 200 Nv (fun _ => ?_) K []
  simp only [aa.all, ax]
  (repeat' with_reducible refine And.intro ?_ ?_)
  all_goals first | omega | skip
  refine dP fun i hi => ?_
  match i, hi with
  | 0, _ | 1, _ | 2, _ | 3, _ | 4, _ | 5, _ | 6, _ | 7, _ => exact bI (by decide +kernel) (by decide)
 ·refine bt (r := aF (bH (dz 3) 10 64) []) hT xM hm wP rfl (of_decide_eq_true (by kernel_rfl)) rfl 200 Pj (fun _ => ?_) K []
  simp only [aa.all, ax]
  (repeat' with_reducible refine And.intro ?_ ?_)
  all_goals first | omega | skip
  refine dP fun i hi => ?_
  match i, hi with
  | 0, _ | 1, _ | 2, _ | 3, _ | 4, _ | 5, _ | 6, _ | 7, _ | 8, _ | 9, _ => exact bI (by decide +kernel) (by decide)
 ·refine bt (r := aF (bH (dz 4) 12 64) []) hT xM hm wP rfl (of_decide_eq_true (by kernel_rfl)) rfl 200 SV (fun _ => ?_) K []
  simp only [aa.all, ax]
  (repeat' with_reducible refine And.intro ?_ ?_)
  all_goals first | omega | skip
  refine dP fun i hi => ?_
  match i, hi with
  | 0, _ | 1, _ | 2, _ | 3, _ | 4, _ | 5, _ | 6, _ | 7, _ | 8, _ | 9, _ | 10, _ | 11, _ => exact bI (by decide +kernel) (by decide)
theorem PF {c : Cu} {q : Nat} : aI T n5 [200012, 200015] 60 nO (before uW [1,1,1,0,1]) ⟨aK 0 [cr c 64 64, .int .i64 (q : Int)], [], 0⟩ =
  let c6 : Nat := 0 + c.n; let c5 : Prop := 0 < 1; let c4 : Nat := (bw (cr c 64 64)).size; let c3 : AV := int i64 (0 : Int); let c2 : Int := (↑q : Int); let c1 : AV := agg [c3, c3, nil, nil, nil]; some (af [decide (c2 < (1 : Int)) = false] (af [(bif false then true else decide (c2 > (4 : Int))) = false] (af [c5, (1 : Int) ≤ c2, c2 ≤ (4 : Int), (0 : Nat) * 3 ≤ 2 ^ 24, c5, c6 * ((56 : Nat) + 1) * 2 ≤ 2 ^ 47, c5] (leaf normal ([ptr 0 0 c4 0 [], ptr 4096 0 5 0 [], c3, ptr 73728 0 5 0 [], c3], [((65536 : Nat), aA.mk true true 3 c6 fun i ↦ rat (c.k (i - 0)) 64), ((73728 : Nat), aA.mk false true 5 1 fun j ↦ if (j == 0) = true then bw (agg ((((c1.kids.set 0 (bw (int i64 (2 : Int)))).set 1 (bw (int i64 c.p))).set 2 (bw (bH (dz c2.toNat) ((2 : Nat) * c2.toNat + 4) 64))).set 3 (bw (own (nat_lit 65535 + 1) 3 0 c6)))) else c1), ((4096 : Nat), aA.mk false true 5 1 fun x ↦ c1), ((0 : Nat), aA.mk false true c4 1 fun x ↦ agg [int i64 c.p, aj 3 c.n fun i ↦ rat (c.k i) 64, aj 12 c.m fun i ↦ agg [agg [rat (c.f i).n.x 64, rat (c.f i).n.y 64, rat (c.f i).n.z 64], rat (c.f i).d 64]])]))))) := by kernel_rfl
theorem UY {c : Cu} {q i : Nat} : aI T n5 [30] 60 nO (before uL [1,0]) ⟨aB nO (vr i), ou c q i, 6⟩ =
  let c4 : AV := int i64 (0 : Int); let c2 : Nat := 2 * q + 4; let c3 : Int := (↑c2 : Int) - (2 : Int) - (1 : Int); let c1 : List AV × aC := ([ptr 0 0 3 0 [], ptr 1 0 5 0 [], c4, ptr 2 0 5 0 [], int i64 (↑i : Int)], [((3 : Nat), aA.mk true true 1 i fun i ↦ aj 12 c.m fun i_1 ↦ agg [agg [rat ((↑(cI i) : Rat) * (c.f i_1).n.x - (↑(cJ i) : Rat) * (c.f i_1).n.y) 400, rat ((↑(cJ i) : Rat) * (c.f i_1).n.x + (↑(cI i) : Rat) * (c.f i_1).n.y) 400, rat (c.f i_1).n.z 400], rat ((↑(dG i) : Rat) * (c.f i_1).d) 400]), ((5 : Nat), aA.mk true true 3 c.n fun i ↦ rat (c.k i) 64), ((2 : Nat), aA.mk false true 5 1 fun x ↦ agg [int i64 (2 : Int), int i64 c.p, aj 3 c2 fun i ↦ rat (dz q i) 64, own 5 3 0 c.n, own 3 1 0 i]), ((1 : Nat), aA.mk false true 5 1 fun x ↦ agg [c4, c4, nil, nil, nil]), ((0 : Nat), aA.mk false true 3 1 fun x ↦ agg [int i64 c.p, aj 3 c.n fun i ↦ rat (c.k i) 64, aj 12 c.m fun i ↦ agg [agg [rat (c.f i).n.x 64, rat (c.f i).n.y 64, rat (c.f i).n.z 64], rat (c.f i).d 64]])]); some (af [(0 : Nat) < 1, bZ (fun i ↦ rat (dz q i) 64) c2 sK, c2 < 2 ^ 40, -(2 : Int) ^ 40 < (2 : Int), (2 : Int) < (2 : Int) ^ 40] (fork (decide ((↑i : Int) < c3)) (leaf normal c1) (leaf (exit 0) c1))) := by kernel_rfl
theorem VI {c : Cu} {q i : Nat} : aI T n5 [] 60 qG (before vG [1,0,1]) ⟨aB nO (vr i), ou c q i, 6⟩ =
  let c1 : AV := int i64 (0 : Int); some (leaf normal ([ptr 0 0 3 0 [], ptr 1 0 5 0 [], c1, ptr 2 0 5 0 [], int i64 (↑i : Int), nil, c1], [((3 : Nat), aA.mk true true 1 i fun i ↦ aj 12 c.m fun i_1 ↦ agg [agg [rat ((↑(cI i) : Rat) * (c.f i_1).n.x - (↑(cJ i) : Rat) * (c.f i_1).n.y) 400, rat ((↑(cJ i) : Rat) * (c.f i_1).n.x + (↑(cI i) : Rat) * (c.f i_1).n.y) 400, rat (c.f i_1).n.z 400], rat ((↑(dG i) : Rat) * (c.f i_1).d) 400]), ((5 : Nat), aA.mk true true 3 c.n fun i ↦ rat (c.k i) 64), ((2 : Nat), aA.mk false true 5 1 fun x ↦ agg [int i64 (2 : Int), int i64 c.p, aj 3 ((2 : Nat) * q + 4) fun i ↦ rat (dz q i) 64, own 5 3 0 c.n, own 3 1 0 i]), ((1 : Nat), aA.mk false true 5 1 fun x ↦ agg [c1, c1, nil, nil, nil]), ((0 : Nat), aA.mk false true 3 1 fun x ↦ agg [int i64 c.p, aj 3 c.n fun i ↦ rat (c.k i) 64, aj 12 c.m fun i ↦ agg [agg [rat (c.f i).n.x 64, rat (c.f i).n.y 64, rat (c.f i).n.z 64], rat (c.f i).d 64]])])) := by kernel_rfl
theorem UI {c : Cu} {q i j : Nat} : aI T n5 [37] 60 qG [part vG [1,0,1,0,0]] ⟨aB qG (BG i j), AI c q i j, 7⟩ =
  let c16 : Prop := 0 < 1; let c14 : Prop := 64 ≤ 64; let c13 : Int := (↑i : Int); let c12 : AV := int i64 (0 : Int); let c11 : AV := ptr 1 0 5 0 []; let c10 : AV := ptr 0 0 3 0 []; let c9 : AV := ptr 2 0 5 0 []; let c7 : Int := (2 : Int) ^ 63; let c6 : AV := rat 0 1; let c5 : Nat × aA := ((5 : Nat), aA.mk true true 3 c.n fun i ↦ rat (c.k i) 64); let c3 : Int := (↑j : Int); let c2 : Nat × aA := ((3 : Nat), aA.mk true true 1 i fun i ↦ aj 12 c.m fun i_1 ↦ agg [agg [rat ((↑(cI i) : Rat) * (c.f i_1).n.x - (↑(cJ i) : Rat) * (c.f i_1).n.y) 400, rat ((↑(cJ i) : Rat) * (c.f i_1).n.x + (↑(cI i) : Rat) * (c.f i_1).n.y) 400, rat (c.f i_1).n.z 400], rat ((↑(dG i) : Rat) * (c.f i_1).d) 400]); let c18 : Int := c3 + (1 : Int); let c17 : Prop := (0 : Int) ≤ c3 ∧ c3.toNat < c.m; let c8 : V3 := (c.f c3.toNat).n; let c4 : Nat := c13.toNat; let c1 : List (Nat × aA) := [((2 : Nat), aA.mk false true 5 1 fun x ↦ agg [int i64 (2 : Int), int i64 c.p, aj 3 ((2 : Nat) * q + 4) fun i ↦ rat (dz q i) 64, own 5 3 0 c.n, own 3 1 0 i]), ((1 : Nat), aA.mk false true 5 1 fun x ↦ agg [c12, c12, nil, nil, nil]), ((0 : Nat), aA.mk false true 3 1 fun x ↦ agg [int i64 c.p, aj 3 c.n fun i ↦ rat (c.k i) 64, aj 12 c.m fun i ↦ agg [agg [rat (c.f i).n.x 64, rat (c.f i).n.y 64, rat (c.f i).n.z 64], rat (c.f i).d 64]])]; let c15 : Nat := Max.max 1 (aQ (dG c4).natAbs); some (af [c16] (fork (decide (c3 < (↑c.m : Int))) (af [c16, c17, c14, c14, c14, (0 : Int) ≤ c13, c13 ≤ (8 : Int), (0 : Int) ≤ c13, c13 ≤ (8 : Int), -c7 ≤ dG c4, dG c4 < c7, c16, c17, c15 < 2 ^ 41, (64 : Nat) < 2 ^ 41, (1 : Nat) * 12 ≤ 2 ^ 24, (j + 1) * ((224 : Nat) + 1) * 2 ≤ 2 ^ 47] (af [-c7 ≤ c18 ∧ c18 < c7] (leaf normal ([c10, c11, c12, c9, int i64 c13, own 106503 12 0 (j + 1), int i64 c18], c2 :: c5 :: ((106503 : Nat), aA.mk true true 12 (j + 1) fun i_1 ↦ if i_1 < j then aS (gf c i i_1) 400 else nth [agg [agg [rat ((↑(cI c4) : Rat) * c8.x - (↑(cJ c4) : Rat) * c8.y) 200, rat ((↑(cJ c4) : Rat) * c8.x + (↑(cI c4) : Rat) * c8.y) 200, rat c8.z 200], rat ((↑(dG c4) : Rat) * (c.f c3.toNat).d) (c15 + 64)]] (agg [agg [c6, c6, c6], c6]) (i_1 - j + 0)) :: c1)))) (leaf (exit 2) ([c10, c11, c12, c9, int i64 c13, own 6 12 0 j, int i64 c3], c2 :: c5 :: ((6 : Nat), aA.mk true true 12 j fun j ↦ agg [agg [rat ((↑(cI i) : Rat) * (c.f j).n.x - (↑(cJ i) : Rat) * (c.f j).n.y) 400, rat ((↑(cJ i) : Rat) * (c.f j).n.x + (↑(cI i) : Rat) * (c.f j).n.y) 400, rat (c.f j).n.z 400], rat ((↑(dG i) : Rat) * (c.f j).d) 400]) :: c1)))) := by kernel_rfl
theorem P6 {c : Cu} {q i j : Nat} : aI T n5 [] 60 nO (behind vG [1,0,1] ++ [part uL [1,1]]) ⟨aB qG (BG i j), AI c q i j, 7⟩ =
  let c3 : AV := int i64 (0 : Int); let c2 : Int := (↑i : Int) + (1 : Int); let c1 : AV := agg [int i64 (2 : Int), int i64 c.p, bH (dz q) ((2 : Nat) * q + 4) 64, own 5 3 0 c.n, own 3 1 0 i]; some (af [(0 : Nat) < 1, (1 : Nat) * 1 ≤ 2 ^ 24, (i + 1) * ((24 : Nat) + 1) * 2 ≤ 2 ^ 47, (0 : Nat) < 1] (af [-(2 : Int) ^ 63 ≤ c2 ∧ c2 < (2 : Int) ^ 63] (leaf normal ([ptr 0 0 3 0 [], ptr 1 0 5 0 [], c3, ptr 2 0 5 0 [], int i64 c2], [((16391 : Nat), aA.mk true true 1 (i + 1) fun i_1 ↦ if i_1 < i then cm (gf c i_1) c.m 400 else nth [aj 12 j fun i_2 ↦ aS (gf c i (i_2 + 0)) 400] nil (i_1 - i + 0)), ((5 : Nat), aA.mk true true 3 c.n fun i ↦ rat (c.k i) 64), ((2 : Nat), aA.mk false true 5 1 fun j ↦ if (j == 0) = true then agg (c1.kids.set 4 (bw (own (nat_lit 16390 + 1) 1 0 (i + 1)))) else c1), ((1 : Nat), aA.mk false true 5 1 fun x ↦ agg [c3, c3, nil, nil, nil]), ((0 : Nat), aA.mk false true 3 1 fun x ↦ agg [int i64 c.p, aj 3 c.n fun i ↦ rat (c.k i) 64, aj 12 c.m fun i ↦ agg [agg [rat (c.f i).n.x 64, rat (c.f i).n.y 64, rat (c.f i).n.z 64], rat (c.f i).d 64]])])))) := by kernel_rfl
theorem ZZ {c : Cu} {q i : Nat} : ct T n5 [] 60 mS [part uW [1,1,1,1]] ⟨aB nO (vr i), ou c q i, 6⟩ =
  let c1 : Prop := 0 < 1; some (af [c1, c1] (af [c1] (leaf ret [agg [int i64 (2 : Int), int i64 c.p, aj 3 ((2 : Nat) * q + 4) fun i ↦ rat (dz q i) 64, aj 3 c.n fun i ↦ rat (c.k (i + 0)) 64, aj 1 i fun i ↦ aj 12 c.m fun i_1 ↦ agg [agg [rat ((↑(cI (i + 0)) : Rat) * (c.f i_1).n.x - (↑(cJ (i + 0)) : Rat) * (c.f i_1).n.y) 400, rat ((↑(cJ (i + 0)) : Rat) * (c.f i_1).n.x + (↑(cI (i + 0)) : Rat) * (c.f i_1).n.y) 400, rat (c.f i_1).n.z 400], rat ((↑(dG (i + 0)) : Rat) * (c.f i_1).d) 400]], int i64 (0 : Int)]))) := by kernel_rfl
theorem Sx : ∀ K args pre r, yu K args pre = some r → ay P s6 K args pre r := by
 refine bQ fun K args r hk hs _ => ?_
 split at hs
 ·rename_i q
  simp only [Option.some.injEq] at hs
  subst hs
  intro need
  obtain ⟨h1, h4⟩ := need
  have h4 : q ≤ 4 := h4
  have := Ph (q := q.toNat) (by omega) (by omega) K
  rw [Int.toNat_of_nonneg (by omega)] at this
  exact this trivial
 ·simp at hs
theorem Ee : aW P n5 := ep (aD Sx (aD XR (aD OS (aD X7 jw))))
theorem s8 {rl : List (Nat × Nat)} {c : Cu} {q a n i : Nat} {w : AV} (h1 : aZ rl 5 = some a) (hn : n = c.n) (h5 : w.isTuple = false) (h6 : fq (aZ rl) w (.own 3 1 0 i)) : gm rl (.agg [.int .i64 2, .int .i64 c.p, bH (dz q) (2 * q + 4) 64, .own a 3 0 n, w]) (.agg [.int .i64 2, .int .i64 c.p, bH (dz q) (2 * q + 4) 64, .own 5 3 0 c.n, .own 3 1 0 i]) :=
 qi ⟨⟨rfl, aG rfl⟩, ⟨rfl, aG rfl⟩, ⟨rfl, aG rfl⟩, ⟨rfl, cy h1 rfl hn⟩, ⟨h5, h6⟩, trivial⟩
theorem Rm {c : Cu} {q : Nat} (h1 : 1 ≤ q) (h4 : q ≤ 4) (hn : c.n < 2 ^ 30) (hm2 : c.m < 2 ^ 30) (K : Nat) : ay P nZ K [cr c 64 64, .int .i64 (q : Int)] [] (aF (.tuple [pX 400 c q, .int .i64 0]) []) := by
 refine fX (r := aF (.tuple [pX 400 c q, .int .i64 0]) []) hT AD rfl (of_decide_eq_true (by kernel_rfl)) rfl (fun _ cx h00 => ?_) K []
 have hk := pC h00
 have re : ∀ {i : Nat}, iQ 6 [(0, 0), (1, 1), (2, 2), (3, 3), (5, 5)] (ou c q i) (ou c q i) :=
  fun {i} => cz rfl rfl rfl (fun _ _ => aR rfl rfl) (cz rfl rfl rfl (fun _ _ => aR rfl rfl) (aU rfl rfl (s8 rfl rfl rfl (cy rfl rfl rfl)) (aU rfl rfl (aR rfl rfl) (aU rfl rfl (aR rfl rfl) trivial))))
 refine ak.aaM hT Ee hm (x := uW) [1,1,1,0,1] (i := 0) (y := uL) (z := part uW [1,1,1,1]) (by kernel_rfl) (by kernel_rfl) (by kernel_rfl) AD.dst [1,0] (j := 1) (x1 := vG) (zb := part uL [1,1]) (by kernel_rfl) (by kernel_rfl) (by kernel_rfl) [1,0,1] (i2 := 2) (y2 := part vG [1,0,1,0,0]) (by kernel_rfl) (by kernel_rfl) rfl
  hk (f1 := [200012, 200015]) (f2 := [30]) (f3 := []) (f4 := [37]) (f5 := []) 60 nO qG 6 7 (fun i : Nat => vr i) (fun i => ou c q i) (fun i => i ≤ 2 * q + 1) (fun i => i = 2 * q + 1) (fun i => 2 * q + 1 - i) (fun i => i < 2 * q + 1) (fun _ => False) (fun _ => False)
  (fun i (j : Nat) => BG i j) (fun i j => AI c q i j) (fun _ j => j ≤ c.m) (fun _ j => j = c.m) (fun _ j => c.m - j) ⟨_, PF, ?_⟩ (fun i hi => ⟨_, UY, ?_⟩) (fun i hi hg => ⟨_, VI, ?_⟩) (fun i hi hg j hj => ⟨_, UI, ?_⟩) (fun i hi hg j hj => ⟨_, P6, ?_⟩) (fun i hi => ?_) (fun _ _ h => h.elim) (fun _ _ h => h.elim)
 all_goals try simp only [aa.all, ax, decide_eq_true_eq, decide_eq_false_iff_not, Int.toNat_natCast, Nat.add_zero]
 ·exact ⟨by omega, decide_eq_false (by omega), ⟨by omega, by omega, by omega, by omega, by omega, by omega, by omega⟩, 0, Nat.zero_le _, [(0, 0), (1, 4096), (2, 73728), (5, 65536)], rfl, rfl, rfl, nP rfl (by omega) (by omega) (cz rfl rfl (Nat.zero_add _) (fun _ _ => aR rfl rfl) (aU rfl rfl (s8 rfl (Nat.zero_add _) rfl (tn (by omega))) (aU rfl rfl (aR rfl rfl) (aU rfl rfl (aR rfl rfl) trivial))))⟩
 ·exact ⟨⟨by omega, eP (by decide), by omega, by omega, by omega⟩, fun h => ⟨by omega, _, rfl, rfl, rfl, re⟩, fun h => ⟨rfl, i, by omega, _, rfl, rfl, rfl, re⟩⟩
 ·exact ⟨0, Nat.zero_le _, [(0, 0), (1, 1), (2, 2), (3, 3), (5, 5)], rfl, rfl, rfl, nP rfl (by omega) (by omega) (cz rfl rfl rfl (fun _ _ => aR rfl rfl) (cz rfl rfl rfl (fun _ _ => aR rfl rfl) (aU rfl rfl (s8 rfl rfl rfl (cy rfl rfl rfl)) (aU rfl rfl (aR rfl rfl) (aU rfl rfl (aR rfl rfl) trivial)))))⟩
 ·obtain ⟨_, _, w1, w2⟩ := Jm i
  obtain ⟨_, _, b3⟩ := EL i
  refine ⟨by omega, fun h => ⟨⟨by omega, by omega, by omega, by omega, by omega, by omega, by omega, by omega, by omega, by omega, by omega, by omega, by omega, by omega, by omega, by omega, by omega⟩, by omega, j + 1, by omega, by dsimp only; omega, [(0, 0), (1, 1), (2, 2), (3, 3), (5, 5), (6, 106503)], rfl, rfl, rfl, cz rfl rfl rfl (fun k hk => zE (y := fun j => gf c i j) (fun _ _ => rfl) (s' := 400) ?_ rfl (Nat.le_refl _) (Nat.le_refl _) hk) ?_⟩,
   fun h => ⟨rfl, j, by omega, [(0, 0), (1, 1), (2, 2), (3, 3), (5, 5), (6, 6)], rfl, rfl, rfl, cz rfl rfl rfl (fun _ _ => aR rfl rfl) ?_⟩⟩
  ·exact cq ⟨cq ⟨bI rfl (by decide), bI rfl (by decide), bI rfl (by decide), trivial⟩, bI rfl (by omega), trivial⟩
  all_goals exact cz rfl rfl rfl (fun _ _ => aR rfl rfl) (cz rfl rfl rfl (fun _ _ => aR rfl rfl) (aU rfl rfl (s8 rfl rfl rfl (cy rfl rfl rfl)) (aU rfl rfl (aR rfl rfl) (aU rfl rfl (aR rfl rfl) trivial))))
 ·subst hj
  refine ⟨by omega, by omega, i + 1, by omega, by dsimp only; omega, [(0, 0), (1, 1), (2, 2), (3, 16391), (5, 5)], rfl, rfl, rfl, cz rfl rfl rfl (fun k hk => ?_) (cz rfl rfl rfl (fun _ _ => aR rfl rfl) (aU rfl rfl (s8 rfl rfl rfl (cy rfl rfl rfl)) (aU rfl rfl (aR rfl rfl) (aU rfl rfl (aR rfl rfl) trivial))))⟩
  by_cases h : k < i
  ·rw [if_pos h]; exact aR rfl rfl
  ·have : k = i := by omega
   subst this
   rw [if_neg h, Nat.sub_self]; exact aR rfl rfl
 ·subst hi
  refine ak.jE ((az.fin hT Ee hm 60 ZZ (by kernel_rfl) ?_).mono fun _ _ h => .inl h)
  simp only [aa.all, ax]
  exact ⟨by omega, by omega, cq ⟨.refl _, .refl _, dP fun _ _ => dF (by decide), dP fun _ _ => dF (by decide), .refl _, trivial⟩, .refl _, trivial⟩
def FO : Spec := eH (kC (jQ 64 64) (kC kI kN)) (fun a => .tuple [pX 400 a.1 a.2.1.toNat, .int .i64 0]) fun a => [1 ≤ a.2.1, a.2.1 ≤ 4, a.1.n < 2 ^ 30, a.1.m < 2 ^ 30]
theorem VK : ∀ K args pre r, FO K args pre = some r → ay P nZ K args pre r := en fun ⟨c, q, _⟩ K hn => by
 obtain ⟨h1, h2, h3, h4⟩ := hn
 simp only at h1 h2
 have := Rm (q := q.toNat) (by omega) (by omega) h3 h4 K
 rw [Int.toNat_of_nonneg (by omega)] at this
 exact this
end Go.Am.B
