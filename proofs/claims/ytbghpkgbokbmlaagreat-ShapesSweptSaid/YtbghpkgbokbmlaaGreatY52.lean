/- The points of surfaces; of surfaces of revolution. -/
import Derived.Test.YtbghpkgbokbmlaaGreatY47
import Derived.Test.YtbghpkgbokbmlaaGreatY48
import Derived.Test.YtbghpkgbokbmlaaGreatC9
set_option linter.unusedVariables false
namespace Go.Am.B
open Go Go.Am.N AV aa ag IntKind
abbrev fK (s : Sf) (j : Nat) : Cu := ⟨s.u, s.a, s.ku, s.n, fun i => s.f i j⟩
def ff (s : Sf) (u : Rat) : Cu := ⟨s.v, s.b, s.kv, s.m, fun j => ⟨gv (cq (fK s j) u), (cq (fK s j) u).d⟩⟩
structure Turn (q : Nat) (u C S D : Rat) : Prop where
 ne : D ≠ 0
 sq : C * C + S * S = D * D
 lo : u = 0 → C = D ∧ S = 0
 hi : u = (q : Rat) → C = D * cX (2 * q) ∧ S = D * cY (2 * q)
end Go.Am.B

/- shapes.Circle. -/
namespace Go.Am.B
open Go Go.Am.N AV aa ag IntKind
theorem Ul {x y z d x' y' z' d' : Rat} {s1 s2 s3 s4 s : Nat} (h1 : x = x') (h2 : y = y') (h3 : z = z') (h4 : d = d') (k1 : s1 ≤ s) (k2 : s2 ≤ s) (k3 : s3 ≤ s) (k4 : s4 ≤ s) : bn (.agg [.agg [.rat x s1, .rat y s2, .rat z s3], .rat d s4]) (bw ⟨⟨x', y', z'⟩, d'⟩ s) :=
 cN ⟨cN ⟨cr h1 k1, cr h2 k2, cr h3 k3, trivial⟩, cr h4 k4, trivial⟩
end Go.Am.B

/- ref14: Circle, Rotation; ref04.SameMap. -/
namespace Go.Am.B
open Go Go.Am.N AV aa ag IntKind
end Go.Am.B

/- ref10: MovePoles, Move; ref12: withRows, Move. -/
namespace Go.Am.B
open Go Go.Am.N AV aa ag IntKind
def N8 (s : Nat) : Kind Mp := ⟨fun v => match CY v with
 | some (a, q) => some (a.1, (a.2 ≤ s) :: q)
 | none => none, fun a => jR a s, fun {v a q} h hq => by
  split at h
  ·rename_i a q h1
   simp only [Option.some.injEq, Prod.mk.injEq] at h
   obtain ⟨rfl, rfl⟩ := h
   obtain ⟨q1, q2⟩ := (dA (a := [_]) (b := q)).1 hq
   exact (RZ h1 q2).trans (Sg rfl q1)
  ·simp at h⟩
def kB (r v : V3) (t : Rat) : Rat := 0 + r.x * v.x + r.y * v.y + r.z * v.z + t
def U9 (m : Mp) (v : V3) : V3 := ⟨kB m.m.a v m.t.x, kB m.m.b v m.t.y, kB m.m.c v m.t.z⟩
def fc (m : Mp) (p : Pl) : Pl := ⟨U9 m p.n, p.d⟩
def uh (m : Mp) (c : Cu) : Cu := ⟨c.p, c.n, c.k, c.m, fun j => fc m (c.f j)⟩
abbrev sQ : Nat := 1100
end Go.Am.B

/- ref10.SamePoles, Same, ref12.Same for equal arguments. -/
namespace Go.Am.B
open Go Go.Am.N AV aa ag IntKind
structure CuEq (c d : Cu) : Prop where
 p : c.p = d.p
 n : c.n = d.n
 k : ∀ i, i < c.n → c.k i = d.k i
 m : c.m = d.m
 f : ∀ i, i < c.m → c.f i = d.f i
structure SfEq (s t : Sf) : Prop where
 u : s.u = t.u
 v : s.v = t.v
 a : s.a = t.a
 ku : ∀ i, i < s.a → s.ku i = t.ku i
 b : s.b = t.b
 kv : ∀ i, i < s.b → s.kv i = t.kv i
 n : s.n = t.n
 m : s.m = t.m
 f : ∀ i j, i < s.n → j < s.m → s.f i j = t.f i j
end Go.Am.B

/- slices.EqualFunc of numbers; curve.Move. -/
namespace Go.Am.B
open Go Go.Am.N AV aa ag IntKind
abbrev yu : FuncId := Li
noncomputable abbrev yQ : Func := JL
theorem TF : aP P yu yQ (au yQ) := aL S9 (by kernel_rfl) (by kernel_rfl) (by kernel_rfl)
theorem OH : aP P qI rQ (au rQ) := aL TO (by kernel_rfl) (by kernel_rfl) (by kernel_rfl)
noncomputable abbrev tZ : Code := au yQ
abbrev wT : List Nat := [0, 1, 2, 6, 15, 16, 17]
abbrev Cz (n m : Nat) (f g : Nat → Rat) (i : Nat) : List AV := [bX f n sU, bX g m sU, .func kf [], .bool false, bX f n sU, .int .i64 n, .int .i64 i]
noncomputable def Ax : aQ := [(BL, cG T s8 [] 60 Cr), (AH, cG T s8 [] 60 CC)]
noncomputable def FG : aQ := [(B3, cG T Ax [] 60 B8), (Dh, cG T Ax [] 60 C0)]
noncomputable def KP : aQ := [(BU, cG T FG [] 60 Ap)]
noncomputable def ym (x y : Nat) : aQ := nG :: (nJ, Ac x y) :: (KP ++ s8)
abbrev uy : List Nat := [3, 4, 5, 15, 16, 17]
abbrev Ak (c : Cu) (r i : Nat) : List AV := [.ptr 1 0 36 0 [], .ptr 2 0 3 0 [], .ptr 3 0 3 0 [], ee c.f c.m r, .int .i64 c.m, .int .i64 i]
abbrev Dw (c : Cu) (m : Mp) (y w s i : Nat) : aD := [(4, ⟨true, true, 12, i, fun j => bw (fc m (c.f j)) w⟩), (3, ⟨false, true, 3, 1, fun _ => .agg [.int .i64 c.p, bX c.k c.n y, .own 4 12 0 i]⟩), (2, ⟨false, true, 3, 1, fun _ => .agg [.int .i64 0, .nil, .nil]⟩), (1, ⟨false, true, 36, 1, fun _ => jR m s⟩)]
noncomputable abbrev ur : Code := au rQ
theorem QE {n m : Nat} {f g : Nat → Rat} : aH T x9 [14] 60 wT (before tZ [1,1,0,1]) ⟨aM 0 [bX f n sU, bX g m sU, .func kf []], [], 0⟩ =
  let c2 : AV := aj 3 m fun i ↦ rat (g i) 4294967296; let c1 : AV := aj 3 n fun i ↦ rat (f i) 4294967296; some (fork ((↑n : Int) != (↑m : Int)) (leaf ret ([c1, c2, func 135 [], AV.bool false, tuple [], tuple [], tuple []], [])) (leaf normal ([c1, c2, func 135 [], AV.bool false, c1, int i64 (↑n : Int), int i64 (0 : Int)], []))) := by kernel_rfl
theorem Rn {n m i : Nat} {f g : Nat → Rat} : aH T x9 [18, 30] 60 wT [part tZ [1,1,0,1,0,0]] ⟨aB wT (Cz n m f g i), [], 0⟩ =
  let c7 : Int := (↑n : Int); let c5 : AV := aj 3 m fun i ↦ rat (g i) 4294967296; let c4 : Prop := 0 < 1; let c3 : Int := (↑i : Int); let c1 : AV := aj 3 n fun i ↦ rat (f i) 4294967296; let c6 : Int := c3 + (1 : Int); let c2 : List AV × aD := ([c1, c5, func 135 [], AV.bool false, c1, int i64 c7, int i64 c3], []); some (fork (decide (c3 < c7)) (af [(0 : Int) ≤ c3 ∧ c3.toNat < n, c4] (af [(0 : Int) ≤ c3 ∧ c3.toNat < m, c4] (af [c4, c4] (fork (!decide (f c3.toNat = g c3.toNat)) (leaf ret c2) (af [-(2 : Int) ^ 63 ≤ c6 ∧ c6 < (2 : Int) ^ 63] (leaf normal ([c1, c5, func 135 [], AV.bool false, c1, int i64 c7, int i64 c6], []))))))) (leaf (exit 0) c2)) := by kernel_rfl
theorem acW {n m i : Nat} {f g : Nat → Rat} : bW T x9 [] 60 yQ [part tZ [1,1,1]] ⟨aB wT (Cz n m f g i), [], 0⟩ =
  some (leaf ret [AV.bool true]) := by kernel_rfl
theorem Tw {x y r s : Nat} {c : Cu} {m : Mp} : aH T (ym x y) [] 60 uy (before ur [1,1,0,1]) ⟨aM 0 [cQ c x r, jR m s], [], 0⟩ =
  let c2 : Prop := 0 < 1; let c1 : AV := agg [int i64 (0 : Int), nil, nil]; some (af [c2, c2, bM (fun i ↦ rat (c.k i) x) c.n x, x + 10 ≤ y, y < 2 ^ 40, c.n < 2 ^ 40, c2] (af [c2] (leaf normal ([ptr 4096 0 (bk (jR m s)).size 0 [], ptr 8192 0 3 0 [], ptr 36864 0 3 0 [], aj 12 c.m fun i ↦ agg [agg [rat (c.f i).n.x r, rat (c.f i).n.y r, rat (c.f i).n.z r], rat (c.f i).d r], int i64 (↑c.m : Int), int i64 (0 : Int)], [((36864 : Nat), ay.mk false true 3 1 fun j ↦ if (j == 0) = true then bk (agg ((c1.kids.set 0 (bk (int i64 c.p))).set 1 (bk (bX (fun i ↦ aK (rat (c.k i) x)) c.n y)))) else c1), ((8192 : Nat), ay.mk false true 3 1 fun x ↦ c1), ((4096 : Nat), ay.mk false true (bk (jR m s)).size 1 fun x ↦ agg [agg [agg [rat m.m.a.x s, rat m.m.a.y s, rat m.m.a.z s], agg [rat m.m.b.x s, rat m.m.b.y s, rat m.m.b.z s], agg [rat m.m.c.x s, rat m.m.c.y s, rat m.m.c.z s]], agg [rat m.t.x s, rat m.t.y s, rat m.t.z s]])])))) := by kernel_rfl
theorem XN {x y r s w i : Nat} {c : Cu} {m : Mp} : aH T (ym x y) [18] 60 uy [part ur [1,1,0,1,0,0]] ⟨aB uy (Ak c r i), Dw c m y w s i, 5⟩ =
  let c25 : Int := (↑c.m : Int); let c24 : Int := (↑(3 : Nat) : Int); let c20 : AV := own 4 12 0 i; let c19 : AV := ptr 2 0 3 0 []; let c18 : AV := ptr 3 0 3 0 []; let c17 : AV := ptr 1 0 36 0 []; let c15 : AV := rat 0 1; let c14 : Int := (↑i : Int); let c12 : Nat := 1 + (s + r) + 1; let c11 : Int := i64.wrap ((0 : Int) + (1 : Int)); let c9 : AV := aj 12 c.m fun i ↦ agg [agg [rat (c.f i).n.x r, rat (c.f i).n.y r, rat (c.f i).n.z r], rat (c.f i).d r]; let c6 : List (Nat × ay) := [((2 : Nat), ay.mk false true 3 1 fun x ↦ agg [int i64 (0 : Int), nil, nil]), ((1 : Nat), ay.mk false true 36 1 fun x ↦ agg [agg [agg [rat m.m.a.x s, rat m.m.a.y s, rat m.m.a.z s], agg [rat m.m.b.x s, rat m.m.b.y s, rat m.m.b.z s], agg [rat m.m.c.x s, rat m.m.c.y s, rat m.m.c.z s]], agg [rat m.t.x s, rat m.t.y s, rat m.t.z s]])]; let c4 : Nat := 2 ^ 42; let c1 : Prop := 0 < 1; let c28 : Int := i64.wrap (c11 + (1 : Int)); let c27 : Int := c14 + (1 : Int); let c26 : Prop := r < c4; let c23 : Prop := s < c4; let c22 : Prop := 1 < c4; let c16 : Prop := s + r < c4; let c13 : AV := agg [int i64 c.p, bX c.k c.n y, c20]; let c8 : V3 := (c.f c14.toNat).n; let c7 : Nat := c12 + (s + r) + 1; let c5 : Prop := (0 : Int) ≤ (0 : Int) ∧ (0 : Int) < c24; let c3 : Prop := (0 : Int) ≤ c11 ∧ c11 < c24; let c10 : Nat := c7 + (s + r) + 1; let c2 : Prop := (0 : Int) ≤ c28 ∧ c28 < c24; let c21 : Nat := c10 + s + 1; some (fork (decide (c14 < c25)) (af [(0 : Int) ≤ c14 ∧ c14.toNat < c.m, c1] (af [c1, c1, c1, c1, c1, c1, c5, c1, c1, c1, c1, c5, c1, c5, c1, c23, c26, c22, c16, c1, c1, c3, c1, c3, c1, c23, c26, c12 < c4, c16, c1, c1, c2, c1, c2, c1, c23, c26, c7 < c4, c16, c1, c1, c1, c1, c5, c1, c3, c1, c1, c1, c1, c5, c1, c5, c1, c23, c26, c22, c16, c1, c1, c3, c1, c3, c1, c23, c26, c12 < c4, c16, c1, c1, c2, c1, c2, c1, c23, c26, c7 < c4, c16, c1, c1, c1, c1, c3, c1, c2, c1, c1, c1, c1, c5, c1, c5, c1, c23, c26, c22, c16, c1, c1, c3, c1, c3, c1, c23, c26, c12 < c4, c16, c1, c1, c2, c1, c2, c1, c23, c26, c7 < c4, c16, c1, c1, c1, c1, c2, c1, c1, c1, c1, c1, c1, c1, c5, c1, c5, c1, c10 < c4, c23, c5, c1, c3, c1, c3, c1, c10 < c4, c23, c3, c1, c2, c1, c2, c1, c10 < c4, c23, c2, c1, c1, c1, c1, c1, c1, c1, c1, c1, c26, c22, (1 : Nat) * 12 ≤ 2 ^ 24, (i + 1) * ((224 : Nat) + 1) * 2 ≤ 2 ^ 47, c1] (af [-(2 : Int) ^ 63 ≤ c27 ∧ c27 < (2 : Int) ^ 63] (leaf normal ([c17, c19, c18, c9, int i64 c25, int i64 c27], ((69637 : Nat), ay.mk true true 12 (i + 1) fun i_1 ↦ if i_1 < i then bw (fc m (c.f i_1)) w else nth [agg [agg [rat ((0 : Rat) + m.m.a.x * c8.x + m.m.a.y * c8.y + m.m.a.z * c8.z + m.t.x) c21, rat ((0 : Rat) + m.m.b.x * c8.x + m.m.b.y * c8.y + m.m.b.z * c8.z + m.t.y) c21, rat ((0 : Rat) + m.m.c.x * c8.x + m.m.c.y * c8.y + m.m.c.z * c8.z + m.t.z) c21], rat ((c.f c14.toNat).d + 0) (r + 1 + 1)]] (agg [agg [c15, c15, c15], c15]) (i_1 - i + 0)) :: ((3 : Nat), ay.mk false true 3 1 fun j ↦ if (j == 0) = true then agg (c13.kids.set 2 (bk (own (nat_lit 69636 + 1) 12 0 (i + 1)))) else c13) :: c6))))) (leaf (exit 0) ([c17, c19, c18, c9, int i64 c25, int i64 c14], ((4 : Nat), ay.mk true true 12 i fun j ↦ agg [agg [rat (kB m.m.a (c.f j).n m.t.x) w, rat (kB m.m.b (c.f j).n m.t.y) w, rat (kB m.m.c (c.f j).n m.t.z) w], rat (c.f j).d w]) :: ((3 : Nat), ay.mk false true 3 1 fun x ↦ agg [int i64 c.p, aj 3 c.n fun i ↦ rat (c.k i) y, c20]) :: c6))) := by kernel_rfl
theorem aap {x y r s w i : Nat} {c : Cu} {m : Mp} : bW T (ym x y) [] 60 rQ [part ur [1,1,1]] ⟨aB uy (Ak c r i), Dw c m y w s i, 5⟩ =
  let c1 : Prop := 0 < 1; some (af [c1, c1] (af [c1] (leaf ret [agg [int i64 c.p, aj 3 c.n fun i ↦ rat (c.k i) y, aj 12 i fun i ↦ agg [agg [rat (kB m.m.a (c.f (i + 0)).n m.t.x) w, rat (kB m.m.b (c.f (i + 0)).n m.t.y) w, rat (kB m.m.c (c.f (i + 0)).n m.t.z) w], rat (c.f (i + 0)).d w]]]))) := by kernel_rfl
theorem adk {n m : Nat} {f g : Nat → Rat} (hn : n < 2 ^ 40) (hm2 : m < 2 ^ 40) (K : Nat) : az P yu K [bX f n sU, bX g m sU, .func kf []] [] (aF (.bool (iS n f m g)) []) := by
 refine jy (r := aF (.bool (iS n f m g)) []) hT Sr hm TF rfl (of_decide_eq_true (by kernel_rfl)) rfl [1,1,0,1] (i := 0) (y := part tZ [1,1,0,1,0,0]) (z := part tZ [1,1,1]) (by kernel_rfl) (by kernel_rfl) (by kernel_rfl) (f1 := [14]) (f2 := [18, 30]) (f3 := []) 60 wT 0
  (fun i : Nat => Cz n m f g i) (fun _ => []) (fun i => i ≤ n ∧ n = m ∧ ∀ j, j < i → f j = g j) (fun i => i = n ∧ n = m ∧ ∀ j, j < i → f j = g j) (fun i => n - i) (fun _ => ⟨⟨_, QE, ?_⟩, fun i ⟨h1, h2, h3⟩ => ⟨_, Rn, ?_⟩, fun i ⟨h1, h2, h3⟩ => ⟨_, acW, ?_⟩⟩) K []
 ·simp only [aa.all, ax, bne_iff_ne, ne_eq, bne_eq_false_iff_eq]
  exact ⟨fun h => ⟨[.bool false], by kernel_rfl, fO (decide_eq_false (fun hh => h (by omega))).symm⟩, fun h => ⟨0, ⟨by omega, by omega, fun j hj => by omega⟩, .vals rfl⟩⟩
 ·simp only [aa.all, ax, decide_eq_true_eq, decide_eq_false_iff_not, Bool.not_eq_true', Bool.not_eq_false', Int.toNat_natCast]
  (repeat' with_reducible first | refine And.intro ?_ ?_ | intro _)
  all_goals first | omega | skip
  ·rename_i a b
   exact ⟨[.bool false], by kernel_rfl, fO (decide_eq_false (fun hh => b (hh.2 i (by omega)))).symm⟩
  ·rename_i a b
   refine ⟨i + 1, ⟨by omega, h2, fun j hj => ?_⟩, by dsimp only; omega, .vals rfl⟩
   by_cases hj2 : j = i
   ·subst hj2; exact b
   ·exact h3 j (by omega)
  ·exact ⟨rfl, i, ⟨by omega, h2, h3⟩, .vals rfl⟩
 ·subst h1
  exact fO (decide_eq_true ⟨h2, h3⟩).symm
theorem F4 : aW P Ax := aC (cH hT yx hm (aL JJ (by kernel_rfl) (by kernel_rfl) (by kernel_rfl)) _ _) (aC (cH hT yx hm (aL HQ (by kernel_rfl) (by kernel_rfl) (by kernel_rfl)) _ _) aT)
theorem aar : aW P FG := aC (cH hT F4 hm (aL Lp (by kernel_rfl) (by kernel_rfl) (by kernel_rfl)) _ _) (aC (cH hT F4 hm (aL GH (by kernel_rfl) (by kernel_rfl) (by kernel_rfl)) _ _) aT)
theorem PA : aW P KP := aC (cH hT aar hm (aL LK (by kernel_rfl) (by kernel_rfl) (by kernel_rfl)) _ _) aT
theorem Nl {x y : Nat} : aW P (ym x y) := eu (aC (GK x y) (gh PA yx))
theorem JY {rl : List (Nat × Nat)} {c : Cu} {y a i : Nat} (h : aX rl 4 = some a) : ga rl (.agg [.int .i64 c.p, bX c.k c.n y, .own a 12 0 i]) (.agg [.int .i64 c.p, bX c.k c.n y, .own 4 12 0 i]) :=
 mm ⟨⟨rfl, aG rfl⟩, ⟨rfl, aG rfl⟩, ⟨rfl, cj h rfl rfl⟩, trivial⟩
theorem X1 (m : Mp) (s : Nat) : (bk (jR m s)).size = 36 := by kernel_rfl
theorem aa2 {x y r s w : Nat} {c : Cu} {m : Mp} (hx : x + 10 ≤ y) (hy : y < 2 ^ 40) (hw : 4 * s + 3 * r + 10 ≤ w) (hw2 : w < 2 ^ 40) (hn : c.n < 2 ^ 30) (hm2 : c.m < 2 ^ 30) (K : Nat) : az P qI K [cQ c x r, jR m s] [] (aF (cQ (uh m c) y w) []) := by
 refine jy (r := aF (cQ (uh m c) y w) []) hT (Nl (x := x) (y := y)) hm OH rfl (of_decide_eq_true (by kernel_rfl)) rfl [1,1,0,1] (i := 0) (y := part ur [1,1,0,1,0,0]) (z := part ur [1,1,1]) (by kernel_rfl) (by kernel_rfl) (by kernel_rfl) (f1 := []) (f2 := [18]) (f3 := []) 60 uy 5
  (fun i : Nat => Ak c r i) (fun i => Dw c m y w s i) (fun i => i ≤ c.m) (fun i => i = c.m) (fun i => c.m - i) (fun _ => ⟨⟨_, Tw, ?_⟩, fun i hi => ⟨_, XN, ?_⟩, fun i hi => ⟨_, aap, ?_⟩⟩) K []
 ·simp only [aa.all, ax]
  rw [X1 m s]
  exact ⟨⟨by omega, by omega, cI (Nat.le_refl _), by omega, by omega, by omega, by omega⟩, by omega, 0, Nat.zero_le _, [(1, 4096), (2, 8192), (3, 36864)], rfl, rfl, rfl, pH rfl (by omega) (by omega) (aR rfl rfl (mm ⟨⟨rfl, aG rfl⟩, ⟨rfl, aG rfl⟩, ⟨rfl, pL (by omega)⟩, trivial⟩) (aR rfl rfl (aN rfl rfl) (aR rfl rfl (aN rfl rfl) trivial)))⟩
 ·set_option maxRecDepth 10000 in simp only [aa.all, ax, decide_eq_true_eq, decide_eq_false_iff_not, Int.toNat_natCast, Nat.add_zero]
  refine ⟨fun h => ?_, fun h => ⟨rfl, i, by omega, [(1, 1), (2, 2), (3, 3), (4, 4)], rfl, rfl, rfl, bP rfl rfl rfl (fun _ _ => aN rfl rfl) (aR rfl rfl (JY rfl) (aR rfl rfl (aN rfl rfl) (aR rfl rfl (aN rfl rfl) trivial)))⟩⟩
  have w1 : i64.wrap (0 + 1) = 1 := by decide
  have w2 : i64.wrap (i64.wrap (0 + 1) + 1) = 2 := by decide
  rw [w2, w1]
  refine ⟨by omega, ?_, by omega, i + 1, by omega, by dsimp only; omega, [(1, 1), (2, 2), (3, 3), (4, 69637)], rfl, rfl, rfl, bP rfl rfl rfl (fun k hk => yV (y := fun j => fc m (c.f j)) (fun _ _ => rfl) (s' := w) ?_ rfl (Nat.le_refl _) (Nat.le_refl _) hk) (aR rfl rfl (JY rfl) (aR rfl rfl (aN rfl rfl) (aR rfl rfl (aN rfl rfl) trivial)))⟩
  ·(repeat' with_reducible refine And.intro ?_ ?_) <;> omega
  ·exact cN ⟨cN ⟨cr rfl (by omega), cr rfl (by omega), cr rfl (by omega), trivial⟩, cr (Rat.add_zero _) (by omega), trivial⟩
 ·subst hi
  simp only [aa.all, ax]
  exact ⟨by omega, by omega, .refl _⟩
def Lv : Spec := dM (kC (kL sU) (kC (kL sU) (kC (kF kf) kN))) (fun a => .bool (iS a.1.1 a.1.2 a.2.1.1 a.2.1.2)) fun a => [a.1.1 < 2 ^ 40, a.2.1.1 < 2 ^ 40]
theorem Xu : ∀ K args pre r, Lv K args pre = some r → az P yu K args pre r := dP fun _ K hn => adk hn.1 hn.2 K
end Go.Am.B

/- Ruled, Extrude, Bilinear (shapes and ref14). -/
namespace Go.Am.B
open Go Go.Am.N AV aa ag IntKind
theorem adw : aP P rP uY (au uY) := aL aaB (by kernel_rfl) (by kernel_rfl) (by kernel_rfl)
theorem Qb : aP P tM tn (au tn) := aL Ta (by kernel_rfl) (by kernel_rfl) (by kernel_rfl)
theorem QS : aP P v5 rL (au rL) := aL UX (by kernel_rfl) (by kernel_rfl) (by kernel_rfl)
def AO (x r s y w : Nat) : Spec := dM (kC (lf x r) (kC (N8 s) kN)) (fun a => cQ (uh a.2.1 a.1) y w) fun a => [x + 10 ≤ y, y < 2 ^ 40, 4 * s + 3 * r + 10 ≤ w, w < 2 ^ 40, a.1.n < 2 ^ 30, a.1.m < 2 ^ 30]
def ep (c d : Cu) : Bool := (c.p == d.p) && iS c.n c.k d.n d.k
def fN (b : Bool) (a : Nat) : Nat := bif b then a else 0
def dj (i : Nat) : Rat := if i < 2 then 0 else 1
def oS (c d : Cu) : Sf := ⟨(fN (ep c d) 1 : Nat), bif ep c d then c.p else 0, fN (ep c d) 4, dj, fN (ep c d) c.n, c.k, fN (ep c d) 2, fN (ep c d) c.m, fun i j => if i = 0 then c.f j else d.f j⟩
def nL (c d : Cu) : Int := bif ep c d then 0 else 5
theorem Hr (x r s y w : Nat) : ∀ K args pre v, AO x r s y w K args pre = some v → az P qI K args pre v := dP fun _ K hn => aa2 hn.1 hn.2.1 hn.2.2.1 hn.2.2.2.1 hn.2.2.2.2.1 hn.2.2.2.2.2 K
theorem HG {y w : Nat} {c d : Cu} (h : ep c d = false) : dm [.agg [.int .i64 0, .int .i64 0, .nil, .nil, .nil], .int .i64 5] [dU (oS c d) y w, .int .i64 (nL c d)] := by
 unfold nL
 show dm _ [.agg [.int .i64 (fN (ep c d) 1 : Nat), .int .i64 (bif ep c d then c.p else 0), .aj 3 (fN (ep c d) 4) _, .aj 3 (fN (ep c d) c.n) _, .aj 1 (fN (ep c d) 2) _], _]
 rw [h]
 exact ⟨cN ⟨.refl _, .refl _, gL (by omega), gL (by omega), gL (by omega), trivial⟩, .refl _, trivial⟩
theorem Sv {y : Nat} (hy : 64 ≤ y) : bn (.aj 3 4 fun i => .rat ((intOf (nth [.int .i64 0, .int .i64 0, .int .i64 1, .int .i64 1] (.int .i64 0) (i + 0 + 0)) : Int) : Rat) 64) (bX dj 4 y) := gC fun i hi => by
 match i, hi with
 | 0, _ | 1, _ | 2, _ | 3, _ => exact cr (by decide +kernel) hy
theorem Tj {y w : Nat} (hy : 64 ≤ y) {c d : Cu} {K U V : AV} (h : ep c d = true) (hm2 : c.m = d.m) (hK : bn K (bX c.k c.n y)) (hU : bn U (ee c.f c.m w)) (hV : bn V (ee d.f d.m w)) :
  dm [.agg [.int .i64 1, .int .i64 c.p, .aj 3 4 fun i => .rat ((intOf (nth [.int .i64 0, .int .i64 0, .int .i64 1, .int .i64 1] (.int .i64 0) (i + 0 + 0)) : Int) : Rat) 64, K, .aj 1 2 fun i => nth [U, V] .nil (i + 0)], .int .i64 0] [dU (oS c d) y w, .int .i64 (nL c d)] := by
 unfold nL
 show dm _ [.agg [.int .i64 (fN (ep c d) 1 : Nat), .int .i64 (bif ep c d then c.p else 0), .aj 3 (fN (ep c d) 4) _, .aj 3 (fN (ep c d) c.n) _, .aj 1 (fN (ep c d) 2) fun i => .aj 12 (fN (ep c d) c.m) fun j => bw (if i = 0 then c.f j else d.f j) w], _]
 rw [h]
 refine ⟨cN ⟨.refl _, .refl _, Sv hy, hK, gC fun i hi => ?_, trivial⟩, .refl _, trivial⟩
 match i, hi with
 | 0, _ => exact hU
 | 1, _ =>
  show bn V (.aj 12 c.m fun j => bw (d.f j) w)
  rw [hm2]; exact hV
theorem KO {p : Pl} : fc ⟨⟨⟨((1 : Int) : Rat), 0, 0⟩, ⟨0, ((1 : Int) : Rat), 0⟩, ⟨0, 0, ((1 : Int) : Rat)⟩⟩, ⟨0, 0, 0⟩⟩ p = p := by
 obtain ⟨⟨x, y, z⟩, w⟩ := p
 show (⟨⟨0 + 1 * x + 0 * y + 0 * z + 0, 0 + 0 * x + 1 * y + 0 * z + 0, 0 + 0 * x + 0 * y + 1 * z + 0⟩, w⟩ : Pl) = ⟨⟨x, y, z⟩, w⟩
 congr 2 <;> grind
theorem ML {c d : Cu} (h : (c.p != d.p) = true) : ep c d = false := by
 unfold ep; rw [show (c.p == d.p) = false by simpa using h]; rfl
theorem KQ {c d : Cu} (h : (c.p != d.p) = false) : ep c d = iS c.n c.k d.n d.k := by
 unfold ep; rw [show (c.p == d.p) = true by simpa using h]; rfl
def qO (v : V3) : Mp := ⟨⟨⟨((1 : Int) : Rat), 0, 0⟩, ⟨0, ((1 : Int) : Rat), 0⟩, ⟨0, 0, ((1 : Int) : Rat)⟩⟩, v⟩
def BG (c : Cu) (v : V3) : Sf := oS c (uh (qO v) c)
noncomputable def D9 : aQ := sG :: nQ
def fA (a b c d : V3) : Sf := ⟨1, 1, 4, dj, 4, dj, 2, 2, fun i j => ⟨if i = 0 then (if j = 0 then a else c) else (if j = 0 then b else d), 1⟩⟩
theorem WH {a b c d : V3} : bA T D9 [] 200 rL (au rL) ⟨aM 0 [vA a 64, vA b 64, vA c 64, vA d 64], [], 0⟩ =
  let c7 : AV := int i64 (0 : Int); let c6 : AV := int i64 (1 : Int); let c5 : AV := rat 0 1; let c4 : List AV := [rat (↑(1 : Int) : Rat) (Max.max 1 (aS (Int.natAbs (1 : Int))))]; let c3 : Prop := 0 < 1; let c1 : Nat := 64 + 1 + 1; let c8 : AV := agg [agg [c5, c5, c5], c5]; let c2 : AV := aj 3 4 fun i ↦ rat (↑(intOf (nth [c7, c7, c6, c6] c7 (i + 0 + 0))) : Rat) 64; some (af [c3, c3, c3, c3, c3, c3, c3, c3, c3, c3, c3, c3] (af [c3] (leaf ret [agg [c6, c6, c2, c2, aj 1 2 fun i ↦ nth [aj 12 2 fun i ↦ nth [agg (agg [rat (a.x + 0) c1, rat (a.y + 0) c1, rat (a.z + 0) c1] :: c4), agg (agg [rat (c.x + 0) c1, rat (c.y + 0) c1, rat (c.z + 0) c1] :: c4)] c8 (i + 0), aj 12 2 fun i ↦ nth [agg (agg [rat (b.x + 0) c1, rat (b.y + 0) c1, rat (b.z + 0) c1] :: c4), agg (agg [rat (d.x + 0) c1, rat (d.y + 0) c1, rat (d.z + 0) c1] :: c4)] c8 (i + 0)] nil (i + 0)]]))) := by kernel_rfl
theorem Px : aW P D9 := dc pe
theorem Ln {F : Nat → AV} (hF : ∀ i, F i = .rat ((intOf (nth [.int .i64 0, .int .i64 0, .int .i64 1, .int .i64 1] (.int .i64 0) i) : Int) : Rat) 64) : bn (.aj 3 4 F) (bX dj 4 64) := gC fun i hi => by
 rw [hF]
 match i, hi with
 | 0, _ | 1, _ | 2, _ | 3, _ => exact cr (by decide +kernel) (by decide)
theorem Ro {a b c d : V3} (K : Nat) : az P v5 K [vA a 64, vA b 64, vA c 64, vA d 64] [] (aF (dU (fA a b c d) 64 100) []) := by
 refine bD (r := aF (dU (fA a b c d) 64 100) []) hT Px hm QS rfl (of_decide_eq_true (by kernel_rfl)) rfl 200 WH (fun _ => ?_) K []
 simp only [aa.all, ax]
 (repeat' with_reducible refine And.intro ?_ ?_)
 all_goals first | omega | decide | skip
 refine cN ⟨.refl _, .refl _, Ln fun _ => rfl, Ln fun _ => rfl, gC fun i hi => ?_, trivial⟩
 match i, hi with
 | 0, _ | 1, _ =>
  refine gC fun j hj => ?_
  match j, hj with
  | 0, _ | 1, _ => exact Ul (Rat.add_zero _) (Rat.add_zero _) (Rat.add_zero _) rfl (by decide) (by decide) (by decide) (by decide)
def I0 : Spec := dM (kC (u7 64) (kC (u7 64) (kC (u7 64) (kC (u7 64) kN)))) (fun a => dU (fA a.1 a.2.1 a.2.2.1 a.2.2.2.1) 64 100) fun _ => []
theorem PG : ∀ K args pre r, I0 K args pre = some r → az P v5 K args pre r := dP fun _ K _ => Ro K
end Go.Am.B

/- Extrude for small numbers; points of extruded and bilinear surfaces and of chains. -/
namespace Go.Am.B
open Go Go.Am.N AV aa ag IntKind
noncomputable def IW : aQ := nG :: (yu, Lv) :: (nJ, Ac 100 130) :: (qI, AO 100 460 1 130 1400) :: (nv ++ nQ)
def HB : Spec := dM (kC (lf 100 460) (kC (lf 100 460) kN)) (fun a => .tuple [dU (oS a.1 a.2.1) 130 1400, .int .i64 (nL a.1 a.2.1)]) fun a => [ep a.1 a.2.1 = true → a.1.m = a.2.1.m, a.1.n < 2 ^ 30, a.1.m < 2 ^ 30, a.2.1.n < 2 ^ 30, a.2.1.m < 2 ^ 30]
noncomputable def Ee : aQ := nG :: (qI, AO 64 64 64 100 460) :: (rP, HB) :: nv
theorem RV {c d : Cu} : bA T IW [12, 19] 60 uY (au uY) ⟨aM 0 [cQ c 100 460, cQ d 100 460], [], 0⟩ =
  let c16 : AV := int i64 (1 : Int); let c15 : Rat := (↑(1 : Int) : Rat); let c13 : Prop := bM (fun i ↦ rat (c.k i) 100) c.n 100; let c12 : Nat := 2 ^ 30; let c10 : Prop := 100 + 10 ≤ 130; let c9 : Prop := 4 * 1 + 3 * 460 + 10 ≤ 1400; let c7 : AV := int i64 (0 : Int); let c6 : Prop := 1 ≤ 1; let c5 : Nat := 2 ^ 40; let c3 : Prop := 0 < 1; let c2 : Nat := Max.max 1 (aS (Int.natAbs (1 : Int))); let c18 : Prop := 130 < c5; let c17 : Prop := Max.max c2 1 ≤ 1; let c14 : Prop := c2 ≤ 1; let c11 : aa (List AV) := af [c3] (af [c3] (leaf ret [agg [c7, c7, nil, nil, nil], int i64 (5 : Int)])); let c8 : Prop := 1 ≤ c2; let c4 : Mp := Mp.mk (M3.mk (V3.mk c15 0 0) (V3.mk 0 c15 0) (V3.mk 0 0 c15)) (V3.mk 0 0 0); let c1 : aa (List AV) := af [c3, c3] (af [c3, (4 : Nat) * 1 ≤ 2 ^ 24, c3, c13, c10, c18, c.n < c5, c3, c3, c13, gd (fun i ↦ bw (c.f i) 460) c.m 460, c17, c8, c8, c8, c8, c14, c6, c6, c14, c6, c6, c10, c18, c9, (1400 : Nat) < c5, c.n < c12, c.m < c12, c3, c3, bM (fun i ↦ rat (d.k i) 100) d.n 100, gd (fun i ↦ bw (d.f i) 460) d.m 460, c17, c8, c8, c8, c8, c14, c6, c6, c14, c6, c6, c10, c18, c9, (1400 : Nat) < c5, d.n < c12, d.m < c12, (2 : Nat) * 1 ≤ 2 ^ 24, c3] (af [c3] (leaf ret [agg [c16, int i64 c.p, aj 3 4 fun i ↦ rat (↑(intOf (nth [c7, c7, c16, c16] c7 (i + 0 + 0))) : Rat) 64, aj 3 c.n fun i ↦ rat (aK (rat (c.k i) 100)) 130, aj 1 2 fun i ↦ nth [aj 12 c.m fun i ↦ bw (fc c4 (dx (bw (c.f i) 460))) 1400, aj 12 d.m fun i ↦ bw (fc c4 (dx (bw (d.f i) 460))) 1400] nil (i + 0)], c7]))); some (fork (c.p != d.p) (af [c3, c3, (c.p != d.p) = true] (fork true c11 c1)) (af [c3, c3, (c.p != d.p) = false, c3, c3, bM (fun i ↦ rat (c.k i) 100) c.n sU, bM (fun i ↦ rat (d.k i) 100) d.n sU, c.n < c5, d.n < c5] (fork (bif false then true else !iS c.n (fun i ↦ aK (rat (c.k i) 100)) d.n fun i ↦ aK (rat (d.k i) 100)) c11 c1))) := by kernel_rfl
theorem Mn {c : Cu} {v : V3} : bA T Ee [] 60 tn (au tn) ⟨aM 0 [cQ c 64 64, vA v 64], [], 0⟩ =
  let c7 : Rat := (↑(1 : Int) : Rat); let c5 : Nat := 2 ^ 30; let c4 : Prop := 0 < 1; let c3 : Nat := Max.max 1 (aS (Int.natAbs (1 : Int))); let c6 : Prop := 1 ≤ c3; let c2 : Mp := Mp.mk (M3.mk (V3.mk c7 0 0) (V3.mk 0 c7 0) (V3.mk 0 0 c7)) (V3.mk v.x v.y v.z); let c1 : Bool := ep (Cu.mk c.p c.n (fun i ↦ aK (rat (c.k i) 64)) c.m fun i ↦ dx (bw (c.f i) 64)) (Cu.mk c.p c.n (fun i ↦ aK (rat (aK (rat (c.k i) 64)) 100)) c.m fun i ↦ dx (bw (fc c2 (dx (bw (c.f i) 64))) 460)); some (af [c4, c4] (af [c4, c4] (af [c4, c4, c4, bM (fun i ↦ rat (c.k i) 64) c.n 64, gd (fun i ↦ bw (c.f i) 64) c.m 64, Max.max c3 64 ≤ 64, c6, c6, c6, c6, c3 ≤ 1, (1 : Nat) ≤ 1, (1 : Nat) ≤ 1, c3 ≤ 1, (64 : Nat) ≤ 64, (64 : Nat) ≤ 64, (64 : Nat) + 10 ≤ 100, (100 : Nat) < 2 ^ 40, (4 : Nat) * 64 + 3 * 64 + 10 ≤ 460, (460 : Nat) < 2 ^ 40, c.n < c5, c.m < c5, bM (fun i ↦ rat (c.k i) 64) c.n 100, gd (fun i ↦ bw (c.f i) 64) c.m 460, bM (fun i ↦ rat (aK (rat (c.k i) 64)) 100) c.n 100, gd (fun i ↦ bw (fc c2 (dx (bw (c.f i) 64))) 460) c.m 460, c1 = true → c.m = c.m, c.n < c5, c.m < c5, c.n < c5, c.m < c5, c4] (af [c4, c4] (af [c4] (leaf ret [agg [int i64 (↑(fN c1 1) : Int), int i64 (bif c1 then c.p else (0 : Int)), aj 3 (fN c1 4) fun i ↦ rat (dj i) 130, aj 3 (fN c1 c.n) fun i ↦ rat (aK (rat (c.k i) 64)) 130, aj 1 (fN c1 2) fun i ↦ aj 12 (fN c1 c.m) fun i_1 ↦ agg [agg [rat (if i = 0 then dx (bw (c.f i_1) 64) else dx (bw (fc c2 (dx (bw (c.f i_1) 64))) 460)).n.x 1400, rat (if i = 0 then dx (bw (c.f i_1) 64) else dx (bw (fc c2 (dx (bw (c.f i_1) 64))) 460)).n.y 1400, rat (if i = 0 then dx (bw (c.f i_1) 64) else dx (bw (fc c2 (dx (bw (c.f i_1) 64))) 460)).n.z 1400], rat (if i = 0 then dx (bw (c.f i_1) 64) else dx (bw (fc c2 (dx (bw (c.f i_1) 64))) 460)).d 1400]]])))))) := by kernel_rfl
theorem MJ : aW P IW := eu (aC Xu (aC (GK _ _) (aC (Hr _ _ _ _ _) (gh qp pe))))
theorem Tu {c d : Cu} (hcd : ep c d = true → c.m = d.m) (h1 : c.n < 2 ^ 30) (h2 : c.m < 2 ^ 30) (h3 : d.n < 2 ^ 30) (h4 : d.m < 2 ^ 30) (K : Nat) : az P rP K [cQ c 100 460, cQ d 100 460] [] (aF (.tuple [dU (oS c d) 130 1400, .int .i64 (nL c d)]) []) := by
 refine bD (r := aF (.tuple [dU (oS c d) 130 1400, .int .i64 (nL c d)]) []) hT MJ hm adw rfl (of_decide_eq_true (by kernel_rfl)) rfl 60 RV (fun _ => ?_) K []
 have q1 : Max.max 1 (aS (Int.natAbs 1)) = 1 := by decide
 simp only [aa.all, ax, q1]
 refine ⟨fun h => ⟨⟨by omega, by omega, h⟩, fun _ => ⟨by omega, by omega, HG (ML h)⟩, fun h' => absurd h' (by decide)⟩, fun h => ⟨⟨by omega, by omega, h, by omega, by omega, cI (by decide), cI (by decide), by omega, by omega⟩, fun h' => ⟨by omega, by omega, HG ?_⟩, fun h' => ?_⟩⟩
 ·have h2 : (!iS c.n c.k d.n d.k) = true := h'
  rw [KQ h]; simpa using h2
 ·have h2 : (!iS c.n c.k d.n d.k) = false := h'
  have hok : ep c d = true := by rw [KQ h]; simpa using h2
  (repeat' with_reducible refine And.intro ?_ ?_)
  all_goals first | omega | (with_reducible exact cI (Nat.le_refl _)) | (with_reducible exact lD (Nat.le_refl _)) | decide | skip
  refine Tj (by decide) hok (hcd hok) (.refl _) (gC fun j _ => ?_) (gC fun j _ => ?_)
  ·show bn (bw (fc _ (c.f j)) 1400) _
   rw [KO]; exact .refl _
  ·show bn (bw (fc _ (d.f j)) 1400) _
   rw [KO]; exact .refl _
theorem ac1 : ∀ K args pre r, HB K args pre = some r → az P rP K args pre r := dP fun _ K hn => Tu hn.1 hn.2.1 hn.2.2.1 hn.2.2.2.1 hn.2.2.2.2 K
theorem Uf : aW P Ee := eu (aC (Hr _ _ _ _ _) (aC ac1 qp))
def dg (c : Cu) (v : V3) : Sf := ⟨1, c.p, 4, dj, c.n, c.k, 2, c.m, fun i j => if i = 0 then c.f j else fc (qO v) (c.f j)⟩
theorem acd {c : Cu} {v : V3} : BG c v = dg c v := by
 have h : ep c (uh (qO v) c) = true := by
  unfold ep iS
  simp only [Bool.and_eq_true, beq_iff_eq, decide_eq_true_eq]
  exact ⟨rfl, rfl, fun _ _ => rfl⟩
 unfold BG oS
 rw [h]; rfl
theorem abQ {c : Cu} {v : V3} (h1 : c.n < 2 ^ 30) (h2 : c.m < 2 ^ 30) (K : Nat) : az P tM K [cQ c 64 64, vA v 64] [] (aF (dU (dg c v) 130 1400) []) := by
 rw [← acd]
 refine bD (r := aF (dU (BG c v) 130 1400) []) hT Uf hm Qb rfl (of_decide_eq_true (by kernel_rfl)) rfl 60 Mn (fun _ => ?_) K []
 have q1 : Max.max 1 (aS (Int.natAbs 1)) = 1 := by decide
 simp only [aa.all, ax, q1]
 (repeat' with_reducible refine And.intro ?_ ?_)
 all_goals first | omega | decide | (with_reducible exact cI (by decide)) | (with_reducible exact lD (by decide)) | exact (fun _ => trivial) | exact .refl _
def JQ : Spec := dM (kC (lf 64 64) (kC (u7 64) kN)) (fun a => dU (dg a.1 a.2.1) 130 1400) fun a => [a.1.n < 2 ^ 30, a.1.m < 2 ^ 30]
theorem ZB : ∀ K args pre r, JQ K args pre = some r → az P tM K args pre r := dP fun _ K hn => abQ hn.1 hn.2 K
theorem adO {v : V3} {p : Pl} : fc (qO v) p = ⟨⟨p.n.x + v.x, p.n.y + v.y, p.n.z + v.z⟩, p.d⟩ := by
 obtain ⟨⟨x, y, z⟩, w⟩ := p
 obtain ⟨a, b, c⟩ := v
 show (⟨⟨0 + 1 * x + 0 * y + 0 * z + a, 0 + 0 * x + 1 * y + 0 * z + b, 0 + 0 * x + 0 * y + 1 * z + c⟩, w⟩ : Pl) = ⟨⟨x + a, y + b, z + c⟩, w⟩
 congr 2 <;> grind
theorem tL : Kn 4 1 dj := by
 refine ⟨by omega, by omega, fun i hi => ?_, fun i hi => ?_, fun i h1 h2 => ?_, fun i h1 h2 => ?_⟩
 ·match i, hi with
  | 0, _ | 1, _ | 2, _ => decide +kernel
 ·match i, hi with
  | 0, _ | 1, _ => rfl
 ·match i, h1, h2 with
  | 2, _, _ | 3, _, _ => rfl
 ·match i, h1, h2 with
  | 1, _, _ => decide +kernel
theorem Ok : Kn 6 1 (fG 4) := by
 refine ⟨by omega, by omega, fun i hi => ?_, fun i hi => ?_, fun i h1 h2 => ?_, fun i h1 h2 => ?_⟩
 ·match i, hi with
  | 0, _ | 1, _ | 2, _ | 3, _ | 4, _ => decide +kernel
 ·match i, hi with
  | 0, _ | 1, _ => rfl
 ·match i, h1, h2 with
  | 4, _, _ | 5, _, _ => rfl
 ·match i, h1, h2 with
  | 1, _, _ | 2, _, _ | 3, _, _ => decide +kernel
theorem pF {k : Nat → Rat} {i : Nat} {t : Rat} : vB k i t 1 0 = 1 - fr (k i) (k (i + 1)) t ∧ vB k i t 1 1 = fr (k i) (k (i + 1)) t := by
 have z : ∀ j, vB k i t 0 j = if j = 0 then 1 else 0 := fun j => by unfold vB; rfl
 constructor
 ·rw [zZ, z 0, if_pos rfl, show i - 0 = i by omega]; grind
 ·rw [yq, z 0, z 1, if_pos rfl, if_neg (by omega), show i - 0 + 0 = i by omega, show i + (0 + 1) = i + 1 by omega]; grind
theorem sO {u : Rat} : fr (dj 1) (dj 2) u = u := by
 have h := zx (a := (0 : Rat)) (b := 1) (t := u) (by decide +kernel)
 show fr 0 1 u = u
 grind
theorem Xe {c : Cu} {v : V3} {u : Rat} {j : Nat} (hin : ¬ bL 4 dj u) : cq (fK (dg c v) j) u = ⟨⟨(c.f j).d * ((c.f j).n.x + u * v.x), (c.f j).d * ((c.f j).n.y + u * v.y), (c.f j).d * ((c.f j).n.z + u * v.z)⟩, (c.f j).d⟩ := by
 have o1 : ¬ u < dj 0 := fun h => hin (.inl h)
 have o2 : ¬ dj (4 - 1) < u := fun h => hin (.inr h)
 obtain ⟨hi, hi2, hi3⟩ := tL.xG (t := u) (by grind) (by grind)
 obtain ⟨i, hI⟩ : ∃ i, i = bT 4 dj u := ⟨_, rfl⟩
 rw [← hI] at hi hi2 hi3
 have i1 : i = 1 := by omega
 subst i1
 unfold cq
 rw [show (fK (dg c v) j).p.toNat = 1 from rfl, show bT (fK (dg c v) j).n (fK (dg c v) j).k u = 1 from hI.symm]
 unfold nu
 have e0 : (dg c v).f (1 - 1 + 0) j = c.f j := rfl
 have e1 : (dg c v).f (1 - 1 + 1) j = ⟨⟨(c.f j).n.x + v.x, (c.f j).n.y + v.y, (c.f j).n.z + v.z⟩, (c.f j).d⟩ := adO
 have e2 : fr ((dg c v).ku 1) ((dg c v).ku (1 + 1)) u = u := sO
 simp only [bB, pF.1, pF.2]
 rw [e0, e1, e2]
 congr 1
 ·congr 1 <;> grind
 ·grind
theorem Pa {c : Cu} {n : Nat} {k x : Nat → Rat} {b m : Nat} (hx : ∀ j, 0 ≤ x j) (hw : ∀ j, j < m → 1 ≤ (c.f (b + j)).d) : bB m x ≤ bB m fun j => x j * (c.f (b + j)).d := by
 induction m with
 | zero => exact Rat.le_refl
 | succ m ih =>
  have h1 := ih fun j hj => hw j (by omega)
  have h2 := Rat.mul_le_mul_of_nonneg_left (hw m (by omega)) (hx m)
  show bB m x + x m ≤ bB m (fun j => x j * (c.f (b + j)).d) + x m * (c.f (b + m)).d
  grind
theorem Au {w X : Rat} (h : w ≠ 0) : w * (((1 : Int) : Rat) / w * (w * X)) = w * X := by
 show w * (1 / w * (w * X)) = w * X
 have : w * (1 / w) = 1 := by rw [Rat.div_def, Rat.one_mul, Rat.mul_inv_cancel w h]
 grind
theorem Vy {c : Cu} {v : V3} {u t : Rat} (hkn : Kn c.n c.p.toNat c.k) (hin : ¬ bL 4 dj u) (ht : ¬ bL c.n c.k t) (hw : ∀ j, j < c.m → 1 ≤ (c.f j).d) (hiv : bT c.n c.k t - c.p.toNat + (c.p.toNat + 1) ≤ c.m) :
  dZ (ff (dg c v) u) t = ⟨(dZ c t).x + u * v.x, (dZ c t).y + u * v.y, (dZ c t).z + u * v.z⟩ := by
 have hne : ∀ j, j < c.m → (c.f j).d ≠ 0 := fun j hj h => by have := hw j hj; rw [h] at this; exact absurd this (by decide +kernel)
 have key : cq (ff (dg c v) u) t = ⟨⟨(cq c t).n.x + u * v.x * (cq c t).d, (cq c t).n.y + u * v.y * (cq c t).d, (cq c t).n.z + u * v.z * (cq c t).d⟩, (cq c t).d⟩ := by
  have hp : ∀ i, i < c.m → ((ff (dg c v) u).f i).d * ((ff (dg c v) u).f i).n.x = (c.f i).d * (c.f i).n.x + u * v.x * (c.f i).d ∧ ((ff (dg c v) u).f i).d * ((ff (dg c v) u).f i).n.y = (c.f i).d * (c.f i).n.y + u * v.y * (c.f i).d ∧
    ((ff (dg c v) u).f i).d * ((ff (dg c v) u).f i).n.z = (c.f i).d * (c.f i).n.z + u * v.z * (c.f i).d ∧ ((ff (dg c v) u).f i).d = (c.f i).d := fun i hi => by
   show (cq (fK (dg c v) i) u).d * (gv (cq (fK (dg c v) i) u)).x = _ ∧ (cq (fK (dg c v) i) u).d * (gv (cq (fK (dg c v) i) u)).y = _ ∧ (cq (fK (dg c v) i) u).d * (gv (cq (fK (dg c v) i) u)).z = _ ∧ (cq (fK (dg c v) i) u).d = _
   rw [Xe hin]
   unfold gv
   dsimp only
   rw [Au (hne i hi), Au (hne i hi), Au (hne i hi)]
   exact ⟨by grind, by grind, by grind, rfl⟩
  have e1 : ∀ {r a b s : Rat}, r * (a + s * b) = r * a + s * (r * b) := fun {r a b s} => by grind
  unfold cq
  rw [show (ff (dg c v) u).p = c.p from rfl, show (ff (dg c v) u).n = c.n from rfl, show (ff (dg c v) u).k = c.k from rfl]
  generalize vB c.k (bT c.n c.k t) t c.p.toNat = x
  generalize bT c.n c.k t - c.p.toNat = b at *
  generalize c.p.toNat + 1 = m at *
  unfold nu
  simp only [Pl.mk.injEq, V3.mk.injEq]
  refine ⟨⟨?_, ?_, ?_⟩, kq fun j hj => by rw [(hp _ (by omega)).2.2.2]⟩
  ·rw [← xw, ← qo]; exact kq fun j hj => by rw [(hp _ (by omega)).1, e1]
  ·rw [← xw, ← qo]; exact kq fun j hj => by rw [(hp _ (by omega)).2.1, e1]
  ·rw [← xw, ← qo]; exact kq fun j hj => by rw [(hp _ (by omega)).2.2.1, e1]
 have o1 : ¬ t < c.k 0 := fun h => ht (.inl h)
 have o2 : ¬ c.k (c.n - 1) < t := fun h => ht (.inr h)
 obtain ⟨hi, hi2, hi3⟩ := hkn.xG (t := t) (by grind) (by grind)
 have hpos : 1 ≤ (cq c t).d := by
  have h1 := Pa (c := c) (n := 0) (k := c.k) (x := vB c.k (bT c.n c.k t) t c.p.toNat) (b := bT c.n c.k t - c.p.toNat) (m := c.p.toNat + 1) (Iv hi.at_ hi.lo hi.hi (by omega) (by omega)) (fun j hj => hw _ (by omega))
  rw [GI] at h1
  exact h1
 have hE : dZ (ff (dg c v) u) t = gv (cq (ff (dg c v) u) t) := if_neg ht
 rw [hE, key]
 unfold dZ
 rw [if_neg ht]
 unfold gv
 dsimp only
 have hd : (cq c t).d ≠ 0 := fun h => by rw [h] at hpos; exact absurd hpos (by decide +kernel)
 rw [show ((1 : Int) : Rat) = 1 from rfl]
 have e : 1 / (cq c t).d * (cq c t).d = 1 := by rw [Rat.div_def, Rat.one_mul, Rat.inv_mul_cancel _ hd]
 generalize 1 / (cq c t).d = r at *
 generalize (cq c t).d = w at *
 congr 1 <;> grind
theorem drop_one {P : V3} {h : Pl} (e : h = ⟨P, 1⟩) : gv h = P := by
 subst e
 obtain ⟨x, y, z⟩ := P
 have : ((1 : Int) : Rat) / 1 = 1 := by decide +kernel
 unfold gv
 dsimp only
 rw [this, Rat.one_mul, Rat.one_mul, Rat.one_mul]
theorem Bf {e : Cu} {t : Rat} {i : Nat} {P : V3} (hp : e.p.toNat = 1) (hi : bT e.n e.k t = i) (hf : fr (e.k i) (e.k (i + 1)) t = 0) (hP : e.f (i - 1 + 0) = ⟨P, 1⟩) : cq e t = ⟨P, 1⟩ := by
 obtain ⟨x, y, z⟩ := P
 unfold cq
 rw [hp, hi]
 unfold nu
 simp only [bB, pF.1, pF.2]
 rw [hf, hP]
 congr 1
 ·congr 1 <;> grind
 ·grind
theorem LF {e : Cu} {t : Rat} {i : Nat} {P : V3} (hp : e.p.toNat = 1) (hi : bT e.n e.k t = i) (hf : fr (e.k i) (e.k (i + 1)) t = 1) (hP : e.f (i - 1 + 1) = ⟨P, 1⟩) : cq e t = ⟨P, 1⟩ := by
 obtain ⟨x, y, z⟩ := P
 unfold cq
 rw [hp, hi]
 unfold nu
 simp only [bB, pF.1, pF.2]
 rw [hf, hP]
 congr 1
 ·congr 1 <;> grind
 ·grind
theorem yB : (¬ bL 4 dj 0) ∧ ¬ bL 4 dj 1 := ⟨by rintro (h | h) <;> revert h <;> decide +kernel, by rintro (h | h) <;> revert h <;> decide +kernel⟩
theorem abO {a b p q : V3} : dZ (ff (fA a b p q) 1) 0 = b := by
 have h1 : ∀ j, cq (fK (fA a b p q) j) 1 = ⟨if j = 0 then b else q, 1⟩ := fun j => LF (i := 1) rfl (by show bT 4 dj 1 = 1; decide +kernel) (by show fr (dj 1) (dj 2) 1 = 1; exact sO) rfl
 have e : cq (ff (fA a b p q) 1) 0 = ⟨b, 1⟩ := Bf (i := 1) rfl (by show bT 4 dj 0 = 1; decide +kernel) (by show fr (dj 1) (dj 2) 0 = 0; exact sO) (by
  show (⟨gv (cq (fK (fA a b p q) 0) 1), (cq (fK (fA a b p q) 0) 1).d⟩ : Pl) = _
  rw [drop_one (h1 0), h1 0]; rfl)
 exact (if_neg (show ¬ bL (ff (fA a b p q) 1).n (ff (fA a b p q) 1).k 0 from yB.1)).trans (drop_one e)
theorem Vw {a b p q : V3} : dZ (ff (fA a b p q) 0) 1 = p := by
 have h1 : ∀ j, cq (fK (fA a b p q) j) 0 = ⟨if j = 0 then a else p, 1⟩ := fun j => Bf (i := 1) rfl (by show bT 4 dj 0 = 1; decide +kernel) (by show fr (dj 1) (dj 2) 0 = 0; exact sO) rfl
 have e : cq (ff (fA a b p q) 0) 1 = ⟨p, 1⟩ := LF (i := 1) rfl (by show bT 4 dj 1 = 1; decide +kernel) (by show fr (dj 1) (dj 2) 1 = 1; exact sO) (by
  show (⟨gv (cq (fK (fA a b p q) 1) 0), (cq (fK (fA a b p q) 1) 0).d⟩ : Pl) = _
  rw [drop_one (h1 1), h1 1]; rfl)
 exact (if_neg (show ¬ bL (ff (fA a b p q) 0).n (ff (fA a b p q) 0).k 1 from yB.2)).trans (drop_one e)
theorem O9 {g : Nat → V3} : dZ (jZ 4 g) 2 = g 2 := by
 have e : cq (jZ 4 g) 2 = ⟨g 2, 1⟩ := Bf (i := 3) rfl (by show bT 6 (fG 4) 2 = 3; decide +kernel) (by show fr (fG 4 3) (fG 4 4) 2 = 0; decide +kernel) rfl
 have hin : ¬ bL 6 (fG 4) 2 := by rintro (h | h) <;> revert h <;> decide +kernel
 exact (if_neg (show ¬ bL (jZ 4 g).n (jZ 4 g).k 2 from hin)).trans (drop_one e)
end Go.Am.B
