/- The points of surfaces; of surfaces of revolution. -/
import Derived.Test.YtbghpkgbokbmlaaGreatY48
import Derived.Test.YtbghpkgbokbmlaaGreatY49
import Derived.Test.YtbghpkgbokbmlaaGreatC9
import Derived.Test.YtbghpkgbokbmlaaGreatZ2
set_option linter.unusedVariables false
namespace Go.Am.B
open Go Go.Am.N AV aa aj IntKind
def hU (q i : Nat) : Nat := min ((i - 1) / 2) q
theorem lg {q i : Nat} : dP q i = ((hU q i : Nat) : Rat) := rfl
theorem YI {q i j : Nat} (h : hU q i ≤ hU q j) : dP q i ≤ dP q j := by rw [lg, lg]; exact_mod_cast h
theorem UM {q i j : Nat} (h : hU q i < hU q j) : dP q i < dP q j := by rw [lg, lg]; exact_mod_cast h
theorem Wk {q : Nat} (hq : 1 ≤ q) : Kn (2 * q + 4) 2 (dP q) := by
 refine ⟨by omega, by omega, fun i hi => YI ?_, fun i hi => ?_, fun i h1 h2 => ?_, fun i h1 h2 => UM ?_⟩
 ·unfold hU; omega
 ·have : hU q i = hU q 0 := by unfold hU; omega
  rw [lg, lg, this]
 ·have : hU q i = hU q (2 * q + 4 - 1) := by unfold hU; omega
  rw [lg, lg, this]
 ·unfold hU; omega
structure Turn (q : Nat) (u C S D : Rat) : Prop where
 ne : D ≠ 0
 sq : C * C + S * S = D * D
 lo : u = 0 → C = D ∧ S = 0
 hi : u = (q : Rat) → C = D * cX (2 * q) ∧ S = D * cY (2 * q)
abbrev PM (c : Cu) (q : Nat) : Sf := ⟨2, c.p, 2 * q + 4, dP q, c.n, c.k, 2 * q + 1, c.m, e8 c⟩
end Go.Am.B

/- brepkernelmade: pole, Curve. -/
namespace Go.Am.B
open Go Go.Am.N AV aa aj IntKind
theorem aaT : aN P yJ qQ (au qQ) := aK Mk (by kernel_rfl) (by kernel_rfl) (by kernel_rfl)
theorem Fw : aN P uV qP (au qP) := aK XE (by kernel_rfl) (by kernel_rfl) (by kernel_rfl)
def Ed : aO := [(lV, fO pA), (tL, fO yt), (ir, pZ)]
def p7 (n : Nat) (f : Nat → AV) (a : Int) (b : Bool) : Pl := ⟨⟨dN n f a, dN n f (cK n f a), if b = true then 0 else dN n f (cK n f (cK n f a))⟩, ((1 + bO n f (fy n f a) 3 : Int) : Rat)⟩
def z8 (n : Nat) (f : Nat → AV) (a : Int) : Int := bh n (fy n f a)
def Cf (n : Nat) (f : Nat → AV) (a : Int) (l : List AV) : Option (AV × Int × List Prop) := match l with
 | [.bool b] => some (cU (p7 n f a b) 64, z8 n f a, [])
 | _ => none
def xY : aO := nG :: (lV, fO pA) :: (tv, fO zZ) :: (yJ, fO Cf) :: []
abbrev u9 : List Nat := [0, 3, 8, 9, 10]
abbrev Bn (b : Bool) (i : Nat) : List AV := [.ptr 0 0 2 0 [], .bool b, .ptr 1 0 3 0 [], .ptr 2 0 3 0 [], .int .i64 i]
abbrev zo (n : Nat) (z : Nat → Int) (a p : Int) (N : Nat) (k : Nat → Rat) (f : Nat → Pl) (j : Nat) : aC :=
 [(3, ⟨true, true, 12, j, fun i => cU (f i) 64⟩), (2, ⟨false, true, 3, 1, fun _ => .agg [.int .i64 p, bP k N 64, .own 3 12 0 j]⟩), (1, ⟨false, true, 3, 1, fun _ => .agg [.int .i64 0, .nil, .nil]⟩), (0, iC n z a)]
noncomputable abbrev uj : Code := au qP
theorem SA {n : Nat} {z : Nat → Int} {a : Int} {b : Bool} : oC T Ed [8] 60 qQ (au qQ) ⟨aL 0 [.ptr 0 0 2 0 [], .bool b], [(0, iC n z a)], 1⟩ =
  let c9 : Int := cK n (fun i ↦ int i64 (z i)) a; let c8 : AV := rat (dN n (fun i ↦ int i64 (z i)) a) 64; let c6 : Int := fy n (fun i ↦ int i64 (z i)) a; let c4 : Prop := 0 < 1; let c5 : AV := rat (dN n (fun i ↦ int i64 (z i)) c9) 64; let c3 : Option aB := some (aB.mk false true 2 1 fun x ↦ agg [ag 1 n fun i ↦ int i64 (z i), int i64 (bh n c6)]); let c1 : Int := i64.wrap ((1 : Int) + (bO n (fun i ↦ int i64 (z i)) c6 (3 : Int)).tmod (3 : Int)); let c7 : AV := rat (↑c1 : Rat) (Max.max 1 (aQ c1.natAbs)); let c2 : List Prop := [c4, bY n (fun i ↦ int i64 (z i)) c6, (0 : Int) < (3 : Int), (3 : Int) < (2 : Int) ^ 62, (3 : Int) ≠ (0 : Int), -(2 : Int) ^ 63 ≤ c1, c1 < (2 : Int) ^ 63, c4]; some (af [bY n (fun i ↦ int i64 (z i)) a, c4] (fork b (af [(0 : Int) ≤ (2 : Int) ∧ (2 : Int) < (↑(3 : Nat) : Int), c4] (af c2 (af [c4] (leaf ret ([agg [agg [c8, c5, agg [AV.bool false, mag 0, mag 0]], c7]], c3))))) (af c2 (af [c4] (leaf ret ([agg [agg [c8, c5, rat (dN n (fun i ↦ int i64 (z i)) (cK n (fun i ↦ int i64 (z i)) c9)) 64], c7]], c3)))))) := by kernel_rfl
theorem QA {n : Nat} {z : Nat → Int} {a p m : Int} {b : Bool} : aH T xY [] 60 u9 (before uj [1,1,1,0,1]) ⟨aL 0 [.ptr 0 0 2 0 [], .int .i64 p, .int .i64 m, .bool b], [(0, iC n z a)], 1⟩ =
  let c4 : Prop := 0 < 1; let c2 : AV := agg [int i64 (0 : Int), nil, nil]; let c1 : Int := (1 : Int) + bO n (fun i ↦ int i64 (z i)) a p; let c3 : AV := br (agg (c2.kids.set 0 (br (int i64 c1)))); some (af [bY n (fun i ↦ int i64 (z i)) a, (0 : Int) < p, p < (2 : Int) ^ 62, -(2 : Int) ^ 63 ≤ c1 ∧ c1 < (2 : Int) ^ 63, c4] (af [c4, bY n (fun i ↦ int i64 (z i)) (bh n a), (1 : Int) ≤ c1, c1 < (1000 : Int), (0 : Int) ≤ m, m < (1000 : Int), c4] (leaf normal ([ptr 0 0 2 0 [], AV.bool b, ptr 1 0 3 0 [], ptr 24577 0 3 0 [], int i64 (0 : Int)], [((24577 : Nat), aB.mk false true 3 1 fun j ↦ if (j == 0) = true then agg ((if ((0 : Nat) == 0) = true then c3 else c2).kids.set 1 (br (bP (oG n (fun i ↦ int i64 (z i)) (bh n a) c1.toNat m.toNat) (mD n (fun i ↦ int i64 (z i)) (bh n a) c1.toNat m.toNat) 64))) else if (j == 0) = true then c3 else c2), ((1 : Nat), aB.mk false true 3 1 fun x ↦ c2), ((0 : Nat), aB.mk false true 2 1 fun x ↦ agg [ag 1 n fun i ↦ int i64 (z i), int i64 (m0 n (fun i ↦ int i64 (z i)) (bh n a) c1.toNat m.toNat)])])))) := by kernel_rfl
theorem Sn {n N j : Nat} {z : Nat → Int} {a p : Int} {k : Nat → Rat} {f : Nat → Pl} {b : Bool} : aH T xY [30] 60 u9 [part uj [1,1,1,0,1,0,0]] ⟨az u9 (Bn b j), zo n z a p N k f j, 4⟩ =
  let c15 : Int := (↑j : Int); let c14 : Int := (↑N : Int) - p; let c13 : Int := cK n (fun i ↦ int i64 (z i)) a; let c12 : AV := own 3 12 0 j; let c11 : AV := ag 1 n fun i ↦ int i64 (z i); let c9 : AV := ptr 2 0 3 0 []; let c8 : AV := ptr 1 0 3 0 []; let c7 : AV := ptr 0 0 2 0 []; let c6 : Prop := 0 < 1; let c5 : AV := rat 0 1; let c2 : Nat × aB := ((1 : Nat), aB.mk false true 3 1 fun x ↦ agg [int i64 (0 : Int), nil, nil]); let c1 : Int := (2 : Int) ^ 63; let c10 : Int := c15 + (1 : Int); let c4 : Int := c14 - (1 : Int); let c3 : AV := agg [int i64 p, bP k N 64, c12]; some (af [c6, c6, -c1 ≤ c14 ∧ c14 < c1, -c1 ≤ c4 ∧ c4 < c1] (fork (decide (c15 < c4)) (af [c6, bY n (fun i ↦ int i64 (z i)) a, (1 : Nat) * 12 ≤ 2 ^ 24, (j + 1) * ((224 : Nat) + 1) * 2 ≤ 2 ^ 47, c6] (af [-c1 ≤ c10 ∧ c10 < c1] (leaf normal ([c7, AV.bool b, c8, c9, int i64 c10], [((61444 : Nat), aB.mk true true 12 (j + 1) fun i ↦ if i < j then cU (f i) 64 else nth [agg [agg [rat (dN n (fun i ↦ int i64 (z i)) a) 64, rat (dN n (fun i ↦ int i64 (z i)) c13) 64, rat (if b = true then 0 else dN n (fun i ↦ int i64 (z i)) (cK n (fun i ↦ int i64 (z i)) c13)) 64], rat (↑((1 : Int) + bO n (fun i ↦ int i64 (z i)) (fy n (fun i ↦ int i64 (z i)) a) (3 : Int)) : Rat) 64]] (agg [agg [c5, c5, c5], c5]) (i - j + 0)), ((2 : Nat), aB.mk false true 3 1 fun j_1 ↦ if (j_1 == 0) = true then agg (c3.kids.set 2 (br (own (nat_lit 61443 + 1) 12 0 (j + 1)))) else c3), c2, ((0 : Nat), aB.mk false true 2 1 fun x ↦ agg [c11, int i64 (z8 n (fun i ↦ int i64 (z i)) a)])])))) (leaf (exit 0) ([c7, AV.bool b, c8, c9, int i64 c15], [((3 : Nat), aB.mk true true 12 j fun i ↦ agg [agg [rat (f i).n.x 64, rat (f i).n.y 64, rat (f i).n.z 64], rat (f i).d 64]), ((2 : Nat), aB.mk false true 3 1 fun x ↦ agg [int i64 p, ag 3 N fun i ↦ rat (k i) 64, c12]), c2, ((0 : Nat), aB.mk false true 2 1 fun x ↦ agg [c11, int i64 a])])))) := by kernel_rfl
theorem Zi {n N j : Nat} {z : Nat → Int} {a p : Int} {k : Nat → Rat} {f : Nat → Pl} {b : Bool} : wv T xY [] 60 qP [part uj [1,1,1,1]] ⟨az u9 (Bn b j), zo n z a p N k f j, 4⟩ =
  let c1 : Prop := 0 < 1; some (af [c1, c1] (af [c1] (leaf ret ([agg [int i64 p, ag 3 N fun i ↦ rat (k i) 64, ag 12 j fun i ↦ agg [agg [rat (f (i + 0)).n.x 64, rat (f (i + 0)).n.y 64, rat (f (i + 0)).n.z 64], rat (f (i + 0)).d 64]]], some (aB.mk false true 2 1 fun x ↦ agg [ag 1 n fun i ↦ int i64 (z i), int i64 a]))))) := by kernel_rfl
theorem XR : aV P Ed := aD vS (aD HW (aD vK aU))
theorem PE : ∀ K args pre r, fO Cf K args pre = some r → aA P yJ K args pre r := by
 refine pC fun {k n z a l v b q o} K hg ho hd hq => ?_
 unfold Cf at hg
 split at hg
 ·rename_i b
  simp only [Option.some.injEq, Prod.mk.injEq] at hg
  obtain ⟨rfl, rfl, rfl⟩ := hg
  refine xO hT XR hm aaT rfl rfl (of_decide_eq_true (by kernel_rfl)) ho 60 SA (fun _ => ?_) K
  have a1 := gW (n := n) (f := fun i => .int .i64 (z i)) (a := fy n (fun i => .int .i64 (z i)) a) (m := 3) (by omega)
  have a2 := gN (n := n) (f := fun i => .int .i64 (z i)) (a := fy n (fun i => .int .i64 (z i)) a) (m := 3) (by omega)
  unfold p7
  generalize bO n (fun i => .int .i64 (z i)) (fy n (fun i => .int .i64 (z i)) a) 3 = x at *
  have e1 : x.tmod 3 = x := by rw [Int.tmod_eq_of_lt a1 a2]
  have e2 : i64.wrap (1 + x) = 1 + x := wrap_i64 (by omega) (by omega)
  simp only [aa.all, ax, e1, e2]
  have hw : bu (.rat ((1 + x : Int) : Rat) (max 1 (aQ (1 + x).natAbs))) (.rat ((1 + x : Int) : Rat) 64) := eu rfl (yQ (y := 0) (by omega) (by omega))
  refine ⟨⟨hd, by omega⟩, fun hb => ⟨by omega, ⟨by omega, hd.mB, by omega, by omega, by omega, by omega, by omega, by omega⟩, by omega, ?_, _, rfl, rfl, kK rfl rfl⟩, fun hb => ⟨⟨by omega, hd.mB, by omega, by omega, by omega, by omega, by omega, by omega⟩, by omega, ?_, _, rfl, rfl, kK rfl rfl⟩⟩
  ·rw [if_pos hb]
   exact cE ⟨cE ⟨.refl _, .refl _, jS (q := (0 : Rat)) ⟨by decide, by decide⟩ rfl rfl rfl, trivial⟩, hw, trivial⟩
  ·rw [if_neg (by rw [hb]; decide)]
   exact cE ⟨.refl _, hw, trivial⟩
 ·simp at hg
theorem FC : aV P xY := eF (aD vS (aD KN (aD PE aU)))
def jE (n : Nat) (f : Nat → AV) (a : Int) : Nat → Int
 | 0 => a
 | j + 1 => z8 n f (jE n f a j)
theorem bY.qm {n : Nat} {f : Nat → AV} {a : Int} (h : bY n f a) : ∀ j, bY n f (jE n f a j)
 | 0 => h
 | j + 1 => (h.qm j).mB.next
theorem bY.fM {n : Nat} {f : Nat → AV} {a : Int} {p m : Nat} (h : bY n f a) (hp : 1 ≤ p) : bY n f (m0 n f a p m) := (yo h hp _).2
def jY (n : Nat) (f : Nat → AV) (a d : Int) : Nat := (1 + bO n f a d).toNat
def o5 (n : Nat) (f : Nat → AV) (a d : Int) (m : Nat) : Int := m0 n f (bh n a) (jY n f a d) m
def fN (n : Nat) (f : Nat → AV) (a d : Int) (m : Nat) (b : Bool) : Cu :=
 ⟨(jY n f a d : Nat), mD n f (bh n a) (jY n f a d) m, oG n f (bh n a) (jY n f a d) m, jY n f a d + 1 + iH n f (bh n a) m, fun i => p7 n f (jE n f (o5 n f a d m) i) b⟩
def Br (n : Nat) (f : Nat → AV) (a d : Int) (m : Nat) : Int := jE n f (o5 n f a d m) (jY n f a d + 1 + iH n f (bh n a) m)
def B6 (n : Nat) (f : Nat → AV) (a : Int) (l : List AV) : Option (AV × Int × List Prop) := match l with
 | [.int .i64 d, .int .i64 m, .bool b] => some (er (fN n f a d m.toNat b) 64 64, Br n f a d m.toNat, [1 ≤ d, d < 900, 0 ≤ m, m < 900])
 | _ => none
theorem Dh {n : Nat} {f : Nat → AV} {a : Int} {m : Nat} : iH n f a m ≤ m := by
 have h1 := gW (n := n) (f := f) (a := bh n a) (m := m + 1) (by omega)
 have h2 := gN (n := n) (f := f) (a := bh n a) (m := m + 1) (by omega)
 unfold iH; omega
theorem Qn {k n m : Nat} {z : Nat → Int} {a d : Int} {b : Bool} {o : aB} (ho : ∀ ρ, cy ρ o (iC n z a)) (h : bY n (fun i => .int .i64 (z i)) a) (hd1 : 1 ≤ d) (hd2 : d < 900) (hm2 : m < 900) (K : Nat) :
  aA P uV K [.ptr k 0 2 0 [], .int .i64 d, .int .i64 m, .bool b] [(k, o)] ⟨er (fN n (fun i => .int .i64 (z i)) a d m b) 64 64, [(k, iC n z (Br n (fun i => .int .i64 (z i)) a d m))], []⟩ := by
 refine Ff hT Fw rfl rfl (of_decide_eq_true (by kernel_rfl)) ho (fun _ c hk => ?_) K
 have a1 := gW (n := n) (f := fun i => .int .i64 (z i)) (a := a) (m := d) (by omega)
 have a2 := gN (n := n) (f := fun i => .int .i64 (z i)) (a := a) (m := d) (by omega)
 have hJ := Dh (n := n) (f := fun i => .int .i64 (z i)) (a := bh n a) (m := m)
 unfold fN Br o5 jY
 obtain ⟨p, hp⟩ : ∃ p, p = (1 + bO n (fun i => .int .i64 (z i)) a d).toNat := ⟨_, rfl⟩
 have hp2 : 1 + bO n (fun i => .int .i64 (z i)) a d = (p : Int) := by omega
 rw [← hp]
 have hB := (h.next.fM (p := p) (m := m) (by omega))
 obtain ⟨N, hN⟩ : ∃ N, N = mD n (fun i => .int .i64 (z i)) (bh n a) p m := ⟨_, rfl⟩
 obtain ⟨kk, hkk⟩ : ∃ kk, kk = oG n (fun i => .int .i64 (z i)) (bh n a) p m := ⟨_, rfl⟩
 obtain ⟨B, hB2⟩ : ∃ B, B = m0 n (fun i => .int .i64 (z i)) (bh n a) p m := ⟨_, rfl⟩
 have hN2 : N = 2 * p + 2 + iH n (fun i => .int .i64 (z i)) (bh n a) m := hN
 rw [← hN, ← hkk, ← hB2]
 rw [← hB2] at hB
 generalize iH n (fun i => .int .i64 (z i)) (bh n a) m = J at *
 refine ak.iM hT FC hm [1,1,1,0,1] (i := 0) (y := part uj [1,1,1,0,1,0,0]) (z := part uj [1,1,1,1]) (by kernel_rfl) (by kernel_rfl) (by kernel_rfl) Fw.dst hk (f1 := []) (f2 := [30]) 60 u9 4 (fun j : Nat => Bn b j)
  (fun j => zo n z (jE n (fun i => .int .i64 (z i)) B j) p N kk (fun i => p7 n (fun i => .int .i64 (z i)) (jE n (fun i => .int .i64 (z i)) B i) b) j) (fun j => j ≤ p + 1 + J) (fun j => j = p + 1 + J) (fun j => p + 1 + J - j) (fun _ => False) ⟨_, QA, ?_⟩ (fun j hj => ⟨_, Sn, ?_⟩) (fun j hj => ?_) (fun _ _ h => h.elim)
 ·simp only [aa.all, ax, hp2, Int.toNat_natCast]
  rw [← hN, ← hkk, ← hB2]
  exact ⟨⟨h, by omega, by omega, by omega, by omega⟩, ⟨by omega, h.next, by omega, by omega, by omega, by omega, by omega⟩, 0, Nat.zero_le _, [(0, 0), (1, 1), (2, 24577)], rfl, rfl, rfl,
   oc rfl (by omega) (by omega) (aT rfl rfl (wU ⟨⟨rfl, aF rfl⟩, ⟨rfl, aF rfl⟩, ⟨rfl, yh (by omega)⟩, trivial⟩) (aT rfl rfl (aP rfl rfl) (aT rfl rfl (aP rfl rfl) trivial)))⟩
 ·simp only [aa.all, ax, decide_eq_true_eq, decide_eq_false_iff_not]
  have hv : ∀ {rl : List (Nat × Nat)} {a l : Nat}, aW rl 3 = some a → gb rl (.agg [.int .i64 p, bP kk N 64, .own a 12 0 l]) (.agg [.int .i64 p, bP kk N 64, .own 3 12 0 l]) := fun h => wU ⟨⟨rfl, aF rfl⟩, ⟨rfl, aF rfl⟩, ⟨rfl, cr h rfl rfl⟩, trivial⟩
  refine ⟨⟨by omega, by omega, by omega, by omega⟩, fun h => ⟨⟨by omega, hB.qm j, by omega, by omega, by omega⟩, by omega, j + 1, by omega, by dsimp only; omega, [(0, 0), (1, 1), (2, 2), (3, 61444)], rfl, rfl, rfl,
   b6 rfl rfl rfl (fun i hi => Wy (y := fun i => p7 n (fun i => .int .i64 (z i)) (jE n (fun i => .int .i64 (z i)) B i) b) (fun _ _ => rfl) (.refl _) rfl (Nat.le_refl _) (Nat.le_refl _) hi) (aT rfl rfl (hv rfl) (aT rfl rfl (aP rfl rfl) (aT rfl rfl (aP rfl rfl) trivial)))⟩,
   fun h => ⟨rfl, j, by omega, [(0, 0), (1, 1), (2, 2), (3, 3)], rfl, rfl, rfl, b6 rfl rfl rfl (fun _ _ => aP rfl rfl) (aT rfl rfl (hv rfl) (aT rfl rfl (aP rfl rfl) (aT rfl rfl (aP rfl rfl) trivial)))⟩⟩
 ·subst hj
  refine ak.iZ (ay.CV hT FC hm 60 Zi (by kernel_rfl) ?_)
  simp only [aa.all, ax]
  exact ⟨by omega, by omega, .refl _, _, rfl, rfl, kK rfl rfl⟩
theorem abw : ∀ K args pre r, fO B6 K args pre = some r → aA P uV K args pre r := by
 refine pC fun {k n z a l v b q o} K hg ho hd hq => ?_
 unfold B6 at hg
 split at hg
 ·rename_i d m b
  simp only [Option.some.injEq, Prod.mk.injEq] at hg
  obtain ⟨rfl, rfl, rfl⟩ := hg
  obtain ⟨h1, h2, h3, h4⟩ := hq
  have h4 : m < 900 := h4
  have := Qn (k := k) (m := m.toNat) (b := b) ho hd h1 h2 (by omega) K
  rw [Int.toNat_of_nonneg h3] at this
  exact this
 ·simp at hg
theorem TT {n m : Nat} {f : Nat → AV} {a d : Int} {b : Bool} (h : bY n f a) (hd : 1 ≤ d) : Kn (fN n f a d m b).n (fN n f a d m b).p.toNat (fN n f a d m b).k ∧ 1 ≤ (fN n f a d m b).p ∧ (fN n f a d m b).p ≤ d ∧ ((fN n f a d m b).m : Int) = ((fN n f a d m b).n : Int) - (fN n f a d m b).p - 1 ∧
  (fN n f a d m b).m ≤ (fN n f a d m b).p.toNat + 1 + m ∧ ∀ i, 1 ≤ ((fN n f a d m b).f i).d ∧ ((fN n f a d m b).f i).d ≤ 3 := by
 have a1 := gW (n := n) (f := f) (a := a) (m := d) (by omega)
 have a2 := gN (n := n) (f := f) (a := a) (m := d) (by omega)
 have hJ := Dh (n := n) (f := f) (a := bh n a) (m := m)
 unfold fN
 obtain ⟨p, hp⟩ : ∃ p, p = jY n f a d := ⟨_, rfl⟩
 have hp2 : 1 + bO n f a d = (p : Int) := by rw [hp]; unfold jY; omega
 rw [← hp]
 dsimp only
 refine ⟨?_, by omega, by omega, ?_, by omega, fun i => ?_⟩
 ·rw [Int.toNat_natCast]
  exact (yo h.next (by omega) _).1.done
 ·have : mD n f (bh n a) p m = 2 * p + 2 + iH n f (bh n a) m := rfl
  omega
 ·have c1 := gW (n := n) (f := f) (a := fy n f (jE n f (o5 n f a d m) i)) (m := 3) (by omega)
  have c2 := gN (n := n) (f := f) (a := fy n f (jE n f (o5 n f a d m) i)) (m := 3) (by omega)
  unfold p7
  dsimp only
  generalize bO n f (fy n f (jE n f (o5 n f a d m) i)) 3 = x at *
  exact ⟨by exact_mod_cast (show 1 ≤ 1 + x by omega), by exact_mod_cast (show 1 + x ≤ 3 by omega)⟩
end Go.Am.B

/- ref12.Check. -/
namespace Go.Am.B
open Go Go.Am.N AV aa aj IntKind
theorem Dj : aN P tD tG (au tG) := aK O6 (by kernel_rfl) (by kernel_rfl) (by kernel_rfl)
noncomputable abbrev wA : Code := au tG
noncomputable abbrev mo : Code := part wA [1,1,0,1,0,0]
noncomputable abbrev pX : Code := part wA [1,1,1]
noncomputable abbrev ql : Code := part pX [1,1,1,1]
noncomputable abbrev lf : Code := part ql [1,0,1,0,0]
abbrev fm (s : Sf) : aC := [(0, ⟨false, true, 5, 1, fun _ => dL s 2048 2048⟩)]
abbrev l7 (i : Nat) : List AV := [.ptr 0 0 5 0 [], .int .i64 0, .int .i64 i]
abbrev Bw (i j : Nat) : List AV := l7 i ++ [.int .i64 j]
abbrev vD (i : Nat) : List AV := [.ptr 0 0 5 0 [], .int .i64 0, .bool true, .int .i64 i]
abbrev Ak (i j : Nat) : List AV := vD i ++ [.int .i64 j]
theorem V7 {s : Sf} : aH T gR [] 60 [1, 2, 3] (before wA [1,1,0,1]) ⟨aL 0 [dL s 2048 2048], [], 0⟩ =
  let c1 : Nat := (br (dL s 2048 2048)).size; some (af [(0 : Nat) < 1, b9 (fun i ↦ rat (s.ku i) 2048) s.a sK, s.a < 2 ^ 40, (0 : Nat) < 1, b9 (fun i ↦ rat (s.kv i) 2048) s.b sK, s.b < 2 ^ 40] (leaf normal ([ptr 0 0 c1 0 [], int i64 (0 : Int), int i64 (0 : Int)], [((0 : Nat), aB.mk false true c1 1 fun x ↦ agg [int i64 s.u, int i64 s.v, ag 3 s.a fun i ↦ rat (s.ku i) 2048, ag 3 s.b fun i ↦ rat (s.kv i) 2048, ag 1 s.n fun i ↦ ag 12 s.m fun i_1 ↦ agg [agg [rat (s.f i i_1).n.x 2048, rat (s.f i i_1).n.y 2048, rat (s.f i i_1).n.z 2048], rat (s.f i i_1).d 2048]])]))) := by kernel_rfl
theorem Y7 {s : Sf} {i : Nat} : aH T gR [26] 60 [1, 2, 3] (before mo [1,0]) ⟨az [1, 2, 3] (l7 i), fm s, 1⟩ =
  let c1 : List AV × aC := ([ptr 0 0 5 0 [], int i64 (0 : Int), int i64 (↑i : Int)], [((0 : Nat), aB.mk false true 5 1 fun x ↦ agg [int i64 s.u, int i64 s.v, ag 3 s.a fun i ↦ rat (s.ku i) 2048, ag 3 s.b fun i ↦ rat (s.kv i) 2048, ag 1 s.n fun i ↦ ag 12 s.m fun i_1 ↦ agg [agg [rat (s.f i i_1).n.x 2048, rat (s.f i i_1).n.y 2048, rat (s.f i i_1).n.z 2048], rat (s.f i i_1).d 2048]])]); some (af [(0 : Nat) < 1] (fork (decide ((↑i : Int) < (↑s.n : Int))) (leaf normal c1) (leaf (exit 0) c1))) := by kernel_rfl
theorem O8 {s : Sf} {i : Nat} : aH T gR [] 60 [1, 2, 3, 4] (before (part mo [1,0,0]) [1]) ⟨az [1, 2, 3] (l7 i), fm s, 1⟩ =
  some (leaf normal ([ptr 0 0 5 0 [], int i64 (0 : Int), int i64 (↑i : Int), int i64 (0 : Int)], [((0 : Nat), aB.mk false true 5 1 fun x ↦ agg [int i64 s.u, int i64 s.v, ag 3 s.a fun i ↦ rat (s.ku i) 2048, ag 3 s.b fun i ↦ rat (s.kv i) 2048, ag 1 s.n fun i ↦ ag 12 s.m fun i_1 ↦ agg [agg [rat (s.f i i_1).n.x 2048, rat (s.f i i_1).n.y 2048, rat (s.f i i_1).n.z 2048], rat (s.f i i_1).d 2048]])])) := by kernel_rfl
theorem Ys {s : Sf} {i j : Nat} : aH T gR [36] 60 [1, 2, 3, 4] [part mo [1,0,0,1,0,0]] ⟨az [1, 2, 3, 4] (Bw i j), fm s, 1⟩ =
  let c8 : Int := (↑i : Int); let c5 : Prop := 0 < 1; let c4 : AV := ptr 0 0 5 0 []; let c3 : Int := (↑j : Int); let c1 : List (Nat × aB) := [((0 : Nat), aB.mk false true 5 1 fun x ↦ agg [int i64 s.u, int i64 s.v, ag 3 s.a fun i ↦ rat (s.ku i) 2048, ag 3 s.b fun i ↦ rat (s.kv i) 2048, ag 1 s.n fun i ↦ ag 12 s.m fun i_1 ↦ agg [agg [rat (s.f i i_1).n.x 2048, rat (s.f i i_1).n.y 2048, rat (s.f i i_1).n.z 2048], rat (s.f i i_1).d 2048]])]; let c7 : Int := c3 + (1 : Int); let c6 : Prop := (0 : Int) ≤ c3 ∧ c3.toNat < s.m; let c2 : Prop := (0 : Int) ≤ c8 ∧ c8.toNat < s.n; some (af [c5, c2] (fork (decide (c3 < (↑s.m : Int))) (af [c5, c2, c6, c5, c2, c6] (af [-(2 : Int) ^ 63 ≤ c7 ∧ c7 < (2 : Int) ^ 63] (leaf normal ([c4, int i64 (0 : Int), int i64 c8, int i64 c7], c1)))) (leaf (exit 2) ([c4, int i64 (0 : Int), int i64 c8, int i64 c3], c1)))) := by kernel_rfl
theorem abi {s : Sf} {i j : Nat} : aH T gR [] 60 [1, 2, 3] [part mo [1,1]] ⟨az [1, 2, 3, 4] (Bw i j), fm s, 1⟩ =
  let c1 : Int := (↑i : Int) + (1 : Int); some (af [-(2 : Int) ^ 63 ≤ c1 ∧ c1 < (2 : Int) ^ 63] (leaf normal ([ptr 0 0 5 0 [], int i64 (0 : Int), int i64 c1], [((0 : Nat), aB.mk false true 5 1 fun x ↦ agg [int i64 s.u, int i64 s.v, ag 3 s.a fun i ↦ rat (s.ku i) 2048, ag 3 s.b fun i ↦ rat (s.kv i) 2048, ag 1 s.n fun i ↦ ag 12 s.m fun i_1 ↦ agg [agg [rat (s.f i i_1).n.x 2048, rat (s.f i i_1).n.y 2048, rat (s.f i i_1).n.z 2048], rat (s.f i i_1).d 2048]])]))) := by kernel_rfl
theorem Ur {s : Sf} {i : Nat} : aH T gR [200069, 200077, 200087] 60 [1, 2, 7] (before pX [1,1,1,0,1]) ⟨az [1, 2, 3] (l7 i), fm s, 1⟩ =
  let c2 : Nat := 2 ^ 40; let c1 : Prop := 0 < 1; some (af [c1, c1, b9 (fun i ↦ rat (s.ku i) 2048) s.a sJ, s.a < c2] (af [(eP s.a (fun i ↦ bg (rat (s.ku i) 2048)) s.u != (0 : Int)) = false] (af [c1, c1, b9 (fun i ↦ rat (s.kv i) 2048) s.b sJ, s.b < c2] (af [(eP s.b (fun i ↦ bg (rat (s.kv i) 2048)) s.v != (0 : Int)) = false] (af [c1, c1, c1, b9 (fun i ↦ rat (s.ku i) 2048) s.a sK, s.a < c2, -(2 : Int) ^ 40 < s.u, s.u < (2 : Int) ^ 40] (af [((↑s.n : Int) != (↑s.a : Int) - s.u - (1 : Int)) = false] (leaf normal ([ptr 0 0 5 0 [], int i64 (0 : Int), int i64 (0 : Int)], [((0 : Nat), aB.mk false true 5 1 fun x ↦ agg [int i64 s.u, int i64 s.v, ag 3 s.a fun i ↦ rat (s.ku i) 2048, ag 3 s.b fun i ↦ rat (s.kv i) 2048, ag 1 s.n fun i ↦ ag 12 s.m fun i_1 ↦ agg [agg [rat (s.f i i_1).n.x 2048, rat (s.f i i_1).n.y 2048, rat (s.f i i_1).n.z 2048], rat (s.f i i_1).d 2048]])])))))))) := by kernel_rfl
theorem Ou {s : Sf} {i : Nat} : aH T gR [92, 200106] 60 [1, 2, 7] [part pX [1,1,1,0,1,0,0]] ⟨az [1, 2, 7] (l7 i), fm s, 1⟩ =
  let c4 : AV := ptr 0 0 5 0 []; let c3 : Int := (↑i : Int); let c2 : Prop := 0 < 1; let c1 : List (Nat × aB) := [((0 : Nat), aB.mk false true 5 1 fun x ↦ agg [int i64 s.u, int i64 s.v, ag 3 s.a fun i ↦ rat (s.ku i) 2048, ag 3 s.b fun i ↦ rat (s.kv i) 2048, ag 1 s.n fun i ↦ ag 12 s.m fun i_1 ↦ agg [agg [rat (s.f i i_1).n.x 2048, rat (s.f i i_1).n.y 2048, rat (s.f i i_1).n.z 2048], rat (s.f i i_1).d 2048]])]; let c5 : Int := c3 + (1 : Int); some (af [c2] (fork (decide (c3 < (↑s.n : Int))) (af [c2, (0 : Int) ≤ c3 ∧ c3.toNat < s.n, c2, c2, b9 (fun i ↦ rat (s.kv i) 2048) s.b sK, s.b < 2 ^ 40, -(2 : Int) ^ 40 < s.v, s.v < (2 : Int) ^ 40] (af [((↑s.m : Int) != (↑s.b : Int) - s.v - (1 : Int)) = false] (af [-(2 : Int) ^ 63 ≤ c5 ∧ c5 < (2 : Int) ^ 63] (leaf normal ([c4, int i64 (0 : Int), int i64 c5], c1))))) (leaf (exit 4) ([c4, int i64 (0 : Int), int i64 c3], c1)))) := by kernel_rfl
theorem SL {s : Sf} {i : Nat} : aH T gR [] 60 [1, 2, 8, 9] (before ql [1,0,1]) ⟨az [1, 2, 7] (l7 i), fm s, 1⟩ =
  some (af [(0 : Nat) < 1, b9 (fun i ↦ rat (s.ku i) 2048) s.a 2048, s.a < 2 ^ 40, (0 : Nat) < 1, b9 (fun i ↦ rat (s.kv i) 2048) s.b 2048, s.b < 2 ^ 40] (leaf normal ([ptr 0 0 5 0 [], int i64 (0 : Int), AV.bool true, int i64 (0 : Int)], [((0 : Nat), aB.mk false true 5 1 fun x ↦ agg [int i64 s.u, int i64 s.v, ag 3 s.a fun i ↦ rat (s.ku i) 2048, ag 3 s.b fun i ↦ rat (s.kv i) 2048, ag 1 s.n fun i ↦ ag 12 s.m fun i_1 ↦ agg [agg [rat (s.f i i_1).n.x 2048, rat (s.f i i_1).n.y 2048, rat (s.f i i_1).n.z 2048], rat (s.f i i_1).d 2048]])]))) := by kernel_rfl
theorem abk {s : Sf} {i : Nat} : aH T gR [119] 60 [1, 2, 8, 9] (before lf [1,0]) ⟨az [1, 2, 8, 9] (vD i), fm s, 1⟩ =
  let c1 : List AV × aC := ([ptr 0 0 5 0 [], int i64 (0 : Int), AV.bool true, int i64 (↑i : Int)], [((0 : Nat), aB.mk false true 5 1 fun x ↦ agg [int i64 s.u, int i64 s.v, ag 3 s.a fun i ↦ rat (s.ku i) 2048, ag 3 s.b fun i ↦ rat (s.kv i) 2048, ag 1 s.n fun i ↦ ag 12 s.m fun i_1 ↦ agg [agg [rat (s.f i i_1).n.x 2048, rat (s.f i i_1).n.y 2048, rat (s.f i i_1).n.z 2048], rat (s.f i i_1).d 2048]])]); some (af [(0 : Nat) < 1] (fork (decide ((↑i : Int) < (↑s.n : Int))) (leaf normal c1) (leaf (exit 6) c1))) := by kernel_rfl
theorem X7 {s : Sf} {i : Nat} : aH T gR [] 60 [1, 2, 8, 9, 10] (before (part lf [1,0,0]) [1]) ⟨az [1, 2, 8, 9] (vD i), fm s, 1⟩ =
  some (leaf normal ([ptr 0 0 5 0 [], int i64 (0 : Int), AV.bool true, int i64 (↑i : Int), int i64 (0 : Int)], [((0 : Nat), aB.mk false true 5 1 fun x ↦ agg [int i64 s.u, int i64 s.v, ag 3 s.a fun i ↦ rat (s.ku i) 2048, ag 3 s.b fun i ↦ rat (s.kv i) 2048, ag 1 s.n fun i ↦ ag 12 s.m fun i_1 ↦ agg [agg [rat (s.f i i_1).n.x 2048, rat (s.f i i_1).n.y 2048, rat (s.f i i_1).n.z 2048], rat (s.f i i_1).d 2048]])])) := by kernel_rfl
theorem WD {s : Sf} {i j : Nat} : aH T gR [129, 200143] 60 [1, 2, 8, 9, 10] [part lf [1,0,0,1,0,0]] ⟨az [1, 2, 8, 9, 10] (Ak i j), fm s, 1⟩ =
  let c8 : Int := (↑i : Int); let c7 : Int := (↑(3 : Nat) : Int); let c5 : AV := ptr 0 0 5 0 []; let c4 : Int := (↑j : Int); let c3 : Prop := 0 < 1; let c1 : List (Nat × aB) := [((0 : Nat), aB.mk false true 5 1 fun x ↦ agg [int i64 s.u, int i64 s.v, ag 3 s.a fun i ↦ rat (s.ku i) 2048, ag 3 s.b fun i ↦ rat (s.kv i) 2048, ag 1 s.n fun i ↦ ag 12 s.m fun i_1 ↦ agg [agg [rat (s.f i i_1).n.x 2048, rat (s.f i i_1).n.y 2048, rat (s.f i i_1).n.z 2048], rat (s.f i i_1).d 2048]])]; let c9 : Int := c4 + (1 : Int); let c6 : Prop := (0 : Int) ≤ c8 ∧ c8.toNat < s.n; let c2 : Pl := s.f c8.toNat c4.toNat; some (af [c3, c6] (fork (decide (c4 < (↑s.m : Int))) (af [c3, c6, (0 : Int) ≤ c4 ∧ c4.toNat < s.m, c3] (af [c3] (af [decide (dA c2.d ≤ (0 : Int)) = false] (af [(0 : Int) ≤ (0 : Int) ∧ (0 : Int) < c7, c3, (0 : Int) ≤ (1 : Int) ∧ (1 : Int) < c7, c3, (0 : Int) ≤ (2 : Int) ∧ (2 : Int) < c7, c3, c3, (4 : Nat) * 3 ≤ 2 ^ 24, b9 (fun i ↦ nth [rat c2.n.x 2048, rat c2.n.y 2048, rat c2.n.z 2048, rat c2.d 2048] (rat 0 1) (i + 0)) 4 2048, (4 : Nat) < 2 ^ 40] (af [-(2 : Int) ^ 63 ≤ c9 ∧ c9 < (2 : Int) ^ 63] (leaf normal ([c5, int i64 (0 : Int), AV.bool true, int i64 c8, int i64 c9], c1))))))) (leaf (exit 8) ([c5, int i64 (0 : Int), AV.bool true, int i64 c8, int i64 c4], c1)))) := by kernel_rfl
theorem aaK {s : Sf} {i j : Nat} : aH T gR [] 60 [1, 2, 8, 9] [part lf [1,1]] ⟨az [1, 2, 8, 9, 10] (Ak i j), fm s, 1⟩ =
  let c1 : Int := (↑i : Int) + (1 : Int); some (af [-(2 : Int) ^ 63 ≤ c1 ∧ c1 < (2 : Int) ^ 63] (leaf normal ([ptr 0 0 5 0 [], int i64 (0 : Int), AV.bool true, int i64 c1], [((0 : Nat), aB.mk false true 5 1 fun x ↦ agg [int i64 s.u, int i64 s.v, ag 3 s.a fun i ↦ rat (s.ku i) 2048, ag 3 s.b fun i ↦ rat (s.kv i) 2048, ag 1 s.n fun i ↦ ag 12 s.m fun i_1 ↦ agg [agg [rat (s.f i i_1).n.x 2048, rat (s.f i i_1).n.y 2048, rat (s.f i i_1).n.z 2048], rat (s.f i i_1).d 2048]])]))) := by kernel_rfl
theorem YF {s : Sf} {i : Nat} : bR T gR [] 60 tG [part ql [1,1]] ⟨az [1, 2, 8, 9] (vD i), fm s, 1⟩ =
  some (leaf ret [int i64 (0 : Int)]) := by kernel_rfl
structure wQ (s : Sf) : Prop where
 ku : Kn s.a s.u.toNat s.ku
 kv : Kn s.b s.v.toNat s.kv
 u0 : 0 ≤ s.u
 u6 : s.u ≤ 6
 v0 : 0 ≤ s.v
 v6 : s.v ≤ 6
 a : s.a ≤ s.u.toNat + 41
 b : s.b ≤ s.v.toNat + 41
 n : (s.n : Int) = (s.a : Int) - s.u - 1
 m : (s.m : Int) = (s.b : Int) - s.v - 1
 w : ∀ i j, i < s.n → j < s.m → 0 < (s.f i j).d
theorem YK {s : Sf} (hs : wQ s) (K : Nat) : aA P tD K [dL s 2048 2048] [] (aG (.int .i64 0) []) := by
 obtain ⟨ku, kv, u0, u6, v0, v6, ha, hb, hn, hm2, hw⟩ := hs
 refine eZ (r := aG (.int .i64 0) []) hT Dj rfl (of_decide_eq_true (by kernel_rfl)) rfl (fun _ cx h00 => ?_) K []
 have hk := jM h00
 have hcu : eP s.a s.ku s.u = 0 := by
  have := ku.Fk (by omega) ha
  rwa [Int.toNat_of_nonneg u0] at this
 have hcv : eP s.b s.kv s.v = 0 := by
  have := kv.Fk (by omega) hb
  rwa [Int.toNat_of_nonneg v0] at this
 have re : gY 1 [(0, 0)] (fm s) (fm s) := aT rfl rfl (aP rfl rfl) trivial
 have re : gY 1 [(0, 0)] (fm s) (fm s) := aT rfl rfl (aP rfl rfl) trivial
 refine ak.Jc hT yp hm (x := wA) [1,1,0,1] (i := 0) (y := mo) (z := pX) (by kernel_rfl) (by kernel_rfl) (by kernel_rfl) Dj.dst [1,0] (j := 1) (x1 := part mo [1,0,0]) (zb := part mo [1,1]) (by kernel_rfl) (by kernel_rfl) (by kernel_rfl) [1] (i2 := 2) (y2 := part mo [1,0,0,1,0,0]) (by kernel_rfl) (by kernel_rfl) rfl
  hk (f1 := []) (f2 := [26]) (f3 := []) (f4 := [36]) (f5 := []) 60 [1, 2, 3] [1, 2, 3, 4] 1 1 (fun i : Nat => l7 i) (fun _ => fm s) (fun i => i ≤ s.n) (fun _ => True) (fun i => s.n - i) (fun i => i < s.n) (fun _ => False) (fun _ => False)
  (fun i (j : Nat) => Bw i j) (fun _ _ => fm s) (fun _ j => j ≤ s.m) (fun _ _ => True) (fun _ j => s.m - j) ⟨_, V7, ?_⟩ (fun i hi => ⟨_, Y7, ?_⟩) (fun i hi hg => ⟨_, O8, ?_⟩) (fun i hi hg j hj => ⟨_, Ys, ?_⟩) (fun i hi hg j hj => ⟨_, abi, ?_⟩) (fun i hi => ?_) (fun _ _ h => h.elim) (fun _ _ h => h.elim)
 all_goals try simp only [aa.all, ax, decide_eq_true_eq, decide_eq_false_iff_not]
 ·exact ⟨⟨by omega, en (by decide), by omega, by omega, en (by decide), by omega⟩, 0, Nat.zero_le _, [(0, 0)], rfl, rfl, rfl, re⟩
 ·exact ⟨by omega, fun h => ⟨by omega, [(0, 0)], rfl, rfl, rfl, re⟩, fun h => ⟨rfl, i, trivial, [(0, 0)], rfl, rfl, rfl, re⟩⟩
 ·exact ⟨0, Nat.zero_le _, [(0, 0)], rfl, rfl, rfl, re⟩
 ·exact ⟨by omega, fun h => ⟨by omega, by omega, j + 1, by omega, by dsimp only; omega, [(0, 0)], rfl, rfl, rfl, re⟩, fun h => ⟨rfl, j, trivial, [(0, 0)], rfl, rfl, rfl, re⟩⟩
 ·exact ⟨by omega, i + 1, by omega, by dsimp only; omega, [(0, 0)], rfl, rfl, rfl, re⟩
 refine ak.iM hT yp hm (x := pX) [1,1,1,0,1] (i := 4) (y := part pX [1,1,1,0,1,0,0]) (z := ql) (by kernel_rfl) (by kernel_rfl) (by kernel_rfl) (by kernel_rfl) hk (f1 := [200069, 200077, 200087]) (f2 := [92, 200106]) 60 [1, 2, 7] 1 (fun i : Nat => l7 i) (fun _ => fm s) (fun i => i ≤ s.n) (fun _ => True) (fun i => s.n - i) (fun _ => False) ⟨_, Ur, ?_⟩ (fun i hi => ⟨_, Ou, ?_⟩) (fun i _ => ?_) (fun _ _ h => h.elim)
 ·simp only [aa.all, ax]
  exact ⟨⟨by omega, by omega, en (by decide), by omega⟩, bne_eq_false_iff_eq.2 hcu, ⟨by omega, by omega, en (by decide), by omega⟩, bne_eq_false_iff_eq.2 hcv, ⟨by omega, by omega, by omega, en (by decide), by omega, by omega, by omega⟩, bne_eq_false_iff_eq.2 hn, 0, Nat.zero_le _, [(0, 0)], rfl, rfl, rfl, re⟩
 ·simp only [aa.all, ax, decide_eq_true_eq, decide_eq_false_iff_not]
  exact ⟨by omega, fun h => ⟨⟨by omega, by omega, by omega, by omega, en (by decide), by omega, by omega, by omega⟩, bne_eq_false_iff_eq.2 hm2, by omega, i + 1, by omega, by dsimp only; omega, [(0, 0)], rfl, rfl, rfl, re⟩, fun h => ⟨rfl, i, trivial, [(0, 0)], rfl, rfl, rfl, re⟩⟩
 refine ak.Jc hT yp hm (x := ql) [1,0,1] (i := 6) (y := lf) (z := part ql [1,1]) (by kernel_rfl) (by kernel_rfl) (by kernel_rfl) (by kernel_rfl) [1,0] (j := 7) (x1 := part lf [1,0,0]) (zb := part lf [1,1]) (by kernel_rfl) (by kernel_rfl) (by kernel_rfl) [1] (i2 := 8) (y2 := part lf [1,0,0,1,0,0]) (by kernel_rfl) (by kernel_rfl) rfl
  hk (f1 := []) (f2 := [119]) (f3 := []) (f4 := [129, 200143]) (f5 := []) 60 [1, 2, 8, 9] [1, 2, 8, 9, 10] 1 1 (fun i : Nat => vD i) (fun _ => fm s) (fun i => i ≤ s.n) (fun _ => True) (fun i => s.n - i) (fun i => i < s.n) (fun _ => False) (fun _ => False)
  (fun i (j : Nat) => Ak i j) (fun _ _ => fm s) (fun _ j => j ≤ s.m) (fun _ _ => True) (fun _ j => s.m - j) ⟨_, SL, ?_⟩ (fun i hi => ⟨_, abk, ?_⟩) (fun i hi hg => ⟨_, X7, ?_⟩) (fun i hi hg j hj => ⟨_, WD, ?_⟩) (fun i hi hg j hj => ⟨_, aaK, ?_⟩) (fun i hi => ?_) (fun _ _ h => h.elim) (fun _ _ h => h.elim)
 all_goals try simp only [aa.all, ax, decide_eq_true_eq, decide_eq_false_iff_not, Int.toNat_natCast]
 ·exact ⟨⟨by omega, en (Nat.le_refl _), by omega, by omega, en (Nat.le_refl _), by omega⟩, 0, Nat.zero_le _, [(0, 0)], rfl, rfl, rfl, re⟩
 ·exact ⟨by omega, fun h => ⟨by omega, [(0, 0)], rfl, rfl, rfl, re⟩, fun h => ⟨rfl, i, trivial, [(0, 0)], rfl, rfl, rfl, re⟩⟩
 ·exact ⟨0, Nat.zero_le _, [(0, 0)], rfl, rfl, rfl, re⟩
 ·refine ⟨by omega, fun h => ⟨by omega, by omega, aa8 (hw _ _ (by omega) (by omega)), ⟨by omega, by omega, by omega, by omega, by omega, by omega, by omega, by omega, fun k hk => ?_, by omega⟩, by omega, j + 1, by omega, by dsimp only; omega, [(0, 0)], rfl, rfl, rfl, re⟩, fun h => ⟨rfl, j, trivial, [(0, 0)], rfl, rfl, rfl, re⟩⟩
  match k, hk with
  | 0, _ | 1, _ | 2, _ | 3, _ => exact .refl _
 ·exact ⟨by omega, i + 1, by omega, by dsimp only; omega, [(0, 0)], rfl, rfl, rfl, re⟩
 ·refine ak.iZ ((ay.fin hT yp hm 60 YF (by kernel_rfl) ?_).mono fun _ _ h => .inl h)
  exact .refl _
def Di : Spec := eA (kC (uL 2048 2048) kN) (fun _ => .int .i64 0) fun a => [wQ a.1]
theorem SJ : ∀ K args pre r, Di K args pre = some r → aA P tD K args pre r := eC fun ⟨s, _⟩ K hn => YK hn K
end Go.Am.B

/- ref12: row, Swap, IsoV, IsoU, Eval. -/
namespace Go.Am.B
open Go Go.Am.N AV aa aj IntKind
theorem TF : aN P zj wH (au wH) := aK P5 (by kernel_rfl) (by kernel_rfl) (by kernel_rfl)
abbrev Kv (s : Sf) (i : Nat) : Cu := ⟨s.v, s.b, s.kv, s.m, s.f i⟩
abbrev vR : aB := ⟨false, true, 5, 1, fun _ => .agg [.int .i64 0, .int .i64 0, .nil, .nil, .nil]⟩
structure SfW (s : Sf) : Prop where
 ku : Kn s.a s.u.toNat s.ku
 kv : Kn s.b s.v.toNat s.kv
 u0 : 0 ≤ s.u
 u6 : s.u ≤ 6
 v0 : 0 ≤ s.v
 v6 : s.v ≤ 6
 a : s.a < 2 ^ 30
 b : s.b < 2 ^ 30
 n : (s.n : Int) = (s.a : Int) - s.u - 1
 m : (s.m : Int) = (s.b : Int) - s.v - 1
end Go.Am.B

/- ref10: MovePoles, Move; ref12: withRows, Move. -/
namespace Go.Am.B
open Go Go.Am.N AV aa aj IntKind
theorem K2 : aN P qv uY (au uY) := aK Yw (by kernel_rfl) (by kernel_rfl) (by kernel_rfl)
theorem L9 : aN P pJ uP (au uP) := aK Tu (by kernel_rfl) (by kernel_rfl) (by kernel_rfl)
theorem It : aN P rE sy (au sy) := aK W4 (by kernel_rfl) (by kernel_rfl) (by kernel_rfl)
theorem E0 : aN P uq tc (au tc) := aK Wn (by kernel_rfl) (by kernel_rfl) (by kernel_rfl)
def AQ (s : Nat) : Kind Mp := ⟨fun v => match A8 v with
 | some (a, q) => some (a.1, (a.2 ≤ s) :: q)
 | none => none, fun a => eR a s, fun {v a q} h hq => by
  split at h
  ·rename_i a q h1
   simp only [Option.some.injEq, Prod.mk.injEq] at h
   obtain ⟨rfl, rfl⟩ := h
   obtain ⟨q1, q2⟩ := (dm (a := [_]) (b := q)).1 hq
   exact (aaM h1 q2).trans (OI rfl q1)
  ·simp at h⟩
def pn (r v : V3) (t : Rat) : Rat := 0 + r.x * v.x + r.y * v.y + r.z * v.z + t
def Yg (m : Mp) (v : V3) : V3 := ⟨pn m.m.a v m.t.x, pn m.m.b v m.t.y, pn m.m.c v m.t.z⟩
def iu (m : Mp) (p : Pl) : Pl := ⟨Yg m p.n, p.d⟩
def ug (m : Mp) (c : Cu) : Cu := ⟨c.p, c.n, c.k, c.m, fun j => iu m (c.f j)⟩
def Ar (m : Mp) (s : Sf) : Sf := ⟨s.u, s.v, s.a, s.ku, s.b, s.kv, s.n, s.m, fun i j => iu m (s.f i j)⟩
abbrev sM : Nat := 300
abbrev sQ : Nat := 1100
abbrev sW : Nat := 6000
noncomputable def HV : aO := [(DZ, cL T (sG :: nV) [] 60 Gi)]
noncomputable def ES : aO := [(Ft, cL T (sG :: (HV ++ nV)) [] 60 DO)]
noncomputable def wN : aO := nG :: ES
abbrev qJ : List Nat := [0, 3, 4, 5, 6]
abbrev ze (n : Nat) (f : Nat → Pl) (i : Nat) : List AV := [cB f n sQ, .ptr 0 0 36 0 [], .nil, .own 1 12 0 i, .int .i64 i]
abbrev zF (m : Mp) (g : Nat → Pl) (i : Nat) : aC := [(1, ⟨true, true, 12, i, fun i => cU (g i) sW⟩), (0, ⟨false, true, 36, 1, fun _ => eR m sM⟩)]
noncomputable abbrev rD : Code := au uY
theorem RA {n : Nat} {f : Nat → Pl} {m : Mp} : aH T wN [] 60 qJ (before rD [1,1,0,1]) ⟨aL 0 [cB f n sQ, eR m sM], [], 0⟩ =
  some (leaf normal ([ag 12 n fun i ↦ agg [agg [rat (f i).n.x 1100, rat (f i).n.y 1100, rat (f i).n.z 1100], rat (f i).d 1100], ptr 0 0 (br (eR m sM)).size 0 [], nil, nil, int i64 (0 : Int)], [((0 : Nat), aB.mk false true (br (eR m sM)).size 1 fun x ↦ agg [agg [agg [rat m.m.a.x 300, rat m.m.a.y 300, rat m.m.a.z 300], agg [rat m.m.b.x 300, rat m.m.b.y 300, rat m.m.b.z 300], agg [rat m.m.c.x 300, rat m.m.c.y 300, rat m.m.c.z 300]], agg [rat m.t.x 300, rat m.t.y 300, rat m.t.z 300]])])) := by kernel_rfl
theorem Ya {n i : Nat} {f g : Nat → Pl} {m : Mp} : aH T wN [10] 60 qJ [part rD [1,1,0,1,0,0]] ⟨az qJ (ze n f i), zF m g i, 2⟩ =
  let c8 : AV := ptr 0 0 36 0 []; let c7 : AV := rat 0 1; let c6 : Int := (↑i : Int); let c5 : Prop := 0 < 1; let c4 : AV := ag 12 n fun i ↦ agg [agg [rat (f i).n.x 1100, rat (f i).n.y 1100, rat (f i).n.z 1100], rat (f i).d 1100]; let c2 : Nat := 1 + (sM + sQ) + 1 + (sM + sQ) + 1 + (sM + sQ) + 1 + sM + 1; let c1 : List (Nat × aB) := [((0 : Nat), aB.mk false true 36 1 fun x ↦ agg [agg [agg [rat m.m.a.x 300, rat m.m.a.y 300, rat m.m.a.z 300], agg [rat m.m.b.x 300, rat m.m.b.y 300, rat m.m.b.z 300], agg [rat m.m.c.x 300, rat m.m.c.y 300, rat m.m.c.z 300]], agg [rat m.t.x 300, rat m.t.y 300, rat m.t.z 300]])]; let c10 : Int := c6 + (1 : Int); let c9 : Prop := (0 : Int) ≤ c6 ∧ c6.toNat < n; let c3 : V3 := (f c6.toNat).n; some (fork (decide (c6 < (↑n : Int))) (af [c5, c9, c5, c5, c5, c5, c5, c5, c9, (1 : Nat) * 12 ≤ 2 ^ 24, (i + 1) * ((224 : Nat) + 1) * 2 ≤ 2 ^ 47] (af [-(2 : Int) ^ 63 ≤ c10 ∧ c10 < (2 : Int) ^ 63] (leaf normal ([c4, c8, nil, own 77826 12 0 (i + 1), int i64 c10], ((77826 : Nat), aB.mk true true 12 (i + 1) fun i_1 ↦ if i_1 < i then cU (g i_1) sW else nth [agg [agg [rat ((0 : Rat) + m.m.a.x * c3.x + m.m.a.y * c3.y + m.m.a.z * c3.z + m.t.x) c2, rat ((0 : Rat) + m.m.b.x * c3.x + m.m.b.y * c3.y + m.m.b.z * c3.z + m.t.y) c2, rat ((0 : Rat) + m.m.c.x * c3.x + m.m.c.y * c3.y + m.m.c.z * c3.z + m.t.z) c2], rat (f c6.toNat).d sQ]] (agg [agg [c7, c7, c7], c7]) (i_1 - i + 0)) :: c1)))) (leaf (exit 0) ([c4, c8, nil, own 1 12 0 i, int i64 c6], ((1 : Nat), aB.mk true true 12 i fun i ↦ agg [agg [rat (g i).n.x 6000, rat (g i).n.y 6000, rat (g i).n.z 6000], rat (g i).d 6000]) :: c1))) := by kernel_rfl
theorem Xx {n i : Nat} {f g : Nat → Pl} {m : Mp} : bR T wN [] 60 uY [part rD [1,1,1]] ⟨az qJ (ze n f i), zF m g i, 2⟩ =
  some (leaf ret [ag 12 i fun i ↦ agg [agg [rat (g (i + 0)).n.x 6000, rat (g (i + 0)).n.y 6000, rat (g (i + 0)).n.z 6000], rat (g (i + 0)).d 6000]]) := by kernel_rfl
theorem Fm (m : Mp) : (br (eR m sM)).size = 36 := by kernel_rfl
theorem Qr : aV P HV := aD (cV hT (cQ pN) hm (aK WR (by kernel_rfl) (by kernel_rfl) (by kernel_rfl)) _ _) aU
theorem Ox : aV P ES := aD (cV hT (cQ (fl Qr pN)) hm (aK KX (by kernel_rfl) (by kernel_rfl) (by kernel_rfl)) _ _) aU
theorem LV : aV P wN := eF Ox
theorem Wh {n : Nat} {f : Nat → Pl} {m : Mp} (hn : n < 2 ^ 30) (K : Nat) : aA P qv K [cB f n sQ, eR m sM] [] (aG (cB (fun j => iu m (f j)) n sW) []) := by
 refine iJ (r := aG (cB (fun j => iu m (f j)) n sW) []) hT LV hm K2 rfl (of_decide_eq_true (by kernel_rfl)) rfl [1,1,0,1] (i := 0) (y := part rD [1,1,0,1,0,0]) (z := part rD [1,1,1]) (by kernel_rfl) (by kernel_rfl) (by kernel_rfl) (f1 := []) (f2 := [10]) (f3 := []) 60 qJ 2
  (fun i : Nat => ze n f i) (fun i => zF m (fun j => iu m (f j)) i) (fun i => i ≤ n) (fun i => i = n) (fun i => n - i) (fun _ => ⟨⟨_, RA, ?_⟩, fun i hi => ⟨_, Ya, ?_⟩, fun i hi => ⟨_, Xx, ?_⟩⟩) K []
 ·simp only [aa.all]
  rw [Fm m]
  exact ⟨0, Nat.zero_le _, [(0, 0)], rfl, rfl, rfl, oc rfl (by omega) (by omega) (aT (f := fun _ => eR m sM) rfl rfl (aP rfl rfl) trivial)⟩
 ·simp only [aa.all, ax, decide_eq_true_eq, decide_eq_false_iff_not, Int.toNat_natCast, Nat.add_zero]
  refine ⟨fun h => ⟨by omega, by omega, i + 1, by omega, by dsimp only; omega, [(0, 0), (1, 77826)], rfl, rfl, rfl, b6 rfl rfl rfl (fun k hk => ?_) (aT rfl rfl (aP rfl rfl) trivial)⟩, fun h => ⟨rfl, i, by omega, [(0, 0), (1, 1)], rfl, rfl, rfl, b6 rfl rfl rfl (fun _ _ => aP rfl rfl) (aT rfl rfl (aP rfl rfl) trivial)⟩⟩
  by_cases h : k < i
  ·rw [if_pos h]; exact aP rfl rfl
  ·have : k = i := by omega
   subst this
   rw [if_neg h, Nat.sub_self]
   exact .inr ⟨rfl, cE ⟨cE ⟨bS rfl (by decide), bS rfl (by decide), bS rfl (by decide), trivial⟩, bS rfl (by decide), trivial⟩⟩
 ·subst hi
  exact .refl _
def Dv : Spec := eA (kC (oy sQ) (kC (AQ sM) kN)) (fun a => cB (fun j => iu a.2.1 (a.1.2 j)) a.1.1 sW) fun a => [a.1.1 < 2 ^ 30]
def E5 : aO := [nG, (qv, Dv)]
theorem ML : ∀ K args pre r, Dv K args pre = some r → aA P qv K args pre r := eC fun ⟨⟨n, f⟩, m, _⟩ K hn => Wh hn K
theorem UB : aV P E5 := eF (aD ML aU)
theorem L7 {c : Cu} {m : Mp} : bA T E5 [] 60 uP (au uP) ⟨aL 0 [er c sQ sQ, eR m sM], [], 0⟩ =
  let c2 : Prop := sM ≤ sM; let c1 : Prop := 0 < 1; some (af [c1, (0 : Nat) * 3 ≤ 2 ^ 24, c1, ((0 : Nat) + c.n) * ((56 : Nat) + 1) * 2 ≤ 2 ^ 47, c1, c1, iT (fun i ↦ cU (c.f i) sQ) c.m sQ, Max.max sM sM ≤ sM, c2, c2, c2, c2, c2, c2, c2, c2, c2, c2, c.m < 2 ^ 30, c1] (af [c1] (leaf ret [agg [int i64 c.p, ag 3 ((0 : Nat) + c.n) fun i ↦ rat (c.k (i + 0 - 0)) 1100, ag 12 c.m fun i ↦ agg [agg [rat (pn (V3.mk m.m.a.x m.m.a.y m.m.a.z) (V3.mk (bg (rat (c.f i).n.x sQ)) (bg (rat (c.f i).n.y sQ)) (bg (rat (c.f i).n.z sQ))) m.t.x) 6000, rat (pn (V3.mk m.m.b.x m.m.b.y m.m.b.z) (V3.mk (bg (rat (c.f i).n.x sQ)) (bg (rat (c.f i).n.y sQ)) (bg (rat (c.f i).n.z sQ))) m.t.y) 6000, rat (pn (V3.mk m.m.c.x m.m.c.y m.m.c.z) (V3.mk (bg (rat (c.f i).n.x sQ)) (bg (rat (c.f i).n.y sQ)) (bg (rat (c.f i).n.z sQ))) m.t.z) 6000], rat (bg (rat (c.f i).d sQ)) 6000]]]))) := by kernel_rfl
theorem abj {c : Cu} {m : Mp} (hn : c.n < 2 ^ 30) (hm2 : c.m < 2 ^ 30) (K : Nat) : aA P pJ K [er c sQ sQ, eR m sM] [] (aG (er (ug m c) sQ sW) []) := by
 refine bD (r := aG (er (ug m c) sQ sW) []) hT UB hm L9 rfl (of_decide_eq_true (by kernel_rfl)) rfl 60 L7 (fun _ => ?_) K []
 simp only [aa.all, ax]
 exact ⟨⟨by omega, by omega, by omega, by omega, by omega, by omega, oW (Nat.le_refl _), by omega, by omega, by omega, by omega, by omega, by omega, by omega, by omega, by omega, by omega, by omega, hm2, by omega⟩, by omega, cE ⟨.refl _, j0 (Nat.zero_add _) fun _ _ => rfl, .refl _, trivial⟩⟩
def zR : Spec := eA (kC (yB sQ sQ) (kC (AQ sM) kN)) (fun a => er (ug a.2.1 a.1) sQ sW) fun a => [a.1.n < 2 ^ 30, a.1.m < 2 ^ 30]
def E4 : AV → Cu
 | .agg [.int _ p, .ag _ n k, .ag _ m f] => ⟨p, n, fun i => bg (k i), m, fun i => iG (f i)⟩
 | _ => ⟨0, 0, fun _ => 0, 0, fun _ => ⟨⟨0, 0, 0⟩, 0⟩⟩
abbrev xN (c : Nat → Cu) (n s r : Nat) : AV := .ag 3 n (fun i => er (c i) s r)
def Ib (g : Nat → AV) (n s r : Nat) : Prop := ∀ i, i < n → bu (g i) (er (E4 (g i)) s r)
def Yk (s r : Nat) : Kind (Nat × (Nat → Cu)) := ⟨fun v => match v with
 | .ag 3 n g => some ((n, fun i => E4 (g i)), [Ib g n s r])
 | _ => none, fun a => xN a.2 a.1 s r, fun {v a q} h hq => by
  split at h
  ·simp only [Option.some.injEq, Prod.mk.injEq] at h
   obtain ⟨rfl, rfl⟩ := h
   exact gJ hq
  ·simp at h⟩
def BZ (s : Sf) (n : Nat) (c : Nat → Cu) : Sf := ⟨s.u, (c 0).p, s.a, s.ku, (c 0).n, (c 0).k, n, (c 0).m, fun i => (c i).f⟩
abbrev Cp (s : Sf) (n : Nat) (c : Nat → Cu) (i : Nat) : aC := [(3, ⟨true, true, 1, i, fun i => cB (c i).f (c i).m sW⟩), (5, ⟨true, true, 3, (c 0).n, fun i => .rat ((c 0).k i) sQ⟩), (4, ⟨true, true, 3, s.a, fun i => .rat (s.ku i) sQ⟩), (2, ⟨false, true, 5, 1, fun _ => .agg [.int .i64 s.u, .int .i64 (c 0).p, .own 4 3 0 s.a, .own 5 3 0 (c 0).n, .own 3 1 0 i]⟩), (1, vR), (0, ⟨false, true, 5, 1, fun _ => dL s sQ sQ⟩)]
abbrev vO : List Nat := [1, 2, 4, 5, 6]
abbrev zu (n : Nat) (c : Nat → Cu) (i : Nat) : List AV := [xN c n sQ sW, .ptr 0 0 5 0 [], .ptr 1 0 5 0 [], .ptr 2 0 5 0 [], .int .i64 i]
noncomputable abbrev p4 : Code := au sy
theorem OQ {s : Sf} {n : Nat} {c : Nat → Cu} : aH T [nG] [] 60 vO (before p4 [1,1,0,1]) ⟨aL 0 [dL s sQ sQ, xN c n sQ sW], [], 0⟩ =
  let c9 : Nat := (br (dL s sQ sQ)).size; let c8 : Nat := 0 + s.a; let c6 : AV := int i64 (0 : Int); let c4 : Prop := 0 < 1; let c3 : Prop := 0 * 3 ≤ 2 ^ 24; let c2 : Nat := Int.toNat (0 : Int); let c7 : Prop := (0 : Int) ≤ (0 : Int) ∧ c2 < n; let c5 : Nat := 0 + (c c2).n; let c1 : AV := agg [c6, c6, nil, nil, nil]; some (af [c4, c7, c3, c4, c8 * ((56 : Nat) + 1) * 2 ≤ 2 ^ 47, c3, c7, c5 * ((56 : Nat) + 1) * 2 ≤ 2 ^ 47, c4] (leaf normal ([ag 3 n fun i ↦ agg [int i64 (c i).p, ag 3 (c i).n fun i_1 ↦ rat ((c i).k i_1) 1100, ag 12 (c i).m fun i_1 ↦ agg [agg [rat ((c i).f i_1).n.x 6000, rat ((c i).f i_1).n.y 6000, rat ((c i).f i_1).n.z 6000], rat ((c i).f i_1).d 6000]], ptr 0 0 c9 0 [], ptr 4096 0 5 0 [], ptr 77824 0 5 0 [], c6], [((69632 : Nat), aB.mk true true 3 c5 fun i ↦ rat ((c c2).k (i - 0)) 1100), ((45056 : Nat), aB.mk true true 3 c8 fun i ↦ rat (s.ku (i - 0)) 1100), ((77824 : Nat), aB.mk false true 5 1 fun j ↦ if (j == 0) = true then br (agg ((((c1.kids.set 0 (br (int i64 s.u))).set 1 (br (int i64 (c c2).p))).set 2 (br (own (nat_lit 45055 + 1) 3 0 c8))).set 3 (br (own (nat_lit 69631 + 1) 3 0 c5)))) else c1), ((4096 : Nat), aB.mk false true 5 1 fun x ↦ c1), ((0 : Nat), aB.mk false true c9 1 fun x ↦ agg [int i64 s.u, int i64 s.v, ag 3 s.a fun i ↦ rat (s.ku i) 1100, ag 3 s.b fun i ↦ rat (s.kv i) 1100, ag 1 s.n fun i ↦ ag 12 s.m fun i_1 ↦ agg [agg [rat (s.f i i_1).n.x 1100, rat (s.f i i_1).n.y 1100, rat (s.f i i_1).n.z 1100], rat (s.f i i_1).d 1100]])]))) := by kernel_rfl
theorem Tk {s : Sf} {n i : Nat} {c : Nat → Cu} : aH T [nG] [27] 60 vO [part p4 [1,1,0,1,0,0]] ⟨az vO (zu n c i), Cp s n c i, 6⟩ =
  let c11 : Cu := c 0; let c10 : AV := ptr 1 0 5 0 []; let c9 : AV := ptr 0 0 5 0 []; let c8 : AV := ptr 2 0 5 0 []; let c7 : AV := rat 0 1; let c6 : Nat × aB := ((4 : Nat), aB.mk true true 3 s.a fun i ↦ rat (s.ku i) 1100); let c5 : Int := (↑i : Int); let c2 : AV := ag 3 n fun i ↦ agg [int i64 (c i).p, ag 3 (c i).n fun i_1 ↦ rat ((c i).k i_1) 1100, ag 12 (c i).m fun i_1 ↦ agg [agg [rat ((c i).f i_1).n.x 6000, rat ((c i).f i_1).n.y 6000, rat ((c i).f i_1).n.z 6000], rat ((c i).f i_1).d 6000]]; let c1 : List (Nat × aB) := [((1 : Nat), aB.mk false true 5 1 fun x ↦ agg [int i64 (0 : Int), int i64 (0 : Int), nil, nil, nil]), ((0 : Nat), aB.mk false true 5 1 fun x ↦ agg [int i64 s.u, int i64 s.v, ag 3 s.a fun i ↦ rat (s.ku i) 1100, ag 3 s.b fun i ↦ rat (s.kv i) 1100, ag 1 s.n fun i ↦ ag 12 s.m fun i_1 ↦ agg [agg [rat (s.f i i_1).n.x 1100, rat (s.f i i_1).n.y 1100, rat (s.f i i_1).n.z 1100], rat (s.f i i_1).d 1100]])]; let c13 : Int := c5 + (1 : Int); let c12 : Nat := 0 + (c c5.toNat).m; let c4 : Nat × aB := ((5 : Nat), aB.mk true true 3 c11.n fun i ↦ rat (c11.k i) 1100); let c3 : AV := agg [int i64 s.u, int i64 c11.p, own 4 3 0 s.a, own 5 3 0 c11.n, own 3 1 0 i]; some (fork (decide (c5 < (↑n : Int))) (af [(0 : Nat) < 1, (0 : Nat) * 12 ≤ 2 ^ 24, (0 : Int) ≤ c5 ∧ c5.toNat < n, c12 * ((224 : Nat) + 1) * 2 ≤ 2 ^ 47, (1 : Nat) * 1 ≤ 2 ^ 24, (i + 1) * ((24 : Nat) + 1) * 2 ≤ 2 ^ 47, (0 : Nat) < 1] (af [-(2 : Int) ^ 63 ≤ c13 ∧ c13 < (2 : Int) ^ 63] (leaf normal ([c2, c9, c10, c8, int i64 c13], ((57350 : Nat), aB.mk true true 1 (i + 1) fun i_1 ↦ if i_1 < i then cB (c i_1).f (c i_1).m sW else nth [ag 12 c12 fun i ↦ if i + 0 < 0 then nth [] (agg [agg [c7, c7, c7], c7]) (i + 0) else cU ((c c5.toNat).f (i + 0 - 0)) sW] nil (i_1 - i + 0)) :: c4 :: c6 :: ((2 : Nat), aB.mk false true 5 1 fun j ↦ if (j == 0) = true then agg (c3.kids.set 4 (br (own (nat_lit 57349 + 1) 1 0 (i + 1)))) else c3) :: c1)))) (leaf (exit 0) ([c2, c9, c10, c8, int i64 c5], ((3 : Nat), aB.mk true true 1 i fun i ↦ ag 12 (c i).m fun i_1 ↦ agg [agg [rat ((c i).f i_1).n.x 6000, rat ((c i).f i_1).n.y 6000, rat ((c i).f i_1).n.z 6000], rat ((c i).f i_1).d 6000]) :: c4 :: c6 :: ((2 : Nat), aB.mk false true 5 1 fun x ↦ c3) :: c1))) := by kernel_rfl
theorem T1 {s : Sf} {n i : Nat} {c : Nat → Cu} : bR T [nG] [] 60 sy [part p4 [1,1,1]] ⟨az vO (zu n c i), Cp s n c i, 6⟩ =
  let c1 : Prop := 0 < 1; some (af [c1, c1] (af [c1] (leaf ret [agg [int i64 s.u, int i64 (c 0).p, ag 3 s.a fun i ↦ rat (s.ku (i + 0)) 1100, ag 3 (c 0).n fun i ↦ rat ((c 0).k (i + 0)) 1100, ag 1 i fun i ↦ ag 12 (c (i + 0)).m fun i_1 ↦ agg [agg [rat ((c (i + 0)).f i_1).n.x 6000, rat ((c (i + 0)).f i_1).n.y 6000, rat ((c (i + 0)).f i_1).n.z 6000], rat ((c (i + 0)).f i_1).d 6000]]]))) := by kernel_rfl
theorem DW : ∀ K args pre r, zR K args pre = some r → aA P pJ K args pre r := eC fun ⟨c, m, _⟩ K hn => abj hn.1 hn.2 K
theorem Ug {s : Sf} {n : Nat} {c : Nat → Cu} (h1 : 1 ≤ n) (hn : n < 2 ^ 30) (ha : s.a < 2 ^ 30) (hc : (c 0).n < 2 ^ 30) (hm2 : (c 0).m < 2 ^ 30) (he : ∀ i, i < n → (c i).m = (c 0).m) (K : Nat) : aA P rE K [dL s sQ sQ, xN c n sQ sW] [] (aG (dL (BZ s n c) sQ sW) []) := by
 refine eZ (r := aG (dL (BZ s n c) sQ sW) []) hT It rfl (of_decide_eq_true (by kernel_rfl)) rfl (fun _ cx h00 => ?_) K []
 have hk := jM h00
 have hv : ∀ {rl : List (Nat × Nat)} {a b l m k : Nat} {u : AV}, aW rl 4 = some a → aW rl 5 = some b → m = s.a → k = (c 0).n → u.isTuple = false → fB (aW rl) u (.own 3 1 0 l) → gb rl (.agg [.int .i64 s.u, .int .i64 (c 0).p, .own a 3 0 m, .own b 3 0 k, u]) (.agg [.int .i64 s.u, .int .i64 (c 0).p, .own 4 3 0 s.a, .own 5 3 0 (c 0).n, .own 3 1 0 l]) :=
  fun h1 h2 h3 h4 h5 h6 => wU ⟨⟨rfl, aF rfl⟩, ⟨rfl, aF rfl⟩, ⟨rfl, cr h1 rfl h3⟩, ⟨rfl, cr h2 rfl h4⟩, ⟨h5, h6⟩, trivial⟩
 refine ak.iM hT (eF aU) hm (x := p4) [1,1,0,1] (i := 0) (y := part p4 [1,1,0,1,0,0]) (z := part p4 [1,1,1]) (by kernel_rfl) (by kernel_rfl) (by kernel_rfl) It.dst hk (f1 := []) (f2 := [27]) 60 vO 6 (fun i : Nat => zu n c i) (fun i => Cp s n c i) (fun i => i ≤ n) (fun i => i = n) (fun i => n - i) (fun _ => False) ⟨_, OQ, ?_⟩ (fun i hi => ⟨_, Tk, ?_⟩) (fun i hi => ?_) (fun _ _ h => h.elim)
 ·simp only [aa.all, ax, Int.toNat_zero]
  exact ⟨by omega, 0, Nat.zero_le _, [(0, 0), (1, 4096), (2, 77824), (4, 45056), (5, 69632)], rfl, rfl, rfl, oc rfl (by omega) (by omega) (b6 rfl rfl (Nat.zero_add _) (fun _ _ => aP rfl rfl) (b6 rfl rfl (Nat.zero_add _) (fun _ _ => aP rfl rfl)
   (aT rfl rfl (hv rfl rfl (Nat.zero_add _) (Nat.zero_add _) rfl (yh (by omega))) (aT rfl rfl (aP rfl rfl) (aT rfl rfl (aP rfl rfl) trivial)))))⟩
 ·simp only [aa.all, ax, decide_eq_true_eq, decide_eq_false_iff_not, Int.toNat_natCast, Nat.add_zero]
  refine ⟨fun h => ?_, fun h => ⟨rfl, i, by omega, [(0, 0), (1, 1), (2, 2), (3, 3), (4, 4), (5, 5)], rfl, rfl, rfl, b6 rfl rfl rfl (fun _ _ => aP rfl rfl) (b6 rfl rfl rfl (fun _ _ => aP rfl rfl) (b6 rfl rfl rfl (fun _ _ => aP rfl rfl)
   (aT rfl rfl (hv rfl rfl rfl rfl rfl (cr rfl rfl rfl)) (aT rfl rfl (aP rfl rfl) (aT rfl rfl (aP rfl rfl) trivial)))))⟩⟩
  have hei := he i (by omega)
  refine ⟨by omega, by omega, i + 1, by omega, by dsimp only; omega, [(0, 0), (1, 1), (2, 2), (3, 57350), (4, 4), (5, 5)], rfl, rfl, rfl, b6 rfl rfl rfl (fun k hk => ?_) (b6 rfl rfl rfl (fun _ _ => aP rfl rfl) (b6 rfl rfl rfl (fun _ _ => aP rfl rfl)
   (aT rfl rfl (hv rfl rfl rfl rfl rfl (cr rfl rfl rfl)) (aT rfl rfl (aP rfl rfl) (aT rfl rfl (aP rfl rfl) trivial)))))⟩
  by_cases h : k < i
  ·rw [if_pos h]; exact aP rfl rfl
  ·have : k = i := by omega
   subst this
   rw [if_neg h, Nat.sub_self]
   exact .inr ⟨rfl, j0 (Nat.zero_add _) fun j _ => by rw [if_neg (Nat.not_lt_zero _)]; rfl⟩
 ·subst hi
  refine ak.iZ ((ay.fin hT (eF aU) hm 60 T1 (by kernel_rfl) ?_).mono fun _ _ h => .inl h)
  simp only [aa.all, ax]
  exact ⟨by omega, by omega, cE ⟨.refl _, .refl _, .refl _, .refl _, gJ fun j hj => by rw [Nat.add_zero]; exact j0 (he j hj) fun _ _ => rfl, trivial⟩⟩
def EK : Spec := eA (kC (uL sQ sQ) (kC (Yk sQ sW) kN)) (fun a => dL (BZ a.1 a.2.1.1 a.2.1.2) sQ sW) fun a => [1 ≤ a.2.1.1, a.2.1.1 < 2 ^ 30, a.1.a < 2 ^ 30, (a.2.1.2 0).n < 2 ^ 30, (a.2.1.2 0).m < 2 ^ 30, ∀ i, i < a.2.1.1 → (a.2.1.2 i).m = (a.2.1.2 0).m]
noncomputable def yT : aO := nG :: (zj, cL T [nG] [] 60 wH) :: (pJ, zR) :: (rE, EK) :: []
abbrev tA : List Nat := [2, 3, 4, 5, 6]
abbrev AL (i : Nat) : List AV := [.ptr 0 0 5 0 [], .ptr 1 0 36 0 [], .ptr 2 0 5 0 [], .own 3 3 0 i, .int .i64 i]
abbrev Aw (s : Sf) (m : Mp) (c : Nat → Cu) (i : Nat) : aC := [(3, ⟨true, true, 3, i, fun i => er (c i) sQ sW⟩), (2, vR), (1, ⟨false, true, 36, 1, fun _ => eR m sM⟩), (0, ⟨false, true, 5, 1, fun _ => dL s sQ sQ⟩)]
noncomputable abbrev oP : Code := au tc
theorem P9 : ∀ K args pre r, EK K args pre = some r → aA P rE K args pre r := eC fun ⟨s, ⟨n, c⟩, _⟩ K hn => Ug hn.1 hn.2.1 hn.2.2.1 hn.2.2.2.1 hn.2.2.2.2.1 hn.2.2.2.2.2 K
theorem Gp : aV P yT := eF (aD (cV hT (eF aU) hm TF _ _) (aD DW (aD P9 aU)))
theorem Vi {s : Sf} {m : Mp} : aH T yT [] 60 tA (before oP [1,1,0,1]) ⟨aL 0 [dL s sQ sQ, eR m sM], [], 0⟩ =
  let c2 : Nat := (br (dL s sQ sQ)).size; let c1 : AV := int i64 (0 : Int); some (leaf normal ([ptr 0 0 c2 0 [], ptr 4096 0 (br (eR m sM)).size 0 [], ptr 8192 0 5 0 [], nil, c1], [((8192 : Nat), aB.mk false true 5 1 fun x ↦ agg [c1, c1, nil, nil, nil]), ((4096 : Nat), aB.mk false true (br (eR m sM)).size 1 fun x ↦ agg [agg [agg [rat m.m.a.x 300, rat m.m.a.y 300, rat m.m.a.z 300], agg [rat m.m.b.x 300, rat m.m.b.y 300, rat m.m.b.z 300], agg [rat m.m.c.x 300, rat m.m.c.y 300, rat m.m.c.z 300]], agg [rat m.t.x 300, rat m.t.y 300, rat m.t.z 300]]), ((0 : Nat), aB.mk false true c2 1 fun x ↦ agg [int i64 s.u, int i64 s.v, ag 3 s.a fun i ↦ rat (s.ku i) 1100, ag 3 s.b fun i ↦ rat (s.kv i) 1100, ag 1 s.n fun i ↦ ag 12 s.m fun i_1 ↦ agg [agg [rat (s.f i i_1).n.x 1100, rat (s.f i i_1).n.y 1100, rat (s.f i i_1).n.z 1100], rat (s.f i i_1).d 1100]])])) := by kernel_rfl
theorem YY {s : Sf} {m : Mp} {c : Nat → Cu} {i : Nat} : aH T yT [11] 60 tA [part oP [1,1,0,1,0,0]] ⟨az tA (AL i), Aw s m c i, 4⟩ =
  let c8 : AV := int i64 (0 : Int); let c7 : Prop := sM ≤ sM; let c6 : AV := ptr 0 0 5 0 []; let c5 : AV := ptr 2 0 5 0 []; let c4 : AV := ptr 1 0 36 0 []; let c3 : Int := (↑i : Int); let c2 : Prop := 0 < 1; let c9 : Int := c3 + (1 : Int); let c1 : List (Nat × aB) := [((2 : Nat), aB.mk false true 5 1 fun x ↦ agg [c8, c8, nil, nil, nil]), ((1 : Nat), aB.mk false true 36 1 fun x ↦ agg [agg [agg [rat m.m.a.x 300, rat m.m.a.y 300, rat m.m.a.z 300], agg [rat m.m.b.x 300, rat m.m.b.y 300, rat m.m.b.z 300], agg [rat m.m.c.x 300, rat m.m.c.y 300, rat m.m.c.z 300]], agg [rat m.t.x 300, rat m.t.y 300, rat m.t.z 300]]), ((0 : Nat), aB.mk false true 5 1 fun x ↦ agg [int i64 s.u, int i64 s.v, ag 3 s.a fun i ↦ rat (s.ku i) 1100, ag 3 s.b fun i ↦ rat (s.kv i) 1100, ag 1 s.n fun i ↦ ag 12 s.m fun i_1 ↦ agg [agg [rat (s.f i i_1).n.x 1100, rat (s.f i i_1).n.y 1100, rat (s.f i i_1).n.z 1100], rat (s.f i i_1).d 1100]])]; some (af [c2] (fork (decide (c3 < (↑s.n : Int))) (af [c2, c2, c2, c2, (0 : Int) ≤ c3 ∧ c3.toNat < s.n, c2, c2, c2, b9 (fun i ↦ rat (s.kv i) sQ) s.b sQ, iT (fun i ↦ cU (s.f c3.toNat i) sQ) s.m sQ, Max.max sM sM ≤ sM, c7, c7, c7, c7, c7, c7, c7, c7, c7, c7, s.b < 2 ^ 30, s.m < 2 ^ 30, (1 : Nat) * 3 ≤ 2 ^ 24, (i + 1) * ((56 : Nat) + 1) * 2 ≤ 2 ^ 47] (af [-(2 : Int) ^ 63 ≤ c9 ∧ c9 < (2 : Int) ^ 63] (leaf normal ([c6, c4, c5, own 49156 3 0 (i + 1), int i64 c9], ((49156 : Nat), aB.mk true true 3 (i + 1) fun i_1 ↦ if i_1 < i then er (c i_1) sQ sW else nth [agg [int i64 s.v, ag 3 s.b fun i ↦ rat (bg (rat (s.kv i) sQ)) sQ, ag 12 s.m fun i ↦ cU (iu (Mp.mk (M3.mk (V3.mk m.m.a.x m.m.a.y m.m.a.z) (V3.mk m.m.b.x m.m.b.y m.m.b.z) (V3.mk m.m.c.x m.m.c.y m.m.c.z)) (V3.mk m.t.x m.t.y m.t.z)) (iG (cU (s.f c3.toNat i) sQ))) sW]] (agg [c8, nil, nil]) (i_1 - i + 0)) :: c1)))) (leaf (exit 0) ([c6, c4, c5, own 3 3 0 i, int i64 c3], ((3 : Nat), aB.mk true true 3 i fun i ↦ agg [int i64 (c i).p, ag 3 (c i).n fun i_1 ↦ rat ((c i).k i_1) 1100, ag 12 (c i).m fun i_1 ↦ agg [agg [rat ((c i).f i_1).n.x 6000, rat ((c i).f i_1).n.y 6000, rat ((c i).f i_1).n.z 6000], rat ((c i).f i_1).d 6000]]) :: c1)))) := by kernel_rfl
theorem SS {s : Sf} {m : Mp} {c : Nat → Cu} {i : Nat} : bR T yT [] 60 tc [part oP [1,1,1]] ⟨az tA (AL i), Aw s m c i, 4⟩ =
  let c3 : Prop := 0 < 1; let c2 : Nat := 2 ^ 30; let c1 : Cu := c ((0 : Nat) + 0); some (af [c3, b9 (fun i ↦ rat (s.ku i) sQ) s.a sQ, b9 (fun i ↦ rat (s.kv i) sQ) s.b sQ, nq (fun i ↦ cB (s.f i) s.m sQ) s.n sQ, Ib (fun i ↦ er (c (i + 0)) sQ sW) i sQ sW, (1 : Nat) ≤ i, i < c2, s.a < c2, c1.n < c2, c1.m < c2, ∀ (i_1 : Nat), i_1 < i → (c (i_1 + 0)).m = c1.m, c3] (af [c3] (leaf ret [agg [int i64 s.u, int i64 c1.p, ag 3 s.a fun i ↦ rat (bg (rat (s.ku i) sQ)) 1100, ag 3 c1.n fun i ↦ rat (bg (rat (c1.k i) sQ)) 1100, ag 1 i fun i ↦ ag 12 c1.m fun i_1 ↦ agg [agg [rat (bg (rat ((c (i + 0)).f i_1).n.x sW)) 6000, rat (bg (rat ((c (i + 0)).f i_1).n.y sW)) 6000, rat (bg (rat ((c (i + 0)).f i_1).n.z sW)) 6000], rat (bg (rat ((c (i + 0)).f i_1).d sW)) 6000]]]))) := by kernel_rfl
theorem OC {s : Sf} {m : Mp} (h1 : 1 ≤ s.n) (hn : s.n < 2 ^ 30) (ha : s.a < 2 ^ 30) (hb : s.b < 2 ^ 30) (hm2 : s.m < 2 ^ 30) (K : Nat) : aA P uq K [dL s sQ sQ, eR m sM] [] (aG (dL (Ar m s) sQ sW) []) := by
 refine eZ (r := aG (dL (Ar m s) sQ sW) []) hT E0 rfl (of_decide_eq_true (by kernel_rfl)) rfl (fun _ cx h00 => ?_) K []
 have hk := jM h00
 obtain ⟨c, hc⟩ : ∃ c : Nat → Cu, c = fun i => ug m (Kv s i) := ⟨_, rfl⟩
 refine ak.iM hT Gp hm (x := oP) [1,1,0,1] (i := 0) (y := part oP [1,1,0,1,0,0]) (z := part oP [1,1,1]) (by kernel_rfl) (by kernel_rfl) (by kernel_rfl) E0.dst hk (f1 := []) (f2 := [11]) 60 tA 4 (fun i : Nat => AL i) (fun i => Aw s m c i) (fun i => i ≤ s.n) (fun i => i = s.n) (fun i => s.n - i) (fun _ => False) ⟨_, Vi, ?_⟩ (fun i hi => ⟨_, YY, ?_⟩) (fun i hi => ?_) (fun _ _ h => h.elim)
 ·simp only [aa.all]
  rw [Fm m]
  exact ⟨0, Nat.zero_le _, [(0, 0), (1, 4096), (2, 8192)], rfl, rfl, rfl, oc rfl (by omega) (by omega) (aT rfl rfl (aP rfl rfl) (aT (f := fun _ => eR m sM) rfl rfl (aP rfl rfl) (aT rfl rfl (aP rfl rfl) trivial)))⟩
 ·simp only [aa.all, ax, decide_eq_true_eq, decide_eq_false_iff_not, Int.toNat_natCast, Nat.add_zero]
  have re : gY 4 [(0, 0), (1, 1), (2, 2)] [((2 : Nat), vR), (1, ⟨false, true, 36, 1, fun _ => eR m sM⟩), (0, ⟨false, true, 5, 1, fun _ => dL s sQ sQ⟩)] [((2 : Nat), vR), (1, ⟨false, true, 36, 1, fun _ => eR m sM⟩), (0, ⟨false, true, 5, 1, fun _ => dL s sQ sQ⟩)] := aT rfl rfl (aP rfl rfl) (aT rfl rfl (aP rfl rfl) (aT rfl rfl (aP rfl rfl) trivial))
  refine ⟨by omega, fun h => ⟨⟨by omega, by omega, by omega, by omega, by omega, by omega, by omega, by omega, en (Nat.le_refl _), oW (Nat.le_refl _), by omega, by omega, by omega, by omega, by omega, by omega, by omega, by omega, by omega, by omega, by omega, hb, hm2, by omega, by omega⟩, by omega,
   i + 1, by omega, by dsimp only; omega, [(0, 0), (1, 1), (2, 2), (3, 49156)], rfl, rfl, rfl, b6 rfl rfl rfl (fun k hk => ?_) (aT rfl rfl (aP rfl rfl) (aT rfl rfl (aP rfl rfl) (aT rfl rfl (aP rfl rfl) trivial)))⟩,
   fun h => ⟨rfl, i, by omega, [(0, 0), (1, 1), (2, 2), (3, 3)], rfl, rfl, rfl, b6 rfl rfl rfl (fun _ _ => aP rfl rfl) (aT rfl rfl (aP rfl rfl) (aT rfl rfl (aP rfl rfl) (aT rfl rfl (aP rfl rfl) trivial)))⟩⟩
  by_cases h : k < i
  ·rw [if_pos h]; exact aP rfl rfl
  ·have : k = i := by omega
   subst this
   rw [if_neg h, Nat.sub_self, hc]
   exact aP rfl rfl
 ·subst hi
  refine ak.iZ ((ay.fin hT Gp hm 60 SS (by kernel_rfl) ?_).mono fun _ _ h => .inl h)
  simp only [aa.all, ax]
  rw [hc]
  exact ⟨⟨by omega, en (Nat.le_refl _), en (Nat.le_refl _), Iw (Nat.le_refl _), fun i hi => .refl _, h1, hn, ha, hb, hm2, fun _ _ => rfl, by omega⟩, by omega, .refl _⟩
def DC : Spec := eA (kC (uL sQ sQ) (kC (AQ sM) kN)) (fun a => dL (Ar a.2.1 a.1) sQ sW) fun a => [1 ≤ a.1.n, a.1.n < 2 ^ 30, a.1.a < 2 ^ 30, a.1.b < 2 ^ 30, a.1.m < 2 ^ 30]
theorem Rj : ∀ K args pre r, DC K args pre = some r → aA P uq K args pre r := eC fun ⟨s, m, _⟩ K hn => OC hn.1 hn.2.1 hn.2.2.1 hn.2.2.2.1 hn.2.2.2.2 K
end Go.Am.B

/- ref10.SamePoles, Same, ref12.Same for equal arguments. -/
namespace Go.Am.B
open Go Go.Am.N AV aa aj IntKind
theorem XX : aN P pH oE (au oE) := aK F5 (by kernel_rfl) (by kernel_rfl) (by kernel_rfl)
theorem VB : aN P sS qx (au qx) := aK QB (by kernel_rfl) (by kernel_rfl) (by kernel_rfl)
noncomputable def wX : aO := nG :: (nV ++ gr)
noncomputable abbrev tf : Code := au oE
abbrev zC (n m : Nat) (f g : Nat → Pl) (i : Nat) : List AV := [cB f n sU, cB g m sU, .bool false, .int .i64 i]
theorem PT {n m : Nat} {f g : Nat → Pl} : aH T wX [200010] 60 [0, 1, 4, 5] (before tf [1,1,0,1]) ⟨aL 0 [cB f n sU, cB g m sU], [], 0⟩ =
  some (af [((↑n : Int) != (↑m : Int)) = false] (leaf normal ([ag 12 n fun i ↦ agg [agg [rat (f i).n.x 4294967296, rat (f i).n.y 4294967296, rat (f i).n.z 4294967296], rat (f i).d 4294967296], ag 12 m fun i ↦ agg [agg [rat (g i).n.x 4294967296, rat (g i).n.y 4294967296, rat (g i).n.z 4294967296], rat (g i).d 4294967296], AV.bool false, int i64 (0 : Int)], []))) := by kernel_rfl
theorem Lq {n m i : Nat} {f g : Nat → Pl} : aH T wX [14, 200029, 200042] 60 [0, 1, 4, 5] [part tf [1,1,0,1,0,0]] ⟨az [0, 1, 4, 5] (zC n m f g i), [], 0⟩ =
  let c4 : Int := (↑i : Int); let c3 : AV := ag 12 m fun i ↦ agg [agg [rat (g i).n.x 4294967296, rat (g i).n.y 4294967296, rat (g i).n.z 4294967296], rat (g i).d 4294967296]; let c2 : AV := ag 12 n fun i ↦ agg [agg [rat (f i).n.x 4294967296, rat (f i).n.y 4294967296, rat (f i).n.z 4294967296], rat (f i).d 4294967296]; let c8 : Int := c4 + (1 : Int); let c5 : Prop := (0 : Int) ≤ c4; let c1 : Nat := c4.toNat; let c7 : V3 := (f c1).n; let c6 : V3 := (g c1).n; some (fork (decide (c4 < (↑n : Int))) (af [c5 ∧ c1 < n, c5 ∧ c1 < m, decide (c7.x = c6.x) = true, (bif true then decide (c7.y = c6.y) else false) = true, (!bif true then decide (c7.z = c6.z) else false) = false, c5 ∧ c1 < n, c5 ∧ c1 < m] (af [(bif false then true else !decide ((f c1).d = (g c1).d)) = false] (af [-(2 : Int) ^ 63 ≤ c8 ∧ c8 < (2 : Int) ^ 63] (leaf normal ([c2, c3, AV.bool false, int i64 c8], []))))) (leaf (exit 0) ([c2, c3, AV.bool false, int i64 c4], []))) := by kernel_rfl
theorem Nx {n m i : Nat} {f g : Nat → Pl} : bR T wX [] 60 oE [part tf [1,1,1]] ⟨az [0, 1, 4, 5] (zC n m f g i), [], 0⟩ =
  some (leaf ret [AV.bool true]) := by kernel_rfl
theorem Wd : aV P wX := eF (fl pN gP)
theorem XG {n m : Nat} {f g : Nat → Pl} (hn : n < 2 ^ 30) (hm2 : n = m) (he : ∀ i, i < n → f i = g i) (K : Nat) : aA P pH K [cB f n sU, cB g m sU] [] (aG (.bool true) []) := by
 refine iJ (r := aG (.bool true) []) hT Wd hm XX rfl (of_decide_eq_true (by kernel_rfl)) rfl [1,1,0,1] (i := 0) (y := part tf [1,1,0,1,0,0]) (z := part tf [1,1,1]) (by kernel_rfl) (by kernel_rfl) (by kernel_rfl) (f1 := [200010]) (f2 := [14, 200029, 200042]) (f3 := []) 60 [0, 1, 4, 5] 0
  (fun i : Nat => zC n m f g i) (fun _ => []) (fun i => i ≤ n) (fun i => i = n) (fun i => n - i) (fun _ => ⟨⟨_, PT, ?_⟩, fun i h1 => ⟨_, Lq, ?_⟩, fun i h1 => ⟨_, Nx, ?_⟩⟩) K []
 all_goals try simp only [aa.all, ax, decide_eq_true_eq, decide_eq_false_iff_not, Int.toNat_natCast]
 ·exact ⟨bne_eq_false_iff_eq.2 (by omega), 0, Nat.zero_le _, .vals rfl⟩
 ·refine ⟨fun h => ?_, fun h => ⟨rfl, i, by omega, .vals rfl⟩⟩
  have e := he i (by omega)
  exact ⟨⟨by omega, by omega, by rw [e], decide_eq_true (congrArg (fun p : Pl => p.n.y) e), congrArg (!·) (decide_eq_true (congrArg (fun p : Pl => p.n.z) e)), by omega, by omega⟩, congrArg (!·) (decide_eq_true (congrArg (fun p : Pl => p.d) e)), by omega, i + 1, by omega, by dsimp only; omega, .vals rfl⟩
 ·exact .refl _
def Ey : Spec := eA (kC (oy sU) (kC (oy sU) kN)) (fun _ => .bool true) fun a => [a.1.1 < 2 ^ 30, a.1.1 = a.2.1.1, ∀ i, i < a.1.1 → a.1.2 i = a.2.1.2 i]
theorem SU : ∀ K args pre r, Ey K args pre = some r → aA P pH K args pre r := eC fun _ K hn => XG hn.1 hn.2.1 hn.2.2 K
noncomputable def wz : aO := nG :: (qh, Ay) :: (pH, Ey) :: []
noncomputable abbrev uh : Code := au qx
abbrev B4 (i : Nat) : List AV := [.ptr 0 0 5 0 [], .ptr 1 0 5 0 [], .bool false, .int .i64 i]
abbrev s7 (s t : Sf) : aC := [(1, ⟨false, true, 5, 1, fun _ => dL t sU sU⟩), (0, ⟨false, true, 5, 1, fun _ => dL s sU sU⟩)]
theorem aaP {s t : Sf} : aH T wz [200011, 200018, 200026, 200034, 200042] 60 [2, 3, 4, 5] (before uh [1,1,0,1]) ⟨aL 0 [dL s sU sU, dL t sU sU], [], 0⟩ =
  let c4 : Nat := (br (dL t sU sU)).size; let c3 : Nat := (br (dL s sU sU)).size; let c2 : Nat := 2 ^ 40; let c1 : Prop := 0 < 1; some (af [c1, c1, (s.u != t.u) = false, c1, c1, (bif false then true else s.v != t.v) = false, c1, c1, b9 (fun i ↦ rat (s.ku i) sU) s.a sU, b9 (fun i ↦ rat (t.ku i) sU) t.a sU, s.a < c2, t.a < c2, (bif false then true else !mZ s.a (fun i ↦ bg (rat (s.ku i) sU)) t.a fun i ↦ bg (rat (t.ku i) sU)) = false, c1, c1, b9 (fun i ↦ rat (s.kv i) sU) s.b sU, b9 (fun i ↦ rat (t.kv i) sU) t.b sU, s.b < c2, t.b < c2, (bif false then true else !mZ s.b (fun i ↦ bg (rat (s.kv i) sU)) t.b fun i ↦ bg (rat (t.kv i) sU)) = false, c1, c1] (af [(bif false then true else (↑s.n : Int) != (↑t.n : Int)) = false] (leaf normal ([ptr 0 0 c3 0 [], ptr 4096 0 c4 0 [], AV.bool false, int i64 (0 : Int)], [((4096 : Nat), aB.mk false true c4 1 fun x ↦ agg [int i64 t.u, int i64 t.v, ag 3 t.a fun i ↦ rat (t.ku i) 4294967296, ag 3 t.b fun i ↦ rat (t.kv i) 4294967296, ag 1 t.n fun i ↦ ag 12 t.m fun i_1 ↦ agg [agg [rat (t.f i i_1).n.x 4294967296, rat (t.f i i_1).n.y 4294967296, rat (t.f i i_1).n.z 4294967296], rat (t.f i i_1).d 4294967296]]), ((0 : Nat), aB.mk false true c3 1 fun x ↦ agg [int i64 s.u, int i64 s.v, ag 3 s.a fun i ↦ rat (s.ku i) 4294967296, ag 3 s.b fun i ↦ rat (s.kv i) 4294967296, ag 1 s.n fun i ↦ ag 12 s.m fun i_1 ↦ agg [agg [rat (s.f i i_1).n.x 4294967296, rat (s.f i i_1).n.y 4294967296, rat (s.f i i_1).n.z 4294967296], rat (s.f i i_1).d 4294967296]])])))) := by kernel_rfl
theorem XT {s t : Sf} {i : Nat} : aH T wz [47, 200061] 60 [2, 3, 4, 5] [part uh [1,1,0,1,0,0]] ⟨az [2, 3, 4, 5] (B4 i), s7 s t, 2⟩ =
  let c5 : Prop := 0 < 1; let c4 : AV := ptr 1 0 5 0 []; let c3 : AV := ptr 0 0 5 0 []; let c2 : Int := (↑i : Int); let c1 : List (Nat × aB) := [((1 : Nat), aB.mk false true 5 1 fun x ↦ agg [int i64 t.u, int i64 t.v, ag 3 t.a fun i ↦ rat (t.ku i) 4294967296, ag 3 t.b fun i ↦ rat (t.kv i) 4294967296, ag 1 t.n fun i ↦ ag 12 t.m fun i_1 ↦ agg [agg [rat (t.f i i_1).n.x 4294967296, rat (t.f i i_1).n.y 4294967296, rat (t.f i i_1).n.z 4294967296], rat (t.f i i_1).d 4294967296]]), ((0 : Nat), aB.mk false true 5 1 fun x ↦ agg [int i64 s.u, int i64 s.v, ag 3 s.a fun i ↦ rat (s.ku i) 4294967296, ag 3 s.b fun i ↦ rat (s.kv i) 4294967296, ag 1 s.n fun i ↦ ag 12 s.m fun i_1 ↦ agg [agg [rat (s.f i i_1).n.x 4294967296, rat (s.f i i_1).n.y 4294967296, rat (s.f i i_1).n.z 4294967296], rat (s.f i i_1).d 4294967296]])]; let c6 : Int := c2 + (1 : Int); some (af [c5] (fork (decide (c2 < (↑s.n : Int))) (af [c5, (0 : Int) ≤ c2 ∧ c2.toNat < s.n, c5, (0 : Int) ≤ c2 ∧ c2.toNat < t.n, iT (fun i ↦ cU (s.f c2.toNat i) sU) s.m sU, iT (fun i ↦ cU (t.f c2.toNat i) sU) t.m sU, s.m < 2 ^ 30, s.m = t.m, ∀ (i : Nat), i < s.m → iG (cU (s.f c2.toNat i) sU) = iG (cU (t.f c2.toNat i) sU)] (af [(!true) = false] (af [-(2 : Int) ^ 63 ≤ c6 ∧ c6 < (2 : Int) ^ 63] (leaf normal ([c3, c4, AV.bool false, int i64 c6], c1))))) (leaf (exit 0) ([c3, c4, AV.bool false, int i64 c2], c1)))) := by kernel_rfl
theorem Y0 {s t : Sf} {i : Nat} : bR T wz [] 60 qx [part uh [1,1,1]] ⟨az [2, 3, 4, 5] (B4 i), s7 s t, 2⟩ =
  some (leaf ret [AV.bool true]) := by kernel_rfl
theorem Xg : aV P wz := eF (aD Du (aD SU aU))
theorem JF {n m : Nat} {f g : Nat → Rat} (h : n = m) (he : ∀ i, i < n → f i = g i) : mZ n f m g = true := decide_eq_true ⟨h, he⟩
structure CuEq (c d : Cu) : Prop where
 p : c.p = d.p
 n : c.n = d.n
 k : ∀ i, i < c.n → c.k i = d.k i
 m : c.m = d.m
 f : ∀ i, i < c.m → c.f i = d.f i
structure z9 (s t : Sf) : Prop where
 u : s.u = t.u
 v : s.v = t.v
 a : s.a = t.a
 ku : ∀ i, i < s.a → s.ku i = t.ku i
 b : s.b = t.b
 kv : ∀ i, i < s.b → s.kv i = t.kv i
 n : s.n = t.n
 m : s.m = t.m
 f : ∀ i j, i < s.n → j < s.m → s.f i j = t.f i j
theorem U5 {s t : Sf} (h : z9 s t) (hn : s.n < 2 ^ 30) (hm2 : s.m < 2 ^ 30) (ha : s.a < 2 ^ 30) (hb : s.b < 2 ^ 30) (K : Nat) : aA P sS K [dL s sU sU, dL t sU sU] [] (aG (.bool true) []) := by
 obtain ⟨h1, h2, h3, h4, h5, h6, h7, h8, h9⟩ := h
 refine iJ (r := aG (.bool true) []) hT Xg hm VB rfl (of_decide_eq_true (by kernel_rfl)) rfl [1,1,0,1] (i := 0) (y := part uh [1,1,0,1,0,0]) (z := part uh [1,1,1]) (by kernel_rfl) (by kernel_rfl) (by kernel_rfl) (f1 := [200011, 200018, 200026, 200034, 200042]) (f2 := [47, 200061]) (f3 := []) 60 [2, 3, 4, 5] 2
  (fun i : Nat => B4 i) (fun _ => s7 s t) (fun i => i ≤ s.n) (fun i => i = s.n) (fun i => s.n - i) (fun _ => ⟨⟨_, aaP, ?_⟩, fun i h1 => ⟨_, XT, ?_⟩, fun i h1 => ⟨_, Y0, ?_⟩⟩) K []
 all_goals try simp only [aa.all, ax, decide_eq_true_eq, decide_eq_false_iff_not, Int.toNat_natCast]
 ·exact ⟨⟨by omega, by omega, bne_eq_false_iff_eq.2 h1, by omega, by omega, bne_eq_false_iff_eq.2 h2, by omega, by omega, en (Nat.le_refl _), en (Nat.le_refl _), by omega, by omega, congrArg (!·) (JF h3 h4), by omega, by omega, en (Nat.le_refl _), en (Nat.le_refl _), by omega, by omega, congrArg (!·) (JF h5 h6), by omega, by omega⟩, bne_eq_false_iff_eq.2 (by omega),
   0, Nat.zero_le _, [(0, 0), (1, 4096)], rfl, rfl, rfl, aT rfl rfl (aP rfl rfl) (aT rfl rfl (aP rfl rfl) trivial)⟩
 ·have re : gY 2 [(0, 0), (1, 1)] (s7 s t) (s7 s t) := aT rfl rfl (aP rfl rfl) (aT rfl rfl (aP rfl rfl) trivial)
  exact ⟨by omega, fun h => ⟨⟨by omega, by omega, by omega, by omega, oW (Nat.le_refl _), oW (Nat.le_refl _), hm2, h8, fun j hj => h9 i j (by omega) hj⟩, rfl, by omega, i + 1, by omega, by dsimp only; omega, [(0, 0), (1, 1)], rfl, rfl, rfl, re⟩, fun h => ⟨rfl, i, by omega, [(0, 0), (1, 1)], rfl, rfl, rfl, re⟩⟩
 ·exact .refl _
def JP : Spec := eA (kC (uL sU sU) (kC (uL sU sU) kN)) (fun _ => .bool true) fun a => [z9 a.1 a.2.1, a.1.n < 2 ^ 30, a.1.m < 2 ^ 30, a.1.a < 2 ^ 30, a.1.b < 2 ^ 30]
theorem Yh : ∀ K args pre r, JP K args pre = some r → aA P sS K args pre r := eC fun _ K hn => U5 hn.1 hn.2.1 hn.2.2.1 hn.2.2.2.1 hn.2.2.2.2 K
end Go.Am.B
