/- brepkernelmade: Knots. -/
import Derived.Test.YtbghpkgbokbmlaaGreatY45
import Derived.Test.YtbghpkgbokbmlaaGreatB33
import Derived.Test.YtbghpkgbokbmlaaGreatY48
set_option linter.unusedVariables false
namespace Go.Am.B
open Go Go.Am.N AV aa aj IntKind
theorem I7 : aN P tv uo (au uo) := aK abF (by kernel_rfl) (by kernel_rfl) (by kernel_rfl)
def jO : aO := nG :: (lV, fO pA) :: (ir, pZ) :: (lF, vC) :: iN
abbrev iC (n : Nat) (z : Nat → Int) (a : Int) : aB := ga n (fun i => .int .i64 (z i)) a
abbrev tO (t : Rat) : aB := ⟨false, true, 3, 1, fun _ => .rat t 64⟩
abbrev P0 (m : Nat) (k : Nat → Rat) : aB := ⟨true, true, 3, m, fun i => .rat (k i) 64⟩
abbrev m7 : List Nat := [0, 1, 2, 7, 8, 9]
abbrev xp (p m : Int) (v : AV) (i : Int) : List AV := [.ptr 0 0 2 0 [], .int .i64 p, .int .i64 m, .ptr 1 0 3 0 [], v, .int .i64 i]
noncomputable abbrev tB : Code := au uo
noncomputable abbrev s8 : Code := part tB [1,1,1,1]
noncomputable abbrev pI : Code := part s8 [1]
abbrev qI : List Nat := [0, 1, 7, 8, 10]
abbrev uX : List Nat := [0, 1, 7, 8, 11]
abbrev m9 (p : Int) (l : Nat) (i : Int) : List AV := [.ptr 0 0 2 0 [], .int .i64 p, .ptr 1 0 3 0 [], .own 2 3 0 l, .int .i64 i]
abbrev js (n : Nat) (z : Nat → Int) (a : Int) (t : Rat) (l : Nat) (k : Nat → Rat) : aC := [(2, P0 l k), (1, tO t), (0, iC n z a)]
theorem aaf {n : Nat} {z : Nat → Int} {a p m : Int} : aH T jO [] 60 m7 (before tB [1,1,1,0,1]) ⟨aL 0 [.ptr 0 0 2 0 [], .int .i64 p, .int .i64 m], [(0, iC n z a)], 1⟩ =
  let c2 : Int := (2 : Int) ^ 63; let c1 : Int := bO n (fun i ↦ int i64 (z i)) a (4 : Int) - (2 : Int); some (af [bY n (fun i ↦ int i64 (z i)) a, (0 : Int) < (4 : Int), (4 : Int) < (2 : Int) ^ 62, -c2 ≤ c1 ∧ c1 < c2, -c2 ≤ c1, c1 < c2, (0 : Nat) < 1] (leaf normal ([ptr 0 0 2 0 [], int i64 p, int i64 m, ptr 20481 0 3 0 [], nil, int i64 (0 : Int)], [((20481 : Nat), aB.mk false true 3 1 fun j ↦ if (j == 0) = true then br (rat (↑c1 : Rat) (Max.max 1 (aQ c1.natAbs))) else rat 0 1), ((0 : Nat), aB.mk false true 2 1 fun x ↦ agg [ag 1 n fun i ↦ int i64 (z i), int i64 (bh n a)])]))) := by kernel_rfl
theorem Sy {n : Nat} {z : Nat → Int} {a p m : Int} {t : Rat} : aH T jO [18] 60 m7 [part tB [1,1,1,0,1,0,0]] ⟨az m7 (xp p m .nil 0), [(1, tO t), (0, iC n z a)], 3⟩ =
  let c3 : AV := ptr 1 0 3 0 []; let c2 : AV := ptr 0 0 2 0 []; let c1 : List (Nat × aB) := [((1 : Nat), aB.mk false true 3 1 fun x ↦ rat t 64), ((0 : Nat), aB.mk false true 2 1 fun x ↦ agg [ag 1 n fun i ↦ int i64 (z i), int i64 a])]; some (fork (decide ((0 : Int) ≤ p)) (af [(0 : Nat) < 1, (1 : Nat) * 3 ≤ 2 ^ 24, (0 : Nat) < 1 ∧ 1 * ((56 : Nat) + 1) * 2 ≤ 2 ^ 47] (af [-(2 : Int) ^ 63 ≤ (0 : Int) + (1 : Int) ∧ (0 : Int) + (1 : Int) < (2 : Int) ^ 63] (leaf normal ([c2, int i64 p, int i64 m, c3, own 24579 3 0 1, int i64 (1 : Int)], ((24579 : Nat), aB.mk true true 3 1 fun i ↦ nth [rat t 64] (rat 0 1) (i + 0)) :: c1)))) (leaf (exit 0) ([c2, int i64 p, int i64 m, c3, nil, int i64 (0 : Int)], c1))) := by kernel_rfl
theorem U0 {n j : Nat} {z : Nat → Int} {a p m : Int} {t : Rat} {k : Nat → Rat} : aH T jO [18] 60 m7 [part tB [1,1,1,0,1,0,0]] ⟨az m7 (xp p m (.own 2 3 0 (j + 1)) ((j + 1 : Nat) : Int)), js n z a t (j + 1) k, 3⟩ =
  let c4 : AV := ptr 1 0 3 0 []; let c3 : AV := ptr 0 0 2 0 []; let c2 : Nat := j + 1; let c1 : List (Nat × aB) := [((1 : Nat), aB.mk false true 3 1 fun x ↦ rat t 64), ((0 : Nat), aB.mk false true 2 1 fun x ↦ agg [ag 1 n fun i ↦ int i64 (z i), int i64 a])]; let c7 : Nat := c2 + 1; let c6 : Int := (↑c2 : Int); let c5 : Int := c6 + (1 : Int); some (fork (decide (c6 ≤ p)) (af [(0 : Nat) < 1, (1 : Nat) * 3 ≤ 2 ^ 24, c7 * ((56 : Nat) + 1) * 2 ≤ 2 ^ 47] (af [-(2 : Int) ^ 63 ≤ c5 ∧ c5 < (2 : Int) ^ 63] (leaf normal ([c3, int i64 p, int i64 m, c4, own 24579 3 0 c7, int i64 c5], ((24579 : Nat), aB.mk true true 3 c7 fun i ↦ if i < c2 then rat (k i) 64 else nth [rat t 64] (rat 0 1) (i - c2 + 0)) :: c1)))) (leaf (exit 0) ([c3, int i64 p, int i64 m, c4, own 2 3 0 c2, int i64 c6], ((2 : Nat), aB.mk true true 3 c2 fun i ↦ rat (k i) 64) :: c1))) := by kernel_rfl
theorem Wf {n j : Nat} {z : Nat → Int} {a p m : Int} {t : Rat} {k : Nat → Rat} : aH T jO [] 60 qI (before s8 [0,1]) ⟨az m7 (xp p m (.own 2 3 0 (j + 1)) ((j + 1 : Nat) : Int)), js n z a t (j + 1) k, 3⟩ =
  let c1 : Int := m + (1 : Int); some (af [-(2 : Int) ^ 63 ≤ c1 ∧ c1 < (2 : Int) ^ 63, bY n (fun i ↦ int i64 (z i)) a, (0 : Int) < c1, c1 < (2 : Int) ^ 62] (leaf normal ([ptr 0 0 2 0 [], int i64 p, ptr 1 0 3 0 [], own 2 3 0 (j + 1), int i64 (bO n (fun i ↦ int i64 (z i)) a c1)], [((2 : Nat), aB.mk true true 3 (j + 1) fun i ↦ rat (k i) 64), ((1 : Nat), aB.mk false true 3 1 fun x ↦ rat t 64), ((0 : Nat), aB.mk false true 2 1 fun x ↦ agg [ag 1 n fun i ↦ int i64 (z i), int i64 (bh n a)])]))) := by kernel_rfl
theorem aaJ {n l : Nat} {z : Nat → Int} {a p i : Int} {t : Rat} {k : Nat → Rat} : aH T jO [30, 38, 43, 53] 60 qI [part s8 [0,1,0,0]] ⟨az qI (m9 p l i), js n z a t l k, 3⟩ =
  let c40 : Int := i - (1 : Int); let c39 : Nat := 64 + 64 + 1; let c35 : AV := rat t 64; let c34 : AV := rat 0 1; let c33 : Int := bh n a; let c31 : Nat := l + 1; let c30 : Prop := (0 : Int) < (3 : Int); let c28 : Prop := bY n (fun i ↦ int i64 (z i)) a; let c27 : Int := (↑l : Int); let c25 : AV := ptr 1 0 3 0 []; let c24 : AV := ptr 0 0 2 0 []; let c23 : Prop := 0 < 1; let c21 : Int := (2 : Int) ^ 62; let c20 : AV := ag 1 n fun i ↦ int i64 (z i); let c18 : Int := p + (1 : Int); let c16 : Prop := 64 < 2 ^ 41; let c7 : Int := bO n (fun i ↦ int i64 (z i)) a (3 : Int); let c5 : Int := (2 : Int) ^ 63; let c43 : Int := bh n c33; let c41 : Bool := c27 == c18; let c38 : Prop := bY n (fun i ↦ int i64 (z i)) c33; let c37 : Prop := (3 : Int) < c21; let c32 : Prop := -c5 ≤ c18 ∧ c18 < c5; let c29 : Int := (1 : Int) + c7; let c26 : Nat × aB := ((1 : Nat), aB.mk false true 3 1 fun x ↦ c35); let c22 : Bool := bif false then true else decide (c7 > (0 : Int)); let c19 : List Prop := [-c5 ≤ c40 ∧ c40 < c5]; let c17 : Nat := (c27 - p).toNat + 0; let c15 : Nat × aB := ((106499 : Nat), aB.mk true true 3 c31 fun i ↦ if i < l then rat (k i) 64 else nth [c35] c34 (i - l + 0)); let c13 : List AV := [c24, int i64 p, c25, own 147459 3 0 c31, int i64 c40]; let c12 : List AV := [c24, int i64 p, c25, own 106499 3 0 c31, int i64 c40]; let c10 : Int := (1 : Int) + bO n (fun i ↦ int i64 (z i)) c33 (2 : Int); let c9 : Int := (1 : Int) + bO n (fun i ↦ int i64 (z i)) c33 (3 : Int); let c6 : List Prop := [c23, (1 : Nat) * 3 ≤ 2 ^ 24, c31 * ((56 : Nat) + 1) * 2 ≤ 2 ^ 47]; let c42 : Rat := (↑c29 : Rat) / (↑c10 : Rat); let c36 : Bool := bif false then true else decide (t = k c17); let c14 : List (Nat × aB) := [c26, ((0 : Nat), aB.mk false true 2 1 fun x ↦ agg [c20, int i64 a])]; let c11 : List Prop := [c23, -c5 ≤ c27 - p ∧ c27 - p < c5, (0 : Int) ≤ c27 - p ∧ (c27 - p).toNat < l, c17 < l, c16, c16]; let c8 : Int := (1 : Int) + bO n (fun i ↦ int i64 (z i)) c43 (2 : Int); let c3 : aa (List AV × aC) := af c6 (af c19 (leaf normal (c12, [c15, c26, ((0 : Nat), aB.mk false true 2 1 fun x ↦ agg [c20, int i64 c33])]))); let c44 : Rat := (↑c9 : Rat) / (↑c8 : Rat); let c4 : aa (List AV × aC) := af c6 (af c19 (leaf normal (c12, c15 :: c14))); let c2 : aa (List AV × aC) := af [c23, c28, c30, c37, -c5 ≤ c29 ∧ c29 < c5, c38, (0 : Int) < (2 : Int), (2 : Int) < c21, -c5 ≤ c10 ∧ c10 < c5, -c5 ≤ c29, c29 < c5, -c5 ≤ c10, c10 < c5, c16, c16, c23] (af c6 (af c19 (leaf normal (c13, [((147459 : Nat), aB.mk true true 3 c31 fun i ↦ if i < l then rat (k i) 64 else nth [rat (t + c42) c39] c34 (i - l + 0)), ((1 : Nat), aB.mk false true 3 1 fun j ↦ if (j == 0) = true then br (jh (t, (64 : Nat)) (c42, (64 : Nat))) else c35), ((0 : Nat), aB.mk false true 2 1 fun x ↦ agg [c20, int i64 c43])])))); let c1 : aa (List AV × aC) := af [c23, c38, c30, c37, -c5 ≤ c9 ∧ c9 < c5, bY n (fun i ↦ int i64 (z i)) c43, (0 : Int) < (2 : Int), (2 : Int) < c21, -c5 ≤ c8 ∧ c8 < c5, -c5 ≤ c9, c9 < c5, -c5 ≤ c8, c8 < c5, c16, c16, c23] (af c6 (af c19 (leaf normal (c13, [((147459 : Nat), aB.mk true true 3 c31 fun i ↦ if i < l then rat (k i) 64 else nth [rat (t + c44) c39] c34 (i - l + 0)), ((1 : Nat), aB.mk false true 3 1 fun j ↦ if (j == 0) = true then br (jh (t, (64 : Nat)) (c44, (64 : Nat))) else c35), ((0 : Nat), aB.mk false true 2 1 fun x ↦ agg [c20, int i64 (bh n c43)])])))); some (fork (decide (i > (0 : Int))) (fork c41 (fork true (af [c32, c41 = true, true = true] (fork true c2 c4)) (af (c32 :: (c41 = true) :: (true = false) :: c11) (fork c36 c2 c4))) (fork c22 (af [c32, c41 = false, c28, c30, c37, c22 = true] (fork true c1 c3)) (af (c32 :: (c41 = false) :: c28 :: c30 :: c37 :: (c22 = false) :: c11) (fork c36 c1 c3)))) (leaf (exit 2) ([c24, int i64 p, c25, own 2 3 0 l, int i64 i], ((2 : Nat), aB.mk true true 3 l fun i ↦ rat (k i) 64) :: c14))) := by kernel_rfl
theorem Lf {n l : Nat} {z : Nat → Int} {a p i : Int} {t : Rat} {k : Nat → Rat} : aH T jO [] 60 uX (before pI [1,0,1]) ⟨az qI (m9 p l i), js n z a t l k, 3⟩ =
  let c1 : Nat := Max.max 1 (aQ (Int.natAbs (1 : Int))); some (af [(0 : Nat) < 1, -(2 : Int) ^ 63 ≤ (1 : Int), (1 : Int) < (2 : Int) ^ 63, (64 : Nat) < 2 ^ 41, c1 < 2 ^ 41, (0 : Nat) < 1] (leaf normal ([ptr 0 0 2 0 [], int i64 p, ptr 1 0 3 0 [], own 2 3 0 l, int i64 (0 : Int)], [((2 : Nat), aB.mk true true 3 l fun i ↦ rat (k i) 64), ((1 : Nat), aB.mk false true 3 1 fun j ↦ if (j == 0) = true then br (jh (t, (64 : Nat)) ((↑(1 : Int) : Rat), c1)) else rat t 64), ((0 : Nat), aB.mk false true 2 1 fun x ↦ agg [ag 1 n fun i ↦ int i64 (z i), int i64 a])]))) := by kernel_rfl
theorem Zo {n l : Nat} {z : Nat → Int} {a p i : Int} {t : Rat} {k : Nat → Rat} : aH T jO [72] 60 uX [part pI [1,0,1,0,0]] ⟨az uX (m9 p l i), js n z a t l k, 3⟩ =
  let c3 : AV := ptr 1 0 3 0 []; let c2 : AV := ptr 0 0 2 0 []; let c1 : List (Nat × aB) := [((1 : Nat), aB.mk false true 3 1 fun x ↦ rat t 64), ((0 : Nat), aB.mk false true 2 1 fun x ↦ agg [ag 1 n fun i ↦ int i64 (z i), int i64 a])]; some (fork (decide (i ≤ p)) (af [(0 : Nat) < 1, (1 : Nat) * 3 ≤ 2 ^ 24, (l + 1) * ((56 : Nat) + 1) * 2 ≤ 2 ^ 47] (af [-(2 : Int) ^ 63 ≤ i + (1 : Int) ∧ i + (1 : Int) < (2 : Int) ^ 63] (leaf normal ([c2, int i64 p, c3, own 24579 3 0 (l + 1), int i64 (i + (1 : Int))], ((24579 : Nat), aB.mk true true 3 (l + 1) fun i ↦ if i < l then rat (k i) 64 else nth [rat t 64] (rat 0 1) (i - l + 0)) :: c1)))) (leaf (exit 4) ([c2, int i64 p, c3, own 2 3 0 l, int i64 i], ((2 : Nat), aB.mk true true 3 l fun i ↦ rat (k i) 64) :: c1))) := by kernel_rfl
theorem Uk {n l : Nat} {z : Nat → Int} {a p i : Int} {t : Rat} {k : Nat → Rat} : wv T jO [] 60 uo [part pI [1,1]] ⟨az uX (m9 p l i), js n z a t l k, 3⟩ =
  some (leaf ret ([ag 3 l fun i ↦ rat (k (i + 0)) 64], some (aB.mk false true 2 1 fun x ↦ agg [ag 1 n fun i ↦ int i64 (z i), int i64 a]))) := by kernel_rfl
structure oK where
 k : Nat → Rat
 t : Rat
 a : Int
def mU (n : Nat) (f : Nat → AV) (t : Rat) (a : Int) : Rat := t + ((1 + bO n f a 3 : Int) : Rat) / ((1 + bO n f (bh n a) 2 : Int) : Rat)
def mN (n : Nat) (f : Nat → AV) (p j : Nat) (s : oK) : oK :=
 if j = 0 ∨ 0 < bO n f s.a 3 ∨ s.t = s.k (j + 1) then
  ⟨gE s.k (p + 1 + j) (mU n f s.t (if j = 0 then s.a else bh n s.a)), mU n f s.t (if j = 0 then s.a else bh n s.a), bh n (bh n (if j = 0 then s.a else bh n s.a))⟩
 else ⟨gE s.k (p + 1 + j) s.t, s.t, if j = 0 then s.a else bh n s.a⟩
def lR (n : Nat) (f : Nat → AV) (p : Nat) (s0 : oK) : Nat → oK
 | 0 => s0
 | j + 1 => mN n f p j (lR n f p s0 j)
def lW (n : Nat) (f : Nat → AV) (a : Int) : oK := ⟨fun _ => ((bO n f a 4 - 2 : Int) : Rat), ((bO n f a 4 - 2 : Int) : Rat), bh n (bh n a)⟩
def iH (n : Nat) (f : Nat → AV) (a : Int) (m : Nat) : Nat := (bO n f (bh n a) (m + 1)).toNat
def xV (n : Nat) (f : Nat → AV) (a : Int) (p m : Nat) : oK := lR n f p (lW n f a) (iH n f a m)
def mD (n : Nat) (f : Nat → AV) (a : Int) (p m : Nat) : Nat := 2 * p + 2 + iH n f a m
def oG (n : Nat) (f : Nat → AV) (a : Int) (p m : Nat) : Nat → Rat := jn p (iH n f a m) (xV n f a p m).k (xV n f a p m).t
def m0 (n : Nat) (f : Nat → AV) (a : Int) (p m : Nat) : Int := (xV n f a p m).a
theorem yo {n : Nat} {f : Nat → AV} {a : Int} {p : Nat} (hd : bY n f a) (hp : 1 ≤ p) : ∀ j, KG p j (lR n f p (lW n f a) j).k (lR n f p (lW n f a) j).t ∧ bY n f (lR n f p (lW n f a) j).a
 | 0 => by
  have h1 := gW (n := n) (f := f) (a := a) (m := 4) (by omega)
  have h2 := gN (n := n) (f := f) (a := a) (m := 4) (by omega)
  exact ⟨KG.start hp (by omega) (by omega), hd.next.next⟩
 | j + 1 => by
  obtain ⟨h1, h2⟩ := yo hd hp j
  unfold lR mN mU
  generalize lR n f p (lW n f a) j = s at *
  obtain ⟨k, t, b⟩ := s
  simp only at h1 h2 ⊢
  have hb : bY n f (if j = 0 then b else bh n b) := by split; exact h2; exact h2.next
  generalize (if j = 0 then b else bh n b) = a1 at *
  split
  ·have x1 := gW (n := n) (f := f) (a := a1) (m := 3) (by omega)
   have x2 := gN (n := n) (f := f) (a := a1) (m := 3) (by omega)
   have y1 := gW (n := n) (f := f) (a := bh n a1) (m := 2) (by omega)
   have y2 := gN (n := n) (f := f) (a := bh n a1) (m := 2) (by omega)
   refine ⟨h1.next (.inl ?_), hb.next.next⟩
   generalize bO n f a1 3 = x at *
   generalize bO n f (bh n a1) 2 = y at *
   have key : ∃ z : Int, ((1 + x : Int) : Rat) / ((1 + y : Int) : Rat) = (z : Rat) / 2 ∧ 1 ≤ z ∧ z ≤ 6 := by
    rcases (show y = 0 ∨ y = 1 by omega) with h | h
    ·subst h
     refine ⟨2 * (1 + x), ?_, by omega, by omega⟩
     have : ((2 * (1 + x) : Int) : Rat) = 2 * ((1 + x : Int) : Rat) := by simp
     rw [this]
     generalize ((1 + x : Int) : Rat) = w
     simp; grind
    ·subst h
     exact ⟨1 + x, by simp, by omega, by omega⟩
   obtain ⟨z, e, z1, z2⟩ := key
   rw [e]
   refine ⟨?_, z, rfl, z2⟩
   have : (1 : Rat) ≤ (z : Rat) := by exact_mod_cast z1
   grind
  ·rename_i hc
   have hc1 : ¬ j = 0 := fun h => hc (.inl h)
   have hc2 : ¬ t = k (j + 1) := fun h => hc (.inr (.inr h))
   exact ⟨h1.next (.inr ⟨rfl, by omega, hc2⟩), hb⟩
theorem Fh {z : Int} (h1 : -2 ^ 63 ≤ z) (h2 : z < 2 ^ 63) : Sz ((z : Rat) / 2) 64 := by
 have := FW h1 h2 (y := 2) (by omega) (by omega) (by omega)
 simpa using this
theorem KG.sz {p j : Nat} {k : Nat → Rat} {t : Rat} (h : KG p j k t) (hj : j < 2 ^ 50) : Sz t 64 := by
 obtain ⟨z, e, h1, h2⟩ := h.half (p + j) (Nat.le_refl _)
 rw [h.top] at e
 rw [e]
 exact Fh (by omega) (by omega)
theorem WA {J j : Nat} (h : j < J) : ((J - j : Nat) : Int) - 1 = ((J - (j + 1) : Nat) : Int) := by omega
theorem zG {rl : List (Nat × Nat)} {l i : Nat} {k k' : Nat → Rat} {t : Rat} {s : Nat} (hk : k' = gE k l t) (ht : Sz t 64) (hi : i < l + 1) : gb rl (if i < l then .rat (k i) 64 else nth [.rat t s] (.rat 0 1) (i - l + 0)) (.rat (k' i) 64) := by
 subst hk
 by_cases h : i < l
 ·rw [if_pos h, gp (by omega)]; exact aP rfl rfl
 ·have : i = l := by omega
  subst this
  rw [if_neg h, kG, Nat.sub_self]
  exact .inr ⟨rfl, eu rfl ht⟩
theorem x5 : aV P jO := eF (aD vS (aD vK (aD vW jK)))
theorem RS {k n p m : Nat} {z : Nat → Int} {a : Int} {o : aB} (ho : ∀ ρ, cy ρ o (iC n z a)) (h : bY n (fun i => .int .i64 (z i)) a) (hp : 1 ≤ p) (hp2 : p < 1000) (hm2 : m < 1000) (K : Nat) :
  aA P tv K [.ptr k 0 2 0 [], .int .i64 p, .int .i64 m] [(k, o)] ⟨bP (oG n (fun i => .int .i64 (z i)) a p m) (mD n (fun i => .int .i64 (z i)) a p m) 64, [(k, iC n z (m0 n (fun i => .int .i64 (z i)) a p m))], []⟩ := by
 refine Ff hT I7 rfl rfl (of_decide_eq_true (by kernel_rfl)) ho (fun _ c hk => ?_) K
 have a1 := gW (n := n) (f := fun i => .int .i64 (z i)) (a := a) (m := 4) (by omega)
 have a2 := gN (n := n) (f := fun i => .int .i64 (z i)) (a := a) (m := 4) (by omega)
 have b1 := gW (n := n) (f := fun i => .int .i64 (z i)) (a := bh n a) (m := m + 1) (by omega)
 have b2 := gN (n := n) (f := fun i => .int .i64 (z i)) (a := bh n a) (m := m + 1) (by omega)
 have hS := yo h hp
 unfold m0 oG mD xV at *
 obtain ⟨J, hJ⟩ : ∃ J, J = iH n (fun i => .int .i64 (z i)) a m := ⟨_, rfl⟩
 have hJ2 : bO n (fun i => .int .i64 (z i)) (bh n a) (m + 1) = (J : Int) := by rw [hJ]; unfold iH; omega
 rw [← hJ] at *
 have hJ3 : J < 1000 := by omega
 obtain ⟨S, hSd⟩ : ∃ S, S = lR n (fun i => .int .i64 (z i)) p (lW n (fun i => .int .i64 (z i)) a) := ⟨_, rfl⟩
 have h00 : S 0 = lW n (fun i => .int .i64 (z i)) a := by rw [hSd]; rfl
 have hS1 : ∀ j, S (j + 1) = mN n (fun i => .int .i64 (z i)) p j (S j) := fun j => by rw [hSd]; rfl
 rw [← hSd] at hS ⊢
 clear hSd hJ
 obtain ⟨t0, ht0⟩ : ∃ t0 : Rat, t0 = ((bO n (fun i => .int .i64 (z i)) a 4 - 2 : Int) : Rat) := ⟨_, rfl⟩
 unfold lW at h00
 rw [← ht0] at h00
 have hs0 : Sz t0 64 := by have := (hS 0).1.sz (by omega); rw [h00] at this; exact this
 refine ak.iM hT x5 hm [1,1,1,0,1] (i := 0) (y := part tB [1,1,1,0,1,0,0]) (z := s8) (by kernel_rfl) (by kernel_rfl) (by kernel_rfl) I7.dst hk (f1 := []) (f2 := [18]) 60 m7 3
  (fun j : Nat => xp p m (match j with
   | 0 => .nil
   | _ + 1 => .own 2 3 0 j) j) (fun j => match j with
   | 0 => [(1, tO t0), (0, iC n z (bh n a))]
   | _ + 1 => js n z (bh n a) t0 j (fun _ => t0)) (fun j => j ≤ p + 1) (fun j => j = p + 1) (fun j => p + 1 - j) (fun _ => False) ⟨_, aaf, ?_⟩ (fun j hj => ?_) (fun j hj => ?_) (fun _ _ h => h.elim)
 ·simp only [aa.all, ax]
  refine ⟨⟨h, by omega, by omega, by omega, by omega, by omega, by omega⟩, 0, by omega, [(0, 0), (1, 20481)], rfl, rfl, rfl, aT rfl rfl (.inr ⟨rfl, ?_⟩) (aT rfl rfl (aP rfl rfl) trivial)⟩
  rw [← ht0]
  exact eu rfl hs0
 ·cases j with
  | zero =>
   refine ⟨_, Sy, ?_⟩
   simp only [aa.all, ax, decide_eq_true_eq, decide_eq_false_iff_not]
   refine ⟨fun _ => ⟨by omega, by omega, 1, by omega, by dsimp only; omega, [(0, 0), (1, 1), (2, 24579)], rfl, rfl, rfl, b6 rfl rfl rfl (fun i hi => ?_) (aT rfl rfl (aP rfl rfl) (aT rfl rfl (aP rfl rfl) trivial))⟩, fun h => by omega⟩
   have : i = 0 := by omega
   subst this
   exact aP rfl rfl
  | succ j =>
   refine ⟨_, U0, ?_⟩
   simp only [aa.all, ax, decide_eq_true_eq, decide_eq_false_iff_not]
   refine ⟨fun _ => ⟨by omega, by omega, j + 2, by omega, by dsimp only; omega, [(0, 0), (1, 1), (2, 24579)], rfl, rfl, rfl, b6 rfl rfl rfl (fun i hi => zG (by funext i; unfold gE; split <;> rfl) hs0 hi) (aT rfl rfl (aP rfl rfl) (aT rfl rfl (aP rfl rfl) trivial))⟩,
    fun _ => ⟨rfl, j + 1, by omega, [(0, 0), (1, 1), (2, 2)], rfl, rfl, rfl, b6 rfl rfl rfl (fun i hi => aP rfl rfl) (aT rfl rfl (aP rfl rfl) (aT rfl rfl (aP rfl rfl) trivial))⟩⟩
 subst hj
 refine ak.iM hT x5 hm [0,1] (i := 2) (y := part s8 [0,1,0,0]) (z := pI) (by kernel_rfl) (by kernel_rfl) (by kernel_rfl) (by kernel_rfl) hk (f1 := []) (f2 := [30, 38, 43, 53]) 60 qI 3
  (fun j : Nat => m9 p (p + 1 + j) ((J - j : Nat) : Int)) (fun j => js n z (S j).a (S j).t (p + 1 + j) (S j).k) (fun j => j ≤ J) (fun j => j = J) (fun j => J - j) (fun _ => False) ⟨_, Wf, ?_⟩ (fun j hj => ?_) (fun j hj => ?_) (fun _ _ h => h.elim)
 ·simp only [aa.all, ax]
  rw [hJ2]
  refine ⟨⟨by omega, h.next, by omega, by omega⟩, 0, by omega, [(0, 0), (1, 1), (2, 2)], rfl, rfl, rfl, ?_⟩
  dsimp only
  rw [h00]
  exact b6 rfl rfl rfl (fun i hi => aP rfl rfl) (aT rfl rfl (aP rfl rfl) (aT rfl rfl (aP rfl rfl) trivial))
 ·refine ⟨_, aaJ, ?_⟩
  have hj1 := hS1 j
  obtain ⟨hg, hd⟩ := hS j
  have hs1 : ∀ {j}, j < 2000 → Sz (S j).t 64 := fun hj => (hS _).1.sz (by omega)
  have hsj := hs1 (j := j) (by omega)
  have hsj1 := hs1 (j := j + 1) (by omega)
  have e1 : (((p + 1 + j : Nat) : Int) - (p : Int)).toNat + 0 = j + 1 := by omega
  simp only [aa.all, ax, decide_eq_true_eq, decide_eq_false_iff_not, beq_iff_eq, beq_eq_false_iff_ne, e1, cond_false]
  have v3 := fun a => And.intro (gW (n := n) (f := fun i => .int .i64 (z i)) (a := a) (m := 3) (by omega)) (gN (n := n) (f := fun i => .int .i64 (z i)) (a := a) (m := 3) (by omega))
  have v2 := fun a => And.intro (gW (n := n) (f := fun i => .int .i64 (z i)) (a := a) (m := 2) (by omega)) (gN (n := n) (f := fun i => .int .i64 (z i)) (a := a) (m := 2) (by omega))
  have q1 := v3 (S j).a
  have q2 := v3 (bh n (S j).a)
  have q3 := v2 (bh n (S j).a)
  have q4 := v2 (bh n (bh n (S j).a))
  refine ⟨fun hi => ?_, fun hi => ⟨rfl, j, by omega, [(0, 0), (1, 1), (2, 2)], rfl, rfl, rfl, b6 rfl rfl rfl (fun i hi => aP rfl rfl) (aT rfl rfl (aP rfl rfl) (aT rfl rfl (aP rfl rfl) trivial))⟩⟩
  have hlt : j < J := by omega
  have fin : ∀ (key : Nat) (t : Rat) (s s2 : Nat) (b : Int) (g : Nat → AV), S (j + 1) = ⟨gE (S j).k (p + 1 + j) t, t, b⟩ → g 0 = .rat t s2 → (gO 3 [(0, 0), (1, 1), (2, key)]) = true → (key == 1) = false → (key == 0) = false →
    Round [0] (fun j => m9 p (p + 1 + j) ((J - j : Nat) : Int)) (fun j => js n z (S j).a (S j).t (p + 1 + j) (S j).k) 3 (fun j => j ≤ J) (fun j => j = J) (fun j => J - j) 2 (fun _ => False) j normal
     ([ptr 0 0 2 0 [], int i64 p, ptr 1 0 3 0 [], own key 3 0 (p + 1 + j + 1), int i64 (((J - j : Nat) : Int) - 1)], [(key, ⟨true, true, 3, p + 1 + j + 1, fun i => if i < p + 1 + j then .rat ((S j).k i) 64 else nth [.rat t s] (.rat 0 1) (i - (p + 1 + j) + 0)⟩), (1, ⟨false, true, 3, 1, g⟩), (0, iC n z b)]) := by
   intro key t s s2 b g e1 e2 e3 hk1 hk0
   rw [e1] at hsj1
   refine ⟨j + 1, by omega, by dsimp only; omega, [(0, 0), (1, 1), (2, key)], by rw [e3]; rfl, by rw [WA hlt]; rfl, rfl, ?_⟩
   dsimp only
   rw [e1]
   exact b6 rfl SI rfl (fun i hi => zG rfl hsj1 hi) (aT rfl ((He hk1).trans rfl) (.inr ⟨by rw [e2]; rfl, by rw [e2]; exact eu rfl hsj1⟩) (aT rfl ((He hk0).trans rfl) (aP rfl rfl) trivial))
  refine ⟨fun hl => ?_, fun hl => ⟨fun hc => ?_, fun hc => ?_⟩⟩
  all_goals (repeat' with_reducible first | refine And.intro ?_ ?_ | intro _)
  all_goals first | omega | exact hd | exact hd.next | exact hd.next.next | skip
  all_goals try exact absurd ‹true = false› (by decide)
  ·refine fin 147459 _ _ _ _ _ ?_ rfl rfl rfl rfl
   rw [hj1]; unfold mN mU
   have hj0 : j = 0 := by omega
   rw [if_pos (.inl hj0), if_pos hj0]
  ·refine fin 147459 _ _ _ _ _ ?_ rfl rfl rfl rfl
   rw [hj1]; unfold mN mU
   have hj0 : j ≠ 0 := by omega
   rw [if_pos (.inr (.inl hc)), if_neg hj0]
  ·refine fin 147459 _ _ _ _ _ ?_ rfl rfl rfl rfl
   rw [hj1]; unfold mN mU
   have hj0 : j ≠ 0 := by omega
   rename_i hk
   rw [if_pos (.inr (.inr hk)), if_neg hj0]
  ·refine fin 106499 _ _ _ _ _ ?_ rfl rfl rfl rfl
   rw [hj1]; unfold mN mU
   have hj0 : j ≠ 0 := by omega
   rename_i hk
   rw [if_neg (by simp only [hj0, hk, or_false, false_or]; omega), if_neg hj0]
 subst hj
 have hs1 : Sz ((S j).t + 1) 64 := by
  obtain ⟨z, e, h1, h2⟩ := (hS j).1.WJ (p + 1 + j)
  unfold jn at e
  rw [if_neg (by omega)] at e
  rw [e]; exact Fh (by omega) (by omega)
 refine ak.iM hT x5 hm [1,0,1] (i := 4) (y := part pI [1,0,1,0,0]) (z := part pI [1,1]) (by kernel_rfl) (by kernel_rfl) (by kernel_rfl) (by kernel_rfl) hk (f1 := []) (f2 := [72]) 60 uX 3
  (fun i : Nat => m9 p (p + 1 + j + i) i) (fun i => js n z (S j).a ((S j).t + 1) (p + 1 + j + i) (jn p j (S j).k (S j).t)) (fun i => i ≤ p + 1) (fun i => i = p + 1) (fun i => p + 1 - i) (fun _ => False) ⟨_, Lf, ?_⟩ (fun i hi => ?_) (fun i hi => ?_) (fun _ _ h => h.elim)
 ·simp only [aa.all, ax]
  refine ⟨⟨by omega, by omega, by omega, by omega, by decide, by omega⟩, 0, by omega, [(0, 0), (1, 1), (2, 2)], rfl, rfl, rfl, b6 rfl rfl rfl (fun i hi => ?_) (aT rfl rfl (.inr ⟨rfl, eu rfl hs1⟩) (aT rfl rfl (aP rfl rfl) trivial))⟩
  refine aP rfl ?_
  unfold jn
  rw [if_pos (by omega)]
 ·refine ⟨_, Zo, ?_⟩
  simp only [aa.all, ax, decide_eq_true_eq, decide_eq_false_iff_not]
  refine ⟨fun _ => ⟨by omega, by omega, i + 1, by omega, by dsimp only; omega, [(0, 0), (1, 1), (2, 24579)], rfl, rfl, rfl, b6 rfl rfl rfl (fun i hi => zG ?_ hs1 hi) (aT rfl rfl (aP rfl rfl) (aT rfl rfl (aP rfl rfl) trivial))⟩,
   fun _ => ⟨rfl, i, by omega, [(0, 0), (1, 1), (2, 2)], rfl, rfl, rfl, b6 rfl rfl rfl (fun i hi => aP rfl rfl) (aT rfl rfl (aP rfl rfl) (aT rfl rfl (aP rfl rfl) trivial))⟩⟩
  funext x
  unfold gE jn
  split
  ·rename_i hx; rw [if_neg (by omega)]
  ·split <;> rfl
 ·subst hi
  refine ak.iZ (ay.CV hT x5 hm 60 Uk (by kernel_rfl) ⟨?_, _, rfl, rfl, kK rfl rfl⟩)
  exact j0 (by omega) fun _ _ => rfl
def zZ (n : Nat) (f : Nat → AV) (a : Int) (l : List AV) : Option (AV × Int × List Prop) := match l with
 | [.int .i64 p, .int .i64 m] => some (bP (oG n f a p.toNat m.toNat) (mD n f a p.toNat m.toNat) 64, m0 n f a p.toNat m.toNat, [1 ≤ p, p < 1000, 0 ≤ m, m < 1000])
 | _ => none
theorem KN : ∀ K args pre r, fO zZ K args pre = some r → aA P tv K args pre r := by
 refine pC fun {k n z a l v b q o} K hg ho hd hq => ?_
 unfold zZ at hg
 split at hg
 ·rename_i p m
  simp only [Option.some.injEq, Prod.mk.injEq] at hg
  obtain ⟨rfl, rfl, rfl⟩ := hg
  obtain ⟨h1, h2, h3, h4⟩ := hq
  have h4 : m < 1000 := h4
  have := RS (k := k) (p := p.toNat) (m := m.toNat) ho hd (by omega) (by omega) (by omega) K
  rw [Int.toNat_of_nonneg (by omega), Int.toNat_of_nonneg h3] at this
  exact this
 ·simp at hg
end Go.Am.B

/- brepkernelmade: Number. -/
namespace Go.Am.B
open Go Go.Am.N AV
end Go.Am.B

/- law09: made, at. -/
namespace Go.Am.B
open Go Go.Am.N AV aa aj IntKind
end Go.Am.B

/- ref02.Text of a few numbers; law09.awake. -/
namespace Go.Am.B
open Go Go.Am.N AV aa aj IntKind
def wm : aO := [sG, (ov, Cb)]
theorem LW : bA T wm [] 60 jV (au jV) ⟨aL 0 [.mag 3], [], 0⟩ =
  let c1 : Int := (↑(1 : Nat) : Int); some (af [nl 3 < 2 ^ 40, (0 : Int) < (1000000000 : Int), (1000000000 : Int) < (2 : Int) ^ 32] (af [(10 : Int) ≠ (0 : Int), (0 : Nat) < 1 ∧ 1 * ((1 : Nat) + 1) * 2 ≤ 2 ^ 47] (af [(10 : Int) ≠ (0 : Int)] (af [(0 : Int) ≤ c1 ∧ c1 ≤ c1 ∧ c1 ≤ (2 : Int) ^ 47 ∧ c1 * c1 ≤ (2 : Int) ^ 47] (leaf ret [str [UInt8.ofNat (u8.wrap (u32.wrap ((48 : Int) + (↑((3 : Nat) % Int.toNat (1000000000 : Int)) : Int).tmod (10 : Int)))).toNat]]))))) := by kernel_rfl
theorem Zn : aV P wm := cQ (aD DE aU)
theorem Kn.congr {n p : Nat} {k k' : Nat → Rat} (h : Kn n p k) (e : ∀ i, i < n → k i = k' i) : Kn n p k' := by
 have hp := h.p1
 have hl := h.len
 refine ⟨h.p1, h.len, fun i hi => ?_, fun i hi => ?_, fun i h1 h2 => ?_, fun i h1 h2 => ?_⟩
 ·rw [← e i (by omega), ← e (i + 1) hi]; exact h.sorted i hi
 ·rw [← e i (by omega), ← e 0 (by omega)]; exact h.first i hi
 ·rw [← e i h2, ← e (n - 1) (by omega)]; exact h.last i h1 h2
 ·rw [← e i (by omega), ← e (i + p) (by omega)]; exact h.mult i h1 h2
theorem aas {f : Nat → Rat} (h : ∀ i, i < 6 → f i = jn 2 0 (fun _ => ((0 : Int) : Rat)) ((0 : Int) : Rat) i) : Kn 6 2 f :=
 ((KG.start (p := 2) (by omega) (z := 0) (by omega) (by omega)).done : Kn (2 * 2 + 2 + 0) 2 _).congr fun i hi => (h i hi).symm
end Go.Am.B

/- shapes, vector, ref14: by the evaluator; law14.awake. -/
namespace Go.Am.B
open Go Go.Am.N AV aa aj IntKind
theorem abC : aN P wI qy (au qy) := aK SD (by kernel_rfl) (by kernel_rfl) (by kernel_rfl)
theorem abc {q : Rat} {n : Nat} : bA T GA [8] 60 qy (au qy) ⟨aL 0 [.rat q n], [], 0⟩ =
  let c4 : Int := (↑(nl q.num.natAbs) : Int); let c3 : Bool := !decide (q < 0); let c2 : List AV := [mag q.num.natAbs, mag (if q.den = 1 then 0 else q.den)]; let c1 : Prop := 0 < 1; some (af [c1, n < 2 ^ 44, c1] (fork c3 (af [c1, c3 = true, c1, c1] (af [c1, c1] (af [c1] (leaf ret [agg (AV.bool (bif true then decide (c4 > (0 : Int)) else false) :: c2)])))) (af [c1, c3 = false, c1] (af [c1, c1] (af [c1] (leaf ret [agg (AV.bool false :: c2)])))))) := by kernel_rfl
theorem Wx {q : Rat} {n : Nat} (hn : n < 2 ^ 40) (K : Nat) : aA P wI K [.rat q n] [] (aG (.rat (-q) n) []) := by
 refine gj fun ⟨hs1, _⟩ => ?_
 have hs1 : Sz q n := hs1
 have hs2 := hs1.neg
 have e1 : (-q).num.natAbs = q.num.natAbs := by rw [Rat.neg_num, Int.natAbs_neg]
 have e2 : (-q).den = q.den := Rat.neg_den q
 refine bD (r := aG (.rat (-q) n) []) hT qd hm abC rfl (of_decide_eq_true (by kernel_rfl)) rfl 60 abc (fun _ => ?_) K []
 simp only [aa.all, ax]
 refine ⟨⟨by omega, by omega, by omega⟩, fun hb => ⟨⟨by omega, hb, by omega, by omega⟩, ⟨by omega, by omega⟩, by omega, jS hs2 ?_ e1.symm (by rw [e2])⟩, fun hb => ⟨⟨by omega, hb, by omega⟩, ⟨by omega, by omega⟩, by omega, jS hs2 ?_ e1.symm (by rw [e2])⟩⟩
 ·have hq : ¬ q < 0 := by simpa using hb
  rw [cond_true]
  have h1 : ¬ q.num < 0 := fun h => hq (e9.2 h)
  exact ((decide_eq_decide (p := -q < 0) (q := (nl q.num.natAbs : Int) > 0)).2 (by
   rw [e9, Rat.neg_num]
   have := eE (N := q.num.natAbs)
   omega)).symm
 ·have hq : q < 0 := by simpa using hb
  have := e9.1 hq
  exact (decide_eq_false (p := -q < 0) (by rw [e9, Rat.neg_num]; omega)).symm
def E6 : aO := [(wI, bp fun l => match l with
 | [.rat q n] => match Nat.blt n (2 ^ 40) with
  | true => some (aG (.rat (-q) n) [])
  | false => none
 | _ => none)]
noncomputable def pO : aO := [(Eo, cL T (sG :: iz) [] 60 Dc), (DN, cL T (sG :: iz) [] 60 EC), (EP, cL T (sG :: iz) [] 60 Ji)]
noncomputable def B7 : aO := [(IJ, cL T (sG :: pO) [] 60 I9), (C2, cL T (sG :: pO) [] 60 FJ), (CA, cL T (sG :: pO) [] 60 GH)]
noncomputable def Af : aO := [(Ik, cL T (sG :: B7) [] 60 DT)]
noncomputable def wZ : aO := [(oD, wJ), (wg, cL T [sG] [] 60 sB), (Dm, cL T (sG :: (B7 ++ iz)) [] 60 Hv), (pP, cL T (sG :: (oD, wJ) :: iz) [] 200 iL)]
noncomputable def A9 : aO := [(HG, cL T (sG :: wZ) [] 200 CE), (CX, cL T (sG :: wZ) [] 200 Fg), (CF, cL T (sG :: (pO ++ (E6 ++ iz))) [] 200 DD)]
noncomputable def Fz : aO := [(ny, cL T (sG :: (pU, cL T (sG :: iz) [] 200 pW) :: (wZ ++ iz)) [] 400 p6)]
noncomputable def Hu : aO := [(xF, F4), (G0, cL T (sG :: gr) [] 60 JL), (GV, cL T (sG :: gr) [] 60 Gb)]
noncomputable def Gn : aO := [(Fo, cL T (sG :: Hu) [] 200 FU)]
noncomputable def nV : aO := [(Is, cL T (sG :: gr) [] 60 H8), (E2, cL T (sG :: gr) [] 60 E1), (DM, cL T (sG :: gr) [] 60 C0), (C4, cL T (sG :: gr) [] 60 F6), (HU, cL T (sG :: gr) [100010, 100017] 60 CO)]
noncomputable def FL : aO := [(qh, Ay), (pH, cL T (sG :: (nV ++ gr)) [200029, 200042] 200 oE)]
noncomputable def Jd : aO := [(Eb, cL T (sG :: FL) [100010, 100017] 60 FA)]
def DG : Spec := bp fun l => match l with
 | [.mag 3] => some (aG (.str [51]) [])
 | [.mag 5] => some (aG (.str [53]) [])
 | _ => none
def aaO : aO := [sG, (qL, DG)]
def E8 : Spec := bp fun l => match l with
 | [.rat q _] => match decide (q = 3 / 5) with
  | true => some (aG (.str [51, 47, 53]) [])
  | false => none
 | _ => none
noncomputable def Hr : aO := sG :: (yq, CC) :: (lF, vC) :: (y9, E8) :: (A9 ++ (Fz ++ (Gn ++ (nV ++ (Af ++ (Jd ++ gr))))))
theorem abd : bA T wm [] 60 jV (au jV) ⟨aL 0 [.mag 5], [], 0⟩ =
  let c1 : Int := (↑(1 : Nat) : Int); some (af [nl 5 < 2 ^ 40, (0 : Int) < (1000000000 : Int), (1000000000 : Int) < (2 : Int) ^ 32] (af [(10 : Int) ≠ (0 : Int), (0 : Nat) < 1 ∧ 1 * ((1 : Nat) + 1) * 2 ≤ 2 ^ 47] (af [(10 : Int) ≠ (0 : Int)] (af [(0 : Int) ≤ c1 ∧ c1 ≤ c1 ∧ c1 ≤ (2 : Int) ^ 47 ∧ c1 * c1 ≤ (2 : Int) ^ 47] (leaf ret [str [UInt8.ofNat (u8.wrap (u32.wrap ((48 : Int) + (↑((5 : Nat) % Int.toNat (1000000000 : Int)) : Int).tmod (10 : Int)))).toNat]]))))) := by kernel_rfl
theorem aa9 : bA T aaO [] 60 tw (au tw) ⟨aL 0 [.agg [.bool false, .mag 3, .mag 5]], [], 0⟩ =
  some (leaf ret [str [(51 : UInt8), (47 : UInt8), (53 : UInt8)]]) := by kernel_rfl
theorem Ze : bA T Hr [100027, 100033, 100038, 100043, 100047, 100053] 200 BK (au BK) ⟨aL 0 [], [], 0⟩ =
  let c49 : Int := (↑(4 : Nat) : Int); let c48 : List UInt8 := [(51 : UInt8), (47 : UInt8), (53 : UInt8)]; let c47 : Prop := 3 ≤ 3; let c46 : Prop := (0 : Int) ≤ (0 : Int); let c44 : Rat := 0 * 0; let c42 : Nat := 2 ^ 40; let c41 : Nat := 224 + 1; let c28 : Int := i64.wrap (i64.wrap ((2 : Int) * (4 : Int)) + (1 : Int)); let c27 : Int := (2 : Int) ^ 63; let c25 : Rat := (↑(2 : Int) : Rat); let c22 : Nat := Int.toNat (0 : Int) + 1; let c21 : Nat := nat_lit 0 + 0; let c20 : Nat := nat_lit 2 + 0; let c19 : Nat := 1 + 1; let c18 : Nat := nat_lit 1 + 0; let c17 : AV := rat 0 1; let c15 : Rat := (↑(0 : Int) : Rat); let c14 : Nat := 24 + 1; let c12 : Nat := 56 + 1; let c11 : Nat := 3 + 2; let c7 : Nat := 2 ^ 47; let c6 : AV := int i64 (1 : Int); let c3 : AV := int i64 (0 : Int); let c2 : Prop := 0 < 1; let c1 : Rat := (↑(1 : Int) : Rat); let c53 : List AV := [c6, c3]; let c52 : Prop := c11 * c12 * 2 ≤ c7; let c50 : Nat := c22 + 1; let c45 : Nat := c11 + 1; let c43 : Nat := c19 + 1; let c40 : Rat := c1 / (c1 + c1 * c1); let c39 : Prop := (bif false then true else !decide (c1 = c1)) = false; let c38 : Nat := c11 + 2 + 2; let c35 : Rat := (↑(intOf (nth [c6, c3, c3] c3 c21)) : Rat) + 0; let c32 : Rat := (↑(intOf (nth [c6, c3, c3] c3 c18)) : Rat) + 0; let c31 : Rat := (↑(intOf (nth [c6, c3, c3] c3 c20)) : Rat) + 0; let c24 : Rat := 0 + 0 * c1 + c44 + c1 * 0 + 0; let c23 : List AV := [c3, c3, c3, c6, c6, c6]; let c9 : AV := rat c15 (Max.max 1 (aQ (Int.natAbs (0 : Int)))); let c8 : AV := rat c1 (Max.max 1 (aQ (Int.natAbs (1 : Int)))); let c5 : Prop := c2 ∧ 1 * c41 * 2 ≤ c7; let c4 : Prop := c19 * c41 * 2 ≤ c7; let c37 : Rat := (↑(intOf (nth (c3 :: c53) c3 c18)) : Rat) + 0; let c36 : Rat := (↑(intOf (nth (c3 :: c53) c3 c20)) : Rat) + 0; let c34 : Rat := (↑(intOf (nth (c3 :: c53) c3 c21)) : Rat) + 0; let c33 : Rat := (↑(intOf (nth (c6 :: c53) c3 c20)) : Rat) + 0; let c30 : Rat := (↑(intOf (nth (c6 :: c53) c3 c18)) : Rat) + 0; let c29 : Rat := (↑(intOf (nth (c6 :: c53) c3 c21)) : Rat) + 0; let c16 : Rat := 0 + (c1 - c1 * c1) * c40 * c1 + -((c1 + c1) * c40) * 0 + c44 + 0; let c13 : Rat := 0 + (c1 + c1) * c40 * c1 + ((c1 - c1 * c1) * c40 + 0) * 0 + c44 + 0; let c10 : Nat := c43 + 1 + 1; let c51 : Nat := c10 + 1 + 1; let c26 : Nat := c51 + 1; some (af [c2, c2, c2, c2, c2, c2, c2, -c27 ≤ (1 : Int), (1 : Int) < c27, -c27 ≤ (2 : Int), (2 : Int) < c27, b9 (fun i ↦ rat (↑(intOf (nth c23 c3 (i + 0 + 0))) : Rat) 64) 6 sK, iT (fun i ↦ nth [agg [agg [c8, c9, c9], c8], agg [agg [c8, c8, c9], c8], agg [agg [c9, c8, c9], rat c25 (Max.max 1 (aQ (Int.natAbs (2 : Int))))]] (agg [agg [c17, c17, c17], c17]) (i + 0)) 3 sK, (64 : Nat) ≤ sK, Kn 6 (Int.toNat (2 : Int)) fun i ↦ bg (rat (↑(intOf (nth c23 c3 (i + 0 + 0))) : Rat) 64), (0 : Int) ≤ (2 : Int), (2 : Int) ≤ (6 : Int), (6 : Nat) < c42, (↑(3 : Nat) : Int) = (↑(6 : Nat) : Int) - (2 : Int) - (1 : Int)] (af [c2, c2, c2, c2, c2, c2, c2, c2, c2, c2] (af [c2, c2, c2, c2, c2, c2, c2, c2, c2, c2, c2, c52, (c11 + 2) * c12 * 2 ≤ c7, c38 * c12 * 2 ≤ c7, (c38 + 2) * c12 * 2 ≤ c7, (c38 + 2 + 1) * c12 * 2 ≤ c7, c46 ∧ (0 : Int) ≤ c49 ∧ c49 ≤ (2 : Int) ^ 47 ∧ c49 * (↑(56 : Nat) : Int) ≤ (2 : Int) ^ 47, c22 * c12 * 2 ≤ c7, c50 * c12 * 2 ≤ c7, (c50 + 1) * c12 * 2 ≤ c7, (c50 + 1 + 1) * c12 * 2 ≤ c7, c2, c2, c46 ∧ (0 : Int) ≤ c28 ∧ c28 ≤ (↑(9 : Nat) : Int), c5, c4, c2 ∧ 1 * c14 * 2 ≤ c7, c5, c4, c19 * c14 * 2 ≤ c7, c5, c4, c43 * c14 * 2 ≤ c7, c5, c4, (c43 + 1) * c14 * 2 ≤ c7, c5, c4, c10 * c14 * 2 ≤ c7, c5, c4, (c10 + 1) * c14 * 2 ≤ c7, c5, c4, c51 * c14 * 2 ≤ c7, c5, c4, c26 * c14 * 2 ≤ c7, c5, c4, (c26 + 1) * c14 * 2 ≤ c7, c2] (af [(fh 6 (fun i ↦ bg (rat (↑(intOf (nth c23 c3 (i + 0 + 0))) : Rat) 64)) (c1 / c25) == (0 : Int)) = true, (bif true then c48 == c48 else false) = true, c52, c45 * c12 * 2 ≤ c7, c2, c2, c46 ∧ (0 : Int) ≤ (3 : Int) ∧ (3 : Int) ≤ (↑(9 : Nat) : Int), c47, c2, c2, c2, c5, c47, c2, c2, c2, c4, c47, c2, c2, c2, c43 * c41 * 2 ≤ c7, c2, c2, c2, c2, c2, c2, c2, c2, ((2 : Int) == (2 : Int)) = true, b9 (fun i ↦ if i + 0 < c11 then if i + 0 < 3 then rat (↑(intOf (nth [c3, c3, c3] c3 (i + 0 + 0))) : Rat) 64 else rat (↑(intOf (nth [c6, c6] c3 (i + 0 - 3 + 0 + 0))) : Rat) 64 else nth [c8] c17 (i + 0 - c11 + 0)) c45 sU, b9 (fun i ↦ rat (↑(intOf (nth c23 c3 (i + 0 + 0))) : Rat) 64) 6 sU, c45 < c42, (6 : Nat) < c42, (bif true then mZ c45 (fun i ↦ bg (if i + 0 < c11 then if i + 0 < 3 then rat (↑(intOf (nth [c3, c3, c3] c3 (i + 0 + 0))) : Rat) 64 else rat (↑(intOf (nth [c6, c6] c3 (i + 0 - 3 + 0 + 0))) : Rat) 64 else nth [c8] c17 (i + 0 - c11 + 0))) 6 fun i ↦ bg (rat (↑(intOf (nth c23 c3 (i + 0 + 0))) : Rat) 64) else false) = true, decide (c35 = c1) = true, (bif true then decide (c32 = c15) else false) = true, (!bif true then decide (c31 = c15) else false) = false, c39, decide (c29 = c1) = true, (bif true then decide (c30 = c1) else false) = true, (!bif true then decide (c33 = c15) else false) = false, c39, decide (c34 = c15) = true, (bif true then decide (c37 = c1) else false) = true, (!bif true then decide (c36 = c15) else false) = false, (bif false then true else !decide (c25 = c25)) = false, (bif true then bif true then true else false else false) = true, c2, decide (c16 = 0) = true, (bif true then decide (c13 = c1) else false) = true, (bif true then bif true then decide (c24 = 0) else false else false) = true, (bif true then (0 : Int) == (0 : Int) else false) = true, (bif true then (↑(c26 + 1) : Int) == (9 : Int) else false) = true] (leaf ret [AV.bool true]))))) := by kernel_rfl
theorem aaY : aV P E6 := aD (by
 refine bF fun K args r hk hs _ => ?_
 split at hs
 ·split at hs
  ·rename_i hb
   simp only [Option.some.injEq] at hs
   subst hs
   exact Wx (by rw [Nat.blt_eq] at hb; exact hb) K
  ·simp at hs
 ·simp at hs) aU
theorem vh : aV P pO := aD (cV hT (cQ iD) hm (aK VF (by kernel_rfl) (by kernel_rfl) (by kernel_rfl)) _ _) (aD (cV hT (cQ iD) hm (aK S2 (by kernel_rfl) (by kernel_rfl) (by kernel_rfl)) _ _) (aD (cV hT (cQ iD) hm (aK Sr (by kernel_rfl) (by kernel_rfl) (by kernel_rfl)) _ _) aU))
theorem Hg : aV P B7 := aD (cV hT (cQ vh) hm (aK Pe (by kernel_rfl) (by kernel_rfl) (by kernel_rfl)) _ _) (aD (cV hT (cQ vh) hm (aK Yf (by kernel_rfl) (by kernel_rfl) (by kernel_rfl)) _ _) (aD (cV hT (cQ vh) hm (aK Sw (by kernel_rfl) (by kernel_rfl) (by kernel_rfl)) _ _) aU))
theorem Fu : aV P Af := aD (cV hT (cQ Hg) hm (aK aaD (by kernel_rfl) (by kernel_rfl) (by kernel_rfl)) _ _) aU
theorem AR : aV P wZ := aD AI (aD (cV hT (cQ aU) hm (aK Iq (by kernel_rfl) (by kernel_rfl) (by kernel_rfl)) _ _) (aD (cV hT (cQ (fl Hg iD)) hm (aK Ut (by kernel_rfl) (by kernel_rfl) (by kernel_rfl)) _ _) (aD (cV hT (cQ (aD AI iD)) hm (aK Gs (by kernel_rfl) (by kernel_rfl) (by kernel_rfl)) _ _) aU)))
theorem J5 : aV P A9 := aD (cV hT (cQ AR) hm (aK UL (by kernel_rfl) (by kernel_rfl) (by kernel_rfl)) _ _) (aD (cV hT (cQ AR) hm (aK Ow (by kernel_rfl) (by kernel_rfl) (by kernel_rfl)) _ _) (aD (cV hT (cQ (fl vh (fl aaY iD))) hm (aK Xe (by kernel_rfl) (by kernel_rfl) (by kernel_rfl)) _ _) aU))
theorem R6 : aV P Fz := aD (cV hT (cQ (aD (cV hT (cQ iD) hm (aK CB (by kernel_rfl) (by kernel_rfl) (by kernel_rfl)) _ _) (fl AR iD))) hm (aK JT (by kernel_rfl) (by kernel_rfl) (by kernel_rfl)) _ _) aU
theorem N6 : aV P Hu := aD X6 (aD (cV hT (cQ gP) hm (aK S0 (by kernel_rfl) (by kernel_rfl) (by kernel_rfl)) _ _) (aD (cV hT (cQ gP) hm (aK OY (by kernel_rfl) (by kernel_rfl) (by kernel_rfl)) _ _) aU))
theorem Uu : aV P Gn := aD (cV hT (cQ N6) hm (aK Zl (by kernel_rfl) (by kernel_rfl) (by kernel_rfl)) _ _) aU
theorem pN : aV P nV := aD (cV hT (cQ gP) hm (aK Lh (by kernel_rfl) (by kernel_rfl) (by kernel_rfl)) _ _) (aD (cV hT (cQ gP) hm (aK QL (by kernel_rfl) (by kernel_rfl) (by kernel_rfl)) _ _) (aD (cV hT (cQ gP) hm (aK KT (by kernel_rfl) (by kernel_rfl) (by kernel_rfl)) _ _) (aD (cV hT (cQ gP) hm (aK YZ (by kernel_rfl) (by kernel_rfl) (by kernel_rfl)) _ _) (aD (cV hT (cQ gP) hm (aK SP (by kernel_rfl) (by kernel_rfl) (by kernel_rfl)) _ _) aU))))
theorem Vc : aV P FL := aD Du (aD (cV hT (cQ (fl pN gP)) hm (aK F5 (by kernel_rfl) (by kernel_rfl) (by kernel_rfl)) _ _) aU)
theorem ZX : aV P Jd := aD (cV hT (cQ Vc) hm (aK SC (by kernel_rfl) (by kernel_rfl) (by kernel_rfl)) _ _) aU
theorem NY : ∀ K args pre r, DG K args pre = some r → aA P qL K args pre r := by
 refine bF fun K args r hk hs _ => ?_
 have fin : ∀ {N : Nat} {t : aa (List AV)} {l : List UInt8}, bA T wm [] 60 jV (au jV) ⟨aL 0 [.mag N], [], 0⟩ = some t → (t.all fun _ us => dG us (.str l)) → aA P qL K [.mag N] [] (aG (.str l) []) := fun h1 h2 =>
  bD (r := aG _ []) hT Zn hm Qe rfl (of_decide_eq_true (by kernel_rfl)) rfl 60 h1 (fun _ => h2) K []
 split at hs <;> simp only [Option.some.injEq, reduceCtorEq] at hs
 all_goals subst hs
 ·exact fin LW (by simp only [aa.all, ax]; exact ⟨by decide, by decide, by decide, by decide, .refl _⟩)
 ·exact fin abd (by simp only [aa.all, ax]; exact ⟨by decide, by decide, by decide, by decide, .refl _⟩)
theorem ZS : ∀ K args pre r, E8 K args pre = some r → aA P y9 K args pre r := by
 refine bF fun K args r hk hs _ => ?_
 split at hs
 ·rename_i q n
  split at hs
  all_goals simp only [Option.some.injEq, reduceCtorEq] at hs
  all_goals subst hs
  obtain rfl : q = 3 / 5 := of_decide_eq_true ‹_›
  exact fk (bD (r := aG _ []) hT (cQ (aD NY aU)) hm N4 rfl (of_decide_eq_true (by kernel_rfl)) rfl 60 aa9 (fun _ => .refl _) K []) rfl (show ej [_] [_] from ⟨by rw [← show kids (.rat (3 / 5) n) = [.bool false, .mag 3, .mag 5] from by kernel_rfl]; exact Ga, trivial⟩) []
 ·simp at hs
theorem Qg : aV P Hr := cQ (aD U1 (aD vW (aD ZS (fl J5 (fl R6 (fl Uu (fl pN (fl Fu (fl ZX gP)))))))))
theorem Ud (K : Nat) : aA P wk K [] [] (aG (.bool true) []) := by
 refine bD (r := aG (.bool true) []) hT Qg hm (aK NR (by kernel_rfl) (by kernel_rfl) (by kernel_rfl)) rfl (of_decide_eq_true (by kernel_rfl)) rfl 200 Ze (fun _ => ?_) K []
 simp only [aa.all, ax]
 (repeat' with_reducible first | refine And.intro ?_ ?_)
 all_goals first | omega | decide | skip
 ·intro i hi
  match i, hi with
  | 0, _ | 1, _ | 2, _ | 3, _ | 4, _ | 5, _ => exact dY (by decide)
 ·intro i hi
  match i, hi with
  | 0, _ | 1, _ | 2, _ => exact cE ⟨cE ⟨dY (by decide), dY (by decide), dY (by decide), trivial⟩, dY (by decide), trivial⟩
 ·refine aas fun i hi => ?_
  match i, hi with
  | 0, _ | 1, _ | 2, _ | 3, _ | 4, _ | 5, _ => decide +kernel
 ·decide +kernel
 ·intro i hi
  match i, hi with
  | 0, _ | 1, _ | 2, _ | 3, _ | 4, _ | 5, _ => exact dY (by decide)
 ·intro i hi
  match i, hi with
  | 0, _ | 1, _ | 2, _ | 3, _ | 4, _ | 5, _ => exact dY (by decide)
 all_goals first | exact .refl _ | decide +kernel
def D4 : Spec := bp fun l => match l with
 | [] => some (aG (.bool true) [])
 | _ => none
theorem Th : ∀ K args pre r, D4 K args pre = some r → aA P wk K args pre r := by
 refine bF fun K args r hk hs _ => ?_
 split at hs
 ·simp only [Option.some.injEq] at hs
  subst hs
  exact Ud K
 ·simp at hs
end Go.Am.B

/- spline.Copied, shapes.clamped, shapes.Revolve. -/
namespace Go.Am.B
open Go Go.Am.N AV aa aj IntKind
theorem UP : aN P pU pW (au pW) := aK CB (by kernel_rfl) (by kernel_rfl) (by kernel_rfl)
theorem wP : aN P pP iL (au iL) := aK Gs (by kernel_rfl) (by kernel_rfl) (by kernel_rfl)
theorem Eg : aN P ny p6 (au p6) := aK JT (by kernel_rfl) (by kernel_rfl) (by kernel_rfl)
abbrev BJ (y m : Nat) (k : Nat → Rat) : aB := ⟨true, true, 3, m, fun i => .rat (k i) y⟩
noncomputable abbrev sx : Code := au pW
abbrev ue : List Nat := [3, 9, 10, 11]
abbrev AW (x n : Nat) (k : Nat → Rat) (i : Nat) : List AV := [.own 0 3 0 i, bP k n x, .int .i64 n, .int .i64 i]
noncomputable def yI : aO := nG :: AO
noncomputable def vw : aO := sG :: (oD, wJ) :: iz
theorem ZB {x n : Nat} {k : Nat → Rat} : aH T yI [] 60 ue (before sx [1,1,0,1]) ⟨aL 0 [bP k n x], [], 0⟩ =
  let c1 : Int := (↑n : Int); some (af [(0 : Int) ≤ (0 : Int) ∧ (0 : Int) ≤ c1 ∧ c1 ≤ (2 : Int) ^ 47 ∧ c1 * (↑(56 : Nat) : Int) ≤ (2 : Int) ^ 47] (leaf normal ([own 12288 3 0 0, ag 3 n fun i ↦ rat (k i) x, int i64 c1, int i64 (0 : Int)], [((12288 : Nat), aB.mk true true 3 0 fun x ↦ rat 0 1)]))) := by kernel_rfl
theorem XJ {x y n i : Nat} {k : Nat → Rat} : aH T yI [12] 60 ue [part sx [1,1,0,1,0,0]] ⟨az ue (AW x n k i), [(0, BJ y i k)], 1⟩ =
  let c4 : Int := (↑n : Int); let c2 : AV := ag 3 n fun i ↦ rat (k i) x; let c1 : Int := (↑i : Int); let c3 : Int := c1 + (1 : Int); some (fork (decide (c1 < c4)) (af [(0 : Int) ≤ c1 ∧ c1.toNat < n, (0 : Nat) < 1] (af [(0 : Nat) < 1, x < 2 ^ 42, (1 : Nat) < 2 ^ 42, (1 : Nat) * 3 ≤ 2 ^ 24, (i + 1) * ((56 : Nat) + 1) * 2 ≤ 2 ^ 47] (af [-(2 : Int) ^ 63 ≤ c3 ∧ c3 < (2 : Int) ^ 63] (leaf normal ([own 40961 3 0 (i + 1), c2, int i64 c4, int i64 c3], [((40961 : Nat), aB.mk true true 3 (i + 1) fun i_1 ↦ if i_1 < i then rat (k i_1) y else nth [rat (k c1.toNat + 0) (x + 1 + 1)] (rat 0 1) (i_1 - i + 0))]))))) (leaf (exit 0) ([own 0 3 0 i, c2, int i64 c4, int i64 c1], [((0 : Nat), aB.mk true true 3 i fun i ↦ rat (k i) y)]))) := by kernel_rfl
theorem YM {x y n i : Nat} {k : Nat → Rat} : bR T yI [] 60 pW [part sx [1,1,1]] ⟨az ue (AW x n k i), [(0, BJ y i k)], 1⟩ =
  some (leaf ret [ag 3 i fun i ↦ rat (k (i + 0)) y]) := by kernel_rfl
theorem abr : bA T vw [] 200 iL (au iL) ⟨aL 0 [.int .i64 1], [], 0⟩ =
  let c2 : AV := int i64 (0 : Int); let c1 : Nat := 3 + 2; some (af [c1 * ((56 : Nat) + 1) * 2 ≤ 2 ^ 47] (af [(c1 + 1) * ((56 : Nat) + 1) * 2 ≤ 2 ^ 47] (leaf ret [ag 3 6 fun i ↦ if i + 0 < c1 then if i + 0 < 3 then rat (↑(intOf (nth [c2, c2, c2] c2 (i + 0 + 0))) : Rat) 64 else rat (↑(intOf (nth [int i64 (1 : Int), int i64 (1 : Int)] c2 (i + 0 - 3 + 0 + 0))) : Rat) 64 else nth [rat (↑(1 : Int) : Rat) (Max.max 1 (aQ (Int.natAbs (1 : Int))))] (rat 0 1) (i + 0 - c1 + 0)]))) := by kernel_rfl
theorem Ri : bA T vw [] 200 iL (au iL) ⟨aL 0 [.int .i64 2], [], 0⟩ =
  let c6 : Nat := 56 + 1; let c5 : Nat := 2 ^ 47; let c4 : AV := int i64 (i64.wrap ((1 : Int) + (1 : Int))); let c2 : AV := int i64 (0 : Int); let c1 : Nat := 3 + 2; let c3 : Nat := c1 + 2; some (af [c1 * c6 * 2 ≤ c5] (af [c3 * c6 * 2 ≤ c5] (af [(c3 + 1) * c6 * 2 ≤ c5] (leaf ret [ag 3 8 fun i ↦ if i + 0 < c3 then if i + 0 < c1 then if i + 0 < 3 then rat (↑(intOf (nth [c2, c2, c2] c2 (i + 0 + 0))) : Rat) 64 else rat (↑(intOf (nth [int i64 (1 : Int), int i64 (1 : Int)] c2 (i + 0 - 3 + 0 + 0))) : Rat) 64 else rat (↑(intOf (nth [c4, c4] c2 (i + 0 - c1 + 0 + 0))) : Rat) 64 else nth [rat (↑(2 : Int) : Rat) (Max.max 1 (aQ (Int.natAbs (2 : Int))))] (rat 0 1) (i + 0 - c3 + 0)])))) := by kernel_rfl
theorem Lu : bA T vw [] 200 iL (au iL) ⟨aL 0 [.int .i64 3], [], 0⟩ =
  let c6 : Nat := 56 + 1; let c5 : Nat := 2 ^ 47; let c4 : Nat := 3 + 2; let c3 : AV := int i64 (0 : Int); let c2 : Int := i64.wrap ((1 : Int) + (1 : Int)); let c8 : AV := int i64 (i64.wrap (c2 + (1 : Int))); let c1 : Nat := c4 + 2; let c7 : Nat := c1 + 2; some (af [c4 * c6 * 2 ≤ c5] (af [c1 * c6 * 2 ≤ c5] (af [c7 * c6 * 2 ≤ c5] (af [(c7 + 1) * c6 * 2 ≤ c5] (leaf ret [ag 3 10 fun i ↦ if i + 0 < c7 then if i + 0 < c1 then if i + 0 < c4 then if i + 0 < 3 then rat (↑(intOf (nth [c3, c3, c3] c3 (i + 0 + 0))) : Rat) 64 else rat (↑(intOf (nth [int i64 (1 : Int), int i64 (1 : Int)] c3 (i + 0 - 3 + 0 + 0))) : Rat) 64 else rat (↑(intOf (nth [int i64 c2, int i64 c2] c3 (i + 0 - c4 + 0 + 0))) : Rat) 64 else rat (↑(intOf (nth [c8, c8] c3 (i + 0 - c1 + 0 + 0))) : Rat) 64 else nth [rat (↑(3 : Int) : Rat) (Max.max 1 (aQ (Int.natAbs (3 : Int))))] (rat 0 1) (i + 0 - c7 + 0)]))))) := by kernel_rfl
theorem PW : bA T vw [] 200 iL (au iL) ⟨aL 0 [.int .i64 4], [], 0⟩ =
  let c8 : Int := i64.wrap ((1 : Int) + (1 : Int)); let c7 : Nat := 3 + 2; let c6 : Nat := 2 ^ 47; let c5 : Nat := 56 + 1; let c3 : AV := int i64 (0 : Int); let c2 : Int := i64.wrap (c8 + (1 : Int)); let c1 : Nat := c7 + 2; let c10 : AV := int i64 (i64.wrap (c2 + (1 : Int))); let c9 : Nat := c1 + 2; let c4 : Nat := c9 + 2; some (af [c7 * c5 * 2 ≤ c6] (af [c1 * c5 * 2 ≤ c6] (af [c9 * c5 * 2 ≤ c6] (af [c4 * c5 * 2 ≤ c6] (af [(c4 + 1) * c5 * 2 ≤ c6] (leaf ret [ag 3 12 fun i ↦ if i + 0 < c4 then if i + 0 < c9 then if i + 0 < c1 then if i + 0 < c7 then if i + 0 < 3 then rat (↑(intOf (nth [c3, c3, c3] c3 (i + 0 + 0))) : Rat) 64 else rat (↑(intOf (nth [int i64 (1 : Int), int i64 (1 : Int)] c3 (i + 0 - 3 + 0 + 0))) : Rat) 64 else rat (↑(intOf (nth [int i64 c8, int i64 c8] c3 (i + 0 - c7 + 0 + 0))) : Rat) 64 else rat (↑(intOf (nth [int i64 c2, int i64 c2] c3 (i + 0 - c1 + 0 + 0))) : Rat) 64 else rat (↑(intOf (nth [c10, c10] c3 (i + 0 - c9 + 0 + 0))) : Rat) 64 else nth [rat (↑(4 : Int) : Rat) (Max.max 1 (aQ (Int.natAbs (4 : Int))))] (rat 0 1) (i + 0 - c4 + 0)])))))) := by kernel_rfl
theorem TR : aV P yI := eF CM
theorem Yq {x y n : Nat} {k : Nat → Rat} (hxy : x + 10 ≤ y) (hy : y < 2 ^ 40) (hn : n < 2 ^ 40) (K : Nat) : aA P pU K [bP k n x] [] (aG (bP k n y) []) := by
 refine iJ (r := aG (bP k n y) []) hT TR hm UP rfl (of_decide_eq_true (by kernel_rfl)) rfl [1,1,0,1] (i := 0) (y := part sx [1,1,0,1,0,0]) (z := part sx [1,1,1]) (by kernel_rfl) (by kernel_rfl) (by kernel_rfl) (f1 := []) (f2 := [12]) (f3 := []) 60 ue 1
  (fun i : Nat => AW x n k i) (fun i => [(0, BJ y i k)]) (fun i => i ≤ n) (fun i => i = n) (fun i => n - i) (fun _ => ⟨⟨_, ZB, ?_⟩, fun i hi => ⟨_, XJ, ?_⟩, fun i hi => ⟨_, YM, ?_⟩⟩) K []
 ·simp only [aa.all, ax]
  exact ⟨by omega, 0, Nat.zero_le _, [(0, 12288)], rfl, rfl, rfl, b6 rfl rfl rfl (fun i hi => absurd hi (Nat.not_lt_zero i)) trivial⟩
 ·simp only [aa.all, ax, decide_eq_true_eq, decide_eq_false_iff_not, Int.toNat_natCast, Nat.add_zero]
  exact ⟨fun h2 => ⟨by omega, by omega, by omega, i + 1, by omega, by dsimp only; omega, [(0, 40961)], rfl, rfl, rfl, b6 rfl rfl rfl (fun j hj => Bb (fun _ _ => rfl) (Rat.add_zero _) (Nat.le_refl _) (by omega) hj) trivial⟩, fun h2 => ⟨rfl, i, by omega, [(0, 0)], rfl, rfl, rfl, b6 rfl rfl rfl (fun j hj => aP rfl rfl) trivial⟩⟩
 ·subst hi
  simp only [aa.all, ax]
  exact j0 rfl fun j hj => rfl
def HN (x y : Nat) : Spec := eA (kC (kL x) kN) (fun a => bP a.1.2 a.1.1 y) fun a => [x + 10 ≤ y, y < 2 ^ 40, a.1.1 < 2 ^ 40]
def dP (q i : Nat) : Rat := ((min ((i - 1) / 2) q : Nat) : Rat)
def IS : Spec := bp fun l => match l with
 | [.int .i64 q] => some (aG (bP (dP q.toNat) (2 * q.toNat + 4) 64) [1 ≤ q, q ≤ 4])
 | _ => none
theorem Z9 (x y : Nat) : ∀ K args pre r, HN x y K args pre = some r → aA P pU K args pre r := eC fun ⟨⟨n, k⟩, _⟩ K hn => Yq hn.1 hn.2.1 hn.2.2 K
theorem xy : aV P vw := cQ (aD AI iD)
theorem WQ {q : Nat} (h1 : 1 ≤ q) (h4 : q ≤ 4) (K : Nat) : aA P pP K [.int .i64 (q : Int)] [] (aG (bP (dP q) (2 * q + 4) 64) []) := by
 rcases (show q = 1 ∨ q = 2 ∨ q = 3 ∨ q = 4 by omega) with rfl | rfl | rfl | rfl
 ·refine bD (r := aG (bP (dP 1) 6 64) []) hT xy hm wP rfl (of_decide_eq_true (by kernel_rfl)) rfl 200 abr (fun _ => ?_) K []
  simp only [aa.all, ax]
  (repeat' with_reducible refine And.intro ?_ ?_)
  all_goals first | omega | skip
  refine gJ fun i hi => ?_
  match i, hi with
  | 0, _ | 1, _ | 2, _ | 3, _ | 4, _ | 5, _ => exact bS (by decide +kernel) (by decide)
 ·refine bD (r := aG (bP (dP 2) 8 64) []) hT xy hm wP rfl (of_decide_eq_true (by kernel_rfl)) rfl 200 Ri (fun _ => ?_) K []
  simp only [aa.all, ax]
  (repeat' with_reducible refine And.intro ?_ ?_)
  all_goals first | omega | skip
  refine gJ fun i hi => ?_
  match i, hi with
  | 0, _ | 1, _ | 2, _ | 3, _ | 4, _ | 5, _ | 6, _ | 7, _ => exact bS (by decide +kernel) (by decide)
 ·refine bD (r := aG (bP (dP 3) 10 64) []) hT xy hm wP rfl (of_decide_eq_true (by kernel_rfl)) rfl 200 Lu (fun _ => ?_) K []
  simp only [aa.all, ax]
  (repeat' with_reducible refine And.intro ?_ ?_)
  all_goals first | omega | skip
  refine gJ fun i hi => ?_
  match i, hi with
  | 0, _ | 1, _ | 2, _ | 3, _ | 4, _ | 5, _ | 6, _ | 7, _ | 8, _ | 9, _ => exact bS (by decide +kernel) (by decide)
 ·refine bD (r := aG (bP (dP 4) 12 64) []) hT xy hm wP rfl (of_decide_eq_true (by kernel_rfl)) rfl 200 PW (fun _ => ?_) K []
  simp only [aa.all, ax]
  (repeat' with_reducible refine And.intro ?_ ?_)
  all_goals first | omega | skip
  refine gJ fun i hi => ?_
  match i, hi with
  | 0, _ | 1, _ | 2, _ | 3, _ | 4, _ | 5, _ | 6, _ | 7, _ | 8, _ | 9, _ | 10, _ | 11, _ => exact bS (by decide +kernel) (by decide)
theorem Xb : ∀ K args pre r, IS K args pre = some r → aA P pP K args pre r := by
 refine bF fun K args r hk hs _ => ?_
 split at hs
 ·rename_i q
  simp only [Option.some.injEq] at hs
  subst hs
  intro need
  obtain ⟨h1, h4⟩ := need
  have h4 : q ≤ 4 := h4
  have := WQ (q := q.toNat) (by omega) (by omega) K
  rw [Int.toNat_of_nonneg (by omega)] at this
  exact this trivial
 ·simp at hs
end Go.Am.B

/- shapes.Revolve. -/
namespace Go.Am.B
open Go Go.Am.N AV aa aj IntKind
theorem NJ : aN P wg sB (au sB) := aK Iq (by kernel_rfl) (by kernel_rfl) (by kernel_rfl)
noncomputable def mT (x w : Nat) : aO := nG :: (pP, IS) :: (pU, HN x w) :: (wg, cL T [sG] [] 60 sB) :: AO
def dg : Nat → Int
 | 0 => 1 | 1 => 1 | 2 => 0 | 3 => -1 | 4 => -1 | 5 => -1 | 6 => 0 | 7 => 1 | 8 => 1 | _ => 0
def de : Nat → Int
 | 0 => 0 | 1 => 1 | 2 => 1 | 3 => 1 | 4 => 0 | 5 => -1 | 6 => -1 | 7 => -1 | _ => 0
def eV : Nat → Int
 | 0 => 1 | 1 => 1 | 2 => 2 | 3 => 1 | 4 => 1 | 5 => 1 | 6 => 2 | 7 => 1 | 8 => 1 | _ => 0
abbrev SZ (q : Nat) : AV := .ag 3 (2 * q + 1) (fun i => .agg [.int .i64 (dg i), .int .i64 (de i), .int .i64 (eV i)])
def e8 (c : Cu) (i j : Nat) : Pl := ⟨⟨(dg i : Rat) * (c.f j).n.x - (de i : Rat) * (c.f j).n.y, (de i : Rat) * (c.f j).n.x + (dg i : Rat) * (c.f j).n.y, (c.f j).n.z⟩, (eV i : Rat) * (c.f j).d⟩
noncomputable abbrev v9 : Code := au p6
noncomputable abbrev qn : Code := part v9 [1,1,1,1,0,1,0,0]
noncomputable abbrev n5 : Code := part qn [1,1,0,0]
abbrev jZ : List Nat := [2, 4, 5, 6, 36, 37, 38]
abbrev oQ (q i : Nat) : List AV := [.ptr 0 0 3 0 [], .ptr 1 0 5 0 [], .int .i64 0, .ptr 2 0 5 0 [], SZ q, .int .i64 ((2 * q + 1 : Nat) : Int), .int .i64 i]
abbrev S5 (c : Cu) (x r : Nat) : aB := ⟨false, true, 3, 1, fun _ => er c x r⟩
abbrev MM : aB := ⟨false, true, 5, 1, fun _ => .agg [.int .i64 0, .int .i64 0, .nil, .nil, .nil]⟩
abbrev OU (w : Nat) (c : Cu) (q : Nat) (v : AV) : aB := ⟨false, true, 5, 1, fun _ => .agg [.int .i64 2, .int .i64 c.p, bP (dP q) (2 * q + 4) 64, bP c.k c.n w, v]⟩
abbrev S8 (w : Nat) (c : Cu) (i : Nat) : aB := ⟨true, true, 1, i, fun i => cB (e8 c i) c.m w⟩
abbrev kW (x r w : Nat) (c : Cu) (q i : Nat) : aC := [(3, S8 w c i), (2, OU w c q (.own 3 1 0 i)), (1, MM), (0, S5 c x r)]
abbrev tg : List Nat := [2, 4, 5, 6, 36, 37, 38, 10, 11, 12, 13, 52, 53, 54]
abbrev Be (r : Nat) (c : Cu) (q i j : Nat) : List AV := oQ q i ++ [.ptr 4 0 3 0 [], .ptr 5 0 3 0 [], .ptr 6 0 3 0 [], .own 7 12 0 j, cB c.f c.m r, .int .i64 c.m, .int .i64 j]
abbrev Vn (i : Nat) : aC := [(6, tP (eV i : Rat) 64), (5, tP (de i : Rat) 64), (4, tP (dg i : Rat) 64)]
abbrev Lm (w : Nat) (c : Cu) (i j : Nat) : aB := ⟨true, true, 12, j, fun j => cU (e8 c i j) w⟩
abbrev zY (x r w : Nat) (c : Cu) (q i j : Nat) : aC := (7, Lm w c i j) :: (Vn i ++ kW x r w c q i)
abbrev zO (w : Nat) (c : Cu) (q : Nat) : AV := dL ⟨2, c.p, 2 * q + 4, dP q, c.n, c.k, 2 * q + 1, c.m, e8 c⟩ w w
theorem M6 {x r w : Nat} {c : Cu} {q : Nat} : aH T (mT x w) [200019, 200022] 60 jZ (before v9 [1,1,1,1,0,1]) ⟨aL 0 [er c x r, .int .i64 (q : Int)], [], 0⟩ =
  let c10 : AV := int i64 (2 : Int); let c9 : Nat := Int.toNat (0 : Int); let c7 : Int := (2 : Int) ^ 63; let c6 : Int := (↑q : Int); let c5 : AV := int i64 (-1 : Int); let c4 : Prop := 0 < 1; let c2 : AV := int i64 (1 : Int); let c1 : AV := int i64 (0 : Int); let c11 : Int := (2 : Int) * c6; let c8 : AV := agg [c1, c1, nil, nil, nil]; let c3 : Int := c11 + (1 : Int); some (af [decide (c6 < (1 : Int)) = false] (af [(bif false then true else decide (c6 > (4 : Int))) = false] (af [c4, (1 : Int) ≤ c6, c6 ≤ (4 : Int), c4, b9 (fun i ↦ rat (c.k i) x) c.n x, x + 10 ≤ w, w < 2 ^ 40, c.n < 2 ^ 40, c4] (af [c4, c4] (af [-c7 ≤ c11 ∧ c11 < c7, -c7 ≤ c3 ∧ c3 < c7, c4, (0 : Int) ≤ (0 : Int) ∧ (0 : Int) ≤ c3 ∧ c3 ≤ (↑(9 : Nat) : Int)] (leaf normal ([ptr 0 0 (br (er c x r)).size 0 [], ptr 4096 0 5 0 [], c1, ptr 69632 0 5 0 [], ag 3 (c3.toNat - c9) fun i ↦ nth [agg [c2, c1, c2], agg [c2, c2, c2], agg [c1, c2, c10], agg [c5, c2, c2], agg [c5, c1, c2], agg [c5, c5, c2], agg [c1, c5, c10], agg [c2, c5, c2], agg [c2, c1, c2]] (agg [c1, c1, c1]) (i + c9), int i64 (↑(c3.toNat - c9) : Int), c1], [((69632 : Nat), aB.mk false true 5 1 fun j ↦ if (j == 0) = true then br (agg ((((c8.kids.set 0 (br c10)).set 1 (br (int i64 c.p))).set 2 (br (bP (dP c6.toNat) ((2 : Nat) * c6.toNat + 4) 64))).set 3 (br (bP (fun i ↦ bg (rat (c.k i) x)) c.n w)))) else c8), ((4096 : Nat), aB.mk false true 5 1 fun x ↦ c8), ((0 : Nat), aB.mk false true (br (er c x r)).size 1 fun x_1 ↦ agg [int i64 c.p, ag 3 c.n fun i ↦ rat (c.k i) x, ag 12 c.m fun i ↦ agg [agg [rat (c.f i).n.x r, rat (c.f i).n.y r, rat (c.f i).n.z r], rat (c.f i).d r]])]))))))) := by kernel_rfl
theorem Xv {x r w : Nat} {c : Cu} {q i : Nat} : aH T (mT x w) [39] 60 jZ (before qn [1,1,0]) ⟨az jZ (oQ q i), kW x r w c q i, 4⟩ =
  let c3 : AV := int i64 (0 : Int); let c2 : Nat := 2 * q + 1; let c1 : List AV × aC := ([ptr 0 0 3 0 [], ptr 1 0 5 0 [], c3, ptr 2 0 5 0 [], ag 3 c2 fun i ↦ agg [int i64 (dg i), int i64 (de i), int i64 (eV i)], int i64 (↑c2 : Int), int i64 (↑i : Int)], [((3 : Nat), aB.mk true true 1 i fun i ↦ ag 12 c.m fun i_1 ↦ agg [agg [rat ((↑(dg i) : Rat) * (c.f i_1).n.x - (↑(de i) : Rat) * (c.f i_1).n.y) w, rat ((↑(de i) : Rat) * (c.f i_1).n.x + (↑(dg i) : Rat) * (c.f i_1).n.y) w, rat (c.f i_1).n.z w], rat ((↑(eV i) : Rat) * (c.f i_1).d) w]), ((2 : Nat), aB.mk false true 5 1 fun x ↦ agg [int i64 (2 : Int), int i64 c.p, ag 3 ((2 : Nat) * q + 4) fun i ↦ rat (dP q i) 64, ag 3 c.n fun i ↦ rat (c.k i) w, own 3 1 0 i]), ((1 : Nat), aB.mk false true 5 1 fun x ↦ agg [c3, c3, nil, nil, nil]), ((0 : Nat), aB.mk false true 3 1 fun x_1 ↦ agg [int i64 c.p, ag 3 c.n fun i ↦ rat (c.k i) x, ag 12 c.m fun i ↦ agg [agg [rat (c.f i).n.x r, rat (c.f i).n.y r, rat (c.f i).n.z r], rat (c.f i).d r]])]); some (fork (decide ((↑i : Int) < (↑c2 : Int))) (leaf normal c1) (leaf (exit 0) c1)) := by kernel_rfl
theorem KB {x r w : Nat} {c : Cu} {q i : Nat} : aH T (mT x w) [] 60 tg (before n5 [1,1,1,0,1]) ⟨az jZ (oQ q i), kW x r w c q i, 4⟩ =
  let c8 : Int := (↑(3 : Nat) : Int); let c7 : AV := rat 0 1; let c6 : AV := int i64 (0 : Int); let c5 : Nat := 2 * q + 1; let c4 : Int := (2 : Int) ^ 63; let c3 : AV := ag 12 c.m fun i ↦ agg [agg [rat (c.f i).n.x r, rat (c.f i).n.y r, rat (c.f i).n.z r], rat (c.f i).d r]; let c2 : Prop := 0 < 1; let c1 : Nat := (↑i : Int).toNat; some (af [(0 : Int) ≤ (↑i : Int) ∧ c1 < c5, c2] (af [(0 : Int) ≤ (0 : Int) ∧ (0 : Int) < c8, c2, -c4 ≤ dg c1, dg c1 < c4, (0 : Int) ≤ (1 : Int) ∧ (1 : Int) < c8, c2, -c4 ≤ de c1, de c1 < c4, (0 : Int) ≤ (2 : Int) ∧ (2 : Int) < c8, c2, -c4 ≤ eV c1, eV c1 < c4, c2, c2, c2] (af [c2] (leaf normal ([ptr 0 0 3 0 [], ptr 1 0 5 0 [], c6, ptr 2 0 5 0 [], ag 3 c5 fun i ↦ agg [int i64 (dg i), int i64 (de i), int i64 (eV i)], int i64 (↑c5 : Int), int i64 (↑i : Int), ptr 53252 0 3 0 [], ptr 57348 0 3 0 [], ptr 61444 0 3 0 [], nil, c3, int i64 (↑c.m : Int), c6], [((3 : Nat), aB.mk true true 1 i fun i ↦ ag 12 c.m fun i_1 ↦ agg [agg [rat ((↑(dg i) : Rat) * (c.f i_1).n.x - (↑(de i) : Rat) * (c.f i_1).n.y) w, rat ((↑(de i) : Rat) * (c.f i_1).n.x + (↑(dg i) : Rat) * (c.f i_1).n.y) w, rat (c.f i_1).n.z w], rat ((↑(eV i) : Rat) * (c.f i_1).d) w]), ((61444 : Nat), aB.mk false true 3 1 fun j ↦ if (j == 0) = true then br (rat (↑(eV c1) : Rat) (Max.max 1 (aQ (eV c1).natAbs))) else c7), ((57348 : Nat), aB.mk false true 3 1 fun j ↦ if (j == 0) = true then br (rat (↑(de c1) : Rat) (Max.max 1 (aQ (de c1).natAbs))) else c7), ((53252 : Nat), aB.mk false true 3 1 fun j ↦ if (j == 0) = true then br (rat (↑(dg c1) : Rat) (Max.max 1 (aQ (dg c1).natAbs))) else c7), ((2 : Nat), aB.mk false true 5 1 fun x ↦ agg [int i64 (2 : Int), int i64 c.p, ag 3 ((2 : Nat) * q + 4) fun i ↦ rat (dP q i) 64, ag 3 c.n fun i ↦ rat (c.k i) w, own 3 1 0 i]), ((1 : Nat), aB.mk false true 5 1 fun x ↦ agg [c6, c6, nil, nil, nil]), ((0 : Nat), aB.mk false true 3 1 fun x_1 ↦ agg [int i64 c.p, ag 3 c.n fun i ↦ rat (c.k i) x, c3])]))))) := by kernel_rfl
theorem WU {x r w : Nat} {c : Cu} {q i j : Nat} : aH T (mT x w) [55] 60 tg [part n5 [1,1,1,0,1,0,0]] ⟨az tg (Be r c q i j), zY x r w c q i j, 8⟩ =
  let c26 : Rat := (↑(eV i) : Rat); let c25 : Int := (↑c.m : Int); let c22 : AV := int i64 (0 : Int); let c21 : AV := ptr 1 0 5 0 []; let c20 : AV := ptr 0 0 3 0 []; let c19 : AV := ptr 5 0 3 0 []; let c18 : Nat := 2 * q + 1; let c17 : AV := ptr 6 0 3 0 []; let c16 : AV := ptr 4 0 3 0 []; let c15 : AV := ptr 2 0 5 0 []; let c13 : Rat := (↑(de i) : Rat); let c12 : Rat := (↑(dg i) : Rat); let c10 : Int := (↑(3 : Nat) : Int); let c9 : AV := rat 0 1; let c8 : Nat := 64 + r; let c7 : Int := (↑j : Int); let c5 : AV := ag 12 c.m fun i ↦ agg [agg [rat (c.f i).n.x r, rat (c.f i).n.y r, rat (c.f i).n.z r], rat (c.f i).d r]; let c4 : Prop := 0 < 1; let c3 : Nat := 2 ^ 42; let c2 : Nat × aB := ((3 : Nat), aB.mk true true 1 i fun i ↦ ag 12 c.m fun i_1 ↦ agg [agg [rat ((↑(dg i) : Rat) * (c.f i_1).n.x - (↑(de i) : Rat) * (c.f i_1).n.y) w, rat ((↑(de i) : Rat) * (c.f i_1).n.x + (↑(dg i) : Rat) * (c.f i_1).n.y) w, rat (c.f i_1).n.z w], rat ((↑(eV i) : Rat) * (c.f i_1).d) w]); let c27 : Int := c7 + (1 : Int); let c24 : Prop := (0 : Int) ≤ (1 : Int) ∧ (1 : Int) < c10; let c23 : Prop := (0 : Int) ≤ (0 : Int) ∧ (0 : Int) < c10; let c14 : Prop := 64 < c3; let c11 : V3 := (c.f c7.toNat).n; let c6 : AV := ag 3 c18 fun i ↦ agg [int i64 (dg i), int i64 (de i), int i64 (eV i)]; let c1 : List (Nat × aB) := [((6 : Nat), aB.mk false true 3 1 fun x ↦ rat c26 64), ((5 : Nat), aB.mk false true 3 1 fun x ↦ rat c13 64), ((4 : Nat), aB.mk false true 3 1 fun x ↦ rat c12 64), ((2 : Nat), aB.mk false true 5 1 fun x ↦ agg [int i64 (2 : Int), int i64 c.p, ag 3 ((2 : Nat) * q + 4) fun i ↦ rat (dP q i) 64, ag 3 c.n fun i ↦ rat (c.k i) w, own 3 1 0 i]), ((1 : Nat), aB.mk false true 5 1 fun x ↦ agg [c22, c22, nil, nil, nil]), ((0 : Nat), aB.mk false true 3 1 fun x_1 ↦ agg [int i64 c.p, ag 3 c.n fun i ↦ rat (c.k i) x, c5])]; some (fork (decide (c7 < c25)) (af [(0 : Int) ≤ c7 ∧ c7.toNat < c.m, c4] (af [c4, c23, c4, c14, r < c3, c4, c24, c4, c14, r < c3, c8 < c3, c8 < c3, c4, c23, c4, c14, r < c3, c4, c24, c4, c14, r < c3, c8 < c3, c8 < c3, (0 : Int) ≤ (2 : Int) ∧ (2 : Int) < c10, c4, r < c3, (1 : Nat) < c3, c4] (af [c4, c4, c4, c14, r < c3, (1 : Nat) * 12 ≤ 2 ^ 24, (j + 1) * ((224 : Nat) + 1) * 2 ≤ 2 ^ 47] (af [-(2 : Int) ^ 63 ≤ c27 ∧ c27 < (2 : Int) ^ 63] (leaf normal ([c20, c21, c22, c15, c6, int i64 (↑c18 : Int), int i64 (↑i : Int), c16, c19, c17, own 176136 12 0 (j + 1), c5, int i64 c25, int i64 c27], c2 :: ((176136 : Nat), aB.mk true true 12 (j + 1) fun i_1 ↦ if i_1 < j then cU (e8 c i i_1) w else nth [agg [agg [rat (c12 * c11.x - c13 * c11.y) (c8 + c8 + 1), rat (c13 * c11.x + c12 * c11.y) (c8 + c8 + 1), rat (c11.z + 0) (r + 1 + 1)], rat (c26 * (c.f c7.toNat).d) c8]] (agg [agg [c9, c9, c9], c9]) (i_1 - j + 0)) :: c1)))))) (leaf (exit 2) ([c20, c21, c22, c15, c6, int i64 (↑c18 : Int), int i64 (↑i : Int), c16, c19, c17, own 7 12 0 j, c5, int i64 c25, int i64 c7], c2 :: ((7 : Nat), aB.mk true true 12 j fun j ↦ agg [agg [rat (c12 * (c.f j).n.x - c13 * (c.f j).n.y) w, rat (c13 * (c.f j).n.x + c12 * (c.f j).n.y) w, rat (c.f j).n.z w], rat (c26 * (c.f j).d) w]) :: c1))) := by kernel_rfl
theorem UG {x r w : Nat} {c : Cu} {q i j : Nat} : aH T (mT x w) [] 60 jZ [part n5 [1,1,1,1], part qn [1,1,1]] ⟨az tg (Be r c q i j), zY x r w c q i j, 8⟩ =
  let c4 : Nat := 2 * q + 1; let c3 : AV := int i64 (0 : Int); let c2 : Int := (↑i : Int) + (1 : Int); let c1 : AV := agg [int i64 (2 : Int), int i64 c.p, bP (dP q) ((2 : Nat) * q + 4) 64, bP c.k c.n w, own 3 1 0 i]; some (af [(0 : Nat) < 1, (1 : Nat) * 1 ≤ 2 ^ 24, (i + 1) * ((24 : Nat) + 1) * 2 ≤ 2 ^ 47, (0 : Nat) < 1] (af [-(2 : Int) ^ 63 ≤ c2 ∧ c2 < (2 : Int) ^ 63] (leaf normal ([ptr 0 0 3 0 [], ptr 1 0 5 0 [], c3, ptr 2 0 5 0 [], ag 3 c4 fun i ↦ agg [int i64 (dg i), int i64 (de i), int i64 (eV i)], int i64 (↑c4 : Int), int i64 c2], [((16392 : Nat), aB.mk true true 1 (i + 1) fun i_1 ↦ if i_1 < i then cB (e8 c i_1) c.m w else nth [ag 12 j fun i_2 ↦ cU (e8 c i (i_2 + 0)) w] nil (i_1 - i + 0)), ((2 : Nat), aB.mk false true 5 1 fun j ↦ if (j == 0) = true then agg (c1.kids.set 4 (br (own (nat_lit 16391 + 1) 1 0 (i + 1)))) else c1), ((1 : Nat), aB.mk false true 5 1 fun x ↦ agg [c3, c3, nil, nil, nil]), ((0 : Nat), aB.mk false true 3 1 fun x_1 ↦ agg [int i64 c.p, ag 3 c.n fun i ↦ rat (c.k i) x, ag 12 c.m fun i ↦ agg [agg [rat (c.f i).n.x r, rat (c.f i).n.y r, rat (c.f i).n.z r], rat (c.f i).d r]])])))) := by kernel_rfl
theorem S6 {x r w : Nat} {c : Cu} {q i : Nat} : bR T (mT x w) [] 60 p6 [part v9 [1,1,1,1,1]] ⟨az jZ (oQ q i), kW x r w c q i, 4⟩ =
  let c1 : Prop := 0 < 1; some (af [c1, c1] (af [c1] (leaf ret [agg [int i64 (2 : Int), int i64 c.p, ag 3 ((2 : Nat) * q + 4) fun i ↦ rat (dP q i) 64, ag 3 c.n fun i ↦ rat (c.k i) w, ag 1 i fun i ↦ ag 12 c.m fun i_1 ↦ agg [agg [rat ((↑(dg (i + 0)) : Rat) * (c.f i_1).n.x - (↑(de (i + 0)) : Rat) * (c.f i_1).n.y) w, rat ((↑(de (i + 0)) : Rat) * (c.f i_1).n.x + (↑(dg (i + 0)) : Rat) * (c.f i_1).n.y) w, rat (c.f i_1).n.z w], rat ((↑(eV (i + 0)) : Rat) * (c.f i_1).d) w]], int i64 (0 : Int)]))) := by kernel_rfl
theorem uZ {x w : Nat} : aV P (mT x w) := eF (aD Xb (aD (Z9 x w) (aD (cV hT (cQ aU) hm NJ _ _) CM)))
theorem LX (i : Nat) : (-1 ≤ dg i ∧ dg i ≤ 1) ∧ (-1 ≤ de i ∧ de i ≤ 1) ∧ (0 ≤ eV i ∧ eV i ≤ 2) := by
 match i with
 | 0 | 1 | 2 | 3 | 4 | 5 | 6 | 7 | 8 => decide
 | i + 9 => exact ⟨by show -1 ≤ (0 : Int) ∧ (0 : Int) ≤ 1; decide, by show -1 ≤ (0 : Int) ∧ (0 : Int) ≤ 1; decide, by show 0 ≤ (0 : Int) ∧ (0 : Int) ≤ 2; decide⟩
theorem Km (i : Nat) : Max.max 1 (aQ (dg i).natAbs) ≤ 64 ∧ Max.max 1 (aQ (de i).natAbs) ≤ 64 ∧ Max.max 1 (aQ (eV i).natAbs) ≤ 64 := by
 match i with
 | 0 | 1 | 2 | 3 | 4 | 5 | 6 | 7 | 8 => decide
 | i + 9 => exact ⟨by show Max.max 1 (aQ (Int.natAbs 0)) ≤ 64; decide, by show Max.max 1 (aQ (Int.natAbs 0)) ≤ 64; decide, by show Max.max 1 (aQ (Int.natAbs 0)) ≤ 64; decide⟩
theorem Nn {x y z d x' y' z' d' : Rat} {s1 s2 s3 s4 s : Nat} (h1 : x = x') (h2 : y = y') (h3 : z = z') (h4 : d = d') (k1 : s1 ≤ s) (k2 : s2 ≤ s) (k3 : s3 ≤ s) (k4 : s4 ≤ s) : bu (.agg [.agg [.rat x s1, .rat y s2, .rat z s3], .rat d s4]) (cU ⟨⟨x', y', z'⟩, d'⟩ s) :=
 cE ⟨cE ⟨bS h1 k1, bS h2 k2, bS h3 k3, trivial⟩, bS h4 k4, trivial⟩
theorem XB {rl : List (Nat × Nat)} {c : Cu} {w i j k s1 s2 s3 : Nat} {d : AV} (hk : k < j + 1) (h1 : s1 ≤ w) (h2 : s2 ≤ w) (h3 : s3 ≤ w) : gb rl (if k < j then cU (e8 c i k) w else nth [.agg [.agg [.rat ((dg i : Rat) * (c.f j).n.x - (de i : Rat) * (c.f j).n.y) s1, .rat ((de i : Rat) * (c.f j).n.x + (dg i : Rat) * (c.f j).n.y) s1, .rat ((c.f j).n.z + 0) s2], .rat ((eV i : Rat) * (c.f j).d) s3]] d (k - j + 0)) (cU (e8 c i k) w) := by
 by_cases h : k < j
 ·rw [if_pos h]; exact aP rfl rfl
 ·have : k = j := by omega
  subst this
  rw [if_neg h, Nat.sub_self]
  exact .inr ⟨rfl, Nn rfl rfl (Rat.add_zero _) rfl h1 h1 h2 h3⟩
theorem qC {w : Nat} {rl : List (Nat × Nat)} {c : Cu} {q : Nat} {u v : AV} (hu : u.isTuple = false) (h : fB (aW rl) u v) : gb rl (.agg [.int .i64 2, .int .i64 c.p, bP (dP q) (2 * q + 4) 64, bP c.k c.n w, u]) (.agg [.int .i64 2, .int .i64 c.p, bP (dP q) (2 * q + 4) 64, bP c.k c.n w, v]) :=
 wU ⟨⟨rfl, aF rfl⟩, ⟨rfl, aF rfl⟩, ⟨rfl, aF rfl⟩, ⟨rfl, aF rfl⟩, ⟨hu, h⟩, trivial⟩
theorem VN : (fun i => nth [.agg [.int i64 1, .int i64 0, .int i64 1], .agg [.int i64 1, .int i64 1, .int i64 1], .agg [.int i64 0, .int i64 1, .int i64 2], .agg [.int i64 (-1), .int i64 1, .int i64 1], .agg [.int i64 (-1), .int i64 0, .int i64 1], .agg [.int i64 (-1), .int i64 (-1), .int i64 1], .agg [.int i64 0, .int i64 (-1), .int i64 2], .agg [.int i64 1, .int i64 (-1), .int i64 1], .agg [.int i64 1, .int i64 0, .int i64 1]] (.agg [.int i64 0, .int i64 0, .int i64 0]) (i + Int.toNat 0)) = fun i => .agg [.int .i64 (dg i), .int .i64 (de i), .int .i64 (eV i)] := by
 funext i
 match i with
 | 0 | 1 | 2 | 3 | 4 | 5 | 6 | 7 | 8 => rfl
 | i + 9 => rfl
theorem RG {x r w : Nat} (hx : x + 10 ≤ w) (hr : 2 * r + 200 ≤ w) (hw : w < 2 ^ 40) {c : Cu} {q : Nat} (h1 : 1 ≤ q) (h4 : q ≤ 4) (hn : c.n < 2 ^ 30) (hm2 : c.m < 2 ^ 30) (K : Nat) : aA P ny K [er c x r, .int .i64 (q : Int)] [] (aG (.tuple [zO w c q, .int .i64 0]) []) := by
 refine eZ (r := aG (.tuple [zO w c q, .int .i64 0]) []) hT Eg rfl (of_decide_eq_true (by kernel_rfl)) rfl (fun _ cx h0 => ?_) K []
 have hk := jM h0
 refine ak.LJ hT (uZ (x := x) (w := w)) hm [1,1,1,1,0,1] (i := 0) (y := qn) (z := part v9 [1,1,1,1,1]) (by kernel_rfl) (by kernel_rfl) (by kernel_rfl) Eg.dst hk (f1 := [200019, 200022]) 60 jZ 4 (fun i : Nat => oQ q i) (fun i => kW x r w c q i)
  (fun i => i ≤ 2 * q + 1) (fun i => i = 2 * q + 1) (fun i => 2 * q + 1 - i) (fun _ => False) ⟨_, M6, ?_⟩ (fun i hi => ?_) (fun i hi => ?_) (fun _ _ h => h.elim)
 ·have e0 : (2 * (q : Int) + 1).toNat - Int.toNat 0 = 2 * q + 1 := by omega
  simp only [aa.all, ax, decide_eq_false_iff_not, cond_false, VN, e0, Int.toNat_natCast]
  exact ⟨by omega, by omega, ⟨by omega, by omega, by omega, by omega, en (Nat.le_refl _), by omega, by omega⟩, by omega, ⟨by omega, by omega, by omega, by omega, by omega, by omega⟩,
   0, Nat.zero_le _, [(0, 0), (1, 4096), (2, 69632)], rfl, rfl, rfl, oc rfl (by omega) (by omega) (aT rfl rfl (qC rfl (yh (by omega))) (aT rfl rfl (aP rfl rfl) (aT rfl rfl (aP rfl rfl) trivial)))⟩
 ·obtain ⟨⟨x1, x2⟩, ⟨y1, y2⟩, w1, w2⟩ := LX i
  obtain ⟨b1, b2, b3⟩ := Km i
  have re : ∀ {i}, gY 4 [(0, 0), (1, 1), (2, 2), (3, 3)] (kW x r w c q i) (kW x r w c q i) := fun {i} => b6 rfl rfl rfl (fun _ _ => aP rfl rfl) (aT rfl rfl (qC rfl (cr rfl rfl rfl)) (aT rfl rfl (aP rfl rfl) (aT rfl rfl (aP rfl rfl) trivial)))
  refine ak.ED hT (uZ (x := x) (w := w)) hm (y := qn) (x1 := n5) (zb := part qn [1,1,1]) [1,1,0] (j := 1) (by kernel_rfl) (by kernel_rfl) (by kernel_rfl) (by kernel_rfl) hk (f1 := [39]) 60 jZ 4 (fun _ : Unit => oQ q i) (fun _ => kW x r w c q i) (fun _ => i < 2 * q + 1) ⟨_, Xv, ?_⟩ (fun _ hr => ?_)
  ·simp only [aa.all, ax, decide_eq_true_eq, decide_eq_false_iff_not]
   exact ⟨fun h => ⟨(), by omega, _, rfl, rfl, rfl, re⟩, fun h s' hs' => ⟨rfl, i, by omega, dn.le ⟨_, rfl, rfl, rfl, re⟩ hs' hk⟩⟩
  ·refine ak.iM hT (uZ (x := x) (w := w)) hm (x := n5) [1,1,1,0,1] (i := 2) (y := part n5 [1,1,1,0,1,0,0]) (z := part n5 [1,1,1,1]) (by kernel_rfl) (by kernel_rfl) (by kernel_rfl) (by kernel_rfl) hk (f1 := []) (f2 := [55]) 60 tg 8 (fun j : Nat => Be r c q i j) (fun j => zY x r w c q i j) (fun j => j ≤ c.m) (fun j => j = c.m) (fun j => c.m - j) (fun _ => False) ⟨_, KB, ?_⟩ (fun j hj => ⟨_, WU, ?_⟩) (fun j hj => ?_) (fun _ _ h => h.elim)
   ·simp only [aa.all, ax, Int.toNat_natCast]
    exact ⟨⟨by omega, by omega⟩, ⟨by omega, by omega, by omega, by omega, by omega, by omega, by omega, by omega, by omega, by omega, by omega, by omega, by omega, by omega⟩, by omega, 0, Nat.zero_le _, [(0, 0), (1, 1), (2, 2), (3, 3), (4, 53252), (5, 57348), (6, 61444)], rfl, rfl, rfl,
     oc rfl (by omega) (by omega) (aT rfl rfl (.inr ⟨rfl, dY b3⟩) (aT rfl rfl (.inr ⟨rfl, dY b2⟩) (aT rfl rfl (.inr ⟨rfl, dY b1⟩) (b6 rfl rfl rfl (fun _ _ => aP rfl rfl) (aT rfl rfl (qC rfl (cr rfl rfl rfl)) (aT rfl rfl (aP rfl rfl) (aT rfl rfl (aP rfl rfl) trivial)))))))⟩
   ·simp only [aa.all, ax, decide_eq_true_eq, decide_eq_false_iff_not, Int.toNat_natCast, Nat.add_zero]
    refine ⟨fun h => ⟨by omega, ?_, by omega, by omega, j + 1, by omega, by dsimp only; omega, [(0, 0), (1, 1), (2, 2), (3, 3), (4, 4), (5, 5), (6, 6), (7, 176136)], rfl, rfl, rfl, b6 rfl rfl rfl (fun k hk => XB hk (by omega) (by omega) (by omega)) ?_⟩, fun h => ⟨rfl, j, by omega, [(0, 0), (1, 1), (2, 2), (3, 3), (4, 4), (5, 5), (6, 6), (7, 7)], rfl, rfl, rfl, b6 rfl rfl rfl (fun _ _ => aP rfl rfl) ?_⟩⟩
    ·omega
    all_goals exact aT rfl rfl (aP rfl rfl) (aT rfl rfl (aP rfl rfl) (aT rfl rfl (aP rfl rfl) (b6 rfl rfl rfl (fun _ _ => aP rfl rfl) (aT rfl rfl (qC rfl (cr rfl rfl rfl)) (aT rfl rfl (aP rfl rfl) (aT rfl rfl (aP rfl rfl) trivial))))))
   ·subst hj
    refine ak.tail (fun s' h => absurd h.1 (by decide)) (ay.aY hT (uZ (x := x) (w := w)) hm 60 jZ UG (by kernel_rfl) ?_)
    simp only [aa.all, ax]
    refine ⟨by omega, by omega, fun s' hs' => ⟨i + 1, by omega, by dsimp only; omega, dn.le ⟨[(0, 0), (1, 1), (2, 2), (3, 16392)], rfl, rfl, rfl, b6 rfl rfl rfl (fun k hk => aP ?_ ?_) (aT rfl rfl (qC rfl (cr rfl rfl rfl)) (aT rfl rfl (aP rfl rfl) (aT rfl rfl (aP rfl rfl) trivial)))⟩ hs' hk⟩⟩
    all_goals
     by_cases h : k < i
     ·rw [if_pos h]; try rfl
     ·have : k = i := by omega
      subst this
      rw [if_neg h, Nat.sub_self]; try rfl
 ·subst hi
  refine ak.iZ ((ay.fin hT (uZ (x := x) (w := w)) hm 60 S6 (by kernel_rfl) ?_).mono fun _ _ h => .inl h)
  simp only [aa.all, ax]
  exact ⟨by omega, by omega, cE ⟨.refl _, .refl _, gJ fun _ _ => dY (by omega), .refl _, .refl _, trivial⟩, .refl _, trivial⟩
def Bv (x r w : Nat) : Spec := eA (kC (yB x r) (kC kI kN)) (fun a => .tuple [zO w a.1 a.2.1.toNat, .int .i64 0]) fun a => [x + 10 ≤ w, 2 * r + 200 ≤ w, w < 2 ^ 40, 1 ≤ a.2.1, a.2.1 ≤ 4, a.1.n < 2 ^ 30, a.1.m < 2 ^ 30]
theorem G7 (x r w : Nat) : ∀ K args pre v, Bv x r w K args pre = some v → aA P ny K args pre v := eC fun ⟨c, q, _⟩ K hn => by
 obtain ⟨hx, hr, hw, h1, h2, h3, h4⟩ := hn
 simp only at h1 h2
 have := RG hx hr hw (q := q.toNat) (by omega) (by omega) h3 h4 K
 rw [Int.toNat_of_nonneg (by omega)] at this
 exact this
end Go.Am.B
