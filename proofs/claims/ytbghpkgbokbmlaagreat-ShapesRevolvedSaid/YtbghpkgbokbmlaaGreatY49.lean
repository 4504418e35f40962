/- brepkernelmade: Knots. -/
import Derived.Test.YtbghpkgbokbmlaaGreatY45
import Derived.Test.YtbghpkgbokbmlaaGreatB33
import Derived.Test.YtbghpkgbokbmlaaGreatY48
set_option linter.unusedVariables false
namespace Go.Am.B
open Go Go.Am.N AV aa ah IntKind
theorem Eg : aS P qN vZ (au vZ) := aN SU (by kernel_rfl) (by kernel_rfl) (by kernel_rfl)
def j3 : aT := nG :: (mE, gd p9) :: (iy, oI) :: (lC, qX) :: iT
abbrev iR (n : Nat) (z : Nat → Int) (a : Int) : ay := gv n (fun i => .int .i64 (z i)) a
abbrev tO (t : Rat) : ay := ⟨false, true, 3, 1, fun _ => .rat t 64⟩
abbrev X4 (m : Nat) (k : Nat → Rat) : ay := ⟨true, true, 3, m, fun i => .rat (k i) 64⟩
abbrev m7 : List Nat := [0, 1, 2, 7, 8, 9]
abbrev x5 (p m : Int) (v : AV) (i : Int) : List AV := [.ptr 0 0 2 0 [], .int .i64 p, .int .i64 m, .ptr 1 0 3 0 [], v, .int .i64 i]
noncomputable abbrev uM : Code := au vZ
noncomputable abbrev r8 : Code := part uM [1,1,1,1]
noncomputable abbrev o9 : Code := part r8 [1]
abbrev tX : List Nat := [0, 1, 7, 8, 10]
abbrev rI : List Nat := [0, 1, 7, 8, 11]
abbrev ng (p : Int) (l : Nat) (i : Int) : List AV := [.ptr 0 0 2 0 [], .int .i64 p, .ptr 1 0 3 0 [], .own 2 3 0 l, .int .i64 i]
abbrev jT (n : Nat) (z : Nat → Int) (a : Int) (t : Rat) (l : Nat) (k : Nat → Rat) : aD := [(2, X4 l k), (1, tO t), (0, iR n z a)]
theorem YD {n : Nat} {z : Nat → Int} {a p m : Int} : aI T j3 [] 60 m7 (before uM [1,1,1,0,1]) ⟨aO 0 [.ptr 0 0 2 0 [], .int .i64 p, .int .i64 m], [(0, iR n z a)], 1⟩ =
  let c2 : Int := (2 : Int) ^ 63; let c1 : Int := bU n (fun i ↦ int i64 (z i)) a (4 : Int) - (2 : Int); some (af [cr n (fun i ↦ int i64 (z i)) a, (0 : Int) < (4 : Int), (4 : Int) < (2 : Int) ^ 62, -c2 ≤ c1 ∧ c1 < c2, -c2 ≤ c1, c1 < c2, (0 : Nat) < 1] (leaf normal ([ptr 0 0 2 0 [], int i64 p, int i64 m, ptr 20481 0 3 0 [], nil, int i64 (0 : Int)], [((20481 : Nat), ay.mk false true 3 1 fun j ↦ if (j == 0) = true then bu (rat (↑c1 : Rat) (Max.max 1 (aV c1.natAbs))) else rat 0 1), ((0 : Nat), ay.mk false true 2 1 fun x ↦ agg [aj 1 n fun i ↦ int i64 (z i), int i64 (bn n a)])]))) := by kernel_rfl
theorem ZP {n : Nat} {z : Nat → Int} {a p m : Int} {t : Rat} : aI T j3 [18] 60 m7 [part uM [1,1,1,0,1,0,0]] ⟨aA m7 (x5 p m .nil 0), [(1, tO t), (0, iR n z a)], 3⟩ =
  let c3 : AV := ptr 1 0 3 0 []; let c2 : AV := ptr 0 0 2 0 []; let c1 : List (Nat × ay) := [((1 : Nat), ay.mk false true 3 1 fun x ↦ rat t 64), ((0 : Nat), ay.mk false true 2 1 fun x ↦ agg [aj 1 n fun i ↦ int i64 (z i), int i64 a])]; some (fork (decide ((0 : Int) ≤ p)) (af [(0 : Nat) < 1, (1 : Nat) * 3 ≤ 2 ^ 24, (0 : Nat) < 1 ∧ 1 * ((56 : Nat) + 1) * 2 ≤ 2 ^ 47] (af [-(2 : Int) ^ 63 ≤ (0 : Int) + (1 : Int) ∧ (0 : Int) + (1 : Int) < (2 : Int) ^ 63] (leaf normal ([c2, int i64 p, int i64 m, c3, own 24579 3 0 1, int i64 (1 : Int)], ((24579 : Nat), ay.mk true true 3 1 fun i ↦ nth [rat t 64] (rat 0 1) (i + 0)) :: c1)))) (leaf (exit 0) ([c2, int i64 p, int i64 m, c3, nil, int i64 (0 : Int)], c1))) := by kernel_rfl
theorem RZ {n j : Nat} {z : Nat → Int} {a p m : Int} {t : Rat} {k : Nat → Rat} : aI T j3 [18] 60 m7 [part uM [1,1,1,0,1,0,0]] ⟨aA m7 (x5 p m (.own 2 3 0 (j + 1)) ((j + 1 : Nat) : Int)), jT n z a t (j + 1) k, 3⟩ =
  let c4 : AV := ptr 1 0 3 0 []; let c3 : AV := ptr 0 0 2 0 []; let c2 : Nat := j + 1; let c1 : List (Nat × ay) := [((1 : Nat), ay.mk false true 3 1 fun x ↦ rat t 64), ((0 : Nat), ay.mk false true 2 1 fun x ↦ agg [aj 1 n fun i ↦ int i64 (z i), int i64 a])]; let c7 : Nat := c2 + 1; let c6 : Int := (↑c2 : Int); let c5 : Int := c6 + (1 : Int); some (fork (decide (c6 ≤ p)) (af [(0 : Nat) < 1, (1 : Nat) * 3 ≤ 2 ^ 24, c7 * ((56 : Nat) + 1) * 2 ≤ 2 ^ 47] (af [-(2 : Int) ^ 63 ≤ c5 ∧ c5 < (2 : Int) ^ 63] (leaf normal ([c3, int i64 p, int i64 m, c4, own 24579 3 0 c7, int i64 c5], ((24579 : Nat), ay.mk true true 3 c7 fun i ↦ if i < c2 then rat (k i) 64 else nth [rat t 64] (rat 0 1) (i - c2 + 0)) :: c1)))) (leaf (exit 0) ([c3, int i64 p, int i64 m, c4, own 2 3 0 c2, int i64 c6], ((2 : Nat), ay.mk true true 3 c2 fun i ↦ rat (k i) 64) :: c1))) := by kernel_rfl
theorem Nf {n j : Nat} {z : Nat → Int} {a p m : Int} {t : Rat} {k : Nat → Rat} : aI T j3 [] 60 tX (before r8 [0,1]) ⟨aA m7 (x5 p m (.own 2 3 0 (j + 1)) ((j + 1 : Nat) : Int)), jT n z a t (j + 1) k, 3⟩ =
  let c1 : Int := m + (1 : Int); some (af [-(2 : Int) ^ 63 ≤ c1 ∧ c1 < (2 : Int) ^ 63, cr n (fun i ↦ int i64 (z i)) a, (0 : Int) < c1, c1 < (2 : Int) ^ 62] (leaf normal ([ptr 0 0 2 0 [], int i64 p, ptr 1 0 3 0 [], own 2 3 0 (j + 1), int i64 (bU n (fun i ↦ int i64 (z i)) a c1)], [((2 : Nat), ay.mk true true 3 (j + 1) fun i ↦ rat (k i) 64), ((1 : Nat), ay.mk false true 3 1 fun x ↦ rat t 64), ((0 : Nat), ay.mk false true 2 1 fun x ↦ agg [aj 1 n fun i ↦ int i64 (z i), int i64 (bn n a)])]))) := by kernel_rfl
theorem Pc {n l : Nat} {z : Nat → Int} {a p i : Int} {t : Rat} {k : Nat → Rat} : aI T j3 [30, 38, 43, 53] 60 tX [part r8 [0,1,0,0]] ⟨aA tX (ng p l i), jT n z a t l k, 3⟩ =
  let c40 : Int := i - (1 : Int); let c39 : Nat := 64 + 64 + 1; let c35 : AV := rat t 64; let c34 : AV := rat 0 1; let c33 : Int := bn n a; let c31 : Nat := l + 1; let c30 : Prop := (0 : Int) < (3 : Int); let c28 : Prop := cr n (fun i ↦ int i64 (z i)) a; let c27 : Int := (↑l : Int); let c25 : AV := ptr 1 0 3 0 []; let c24 : AV := ptr 0 0 2 0 []; let c23 : Prop := 0 < 1; let c21 : Int := (2 : Int) ^ 62; let c20 : AV := aj 1 n fun i ↦ int i64 (z i); let c18 : Int := p + (1 : Int); let c16 : Prop := 64 < 2 ^ 41; let c7 : Int := bU n (fun i ↦ int i64 (z i)) a (3 : Int); let c5 : Int := (2 : Int) ^ 63; let c43 : Int := bn n c33; let c41 : Bool := c27 == c18; let c38 : Prop := cr n (fun i ↦ int i64 (z i)) c33; let c37 : Prop := (3 : Int) < c21; let c32 : Prop := -c5 ≤ c18 ∧ c18 < c5; let c29 : Int := (1 : Int) + c7; let c26 : Nat × ay := ((1 : Nat), ay.mk false true 3 1 fun x ↦ c35); let c22 : Bool := bif false then true else decide (c7 > (0 : Int)); let c19 : List Prop := [-c5 ≤ c40 ∧ c40 < c5]; let c17 : Nat := (c27 - p).toNat + 0; let c15 : Nat × ay := ((106499 : Nat), ay.mk true true 3 c31 fun i ↦ if i < l then rat (k i) 64 else nth [c35] c34 (i - l + 0)); let c13 : List AV := [c24, int i64 p, c25, own 147459 3 0 c31, int i64 c40]; let c12 : List AV := [c24, int i64 p, c25, own 106499 3 0 c31, int i64 c40]; let c10 : Int := (1 : Int) + bU n (fun i ↦ int i64 (z i)) c33 (2 : Int); let c9 : Int := (1 : Int) + bU n (fun i ↦ int i64 (z i)) c33 (3 : Int); let c6 : List Prop := [c23, (1 : Nat) * 3 ≤ 2 ^ 24, c31 * ((56 : Nat) + 1) * 2 ≤ 2 ^ 47]; let c42 : Rat := (↑c29 : Rat) / (↑c10 : Rat); let c36 : Bool := bif false then true else decide (t = k c17); let c14 : List (Nat × ay) := [c26, ((0 : Nat), ay.mk false true 2 1 fun x ↦ agg [c20, int i64 a])]; let c11 : List Prop := [c23, -c5 ≤ c27 - p ∧ c27 - p < c5, (0 : Int) ≤ c27 - p ∧ (c27 - p).toNat < l, c17 < l, c16, c16]; let c8 : Int := (1 : Int) + bU n (fun i ↦ int i64 (z i)) c43 (2 : Int); let c3 : aa (List AV × aD) := af c6 (af c19 (leaf normal (c12, [c15, c26, ((0 : Nat), ay.mk false true 2 1 fun x ↦ agg [c20, int i64 c33])]))); let c44 : Rat := (↑c9 : Rat) / (↑c8 : Rat); let c4 : aa (List AV × aD) := af c6 (af c19 (leaf normal (c12, c15 :: c14))); let c2 : aa (List AV × aD) := af [c23, c28, c30, c37, -c5 ≤ c29 ∧ c29 < c5, c38, (0 : Int) < (2 : Int), (2 : Int) < c21, -c5 ≤ c10 ∧ c10 < c5, -c5 ≤ c29, c29 < c5, -c5 ≤ c10, c10 < c5, c16, c16, c23] (af c6 (af c19 (leaf normal (c13, [((147459 : Nat), ay.mk true true 3 c31 fun i ↦ if i < l then rat (k i) 64 else nth [rat (t + c42) c39] c34 (i - l + 0)), ((1 : Nat), ay.mk false true 3 1 fun j ↦ if (j == 0) = true then bu (jq (t, (64 : Nat)) (c42, (64 : Nat))) else c35), ((0 : Nat), ay.mk false true 2 1 fun x ↦ agg [c20, int i64 c43])])))); let c1 : aa (List AV × aD) := af [c23, c38, c30, c37, -c5 ≤ c9 ∧ c9 < c5, cr n (fun i ↦ int i64 (z i)) c43, (0 : Int) < (2 : Int), (2 : Int) < c21, -c5 ≤ c8 ∧ c8 < c5, -c5 ≤ c9, c9 < c5, -c5 ≤ c8, c8 < c5, c16, c16, c23] (af c6 (af c19 (leaf normal (c13, [((147459 : Nat), ay.mk true true 3 c31 fun i ↦ if i < l then rat (k i) 64 else nth [rat (t + c44) c39] c34 (i - l + 0)), ((1 : Nat), ay.mk false true 3 1 fun j ↦ if (j == 0) = true then bu (jq (t, (64 : Nat)) (c44, (64 : Nat))) else c35), ((0 : Nat), ay.mk false true 2 1 fun x ↦ agg [c20, int i64 (bn n c43)])])))); some (fork (decide (i > (0 : Int))) (fork c41 (fork true (af [c32, c41 = true, true = true] (fork true c2 c4)) (af (c32 :: (c41 = true) :: (true = false) :: c11) (fork c36 c2 c4))) (fork c22 (af [c32, c41 = false, c28, c30, c37, c22 = true] (fork true c1 c3)) (af (c32 :: (c41 = false) :: c28 :: c30 :: c37 :: (c22 = false) :: c11) (fork c36 c1 c3)))) (leaf (exit 2) ([c24, int i64 p, c25, own 2 3 0 l, int i64 i], ((2 : Nat), ay.mk true true 3 l fun i ↦ rat (k i) 64) :: c14))) := by kernel_rfl
theorem PG {n l : Nat} {z : Nat → Int} {a p i : Int} {t : Rat} {k : Nat → Rat} : aI T j3 [] 60 rI (before o9 [1,0,1]) ⟨aA tX (ng p l i), jT n z a t l k, 3⟩ =
  let c1 : Nat := Max.max 1 (aV (Int.natAbs (1 : Int))); some (af [(0 : Nat) < 1, -(2 : Int) ^ 63 ≤ (1 : Int), (1 : Int) < (2 : Int) ^ 63, (64 : Nat) < 2 ^ 41, c1 < 2 ^ 41, (0 : Nat) < 1] (leaf normal ([ptr 0 0 2 0 [], int i64 p, ptr 1 0 3 0 [], own 2 3 0 l, int i64 (0 : Int)], [((2 : Nat), ay.mk true true 3 l fun i ↦ rat (k i) 64), ((1 : Nat), ay.mk false true 3 1 fun j ↦ if (j == 0) = true then bu (jq (t, (64 : Nat)) ((↑(1 : Int) : Rat), c1)) else rat t 64), ((0 : Nat), ay.mk false true 2 1 fun x ↦ agg [aj 1 n fun i ↦ int i64 (z i), int i64 a])]))) := by kernel_rfl
theorem KT {n l : Nat} {z : Nat → Int} {a p i : Int} {t : Rat} {k : Nat → Rat} : aI T j3 [72] 60 rI [part o9 [1,0,1,0,0]] ⟨aA rI (ng p l i), jT n z a t l k, 3⟩ =
  let c3 : AV := ptr 1 0 3 0 []; let c2 : AV := ptr 0 0 2 0 []; let c1 : List (Nat × ay) := [((1 : Nat), ay.mk false true 3 1 fun x ↦ rat t 64), ((0 : Nat), ay.mk false true 2 1 fun x ↦ agg [aj 1 n fun i ↦ int i64 (z i), int i64 a])]; some (fork (decide (i ≤ p)) (af [(0 : Nat) < 1, (1 : Nat) * 3 ≤ 2 ^ 24, (l + 1) * ((56 : Nat) + 1) * 2 ≤ 2 ^ 47] (af [-(2 : Int) ^ 63 ≤ i + (1 : Int) ∧ i + (1 : Int) < (2 : Int) ^ 63] (leaf normal ([c2, int i64 p, c3, own 24579 3 0 (l + 1), int i64 (i + (1 : Int))], ((24579 : Nat), ay.mk true true 3 (l + 1) fun i ↦ if i < l then rat (k i) 64 else nth [rat t 64] (rat 0 1) (i - l + 0)) :: c1)))) (leaf (exit 4) ([c2, int i64 p, c3, own 2 3 0 l, int i64 i], ((2 : Nat), ay.mk true true 3 l fun i ↦ rat (k i) 64) :: c1))) := by kernel_rfl
theorem Zj {n l : Nat} {z : Nat → Int} {a p i : Int} {t : Rat} {k : Nat → Rat} : xY T j3 [] 60 vZ [part o9 [1,1]] ⟨aA rI (ng p l i), jT n z a t l k, 3⟩ =
  some (leaf ret ([aj 3 l fun i ↦ rat (k (i + 0)) 64], some (ay.mk false true 2 1 fun x ↦ agg [aj 1 n fun i ↦ int i64 (z i), int i64 a]))) := by kernel_rfl
structure pn where
 k : Nat → Rat
 t : Rat
 a : Int
def nS (n : Nat) (f : Nat → AV) (t : Rat) (a : Int) : Rat := t + ((1 + bU n f a 3 : Int) : Rat) / ((1 + bU n f (bn n a) 2 : Int) : Rat)
def m8 (n : Nat) (f : Nat → AV) (p j : Nat) (s : pn) : pn :=
 if j = 0 ∨ 0 < bU n f s.a 3 ∨ s.t = s.k (j + 1) then
  ⟨gL s.k (p + 1 + j) (nS n f s.t (if j = 0 then s.a else bn n s.a)), nS n f s.t (if j = 0 then s.a else bn n s.a), bn n (bn n (if j = 0 then s.a else bn n s.a))⟩
 else ⟨gL s.k (p + 1 + j) s.t, s.t, if j = 0 then s.a else bn n s.a⟩
def lT (n : Nat) (f : Nat → AV) (p : Nat) (s0 : pn) : Nat → pn
 | 0 => s0
 | j + 1 => m8 n f p j (lT n f p s0 j)
def mP (n : Nat) (f : Nat → AV) (a : Int) : pn := ⟨fun _ => ((bU n f a 4 - 2 : Int) : Rat), ((bU n f a 4 - 2 : Int) : Rat), bn n (bn n a)⟩
def iY (n : Nat) (f : Nat → AV) (a : Int) (m : Nat) : Nat := (bU n f (bn n a) (m + 1)).toNat
def yp (n : Nat) (f : Nat → AV) (a : Int) (p m : Nat) : pn := lT n f p (mP n f a) (iY n f a m)
def n7 (n : Nat) (f : Nat → AV) (a : Int) (p m : Nat) : Nat := 2 * p + 2 + iY n f a m
def p6 (n : Nat) (f : Nat → AV) (a : Int) (p m : Nat) : Nat → Rat := jn p (iY n f a m) (yp n f a p m).k (yp n f a p m).t
def nJ (n : Nat) (f : Nat → AV) (a : Int) (p m : Nat) : Int := (yp n f a p m).a
theorem wF {n : Nat} {f : Nat → AV} {a : Int} {p : Nat} (hd : cr n f a) (hp : 1 ≤ p) : ∀ j, KG p j (lT n f p (mP n f a) j).k (lT n f p (mP n f a) j).t ∧ cr n f (lT n f p (mP n f a) j).a
 | 0 => by
  have h1 := gO (n := n) (f := f) (a := a) (m := 4) (by omega)
  have h2 := gT (n := n) (f := f) (a := a) (m := 4) (by omega)
  exact ⟨KG.start hp (by omega) (by omega), hd.next.next⟩
 | j + 1 => by
  obtain ⟨h1, h2⟩ := wF hd hp j
  unfold lT m8 nS
  generalize lT n f p (mP n f a) j = s at *
  obtain ⟨k, t, b⟩ := s
  simp only at h1 h2 ⊢
  have hb : cr n f (if j = 0 then b else bn n b) := by split; exact h2; exact h2.next
  generalize (if j = 0 then b else bn n b) = a1 at *
  split
  ·have x1 := gO (n := n) (f := f) (a := a1) (m := 3) (by omega)
   have x2 := gT (n := n) (f := f) (a := a1) (m := 3) (by omega)
   have y1 := gO (n := n) (f := f) (a := bn n a1) (m := 2) (by omega)
   have y2 := gT (n := n) (f := f) (a := bn n a1) (m := 2) (by omega)
   refine ⟨h1.next (.inl ?_), hb.next.next⟩
   generalize bU n f a1 3 = x at *
   generalize bU n f (bn n a1) 2 = y at *
   have key : ∃ z : Int, ((1 + x : Int) : Rat) / ((1 + y : Int) : Rat) = (z : Rat) / 2 ∧ 1 ≤ z ∧ z ≤ 6 := by
    rcases (show y = 0 ∨ y = 1 by omega) with h | h
    ·subst h
     refine ⟨2 * (1 + x), ?_, by omega, by omega⟩
     have : ((2 * (1 + x) : Int) : Rat) = 2 * ((1 + x : Int) : Rat) := by simp
     rw [this]
     generalize ((1 + x : Int) : Rat) = w
     simp; grind
    ·subst h
     exact ⟨1 + x, by simp, by omega, by omega⟩
   obtain ⟨z, e, z1, z2⟩ := key
   rw [e]
   refine ⟨?_, z, rfl, z2⟩
   have : (1 : Rat) ≤ (z : Rat) := by exact_mod_cast z1
   grind
  ·rename_i hc
   have hc1 : ¬ j = 0 := fun h => hc (.inl h)
   have hc2 : ¬ t = k (j + 1) := fun h => hc (.inr (.inr h))
   exact ⟨h1.next (.inr ⟨rfl, by omega, hc2⟩), hb⟩
theorem Is {z : Int} (h1 : -2 ^ 63 ≤ z) (h2 : z < 2 ^ 63) : Sz ((z : Rat) / 2) 64 := by
 have := IQ h1 h2 (y := 2) (by omega) (by omega) (by omega)
 simpa using this
theorem KG.sz {p j : Nat} {k : Nat → Rat} {t : Rat} (h : KG p j k t) (hj : j < 2 ^ 50) : Sz t 64 := by
 obtain ⟨z, e, h1, h2⟩ := h.half (p + j) (Nat.le_refl _)
 rw [h.top] at e
 rw [e]
 exact Is (by omega) (by omega)
theorem MQ {J j : Nat} (h : j < J) : ((J - j : Nat) : Int) - 1 = ((J - (j + 1) : Nat) : Int) := by omega
theorem CB {rl : List (Nat × Nat)} {l i : Nat} {k k' : Nat → Rat} {t : Rat} {s : Nat} (hk : k' = gL k l t) (ht : Sz t 64) (hi : i < l + 1) : fY rl (if i < l then .rat (k i) 64 else nth [.rat t s] (.rat 0 1) (i - l + 0)) (.rat (k' i) 64) := by
 subst hk
 by_cases h : i < l
 ·rw [if_pos h, gk (by omega)]; exact aQ rfl rfl
 ·have : i = l := by omega
  subst this
  rw [if_neg h, kD, Nat.sub_self]
  exact .inr ⟨rfl, eA rfl ht⟩
theorem yG : bh P j3 := eP (aE xK (aE tY (aE yK jA)))
theorem SG {k n p m : Nat} {z : Nat → Int} {a : Int} {o : ay} (ho : ∀ ρ, cC ρ o (iR n z a)) (h : cr n (fun i => .int .i64 (z i)) a) (hp : 1 ≤ p) (hp2 : p < 1000) (hm2 : m < 1000) (K : Nat) :
  aB P qN K [.ptr k 0 2 0 [], .int .i64 p, .int .i64 m] [(k, o)] ⟨bV (p6 n (fun i => .int .i64 (z i)) a p m) (n7 n (fun i => .int .i64 (z i)) a p m) 64, [(k, iR n z (nJ n (fun i => .int .i64 (z i)) a p m))], []⟩ := by
 refine Fw hT Eg rfl rfl (of_decide_eq_true (by kernel_rfl)) ho (fun _ c hk => ?_) K
 have a1 := gO (n := n) (f := fun i => .int .i64 (z i)) (a := a) (m := 4) (by omega)
 have a2 := gT (n := n) (f := fun i => .int .i64 (z i)) (a := a) (m := 4) (by omega)
 have b1 := gO (n := n) (f := fun i => .int .i64 (z i)) (a := bn n a) (m := m + 1) (by omega)
 have b2 := gT (n := n) (f := fun i => .int .i64 (z i)) (a := bn n a) (m := m + 1) (by omega)
 have hS := wF h hp
 unfold nJ p6 n7 yp at *
 obtain ⟨J, hJ⟩ : ∃ J, J = iY n (fun i => .int .i64 (z i)) a m := ⟨_, rfl⟩
 have hJ2 : bU n (fun i => .int .i64 (z i)) (bn n a) (m + 1) = (J : Int) := by rw [hJ]; unfold iY; omega
 rw [← hJ] at *
 have hJ3 : J < 1000 := by omega
 obtain ⟨S, hSd⟩ : ∃ S, S = lT n (fun i => .int .i64 (z i)) p (mP n (fun i => .int .i64 (z i)) a) := ⟨_, rfl⟩
 have h00 : S 0 = mP n (fun i => .int .i64 (z i)) a := by rw [hSd]; rfl
 have hS1 : ∀ j, S (j + 1) = m8 n (fun i => .int .i64 (z i)) p j (S j) := fun j => by rw [hSd]; rfl
 rw [← hSd] at hS ⊢
 clear hSd hJ
 obtain ⟨t0, ht0⟩ : ∃ t0 : Rat, t0 = ((bU n (fun i => .int .i64 (z i)) a 4 - 2 : Int) : Rat) := ⟨_, rfl⟩
 unfold mP at h00
 rw [← ht0] at h00
 have hs0 : Sz t0 64 := by have := (hS 0).1.sz (by omega); rw [h00] at this; exact this
 refine ak.iM hT yG hm [1,1,1,0,1] (i := 0) (y := part uM [1,1,1,0,1,0,0]) (z := r8) (by kernel_rfl) (by kernel_rfl) (by kernel_rfl) Eg.dst hk (f1 := []) (f2 := [18]) 60 m7 3
  (fun j : Nat => x5 p m (match j with
   | 0 => .nil
   | _ + 1 => .own 2 3 0 j) j) (fun j => match j with
   | 0 => [(1, tO t0), (0, iR n z (bn n a))]
   | _ + 1 => jT n z (bn n a) t0 j (fun _ => t0)) (fun j => j ≤ p + 1) (fun j => j = p + 1) (fun j => p + 1 - j) (fun _ => False) ⟨_, YD, ?_⟩ (fun j hj => ?_) (fun j hj => ?_) (fun _ _ h => h.elim)
 ·simp only [aa.all, ax]
  refine ⟨⟨h, by omega, by omega, by omega, by omega, by omega, by omega⟩, 0, by omega, [(0, 0), (1, 20481)], rfl, rfl, rfl, aU rfl rfl (.inr ⟨rfl, ?_⟩) (aU rfl rfl (aQ rfl rfl) trivial)⟩
  rw [← ht0]
  exact eA rfl hs0
 ·cases j with
  | zero =>
   refine ⟨_, ZP, ?_⟩
   simp only [aa.all, ax, decide_eq_true_eq, decide_eq_false_iff_not]
   refine ⟨fun _ => ⟨by omega, by omega, 1, by omega, by dsimp only; omega, [(0, 0), (1, 1), (2, 24579)], rfl, rfl, rfl, bR rfl rfl rfl (fun i hi => ?_) (aU rfl rfl (aQ rfl rfl) (aU rfl rfl (aQ rfl rfl) trivial))⟩, fun h => by omega⟩
   have : i = 0 := by omega
   subst this
   exact aQ rfl rfl
  | succ j =>
   refine ⟨_, RZ, ?_⟩
   simp only [aa.all, ax, decide_eq_true_eq, decide_eq_false_iff_not]
   refine ⟨fun _ => ⟨by omega, by omega, j + 2, by omega, by dsimp only; omega, [(0, 0), (1, 1), (2, 24579)], rfl, rfl, rfl, bR rfl rfl rfl (fun i hi => CB (by funext i; unfold gL; split <;> rfl) hs0 hi) (aU rfl rfl (aQ rfl rfl) (aU rfl rfl (aQ rfl rfl) trivial))⟩,
    fun _ => ⟨rfl, j + 1, by omega, [(0, 0), (1, 1), (2, 2)], rfl, rfl, rfl, bR rfl rfl rfl (fun i hi => aQ rfl rfl) (aU rfl rfl (aQ rfl rfl) (aU rfl rfl (aQ rfl rfl) trivial))⟩⟩
 subst hj
 refine ak.iM hT yG hm [0,1] (i := 2) (y := part r8 [0,1,0,0]) (z := o9) (by kernel_rfl) (by kernel_rfl) (by kernel_rfl) (by kernel_rfl) hk (f1 := []) (f2 := [30, 38, 43, 53]) 60 tX 3
  (fun j : Nat => ng p (p + 1 + j) ((J - j : Nat) : Int)) (fun j => jT n z (S j).a (S j).t (p + 1 + j) (S j).k) (fun j => j ≤ J) (fun j => j = J) (fun j => J - j) (fun _ => False) ⟨_, Nf, ?_⟩ (fun j hj => ?_) (fun j hj => ?_) (fun _ _ h => h.elim)
 ·simp only [aa.all, ax]
  rw [hJ2]
  refine ⟨⟨by omega, h.next, by omega, by omega⟩, 0, by omega, [(0, 0), (1, 1), (2, 2)], rfl, rfl, rfl, ?_⟩
  dsimp only
  rw [h00]
  exact bR rfl rfl rfl (fun i hi => aQ rfl rfl) (aU rfl rfl (aQ rfl rfl) (aU rfl rfl (aQ rfl rfl) trivial))
 ·refine ⟨_, Pc, ?_⟩
  have hj1 := hS1 j
  obtain ⟨hg, hd⟩ := hS j
  have hs1 : ∀ {j}, j < 2000 → Sz (S j).t 64 := fun hj => (hS _).1.sz (by omega)
  have hsj := hs1 (j := j) (by omega)
  have hsj1 := hs1 (j := j + 1) (by omega)
  have e1 : (((p + 1 + j : Nat) : Int) - (p : Int)).toNat + 0 = j + 1 := by omega
  simp only [aa.all, ax, decide_eq_true_eq, decide_eq_false_iff_not, beq_iff_eq, beq_eq_false_iff_ne, e1, cond_false]
  have v3 := fun a => And.intro (gO (n := n) (f := fun i => .int .i64 (z i)) (a := a) (m := 3) (by omega)) (gT (n := n) (f := fun i => .int .i64 (z i)) (a := a) (m := 3) (by omega))
  have v2 := fun a => And.intro (gO (n := n) (f := fun i => .int .i64 (z i)) (a := a) (m := 2) (by omega)) (gT (n := n) (f := fun i => .int .i64 (z i)) (a := a) (m := 2) (by omega))
  have q1 := v3 (S j).a
  have q2 := v3 (bn n (S j).a)
  have q3 := v2 (bn n (S j).a)
  have q4 := v2 (bn n (bn n (S j).a))
  refine ⟨fun hi => ?_, fun hi => ⟨rfl, j, by omega, [(0, 0), (1, 1), (2, 2)], rfl, rfl, rfl, bR rfl rfl rfl (fun i hi => aQ rfl rfl) (aU rfl rfl (aQ rfl rfl) (aU rfl rfl (aQ rfl rfl) trivial))⟩⟩
  have hlt : j < J := by omega
  have fin : ∀ (key : Nat) (t : Rat) (s s2 : Nat) (b : Int) (g : Nat → AV), S (j + 1) = ⟨gL (S j).k (p + 1 + j) t, t, b⟩ → g 0 = .rat t s2 → (ia 3 [(0, 0), (1, 1), (2, key)]) = true → (key == 1) = false → (key == 0) = false →
    Round [0] (fun j => ng p (p + 1 + j) ((J - j : Nat) : Int)) (fun j => jT n z (S j).a (S j).t (p + 1 + j) (S j).k) 3 (fun j => j ≤ J) (fun j => j = J) (fun j => J - j) 2 (fun _ => False) j normal
     ([ptr 0 0 2 0 [], int i64 p, ptr 1 0 3 0 [], own key 3 0 (p + 1 + j + 1), int i64 (((J - j : Nat) : Int) - 1)], [(key, ⟨true, true, 3, p + 1 + j + 1, fun i => if i < p + 1 + j then .rat ((S j).k i) 64 else nth [.rat t s] (.rat 0 1) (i - (p + 1 + j) + 0)⟩), (1, ⟨false, true, 3, 1, g⟩), (0, iR n z b)]) := by
   intro key t s s2 b g e1 e2 e3 hk1 hk0
   rw [e1] at hsj1
   refine ⟨j + 1, by omega, by dsimp only; omega, [(0, 0), (1, 1), (2, key)], by rw [e3]; rfl, by rw [MQ hlt]; rfl, rfl, ?_⟩
   dsimp only
   rw [e1]
   exact bR rfl PJ rfl (fun i hi => CB rfl hsj1 hi) (aU rfl ((GJ hk1).trans rfl) (.inr ⟨by rw [e2]; rfl, by rw [e2]; exact eA rfl hsj1⟩) (aU rfl ((GJ hk0).trans rfl) (aQ rfl rfl) trivial))
  refine ⟨fun hl => ?_, fun hl => ⟨fun hc => ?_, fun hc => ?_⟩⟩
  all_goals (repeat' with_reducible first | refine And.intro ?_ ?_ | intro _)
  all_goals first | omega | exact hd | exact hd.next | exact hd.next.next | skip
  all_goals try exact absurd ‹true = false› (by decide)
  ·refine fin 147459 _ _ _ _ _ ?_ rfl rfl rfl rfl
   rw [hj1]; unfold m8 nS
   have hj0 : j = 0 := by omega
   rw [if_pos (.inl hj0), if_pos hj0]
  ·refine fin 147459 _ _ _ _ _ ?_ rfl rfl rfl rfl
   rw [hj1]; unfold m8 nS
   have hj0 : j ≠ 0 := by omega
   rw [if_pos (.inr (.inl hc)), if_neg hj0]
  ·refine fin 147459 _ _ _ _ _ ?_ rfl rfl rfl rfl
   rw [hj1]; unfold m8 nS
   have hj0 : j ≠ 0 := by omega
   rename_i hk
   rw [if_pos (.inr (.inr hk)), if_neg hj0]
  ·refine fin 106499 _ _ _ _ _ ?_ rfl rfl rfl rfl
   rw [hj1]; unfold m8 nS
   have hj0 : j ≠ 0 := by omega
   rename_i hk
   rw [if_neg (by simp only [hj0, hk, or_false, false_or]; omega), if_neg hj0]
 subst hj
 have hs1 : Sz ((S j).t + 1) 64 := by
  obtain ⟨z, e, h1, h2⟩ := (hS j).1.NS (p + 1 + j)
  unfold jn at e
  rw [if_neg (by omega)] at e
  rw [e]; exact Is (by omega) (by omega)
 refine ak.iM hT yG hm [1,0,1] (i := 4) (y := part o9 [1,0,1,0,0]) (z := part o9 [1,1]) (by kernel_rfl) (by kernel_rfl) (by kernel_rfl) (by kernel_rfl) hk (f1 := []) (f2 := [72]) 60 rI 3
  (fun i : Nat => ng p (p + 1 + j + i) i) (fun i => jT n z (S j).a ((S j).t + 1) (p + 1 + j + i) (jn p j (S j).k (S j).t)) (fun i => i ≤ p + 1) (fun i => i = p + 1) (fun i => p + 1 - i) (fun _ => False) ⟨_, PG, ?_⟩ (fun i hi => ?_) (fun i hi => ?_) (fun _ _ h => h.elim)
 ·simp only [aa.all, ax]
  refine ⟨⟨by omega, by omega, by omega, by omega, by decide, by omega⟩, 0, by omega, [(0, 0), (1, 1), (2, 2)], rfl, rfl, rfl, bR rfl rfl rfl (fun i hi => ?_) (aU rfl rfl (.inr ⟨rfl, eA rfl hs1⟩) (aU rfl rfl (aQ rfl rfl) trivial))⟩
  refine aQ rfl ?_
  unfold jn
  rw [if_pos (by omega)]
 ·refine ⟨_, KT, ?_⟩
  simp only [aa.all, ax, decide_eq_true_eq, decide_eq_false_iff_not]
  refine ⟨fun _ => ⟨by omega, by omega, i + 1, by omega, by dsimp only; omega, [(0, 0), (1, 1), (2, 24579)], rfl, rfl, rfl, bR rfl rfl rfl (fun i hi => CB ?_ hs1 hi) (aU rfl rfl (aQ rfl rfl) (aU rfl rfl (aQ rfl rfl) trivial))⟩,
   fun _ => ⟨rfl, i, by omega, [(0, 0), (1, 1), (2, 2)], rfl, rfl, rfl, bR rfl rfl rfl (fun i hi => aQ rfl rfl) (aU rfl rfl (aQ rfl rfl) (aU rfl rfl (aQ rfl rfl) trivial))⟩⟩
  funext x
  unfold gL jn
  split
  ·rename_i hx; rw [if_neg (by omega)]
  ·split <;> rfl
 ·subst hi
  refine ak.jg (az.Dn hT yG hm 60 Zj (by kernel_rfl) ⟨?_, _, rfl, rfl, kM rfl rfl⟩)
  exact pH (by omega) fun _ _ => rfl
def CD (n : Nat) (f : Nat → AV) (a : Int) (l : List AV) : Option (AV × Int × List Prop) := match l with
 | [.int .i64 p, .int .i64 m] => some (bV (p6 n f a p.toNat m.toNat) (n7 n f a p.toNat m.toNat) 64, nJ n f a p.toNat m.toNat, [1 ≤ p, p < 1000, 0 ≤ m, m < 1000])
 | _ => none
theorem PN : ∀ K args pre r, gd CD K args pre = some r → aB P qN K args pre r := by
 refine oJ fun {k n z a l v b q o} K hg ho hd hq => ?_
 unfold CD at hg
 split at hg
 ·rename_i p m
  simp only [Option.some.injEq, Prod.mk.injEq] at hg
  obtain ⟨rfl, rfl, rfl⟩ := hg
  obtain ⟨h1, h2, h3, h4⟩ := hq
  have h4 : m < 1000 := h4
  have := SG (k := k) (p := p.toNat) (m := m.toNat) ho hd (by omega) (by omega) (by omega) K
  rw [Int.toNat_of_nonneg (by omega), Int.toNat_of_nonneg h3] at this
  exact this
 ·simp at hg
end Go.Am.B

/- brepkernelmade: Number. -/
namespace Go.Am.B
open Go Go.Am.N AV
end Go.Am.B

/- law09: made, at. -/
namespace Go.Am.B
open Go Go.Am.N AV aa ah IntKind
end Go.Am.B

/- ref02.Text of a few numbers; law09.awake. -/
namespace Go.Am.B
open Go Go.Am.N AV aa ah IntKind
def yz : aT := [sG, (qe, BV)]
theorem VQ : bB T yz [] 60 kr (au kr) ⟨aO 0 [.mag 3], [], 0⟩ =
  let c1 : Int := (↑(1 : Nat) : Int); some (af [nl 3 < 2 ^ 40, (0 : Int) < (1000000000 : Int), (1000000000 : Int) < (2 : Int) ^ 32] (af [(10 : Int) ≠ (0 : Int), (0 : Nat) < 1 ∧ 1 * ((1 : Nat) + 1) * 2 ≤ 2 ^ 47] (af [(10 : Int) ≠ (0 : Int)] (af [(0 : Int) ≤ c1 ∧ c1 ≤ c1 ∧ c1 ≤ (2 : Int) ^ 47 ∧ c1 * c1 ≤ (2 : Int) ^ 47] (leaf ret [str [UInt8.ofNat (u8.wrap (u32.wrap ((48 : Int) + (↑((3 : Nat) % Int.toNat (1000000000 : Int)) : Int).tmod (10 : Int)))).toNat]]))))) := by kernel_rfl
theorem Wo : bh P yz := de (aE Gn aY)
theorem Kn.congr {n p : Nat} {k k' : Nat → Rat} (h : Kn n p k) (e : ∀ i, i < n → k i = k' i) : Kn n p k' := by
 have hp := h.p1
 have hl := h.len
 refine ⟨h.p1, h.len, fun i hi => ?_, fun i hi => ?_, fun i h1 h2 => ?_, fun i h1 h2 => ?_⟩
 ·rw [← e i (by omega), ← e (i + 1) hi]; exact h.sorted i hi
 ·rw [← e i (by omega), ← e 0 (by omega)]; exact h.first i hi
 ·rw [← e i h2, ← e (n - 1) (by omega)]; exact h.last i h1 h2
 ·rw [← e i (by omega), ← e (i + p) (by omega)]; exact h.mult i h1 h2
theorem Yt {f : Nat → Rat} (h : ∀ i, i < 6 → f i = jn 2 0 (fun _ => ((0 : Int) : Rat)) ((0 : Int) : Rat) i) : Kn 6 2 f :=
 ((KG.start (p := 2) (by omega) (z := 0) (by omega) (by omega)).done : Kn (2 * 2 + 2 + 0) 2 _).congr fun i hi => (h i hi).symm
end Go.Am.B

/- shapes, vector, ref14: by the evaluator; law14.awake. -/
namespace Go.Am.B
open Go Go.Am.N AV aa ah IntKind
theorem Yg : aS P zk uh (au uh) := aN Oy (by kernel_rfl) (by kernel_rfl) (by kernel_rfl)
theorem UU {q : Rat} {n : Nat} : bB T GA [8] 60 uh (au uh) ⟨aO 0 [.rat q n], [], 0⟩ =
  let c4 : Int := (↑(nl q.num.natAbs) : Int); let c3 : Bool := !decide (q < 0); let c2 : List AV := [mag q.num.natAbs, mag (if q.den = 1 then 0 else q.den)]; let c1 : Prop := 0 < 1; some (af [c1, n < 2 ^ 44, c1] (fork c3 (af [c1, c3 = true, c1, c1] (af [c1, c1] (af [c1] (leaf ret [agg (AV.bool (bif true then decide (c4 > (0 : Int)) else false) :: c2)])))) (af [c1, c3 = false, c1] (af [c1, c1] (af [c1] (leaf ret [agg (AV.bool false :: c2)])))))) := by kernel_rfl
theorem R7 {q : Rat} {n : Nat} (hn : n < 2 ^ 40) (K : Nat) : aB P zk K [.rat q n] [] (aH (.rat (-q) n) []) := by
 refine gl fun ⟨hs1, _⟩ => ?_
 have hs1 : Sz q n := hs1
 have hs2 := hs1.neg
 have e1 : (-q).num.natAbs = q.num.natAbs := by rw [Rat.neg_num, Int.natAbs_neg]
 have e2 : (-q).den = q.den := Rat.neg_den q
 refine bF (r := aH (.rat (-q) n) []) hT qp hm Yg rfl (of_decide_eq_true (by kernel_rfl)) rfl 60 UU (fun _ => ?_) K []
 simp only [aa.all, ax]
 refine ⟨⟨by omega, by omega, by omega⟩, fun hb => ⟨⟨by omega, hb, by omega, by omega⟩, ⟨by omega, by omega⟩, by omega, kz hs2 ?_ e1.symm (by rw [e2])⟩, fun hb => ⟨⟨by omega, hb, by omega⟩, ⟨by omega, by omega⟩, by omega, kz hs2 ?_ e1.symm (by rw [e2])⟩⟩
 ·have hq : ¬ q < 0 := by simpa using hb
  rw [cond_true]
  have h1 : ¬ q.num < 0 := fun h => hq (fl.2 h)
  exact ((decide_eq_decide (p := -q < 0) (q := (nl q.num.natAbs : Int) > 0)).2 (by
   rw [fl, Rat.neg_num]
   have := eH (N := q.num.natAbs)
   omega)).symm
 ·have hq : q < 0 := by simpa using hb
  have := fl.1 hq
  exact (decide_eq_false (p := -q < 0) (by rw [fl, Rat.neg_num]; omega)).symm
def D0 : aT := [(zk, bt fun l => match l with
 | [.rat q n] => match Nat.blt n (2 ^ 40) with
  | true => some (aH (.rat (-q) n) [])
  | false => none
 | _ => none)]
noncomputable def ta : aT := [(DI, cZ T (sG :: jw) [] 60 CY), (E4, cZ T (sG :: jw) [] 60 DP), (F9, cZ T (sG :: jw) [] 60 Ib)]
noncomputable def zo : aT := [(IJ, cZ T (sG :: ta) [] 60 H7), (EY, cZ T (sG :: ta) [] 60 E6), (IW, cZ T (sG :: ta) [] 60 Er)]
noncomputable def Fo : aT := [(DQ, cZ T (sG :: zo) [] 60 F4)]
noncomputable def xo : aT := [(pF, yD), (xg, cZ T [sG] [] 60 ve), (EU, cZ T (sG :: (zo ++ jw)) [] 60 Hh), (qx, cZ T (sG :: (pF, yD) :: jw) [] 200 iH)]
noncomputable def Gg : aT := [(IU, cZ T (sG :: xo) [] 200 FN), (Jd, cZ T (sG :: xo) [] 200 IT), (Iz, cZ T (sG :: (ta ++ (D0 ++ jw))) [] 200 Gf)]
noncomputable def Ge : aT := [(qy, cZ T (sG :: (pT, cZ T (sG :: jw) [] 200 p5) :: (xo ++ jw)) [] 400 o3)]
noncomputable def F8 : aT := [(yt, DY), (FZ, cZ T (sG :: gm) [] 60 JH), (CK, cZ T (sG :: gm) [] 60 Gr)]
noncomputable def IV : aT := [(DO, cZ T (sG :: F8) [] 200 Fu)]
noncomputable def x7 : aT := [(Gj, cZ T (sG :: gm) [] 60 EC), (Ga, cZ T (sG :: gm) [] 60 J4), (EG, cZ T (sG :: gm) [] 60 Ee), (Ho, cZ T (sG :: gm) [] 60 Gq), (G3, cZ T (sG :: gm) [100010, 100017] 60 Ic)]
noncomputable def Ig : aT := [(tR, C8), (Jz, cZ T (sG :: (x7 ++ gm)) [200029, 200042] 200 G7)]
noncomputable def E9 : aT := [(IY, cZ T (sG :: Ig) [100010, 100017] 60 FA)]
def GF : Spec := bt fun l => match l with
 | [.mag 3] => some (aH (.str [51]) [])
 | [.mag 5] => some (aH (.str [53]) [])
 | _ => none
def Mc : aT := [sG, (s5, GF)]
def JS : Spec := bt fun l => match l with
 | [.rat q _] => match decide (q = 3 / 5) with
  | true => some (aH (.str [51, 47, 53]) [])
  | false => none
 | _ => none
noncomputable def EF : aT := sG :: (mS, AE) :: (lC, qX) :: (yH, JS) :: (Gg ++ (Ge ++ (IV ++ (x7 ++ (Fo ++ (E9 ++ gm))))))
theorem Wr : bB T yz [] 60 kr (au kr) ⟨aO 0 [.mag 5], [], 0⟩ =
  let c1 : Int := (↑(1 : Nat) : Int); some (af [nl 5 < 2 ^ 40, (0 : Int) < (1000000000 : Int), (1000000000 : Int) < (2 : Int) ^ 32] (af [(10 : Int) ≠ (0 : Int), (0 : Nat) < 1 ∧ 1 * ((1 : Nat) + 1) * 2 ≤ 2 ^ 47] (af [(10 : Int) ≠ (0 : Int)] (af [(0 : Int) ≤ c1 ∧ c1 ≤ c1 ∧ c1 ≤ (2 : Int) ^ 47 ∧ c1 * c1 ≤ (2 : Int) ^ 47] (leaf ret [str [UInt8.ofNat (u8.wrap (u32.wrap ((48 : Int) + (↑((5 : Nat) % Int.toNat (1000000000 : Int)) : Int).tmod (10 : Int)))).toNat]]))))) := by kernel_rfl
theorem V5 : bB T Mc [] 60 s7 (au s7) ⟨aO 0 [.agg [.bool false, .mag 3, .mag 5]], [], 0⟩ =
  some (leaf ret [str [(51 : UInt8), (47 : UInt8), (53 : UInt8)]]) := by kernel_rfl
theorem WW : bB T EF [100027, 100033, 100038, 100043, 100047, 100053] 200 Bx (au Bx) ⟨aO 0 [], [], 0⟩ =
  let c49 : Int := (↑(4 : Nat) : Int); let c48 : List UInt8 := [(51 : UInt8), (47 : UInt8), (53 : UInt8)]; let c47 : Prop := 3 ≤ 3; let c46 : Prop := (0 : Int) ≤ (0 : Int); let c44 : Rat := 0 * 0; let c42 : Nat := 2 ^ 40; let c41 : Nat := 224 + 1; let c28 : Int := i64.wrap (i64.wrap ((2 : Int) * (4 : Int)) + (1 : Int)); let c27 : Int := (2 : Int) ^ 63; let c25 : Rat := (↑(2 : Int) : Rat); let c22 : Nat := Int.toNat (0 : Int) + 1; let c21 : Nat := nat_lit 0 + 0; let c20 : Nat := nat_lit 2 + 0; let c19 : Nat := 1 + 1; let c18 : Nat := nat_lit 1 + 0; let c17 : AV := rat 0 1; let c15 : Rat := (↑(0 : Int) : Rat); let c14 : Nat := 24 + 1; let c12 : Nat := 56 + 1; let c11 : Nat := 3 + 2; let c7 : Nat := 2 ^ 47; let c6 : AV := int i64 (1 : Int); let c3 : AV := int i64 (0 : Int); let c2 : Prop := 0 < 1; let c1 : Rat := (↑(1 : Int) : Rat); let c53 : List AV := [c6, c3]; let c52 : Prop := c11 * c12 * 2 ≤ c7; let c50 : Nat := c22 + 1; let c45 : Nat := c11 + 1; let c43 : Nat := c19 + 1; let c40 : Rat := c1 / (c1 + c1 * c1); let c39 : Prop := (bif false then true else !decide (c1 = c1)) = false; let c38 : Nat := c11 + 2 + 2; let c35 : Rat := (↑(intOf (nth [c6, c3, c3] c3 c21)) : Rat) + 0; let c32 : Rat := (↑(intOf (nth [c6, c3, c3] c3 c18)) : Rat) + 0; let c31 : Rat := (↑(intOf (nth [c6, c3, c3] c3 c20)) : Rat) + 0; let c24 : Rat := 0 + 0 * c1 + c44 + c1 * 0 + 0; let c23 : List AV := [c3, c3, c3, c6, c6, c6]; let c9 : AV := rat c15 (Max.max 1 (aV (Int.natAbs (0 : Int)))); let c8 : AV := rat c1 (Max.max 1 (aV (Int.natAbs (1 : Int)))); let c5 : Prop := c2 ∧ 1 * c41 * 2 ≤ c7; let c4 : Prop := c19 * c41 * 2 ≤ c7; let c37 : Rat := (↑(intOf (nth (c3 :: c53) c3 c18)) : Rat) + 0; let c36 : Rat := (↑(intOf (nth (c3 :: c53) c3 c20)) : Rat) + 0; let c34 : Rat := (↑(intOf (nth (c3 :: c53) c3 c21)) : Rat) + 0; let c33 : Rat := (↑(intOf (nth (c6 :: c53) c3 c20)) : Rat) + 0; let c30 : Rat := (↑(intOf (nth (c6 :: c53) c3 c18)) : Rat) + 0; let c29 : Rat := (↑(intOf (nth (c6 :: c53) c3 c21)) : Rat) + 0; let c16 : Rat := 0 + (c1 - c1 * c1) * c40 * c1 + -((c1 + c1) * c40) * 0 + c44 + 0; let c13 : Rat := 0 + (c1 + c1) * c40 * c1 + ((c1 - c1 * c1) * c40 + 0) * 0 + c44 + 0; let c10 : Nat := c43 + 1 + 1; let c51 : Nat := c10 + 1 + 1; let c26 : Nat := c51 + 1; some (af [c2, c2, c2, c2, c2, c2, c2, -c27 ≤ (1 : Int), (1 : Int) < c27, -c27 ≤ (2 : Int), (2 : Int) < c27, cq (fun i ↦ rat (↑(intOf (nth c23 c3 (i + 0 + 0))) : Rat) 64) 6 sK, jz (fun i ↦ nth [agg [agg [c8, c9, c9], c8], agg [agg [c8, c8, c9], c8], agg [agg [c9, c8, c9], rat c25 (Max.max 1 (aV (Int.natAbs (2 : Int))))]] (agg [agg [c17, c17, c17], c17]) (i + 0)) 3 sK, (64 : Nat) ≤ sK, Kn 6 (Int.toNat (2 : Int)) fun i ↦ aM (rat (↑(intOf (nth c23 c3 (i + 0 + 0))) : Rat) 64), (0 : Int) ≤ (2 : Int), (2 : Int) ≤ (6 : Int), (6 : Nat) < c42, (↑(3 : Nat) : Int) = (↑(6 : Nat) : Int) - (2 : Int) - (1 : Int)] (af [c2, c2, c2, c2, c2, c2, c2, c2, c2, c2] (af [c2, c2, c2, c2, c2, c2, c2, c2, c2, c2, c2, c52, (c11 + 2) * c12 * 2 ≤ c7, c38 * c12 * 2 ≤ c7, (c38 + 2) * c12 * 2 ≤ c7, (c38 + 2 + 1) * c12 * 2 ≤ c7, c46 ∧ (0 : Int) ≤ c49 ∧ c49 ≤ (2 : Int) ^ 47 ∧ c49 * (↑(56 : Nat) : Int) ≤ (2 : Int) ^ 47, c22 * c12 * 2 ≤ c7, c50 * c12 * 2 ≤ c7, (c50 + 1) * c12 * 2 ≤ c7, (c50 + 1 + 1) * c12 * 2 ≤ c7, c2, c2, c46 ∧ (0 : Int) ≤ c28 ∧ c28 ≤ (↑(9 : Nat) : Int), c5, c4, c2 ∧ 1 * c14 * 2 ≤ c7, c5, c4, c19 * c14 * 2 ≤ c7, c5, c4, c43 * c14 * 2 ≤ c7, c5, c4, (c43 + 1) * c14 * 2 ≤ c7, c5, c4, c10 * c14 * 2 ≤ c7, c5, c4, (c10 + 1) * c14 * 2 ≤ c7, c5, c4, c51 * c14 * 2 ≤ c7, c5, c4, c26 * c14 * 2 ≤ c7, c5, c4, (c26 + 1) * c14 * 2 ≤ c7, c2] (af [(dH 6 (fun i ↦ aM (rat (↑(intOf (nth c23 c3 (i + 0 + 0))) : Rat) 64)) (c1 / c25) == (0 : Int)) = true, (bif true then c48 == c48 else false) = true, c52, c45 * c12 * 2 ≤ c7, c2, c2, c46 ∧ (0 : Int) ≤ (3 : Int) ∧ (3 : Int) ≤ (↑(9 : Nat) : Int), c47, c2, c2, c2, c5, c47, c2, c2, c2, c4, c47, c2, c2, c2, c43 * c41 * 2 ≤ c7, c2, c2, c2, c2, c2, c2, c2, c2, ((2 : Int) == (2 : Int)) = true, cq (fun i ↦ if i + 0 < c11 then if i + 0 < 3 then rat (↑(intOf (nth [c3, c3, c3] c3 (i + 0 + 0))) : Rat) 64 else rat (↑(intOf (nth [c6, c6] c3 (i + 0 - 3 + 0 + 0))) : Rat) 64 else nth [c8] c17 (i + 0 - c11 + 0)) c45 sU, cq (fun i ↦ rat (↑(intOf (nth c23 c3 (i + 0 + 0))) : Rat) 64) 6 sU, c45 < c42, (6 : Nat) < c42, (bif true then wT c45 (fun i ↦ aM (if i + 0 < c11 then if i + 0 < 3 then rat (↑(intOf (nth [c3, c3, c3] c3 (i + 0 + 0))) : Rat) 64 else rat (↑(intOf (nth [c6, c6] c3 (i + 0 - 3 + 0 + 0))) : Rat) 64 else nth [c8] c17 (i + 0 - c11 + 0))) 6 fun i ↦ aM (rat (↑(intOf (nth c23 c3 (i + 0 + 0))) : Rat) 64) else false) = true, decide (c35 = c1) = true, (bif true then decide (c32 = c15) else false) = true, (!bif true then decide (c31 = c15) else false) = false, c39, decide (c29 = c1) = true, (bif true then decide (c30 = c1) else false) = true, (!bif true then decide (c33 = c15) else false) = false, c39, decide (c34 = c15) = true, (bif true then decide (c37 = c1) else false) = true, (!bif true then decide (c36 = c15) else false) = false, (bif false then true else !decide (c25 = c25)) = false, (bif true then bif true then true else false else false) = true, c2, decide (c16 = 0) = true, (bif true then decide (c13 = c1) else false) = true, (bif true then bif true then decide (c24 = 0) else false else false) = true, (bif true then (0 : Int) == (0 : Int) else false) = true, (bif true then (↑(c26 + 1) : Int) == (9 : Int) else false) = true] (leaf ret [AV.bool true]))))) := by kernel_rfl
theorem VU : bh P D0 := aE (by
 refine bJ fun K args r hk hs _ => ?_
 split at hs
 ·split at hs
  ·rename_i hb
   simp only [Option.some.injEq] at hs
   subst hs
   exact R7 (by rw [Nat.blt_eq] at hb; exact hb) K
  ·simp at hs
 ·simp at hs) aY
theorem wR : bh P ta := aE (dh hT (de jI) hm (aN XT (by kernel_rfl) (by kernel_rfl) (by kernel_rfl)) _ _) (aE (dh hT (de jI) hm (aN aaF (by kernel_rfl) (by kernel_rfl) (by kernel_rfl)) _ _) (aE (dh hT (de jI) hm (aN PB (by kernel_rfl) (by kernel_rfl) (by kernel_rfl)) _ _) aY))
theorem D5 : bh P zo := aE (dh hT (de wR) hm (aN O9 (by kernel_rfl) (by kernel_rfl) (by kernel_rfl)) _ _) (aE (dh hT (de wR) hm (aN Vb (by kernel_rfl) (by kernel_rfl) (by kernel_rfl)) _ _) (aE (dh hT (de wR) hm (aN SY (by kernel_rfl) (by kernel_rfl) (by kernel_rfl)) _ _) aY))
theorem aa7 : bh P Fo := aE (dh hT (de D5) hm (aN Ya (by kernel_rfl) (by kernel_rfl) (by kernel_rfl)) _ _) aY
theorem BS : bh P xo := aE B1 (aE (dh hT (de aY) hm (aN Dy (by kernel_rfl) (by kernel_rfl) (by kernel_rfl)) _ _) (aE (dh hT (de (gA D5 jI)) hm (aN Lq (by kernel_rfl) (by kernel_rfl) (by kernel_rfl)) _ _) (aE (dh hT (de (aE B1 jI)) hm (aN Kf (by kernel_rfl) (by kernel_rfl) (by kernel_rfl)) _ _) aY)))
theorem Wa : bh P Gg := aE (dh hT (de BS) hm (aN UR (by kernel_rfl) (by kernel_rfl) (by kernel_rfl)) _ _) (aE (dh hT (de BS) hm (aN KE (by kernel_rfl) (by kernel_rfl) (by kernel_rfl)) _ _) (aE (dh hT (de (gA wR (gA VU jI))) hm (aN X5 (by kernel_rfl) (by kernel_rfl) (by kernel_rfl)) _ _) aY))
theorem UX : bh P Ge := aE (dh hT (de (aE (dh hT (de jI) hm (aN HL (by kernel_rfl) (by kernel_rfl) (by kernel_rfl)) _ _) (gA BS jI))) hm (aN Jb (by kernel_rfl) (by kernel_rfl) (by kernel_rfl)) _ _) aY
theorem Uz : bh P F8 := aE WS (aE (dh hT (de gF) hm (aN Lh (by kernel_rfl) (by kernel_rfl) (by kernel_rfl)) _ _) (aE (dh hT (de gF) hm (aN Tz (by kernel_rfl) (by kernel_rfl) (by kernel_rfl)) _ _) aY))
theorem LZ : bh P IV := aE (dh hT (de Uz) hm (aN Ku (by kernel_rfl) (by kernel_rfl) (by kernel_rfl)) _ _) aY
theorem B0 : bh P x7 := aE (dh hT (de gF) hm (aN YB (by kernel_rfl) (by kernel_rfl) (by kernel_rfl)) _ _) (aE (dh hT (de gF) hm (aN N8 (by kernel_rfl) (by kernel_rfl) (by kernel_rfl)) _ _) (aE (dh hT (de gF) hm (aN ZE (by kernel_rfl) (by kernel_rfl) (by kernel_rfl)) _ _) (aE (dh hT (de gF) hm (aN LC (by kernel_rfl) (by kernel_rfl) (by kernel_rfl)) _ _) (aE (dh hT (de gF) hm (aN XP (by kernel_rfl) (by kernel_rfl) (by kernel_rfl)) _ _) aY))))
theorem Za : bh P Ig := aE Sv (aE (dh hT (de (gA B0 gF)) hm (aN WX (by kernel_rfl) (by kernel_rfl) (by kernel_rfl)) _ _) aY)
theorem Mj : bh P E9 := aE (dh hT (de Za) hm (aN VH (by kernel_rfl) (by kernel_rfl) (by kernel_rfl)) _ _) aY
theorem PV : ∀ K args pre r, GF K args pre = some r → aB P s5 K args pre r := by
 refine bJ fun K args r hk hs _ => ?_
 have fin : ∀ {N : Nat} {t : aa (List AV)} {l : List UInt8}, bB T yz [] 60 kr (au kr) ⟨aO 0 [.mag N], [], 0⟩ = some t → (t.all fun _ us => dL us (.str l)) → aB P s5 K [.mag N] [] (aH (.str l) []) := fun h1 h2 =>
  bF (r := aH _ []) hT Wo hm KC rfl (of_decide_eq_true (by kernel_rfl)) rfl 60 h1 (fun _ => h2) K []
 split at hs <;> simp only [Option.some.injEq, reduceCtorEq] at hs
 all_goals subst hs
 ·exact fin VQ (by simp only [aa.all, ax]; exact ⟨by decide, by decide, by decide, by decide, .refl _⟩)
 ·exact fin Wr (by simp only [aa.all, ax]; exact ⟨by decide, by decide, by decide, by decide, .refl _⟩)
theorem Zu : ∀ K args pre r, JS K args pre = some r → aB P yH K args pre r := by
 refine bJ fun K args r hk hs _ => ?_
 split at hs
 ·rename_i q n
  split at hs
  all_goals simp only [Option.some.injEq, reduceCtorEq] at hs
  all_goals subst hs
  obtain rfl : q = 3 / 5 := of_decide_eq_true ‹_›
  exact fu (bF (r := aH _ []) hT (de (aE PV aY)) hm Uu rfl (of_decide_eq_true (by kernel_rfl)) rfl 60 V5 (fun _ => .refl _) K []) rfl (show eu [_] [_] from ⟨by rw [← show kids (.rat (3 / 5) n) = [.bool false, .mag 3, .mag 5] from by kernel_rfl]; exact JQ, trivial⟩) []
 ·simp at hs
theorem abH : bh P EF := de (aE DK (aE yK (aE Zu (gA Wa (gA UX (gA LZ (gA B0 (gA aa7 (gA Mj gF)))))))))
theorem Xr (K : Nat) : aB P xU K [] [] (aH (.bool true) []) := by
 refine bF (r := aH (.bool true) []) hT abH hm (aN K1 (by kernel_rfl) (by kernel_rfl) (by kernel_rfl)) rfl (of_decide_eq_true (by kernel_rfl)) rfl 200 WW (fun _ => ?_) K []
 simp only [aa.all, ax]
 (repeat' with_reducible first | refine And.intro ?_ ?_)
 all_goals first | omega | decide | skip
 ·intro i hi
  match i, hi with
  | 0, _ | 1, _ | 2, _ | 3, _ | 4, _ | 5, _ => exact dF (by decide)
 ·intro i hi
  match i, hi with
  | 0, _ | 1, _ | 2, _ => exact eG ⟨eG ⟨dF (by decide), dF (by decide), dF (by decide), trivial⟩, dF (by decide), trivial⟩
 ·refine Yt fun i hi => ?_
  match i, hi with
  | 0, _ | 1, _ | 2, _ | 3, _ | 4, _ | 5, _ => decide +kernel
 ·decide +kernel
 ·intro i hi
  match i, hi with
  | 0, _ | 1, _ | 2, _ | 3, _ | 4, _ | 5, _ => exact dF (by decide)
 ·intro i hi
  match i, hi with
  | 0, _ | 1, _ | 2, _ | 3, _ | 4, _ | 5, _ => exact dF (by decide)
 all_goals first | exact .refl _ | decide +kernel
def DH : Spec := bt fun l => match l with
 | [] => some (aH (.bool true) [])
 | _ => none
theorem Kz : ∀ K args pre r, DH K args pre = some r → aB P xU K args pre r := by
 refine bJ fun K args r hk hs _ => ?_
 split at hs
 ·simp only [Option.some.injEq] at hs
  subst hs
  exact Xr K
 ·simp at hs
end Go.Am.B

/- spline.Copied, shapes.clamped, shapes.Revolve. -/
namespace Go.Am.B
open Go Go.Am.N AV aa ah IntKind
theorem VY : aS P pT p5 (au p5) := aN HL (by kernel_rfl) (by kernel_rfl) (by kernel_rfl)
theorem ya : aS P qx iH (au iH) := aN Kf (by kernel_rfl) (by kernel_rfl) (by kernel_rfl)
theorem Jc : aS P qy o3 (au o3) := aN Jb (by kernel_rfl) (by kernel_rfl) (by kernel_rfl)
abbrev sX : Nat := 1000
abbrev sY : Nat := 1100
abbrev B6 (m : Nat) (k : Nat → Rat) : ay := ⟨true, true, 3, m, fun i => .rat (k i) sY⟩
noncomputable abbrev sD : Code := au p5
abbrev qI : List Nat := [3, 9, 10, 11]
abbrev zW (n : Nat) (k : Nat → Rat) (i : Nat) : List AV := [.own 0 3 0 i, bV k n sX, .int .i64 n, .int .i64 i]
noncomputable def tu : aT := sG :: (pF, yD) :: jw
theorem Zh {n : Nat} {k : Nat → Rat} : aI T yd [] 60 qI (before sD [1,1,0,1]) ⟨aO 0 [bV k n sX], [], 0⟩ =
  let c1 : Int := (↑n : Int); some (af [(0 : Int) ≤ (0 : Int) ∧ (0 : Int) ≤ c1 ∧ c1 ≤ (2 : Int) ^ 47 ∧ c1 * (↑(56 : Nat) : Int) ≤ (2 : Int) ^ 47] (leaf normal ([own 12288 3 0 0, aj 3 n fun i ↦ rat (k i) 1000, int i64 c1, int i64 (0 : Int)], [((12288 : Nat), ay.mk true true 3 0 fun x ↦ rat 0 1)]))) := by kernel_rfl
theorem OB {n i : Nat} {k : Nat → Rat} : aI T yd [12] 60 qI [part sD [1,1,0,1,0,0]] ⟨aA qI (zW n k i), [(0, B6 i k)], 1⟩ =
  let c4 : Int := (↑n : Int); let c2 : AV := aj 3 n fun i ↦ rat (k i) 1000; let c1 : Int := (↑i : Int); let c3 : Int := c1 + (1 : Int); some (fork (decide (c1 < c4)) (af [(0 : Int) ≤ c1 ∧ c1.toNat < n, (0 : Nat) < 1] (af [(0 : Nat) < 1, (1 : Nat) * 3 ≤ 2 ^ 24, (i + 1) * ((56 : Nat) + 1) * 2 ≤ 2 ^ 47] (af [-(2 : Int) ^ 63 ≤ c3 ∧ c3 < (2 : Int) ^ 63] (leaf normal ([own 40961 3 0 (i + 1), c2, int i64 c4, int i64 c3], [((40961 : Nat), ay.mk true true 3 (i + 1) fun i_1 ↦ if i_1 < i then rat (k i_1) sY else nth [rat (k c1.toNat + 0) (sX + 1 + 1)] (rat 0 1) (i_1 - i + 0))]))))) (leaf (exit 0) ([own 0 3 0 i, c2, int i64 c4, int i64 c1], [((0 : Nat), ay.mk true true 3 i fun i ↦ rat (k i) 1100)]))) := by kernel_rfl
theorem Z1 {n i : Nat} {k : Nat → Rat} : b9 T yd [] 60 p5 [part sD [1,1,1]] ⟨aA qI (zW n k i), [(0, B6 i k)], 1⟩ =
  some (leaf ret [aj 3 i fun i ↦ rat (k (i + 0)) 1100]) := by kernel_rfl
theorem TL : bB T tu [] 200 iH (au iH) ⟨aO 0 [.int .i64 1], [], 0⟩ =
  let c2 : AV := int i64 (0 : Int); let c1 : Nat := 3 + 2; some (af [c1 * ((56 : Nat) + 1) * 2 ≤ 2 ^ 47] (af [(c1 + 1) * ((56 : Nat) + 1) * 2 ≤ 2 ^ 47] (leaf ret [aj 3 6 fun i ↦ if i + 0 < c1 then if i + 0 < 3 then rat (↑(intOf (nth [c2, c2, c2] c2 (i + 0 + 0))) : Rat) 64 else rat (↑(intOf (nth [int i64 (1 : Int), int i64 (1 : Int)] c2 (i + 0 - 3 + 0 + 0))) : Rat) 64 else nth [rat (↑(1 : Int) : Rat) (Max.max 1 (aV (Int.natAbs (1 : Int))))] (rat 0 1) (i + 0 - c1 + 0)]))) := by kernel_rfl
theorem V9 : bB T tu [] 200 iH (au iH) ⟨aO 0 [.int .i64 2], [], 0⟩ =
  let c6 : Nat := 56 + 1; let c5 : Nat := 2 ^ 47; let c4 : AV := int i64 (i64.wrap ((1 : Int) + (1 : Int))); let c2 : AV := int i64 (0 : Int); let c1 : Nat := 3 + 2; let c3 : Nat := c1 + 2; some (af [c1 * c6 * 2 ≤ c5] (af [c3 * c6 * 2 ≤ c5] (af [(c3 + 1) * c6 * 2 ≤ c5] (leaf ret [aj 3 8 fun i ↦ if i + 0 < c3 then if i + 0 < c1 then if i + 0 < 3 then rat (↑(intOf (nth [c2, c2, c2] c2 (i + 0 + 0))) : Rat) 64 else rat (↑(intOf (nth [int i64 (1 : Int), int i64 (1 : Int)] c2 (i + 0 - 3 + 0 + 0))) : Rat) 64 else rat (↑(intOf (nth [c4, c4] c2 (i + 0 - c1 + 0 + 0))) : Rat) 64 else nth [rat (↑(2 : Int) : Rat) (Max.max 1 (aV (Int.natAbs (2 : Int))))] (rat 0 1) (i + 0 - c3 + 0)])))) := by kernel_rfl
theorem P3 : bB T tu [] 200 iH (au iH) ⟨aO 0 [.int .i64 3], [], 0⟩ =
  let c6 : Nat := 56 + 1; let c5 : Nat := 2 ^ 47; let c4 : Nat := 3 + 2; let c3 : AV := int i64 (0 : Int); let c2 : Int := i64.wrap ((1 : Int) + (1 : Int)); let c8 : AV := int i64 (i64.wrap (c2 + (1 : Int))); let c1 : Nat := c4 + 2; let c7 : Nat := c1 + 2; some (af [c4 * c6 * 2 ≤ c5] (af [c1 * c6 * 2 ≤ c5] (af [c7 * c6 * 2 ≤ c5] (af [(c7 + 1) * c6 * 2 ≤ c5] (leaf ret [aj 3 10 fun i ↦ if i + 0 < c7 then if i + 0 < c1 then if i + 0 < c4 then if i + 0 < 3 then rat (↑(intOf (nth [c3, c3, c3] c3 (i + 0 + 0))) : Rat) 64 else rat (↑(intOf (nth [int i64 (1 : Int), int i64 (1 : Int)] c3 (i + 0 - 3 + 0 + 0))) : Rat) 64 else rat (↑(intOf (nth [int i64 c2, int i64 c2] c3 (i + 0 - c4 + 0 + 0))) : Rat) 64 else rat (↑(intOf (nth [c8, c8] c3 (i + 0 - c1 + 0 + 0))) : Rat) 64 else nth [rat (↑(3 : Int) : Rat) (Max.max 1 (aV (Int.natAbs (3 : Int))))] (rat 0 1) (i + 0 - c7 + 0)]))))) := by kernel_rfl
theorem Vd : bB T tu [] 200 iH (au iH) ⟨aO 0 [.int .i64 4], [], 0⟩ =
  let c8 : Int := i64.wrap ((1 : Int) + (1 : Int)); let c7 : Nat := 3 + 2; let c6 : Nat := 2 ^ 47; let c5 : Nat := 56 + 1; let c3 : AV := int i64 (0 : Int); let c2 : Int := i64.wrap (c8 + (1 : Int)); let c1 : Nat := c7 + 2; let c10 : AV := int i64 (i64.wrap (c2 + (1 : Int))); let c9 : Nat := c1 + 2; let c4 : Nat := c9 + 2; some (af [c7 * c5 * 2 ≤ c6] (af [c1 * c5 * 2 ≤ c6] (af [c9 * c5 * 2 ≤ c6] (af [c4 * c5 * 2 ≤ c6] (af [(c4 + 1) * c5 * 2 ≤ c6] (leaf ret [aj 3 12 fun i ↦ if i + 0 < c4 then if i + 0 < c9 then if i + 0 < c1 then if i + 0 < c7 then if i + 0 < 3 then rat (↑(intOf (nth [c3, c3, c3] c3 (i + 0 + 0))) : Rat) 64 else rat (↑(intOf (nth [int i64 (1 : Int), int i64 (1 : Int)] c3 (i + 0 - 3 + 0 + 0))) : Rat) 64 else rat (↑(intOf (nth [int i64 c8, int i64 c8] c3 (i + 0 - c7 + 0 + 0))) : Rat) 64 else rat (↑(intOf (nth [int i64 c2, int i64 c2] c3 (i + 0 - c1 + 0 + 0))) : Rat) 64 else rat (↑(intOf (nth [c10, c10] c3 (i + 0 - c9 + 0 + 0))) : Rat) 64 else nth [rat (↑(4 : Int) : Rat) (Max.max 1 (aV (Int.natAbs (4 : Int))))] (rat 0 1) (i + 0 - c4 + 0)])))))) := by kernel_rfl
theorem Ww {n : Nat} {k : Nat → Rat} (hn : n < 2 ^ 40) (K : Nat) : aB P pT K [bV k n sX] [] (aH (bV k n sY) []) := by
 refine kY (r := aH (bV k n sY) []) hT MX hm VY rfl (of_decide_eq_true (by kernel_rfl)) rfl [1,1,0,1] (i := 0) (y := part sD [1,1,0,1,0,0]) (z := part sD [1,1,1]) (by kernel_rfl) (by kernel_rfl) (by kernel_rfl) (f1 := []) (f2 := [12]) (f3 := []) 60 qI 1
  (fun i : Nat => zW n k i) (fun i => [(0, B6 i k)]) (fun i => i ≤ n) (fun i => i = n) (fun i => n - i) (fun _ => ⟨⟨_, Zh, ?_⟩, fun i hi => ⟨_, OB, ?_⟩, fun i hi => ⟨_, Z1, ?_⟩⟩) K []
 ·simp only [aa.all, ax]
  exact ⟨by omega, 0, Nat.zero_le _, [(0, 12288)], rfl, rfl, rfl, bR rfl rfl rfl (fun i hi => absurd hi (Nat.not_lt_zero i)) trivial⟩
 ·simp only [aa.all, ax, decide_eq_true_eq, decide_eq_false_iff_not, Int.toNat_natCast, Nat.add_zero]
  exact ⟨fun h2 => ⟨by omega, by omega, by omega, i + 1, by omega, by dsimp only; omega, [(0, 40961)], rfl, rfl, rfl, bR rfl rfl rfl (fun j hj => zE (fun _ _ => rfl) (Rat.add_zero _) (Nat.le_refl _) (by decide) hj) trivial⟩, fun h2 => ⟨rfl, i, by omega, [(0, 0)], rfl, rfl, rfl, bR rfl rfl rfl (fun j hj => aQ rfl rfl) trivial⟩⟩
 ·subst hi
  simp only [aa.all, ax]
  exact pH rfl fun j hj => rfl
def Fq : Spec := ey (kC (kL sX) kN) (fun a => bV a.1.2 a.1.1 sY) fun a => [a.1.1 < 2 ^ 40]
def bI (q i : Nat) : Rat := ((min ((i - 1) / 2) q : Nat) : Rat)
def GV : Spec := bt fun l => match l with
 | [.int .i64 q] => some (aH (bV (bI q.toNat) (2 * q.toNat + 4) 64) [1 ≤ q, q ≤ 4])
 | _ => none
theorem LA : ∀ K args pre r, Fq K args pre = some r → aB P pT K args pre r := eE fun ⟨⟨n, k⟩, _⟩ K hn => Ww hn K
theorem wA : bh P tu := de (aE B1 jI)
theorem YC {q : Nat} (h1 : 1 ≤ q) (h4 : q ≤ 4) (K : Nat) : aB P qx K [.int .i64 (q : Int)] [] (aH (bV (bI q) (2 * q + 4) 64) []) := by
 rcases (show q = 1 ∨ q = 2 ∨ q = 3 ∨ q = 4 by omega) with rfl | rfl | rfl | rfl
 ·refine bF (r := aH (bV (bI 1) 6 64) []) hT wA hm ya rfl (of_decide_eq_true (by kernel_rfl)) rfl 200 TL (fun _ => ?_) K []
  simp only [aa.all, ax]
  (repeat' with_reducible refine And.intro ?_ ?_)
  all_goals first | omega | skip
  refine iP fun i hi => ?_
  match i, hi with
  | 0, _ | 1, _ | 2, _ | 3, _ | 4, _ | 5, _ => exact cV (by decide +kernel) (by decide)
 ·refine bF (r := aH (bV (bI 2) 8 64) []) hT wA hm ya rfl (of_decide_eq_true (by kernel_rfl)) rfl 200 V9 (fun _ => ?_) K []
  simp only [aa.all, ax]
  (repeat' with_reducible refine And.intro ?_ ?_)
  all_goals first | omega | skip
  refine iP fun i hi => ?_
  match i, hi with
  | 0, _ | 1, _ | 2, _ | 3, _ | 4, _ | 5, _ | 6, _ | 7, _ => exact cV (by decide +kernel) (by decide)
 ·refine bF (r := aH (bV (bI 3) 10 64) []) hT wA hm ya rfl (of_decide_eq_true (by kernel_rfl)) rfl 200 P3 (fun _ => ?_) K []
  simp only [aa.all, ax]
  (repeat' with_reducible refine And.intro ?_ ?_)
  all_goals first | omega | skip
  refine iP fun i hi => ?_
  match i, hi with
  | 0, _ | 1, _ | 2, _ | 3, _ | 4, _ | 5, _ | 6, _ | 7, _ | 8, _ | 9, _ => exact cV (by decide +kernel) (by decide)
 ·refine bF (r := aH (bV (bI 4) 12 64) []) hT wA hm ya rfl (of_decide_eq_true (by kernel_rfl)) rfl 200 Vd (fun _ => ?_) K []
  simp only [aa.all, ax]
  (repeat' with_reducible refine And.intro ?_ ?_)
  all_goals first | omega | skip
  refine iP fun i hi => ?_
  match i, hi with
  | 0, _ | 1, _ | 2, _ | 3, _ | 4, _ | 5, _ | 6, _ | 7, _ | 8, _ | 9, _ | 10, _ | 11, _ => exact cV (by decide +kernel) (by decide)
theorem Wg : ∀ K args pre r, GV K args pre = some r → aB P qx K args pre r := by
 refine bJ fun K args r hk hs _ => ?_
 split at hs
 ·rename_i q
  simp only [Option.some.injEq] at hs
  subst hs
  intro need
  obtain ⟨h1, h4⟩ := need
  have h4 : q ≤ 4 := h4
  have := YC (q := q.toNat) (by omega) (by omega) K
  rw [Int.toNat_of_nonneg (by omega)] at this
  exact this trivial
 ·simp at hs
end Go.Am.B

/- shapes.Revolve. -/
namespace Go.Am.B
open Go Go.Am.N AV aa ah IntKind
theorem WV : aS P xg ve (au ve) := aN Dy (by kernel_rfl) (by kernel_rfl) (by kernel_rfl)
noncomputable def mY : aT := nG :: (qx, GV) :: (pT, Fq) :: (xg, cZ T [sG] [] 60 ve) :: JE
def ek : Nat → Int
 | 0 => 1 | 1 => 1 | 2 => 0 | 3 => -1 | 4 => -1 | 5 => -1 | 6 => 0 | 7 => 1 | 8 => 1 | _ => 0
def eg : Nat → Int
 | 0 => 0 | 1 => 1 | 2 => 1 | 3 => 1 | 4 => 0 | 5 => -1 | 6 => -1 | 7 => -1 | _ => 0
def eZ : Nat → Int
 | 0 => 1 | 1 => 1 | 2 => 2 | 3 => 1 | 4 => 1 | 5 => 1 | 6 => 2 | 7 => 1 | 8 => 1 | _ => 0
abbrev Vo (q : Nat) : AV := .aj 3 (2 * q + 1) (fun i => .agg [.int .i64 (ek i), .int .i64 (eg i), .int .i64 (eZ i)])
def gD (c : Cu) (i j : Nat) : Pl := ⟨⟨(ek i : Rat) * (c.f j).n.x - (eg i : Rat) * (c.f j).n.y, (eg i : Rat) * (c.f j).n.x + (ek i : Rat) * (c.f j).n.y, (c.f j).n.z⟩, (eZ i : Rat) * (c.f j).d⟩
noncomputable abbrev yC : Code := au o3
noncomputable abbrev pV : Code := part yC [1,1,1,1,0,1,0,0]
noncomputable abbrev oy : Code := part pV [1,1,0,0]
abbrev k7 : List Nat := [2, 4, 5, 6, 36, 37, 38]
abbrev pg (q i : Nat) : List AV := [.ptr 0 0 3 0 [], .ptr 1 0 5 0 [], .int .i64 0, .ptr 2 0 5 0 [], Vo q, .int .i64 ((2 * q + 1 : Nat) : Int), .int .i64 i]
abbrev abJ (c : Cu) : ay := ⟨false, true, 3, 1, fun _ => fc c sX 300⟩
abbrev YT : ay := ⟨false, true, 5, 1, fun _ => .agg [.int .i64 0, .int .i64 0, .nil, .nil, .nil]⟩
abbrev Lt (c : Cu) (q : Nat) (v : AV) : ay := ⟨false, true, 5, 1, fun _ => .agg [.int .i64 2, .int .i64 c.p, bV (bI q) (2 * q + 4) 64, bV c.k c.n sY, v]⟩
abbrev Q3 (c : Cu) (i : Nat) : ay := ⟨true, true, 1, i, fun i => ee (gD c i) c.m sY⟩
abbrev lG (c : Cu) (q i : Nat) : aD := [(3, Q3 c i), (2, Lt c q (.own 3 1 0 i)), (1, YT), (0, abJ c)]
abbrev uf : List Nat := [2, 4, 5, 6, 36, 37, 38, 10, 11, 12, 13, 52, 53, 54]
abbrev zy (c : Cu) (q i j : Nat) : List AV := pg q i ++ [.ptr 4 0 3 0 [], .ptr 5 0 3 0 [], .ptr 6 0 3 0 [], .own 7 12 0 j, ee c.f c.m 300, .int .i64 c.m, .int .i64 j]
abbrev SD (i : Nat) : aD := [(6, tP (eZ i : Rat) 64), (5, tP (eg i : Rat) 64), (4, tP (ek i : Rat) 64)]
abbrev Kw (c : Cu) (i j : Nat) : ay := ⟨true, true, 12, j, fun j => dO (gD c i j) sY⟩
abbrev Ce (c : Cu) (q i j : Nat) : aD := (7, Kw c i j) :: (SD i ++ lG c q i)
theorem Wx {c : Cu} {q : Nat} : aI T mY [200019, 200022] 60 k7 (before yC [1,1,1,1,0,1]) ⟨aO 0 [fc c sX 300, .int .i64 (q : Int)], [], 0⟩ =
  let c11 : AV := int i64 (2 : Int); let c10 : Nat := (bu (fc c sX 300)).size; let c9 : Nat := Int.toNat (0 : Int); let c7 : Int := (2 : Int) ^ 63; let c6 : Int := (↑q : Int); let c5 : AV := int i64 (-1 : Int); let c4 : Prop := 0 < 1; let c2 : AV := int i64 (1 : Int); let c1 : AV := int i64 (0 : Int); let c12 : Int := (2 : Int) * c6; let c8 : AV := agg [c1, c1, nil, nil, nil]; let c3 : Int := c12 + (1 : Int); some (af [decide (c6 < (1 : Int)) = false] (af [(bif false then true else decide (c6 > (4 : Int))) = false] (af [c4, (1 : Int) ≤ c6, c6 ≤ (4 : Int), c4, cq (fun i ↦ rat (c.k i) sX) c.n sX, c.n < 2 ^ 40, c4] (af [c4, c4] (af [-c7 ≤ c12 ∧ c12 < c7, -c7 ≤ c3 ∧ c3 < c7, c4, (0 : Int) ≤ (0 : Int) ∧ (0 : Int) ≤ c3 ∧ c3 ≤ (↑(9 : Nat) : Int)] (leaf normal ([ptr 0 0 c10 0 [], ptr 4096 0 5 0 [], c1, ptr 69632 0 5 0 [], aj 3 (c3.toNat - c9) fun i ↦ nth [agg [c2, c1, c2], agg [c2, c2, c2], agg [c1, c2, c11], agg [c5, c2, c2], agg [c5, c1, c2], agg [c5, c5, c2], agg [c1, c5, c11], agg [c2, c5, c2], agg [c2, c1, c2]] (agg [c1, c1, c1]) (i + c9), int i64 (↑(c3.toNat - c9) : Int), c1], [((69632 : Nat), ay.mk false true 5 1 fun j ↦ if (j == 0) = true then bu (agg ((((c8.kids.set 0 (bu c11)).set 1 (bu (int i64 c.p))).set 2 (bu (bV (bI c6.toNat) ((2 : Nat) * c6.toNat + 4) 64))).set 3 (bu (bV (fun i ↦ aM (rat (c.k i) sX)) c.n sY)))) else c8), ((4096 : Nat), ay.mk false true 5 1 fun x ↦ c8), ((0 : Nat), ay.mk false true c10 1 fun x ↦ agg [int i64 c.p, aj 3 c.n fun i ↦ rat (c.k i) 1000, aj 12 c.m fun i ↦ agg [agg [rat (c.f i).n.x 300, rat (c.f i).n.y 300, rat (c.f i).n.z 300], rat (c.f i).d 300]])]))))))) := by kernel_rfl
theorem Qh {c : Cu} {q i : Nat} : aI T mY [39] 60 k7 (before pV [1,1,0]) ⟨aA k7 (pg q i), lG c q i, 4⟩ =
  let c4 : Nat := 2 * q + 1; let c3 : AV := int i64 (0 : Int); let c2 : Int := (↑c4 : Int); let c1 : List AV × aD := ([ptr 0 0 3 0 [], ptr 1 0 5 0 [], c3, ptr 2 0 5 0 [], aj 3 c4 fun i ↦ agg [int i64 (ek i), int i64 (eg i), int i64 (eZ i)], int i64 c2, int i64 (↑i : Int)], [((3 : Nat), ay.mk true true 1 i fun i ↦ aj 12 c.m fun i_1 ↦ agg [agg [rat ((↑(ek i) : Rat) * (c.f i_1).n.x - (↑(eg i) : Rat) * (c.f i_1).n.y) 1100, rat ((↑(eg i) : Rat) * (c.f i_1).n.x + (↑(ek i) : Rat) * (c.f i_1).n.y) 1100, rat (c.f i_1).n.z 1100], rat ((↑(eZ i) : Rat) * (c.f i_1).d) 1100]), ((2 : Nat), ay.mk false true 5 1 fun x ↦ agg [int i64 (2 : Int), int i64 c.p, aj 3 ((2 : Nat) * q + 4) fun i ↦ rat (bI q i) 64, aj 3 c.n fun i ↦ rat (c.k i) 1100, own 3 1 0 i]), ((1 : Nat), ay.mk false true 5 1 fun x ↦ agg [c3, c3, nil, nil, nil]), ((0 : Nat), ay.mk false true 3 1 fun x ↦ agg [int i64 c.p, aj 3 c.n fun i ↦ rat (c.k i) 1000, aj 12 c.m fun i ↦ agg [agg [rat (c.f i).n.x 300, rat (c.f i).n.y 300, rat (c.f i).n.z 300], rat (c.f i).d 300]])]); some (fork (decide ((↑i : Int) < c2)) (leaf normal c1) (leaf (exit 0) c1)) := by kernel_rfl
theorem aaq {c : Cu} {q i : Nat} : aI T mY [] 60 uf (before oy [1,1,1,0,1]) ⟨aA k7 (pg q i), lG c q i, 4⟩ =
  let c8 : Int := (↑(3 : Nat) : Int); let c7 : AV := rat 0 1; let c6 : AV := int i64 (0 : Int); let c5 : Nat := 2 * q + 1; let c4 : Int := (2 : Int) ^ 63; let c3 : Prop := 0 < 1; let c2 : Nat := (↑i : Int).toNat; let c1 : AV := aj 12 c.m fun i ↦ agg [agg [rat (c.f i).n.x 300, rat (c.f i).n.y 300, rat (c.f i).n.z 300], rat (c.f i).d 300]; some (af [(0 : Int) ≤ (↑i : Int) ∧ c2 < c5, c3] (af [(0 : Int) ≤ (0 : Int) ∧ (0 : Int) < c8, c3, -c4 ≤ ek c2, ek c2 < c4, (0 : Int) ≤ (1 : Int) ∧ (1 : Int) < c8, c3, -c4 ≤ eg c2, eg c2 < c4, (0 : Int) ≤ (2 : Int) ∧ (2 : Int) < c8, c3, -c4 ≤ eZ c2, eZ c2 < c4, c3, c3, c3] (af [c3] (leaf normal ([ptr 0 0 3 0 [], ptr 1 0 5 0 [], c6, ptr 2 0 5 0 [], aj 3 c5 fun i ↦ agg [int i64 (ek i), int i64 (eg i), int i64 (eZ i)], int i64 (↑c5 : Int), int i64 (↑i : Int), ptr 53252 0 3 0 [], ptr 57348 0 3 0 [], ptr 61444 0 3 0 [], nil, c1, int i64 (↑c.m : Int), c6], [((3 : Nat), ay.mk true true 1 i fun i ↦ aj 12 c.m fun i_1 ↦ agg [agg [rat ((↑(ek i) : Rat) * (c.f i_1).n.x - (↑(eg i) : Rat) * (c.f i_1).n.y) 1100, rat ((↑(eg i) : Rat) * (c.f i_1).n.x + (↑(ek i) : Rat) * (c.f i_1).n.y) 1100, rat (c.f i_1).n.z 1100], rat ((↑(eZ i) : Rat) * (c.f i_1).d) 1100]), ((61444 : Nat), ay.mk false true 3 1 fun j ↦ if (j == 0) = true then bu (rat (↑(eZ c2) : Rat) (Max.max 1 (aV (eZ c2).natAbs))) else c7), ((57348 : Nat), ay.mk false true 3 1 fun j ↦ if (j == 0) = true then bu (rat (↑(eg c2) : Rat) (Max.max 1 (aV (eg c2).natAbs))) else c7), ((53252 : Nat), ay.mk false true 3 1 fun j ↦ if (j == 0) = true then bu (rat (↑(ek c2) : Rat) (Max.max 1 (aV (ek c2).natAbs))) else c7), ((2 : Nat), ay.mk false true 5 1 fun x ↦ agg [int i64 (2 : Int), int i64 c.p, aj 3 ((2 : Nat) * q + 4) fun i ↦ rat (bI q i) 64, aj 3 c.n fun i ↦ rat (c.k i) 1100, own 3 1 0 i]), ((1 : Nat), ay.mk false true 5 1 fun x ↦ agg [c6, c6, nil, nil, nil]), ((0 : Nat), ay.mk false true 3 1 fun x ↦ agg [int i64 c.p, aj 3 c.n fun i ↦ rat (c.k i) 1000, c1])]))))) := by kernel_rfl
theorem Wh {c : Cu} {q i j : Nat} : aI T mY [55] 60 uf [part oy [1,1,1,0,1,0,0]] ⟨aA uf (zy c q i j), Ce c q i j, 8⟩ =
  let c27 : Rat := (↑(eZ i) : Rat); let c26 : Int := (↑c.m : Int); let c23 : AV := int i64 (0 : Int); let c22 : AV := ptr 1 0 5 0 []; let c21 : AV := ptr 0 0 3 0 []; let c20 : AV := ptr 5 0 3 0 []; let c19 : Nat := 2 * q + 1; let c18 : AV := ptr 6 0 3 0 []; let c17 : AV := ptr 4 0 3 0 []; let c16 : AV := ptr 2 0 5 0 []; let c14 : Rat := (↑(eg i) : Rat); let c13 : Rat := (↑(ek i) : Rat); let c11 : Int := (↑(3 : Nat) : Int); let c10 : AV := rat 0 1; let c8 : Int := (↑j : Int); let c6 : Nat := 64 + 300; let c5 : Prop := 0 < 1; let c4 : Nat := 2 ^ 42; let c3 : AV := aj 12 c.m fun i ↦ agg [agg [rat (c.f i).n.x 300, rat (c.f i).n.y 300, rat (c.f i).n.z 300], rat (c.f i).d 300]; let c2 : Nat × ay := ((3 : Nat), ay.mk true true 1 i fun i ↦ aj 12 c.m fun i_1 ↦ agg [agg [rat ((↑(ek i) : Rat) * (c.f i_1).n.x - (↑(eg i) : Rat) * (c.f i_1).n.y) 1100, rat ((↑(eg i) : Rat) * (c.f i_1).n.x + (↑(ek i) : Rat) * (c.f i_1).n.y) 1100, rat (c.f i_1).n.z 1100], rat ((↑(eZ i) : Rat) * (c.f i_1).d) 1100]); let c28 : Int := c8 + (1 : Int); let c25 : Prop := (0 : Int) ≤ (0 : Int) ∧ (0 : Int) < c11; let c24 : Prop := (0 : Int) ≤ (1 : Int) ∧ (1 : Int) < c11; let c15 : Prop := 64 < c4; let c12 : V3 := (c.f c8.toNat).n; let c9 : Prop := 300 < c4; let c7 : AV := aj 3 c19 fun i ↦ agg [int i64 (ek i), int i64 (eg i), int i64 (eZ i)]; let c1 : List (Nat × ay) := [((6 : Nat), ay.mk false true 3 1 fun x ↦ rat c27 64), ((5 : Nat), ay.mk false true 3 1 fun x ↦ rat c14 64), ((4 : Nat), ay.mk false true 3 1 fun x ↦ rat c13 64), ((2 : Nat), ay.mk false true 5 1 fun x ↦ agg [int i64 (2 : Int), int i64 c.p, aj 3 ((2 : Nat) * q + 4) fun i ↦ rat (bI q i) 64, aj 3 c.n fun i ↦ rat (c.k i) 1100, own 3 1 0 i]), ((1 : Nat), ay.mk false true 5 1 fun x ↦ agg [c23, c23, nil, nil, nil]), ((0 : Nat), ay.mk false true 3 1 fun x ↦ agg [int i64 c.p, aj 3 c.n fun i ↦ rat (c.k i) 1000, c3])]; some (fork (decide (c8 < c26)) (af [(0 : Int) ≤ c8 ∧ c8.toNat < c.m, c5] (af [c5, c25, c5, c15, c9, c5, c24, c5, c15, c9, c6 < c4, c6 < c4, c5, c25, c5, c15, c9, c5, c24, c5, c15, c9, c6 < c4, c6 < c4, (0 : Int) ≤ (2 : Int) ∧ (2 : Int) < c11, c5, c9, (1 : Nat) < c4, c5] (af [c5, c5, c5, c15, c9, (1 : Nat) * 12 ≤ 2 ^ 24, (j + 1) * ((224 : Nat) + 1) * 2 ≤ 2 ^ 47] (af [-(2 : Int) ^ 63 ≤ c28 ∧ c28 < (2 : Int) ^ 63] (leaf normal ([c21, c22, c23, c16, c7, int i64 (↑c19 : Int), int i64 (↑i : Int), c17, c20, c18, own 176136 12 0 (j + 1), c3, int i64 c26, int i64 c28], c2 :: ((176136 : Nat), ay.mk true true 12 (j + 1) fun i_1 ↦ if i_1 < j then dO (gD c i i_1) sY else nth [agg [agg [rat (c13 * c12.x - c14 * c12.y) (c6 + c6 + 1), rat (c14 * c12.x + c13 * c12.y) (c6 + c6 + 1), rat (c12.z + 0) ((300 : Nat) + 1 + 1)], rat (c27 * (c.f c8.toNat).d) c6]] (agg [agg [c10, c10, c10], c10]) (i_1 - j + 0)) :: c1)))))) (leaf (exit 2) ([c21, c22, c23, c16, c7, int i64 (↑c19 : Int), int i64 (↑i : Int), c17, c20, c18, own 7 12 0 j, c3, int i64 c26, int i64 c8], c2 :: ((7 : Nat), ay.mk true true 12 j fun j ↦ agg [agg [rat (c13 * (c.f j).n.x - c14 * (c.f j).n.y) 1100, rat (c14 * (c.f j).n.x + c13 * (c.f j).n.y) 1100, rat (c.f j).n.z 1100], rat (c27 * (c.f j).d) 1100]) :: c1))) := by kernel_rfl
theorem Sd {c : Cu} {q i j : Nat} : aI T mY [] 60 k7 [part oy [1,1,1,1], part pV [1,1,1]] ⟨aA uf (zy c q i j), Ce c q i j, 8⟩ =
  let c4 : Nat := 2 * q + 1; let c3 : AV := int i64 (0 : Int); let c2 : Int := (↑i : Int) + (1 : Int); let c1 : AV := agg [int i64 (2 : Int), int i64 c.p, bV (bI q) ((2 : Nat) * q + 4) 64, bV c.k c.n sY, own 3 1 0 i]; some (af [(0 : Nat) < 1, (1 : Nat) * 1 ≤ 2 ^ 24, (i + 1) * ((24 : Nat) + 1) * 2 ≤ 2 ^ 47, (0 : Nat) < 1] (af [-(2 : Int) ^ 63 ≤ c2 ∧ c2 < (2 : Int) ^ 63] (leaf normal ([ptr 0 0 3 0 [], ptr 1 0 5 0 [], c3, ptr 2 0 5 0 [], aj 3 c4 fun i ↦ agg [int i64 (ek i), int i64 (eg i), int i64 (eZ i)], int i64 (↑c4 : Int), int i64 c2], [((16392 : Nat), ay.mk true true 1 (i + 1) fun i_1 ↦ if i_1 < i then ee (gD c i_1) c.m sY else nth [aj 12 j fun i_2 ↦ dO (gD c i (i_2 + 0)) sY] nil (i_1 - i + 0)), ((2 : Nat), ay.mk false true 5 1 fun j ↦ if (j == 0) = true then agg (c1.kids.set 4 (bu (own (nat_lit 16391 + 1) 1 0 (i + 1)))) else c1), ((1 : Nat), ay.mk false true 5 1 fun x ↦ agg [c3, c3, nil, nil, nil]), ((0 : Nat), ay.mk false true 3 1 fun x ↦ agg [int i64 c.p, aj 3 c.n fun i ↦ rat (c.k i) 1000, aj 12 c.m fun i ↦ agg [agg [rat (c.f i).n.x 300, rat (c.f i).n.y 300, rat (c.f i).n.z 300], rat (c.f i).d 300]])])))) := by kernel_rfl
theorem PR {c : Cu} {q i : Nat} : b9 T mY [] 60 o3 [part yC [1,1,1,1,1]] ⟨aA k7 (pg q i), lG c q i, 4⟩ =
  let c1 : Prop := 0 < 1; some (af [c1, c1] (af [c1] (leaf ret [agg [int i64 (2 : Int), int i64 c.p, aj 3 ((2 : Nat) * q + 4) fun i ↦ rat (bI q i) 64, aj 3 c.n fun i ↦ rat (c.k i) 1100, aj 1 i fun i ↦ aj 12 c.m fun i_1 ↦ agg [agg [rat ((↑(ek (i + 0)) : Rat) * (c.f i_1).n.x - (↑(eg (i + 0)) : Rat) * (c.f i_1).n.y) 1100, rat ((↑(eg (i + 0)) : Rat) * (c.f i_1).n.x + (↑(ek (i + 0)) : Rat) * (c.f i_1).n.y) 1100, rat (c.f i_1).n.z 1100], rat ((↑(eZ (i + 0)) : Rat) * (c.f i_1).d) 1100]], int i64 (0 : Int)]))) := by kernel_rfl
theorem tD : bh P mY := eP (aE Wg (aE LA (aE (dh hT (de aY) hm WV _ _) T7)))
abbrev CA (c : Cu) (q : Nat) : AV := fF ⟨2, c.p, 2 * q + 4, bI q, c.n, c.k, 2 * q + 1, c.m, gD c⟩ sY sY
theorem Se (i : Nat) : (-1 ≤ ek i ∧ ek i ≤ 1) ∧ (-1 ≤ eg i ∧ eg i ≤ 1) ∧ (0 ≤ eZ i ∧ eZ i ≤ 2) := by
 match i with
 | 0 | 1 | 2 | 3 | 4 | 5 | 6 | 7 | 8 => decide
 | i + 9 => exact ⟨by show -1 ≤ (0 : Int) ∧ (0 : Int) ≤ 1; decide, by show -1 ≤ (0 : Int) ∧ (0 : Int) ≤ 1; decide, by show 0 ≤ (0 : Int) ∧ (0 : Int) ≤ 2; decide⟩
theorem Ln (i : Nat) : Max.max 1 (aV (ek i).natAbs) ≤ 64 ∧ Max.max 1 (aV (eg i).natAbs) ≤ 64 ∧ Max.max 1 (aV (eZ i).natAbs) ≤ 64 := by
 match i with
 | 0 | 1 | 2 | 3 | 4 | 5 | 6 | 7 | 8 => decide
 | i + 9 => exact ⟨by show Max.max 1 (aV (Int.natAbs 0)) ≤ 64; decide, by show Max.max 1 (aV (Int.natAbs 0)) ≤ 64; decide, by show Max.max 1 (aV (Int.natAbs 0)) ≤ 64; decide⟩
theorem OP {x y z d x' y' z' d' : Rat} {s1 s2 s3 s4 s : Nat} (h1 : x = x') (h2 : y = y') (h3 : z = z') (h4 : d = d') (k1 : s1 ≤ s) (k2 : s2 ≤ s) (k3 : s3 ≤ s) (k4 : s4 ≤ s) : bD (.agg [.agg [.rat x s1, .rat y s2, .rat z s3], .rat d s4]) (dO ⟨⟨x', y', z'⟩, d'⟩ s) :=
 eG ⟨eG ⟨cV h1 k1, cV h2 k2, cV h3 k3, trivial⟩, cV h4 k4, trivial⟩
theorem Ot {rl : List (Nat × Nat)} {c : Cu} {i j k s1 s2 s3 : Nat} {d : AV} (hk : k < j + 1) (h1 : s1 ≤ sY) (h2 : s2 ≤ sY) (h3 : s3 ≤ sY) : fY rl (if k < j then dO (gD c i k) sY else nth [.agg [.agg [.rat ((ek i : Rat) * (c.f j).n.x - (eg i : Rat) * (c.f j).n.y) s1, .rat ((eg i : Rat) * (c.f j).n.x + (ek i : Rat) * (c.f j).n.y) s1, .rat ((c.f j).n.z + 0) s2], .rat ((eZ i : Rat) * (c.f j).d) s3]] d (k - j + 0)) (dO (gD c i k) sY) := by
 by_cases h : k < j
 ·rw [if_pos h]; exact aQ rfl rfl
 ·have : k = j := by omega
  subst this
  rw [if_neg h, Nat.sub_self]
  exact .inr ⟨rfl, OP rfl rfl (Rat.add_zero _) rfl h1 h1 h2 h3⟩
theorem rF {rl : List (Nat × Nat)} {c : Cu} {q : Nat} {u v : AV} (hu : u.isTuple = false) (h : fo (aZ rl) u v) : fY rl (.agg [.int .i64 2, .int .i64 c.p, bV (bI q) (2 * q + 4) 64, bV c.k c.n sY, u]) (.agg [.int .i64 2, .int .i64 c.p, bV (bI q) (2 * q + 4) 64, bV c.k c.n sY, v]) :=
 ru ⟨⟨rfl, aG rfl⟩, ⟨rfl, aG rfl⟩, ⟨rfl, aG rfl⟩, ⟨rfl, aG rfl⟩, ⟨hu, h⟩, trivial⟩
theorem LY : (fun i => nth [.agg [.int i64 1, .int i64 0, .int i64 1], .agg [.int i64 1, .int i64 1, .int i64 1], .agg [.int i64 0, .int i64 1, .int i64 2], .agg [.int i64 (-1), .int i64 1, .int i64 1], .agg [.int i64 (-1), .int i64 0, .int i64 1], .agg [.int i64 (-1), .int i64 (-1), .int i64 1], .agg [.int i64 0, .int i64 (-1), .int i64 2], .agg [.int i64 1, .int i64 (-1), .int i64 1], .agg [.int i64 1, .int i64 0, .int i64 1]] (.agg [.int i64 0, .int i64 0, .int i64 0]) (i + Int.toNat 0)) = fun i => .agg [.int .i64 (ek i), .int .i64 (eg i), .int .i64 (eZ i)] := by
 funext i
 match i with
 | 0 | 1 | 2 | 3 | 4 | 5 | 6 | 7 | 8 => rfl
 | i + 9 => rfl
theorem NN {c : Cu} {q : Nat} (h1 : 1 ≤ q) (h4 : q ≤ 4) (hn : c.n < 2 ^ 30) (hm2 : c.m < 2 ^ 30) (K : Nat) : aB P qy K [fc c sX 300, .int .i64 (q : Int)] [] (aH (.tuple [CA c q, .int .i64 0]) []) := by
 refine fq (r := aH (.tuple [CA c q, .int .i64 0]) []) hT Jc rfl (of_decide_eq_true (by kernel_rfl)) rfl (fun _ cx h0 => ?_) K []
 have hk := kE h0
 refine ak.LQ hT tD hm [1,1,1,1,0,1] (i := 0) (y := pV) (z := part yC [1,1,1,1,1]) (by kernel_rfl) (by kernel_rfl) (by kernel_rfl) Jc.dst hk (f1 := [200019, 200022]) 60 k7 4 (fun i : Nat => pg q i) (fun i => lG c q i)
  (fun i => i ≤ 2 * q + 1) (fun i => i = 2 * q + 1) (fun i => 2 * q + 1 - i) (fun _ => False) ⟨_, Wx, ?_⟩ (fun i hi => ?_) (fun i hi => ?_) (fun _ _ h => h.elim)
 ·have e0 : (2 * (q : Int) + 1).toNat - Int.toNat 0 = 2 * q + 1 := by omega
  simp only [aa.all, ax, decide_eq_false_iff_not, cond_false, LY, e0, Int.toNat_natCast]
  exact ⟨by omega, by omega, ⟨by omega, by omega, by omega, by omega, dr (Nat.le_refl _), by omega, by omega⟩, by omega, ⟨by omega, by omega, by omega, by omega, by omega, by omega⟩,
   0, Nat.zero_le _, [(0, 0), (1, 4096), (2, 69632)], rfl, rfl, rfl, qf rfl (by omega) (by omega) (aU rfl rfl (rF rfl (vI (by omega))) (aU rfl rfl (aQ rfl rfl) (aU rfl rfl (aQ rfl rfl) trivial)))⟩
 ·obtain ⟨⟨x1, x2⟩, ⟨y1, y2⟩, w1, w2⟩ := Se i
  obtain ⟨b1, b2, b3⟩ := Ln i
  have re : ∀ {i}, gM 4 [(0, 0), (1, 1), (2, 2), (3, 3)] (lG c q i) (lG c q i) := fun {i} => bR rfl rfl rfl (fun _ _ => aQ rfl rfl) (aU rfl rfl (rF rfl (b7 rfl rfl rfl)) (aU rfl rfl (aQ rfl rfl) (aU rfl rfl (aQ rfl rfl) trivial)))
  refine ak.Fh hT tD hm (y := pV) (x1 := oy) (zb := part pV [1,1,1]) [1,1,0] (j := 1) (by kernel_rfl) (by kernel_rfl) (by kernel_rfl) (by kernel_rfl) hk (f1 := [39]) 60 k7 4 (fun _ : Unit => pg q i) (fun _ => lG c q i) (fun _ => i < 2 * q + 1) ⟨_, Qh, ?_⟩ (fun _ hr => ?_)
  ·simp only [aa.all, ax, decide_eq_true_eq, decide_eq_false_iff_not]
   exact ⟨fun h => ⟨(), by omega, _, rfl, rfl, rfl, re⟩, fun h s' hs' => ⟨rfl, i, by omega, dx.le ⟨_, rfl, rfl, rfl, re⟩ hs' hk⟩⟩
  ·refine ak.iM hT tD hm (x := oy) [1,1,1,0,1] (i := 2) (y := part oy [1,1,1,0,1,0,0]) (z := part oy [1,1,1,1]) (by kernel_rfl) (by kernel_rfl) (by kernel_rfl) (by kernel_rfl) hk (f1 := []) (f2 := [55]) 60 uf 8 (fun j : Nat => zy c q i j) (fun j => Ce c q i j) (fun j => j ≤ c.m) (fun j => j = c.m) (fun j => c.m - j) (fun _ => False) ⟨_, aaq, ?_⟩ (fun j hj => ⟨_, Wh, ?_⟩) (fun j hj => ?_) (fun _ _ h => h.elim)
   ·simp only [aa.all, ax, Int.toNat_natCast]
    exact ⟨⟨by omega, by omega⟩, ⟨by omega, by omega, by omega, by omega, by omega, by omega, by omega, by omega, by omega, by omega, by omega, by omega, by omega, by omega⟩, by omega, 0, Nat.zero_le _, [(0, 0), (1, 1), (2, 2), (3, 3), (4, 53252), (5, 57348), (6, 61444)], rfl, rfl, rfl,
     qf rfl (by omega) (by omega) (aU rfl rfl (.inr ⟨rfl, dF b3⟩) (aU rfl rfl (.inr ⟨rfl, dF b2⟩) (aU rfl rfl (.inr ⟨rfl, dF b1⟩) (bR rfl rfl rfl (fun _ _ => aQ rfl rfl) (aU rfl rfl (rF rfl (b7 rfl rfl rfl)) (aU rfl rfl (aQ rfl rfl) (aU rfl rfl (aQ rfl rfl) trivial)))))))⟩
   ·simp only [aa.all, ax, decide_eq_true_eq, decide_eq_false_iff_not, Int.toNat_natCast, Nat.add_zero]
    refine ⟨fun h => ⟨by omega, ?_, by omega, by omega, j + 1, by omega, by dsimp only; omega, [(0, 0), (1, 1), (2, 2), (3, 3), (4, 4), (5, 5), (6, 6), (7, 176136)], rfl, rfl, rfl, bR rfl rfl rfl (fun k hk => Ot hk (by decide) (by decide) (by decide)) ?_⟩, fun h => ⟨rfl, j, by omega, [(0, 0), (1, 1), (2, 2), (3, 3), (4, 4), (5, 5), (6, 6), (7, 7)], rfl, rfl, rfl, bR rfl rfl rfl (fun _ _ => aQ rfl rfl) ?_⟩⟩
    ·omega
    all_goals exact aU rfl rfl (aQ rfl rfl) (aU rfl rfl (aQ rfl rfl) (aU rfl rfl (aQ rfl rfl) (bR rfl rfl rfl (fun _ _ => aQ rfl rfl) (aU rfl rfl (rF rfl (b7 rfl rfl rfl)) (aU rfl rfl (aQ rfl rfl) (aU rfl rfl (aQ rfl rfl) trivial))))))
   ·subst hj
    refine ak.tail (fun s' h => absurd h.1 (by decide)) (az.bk hT tD hm 60 k7 Sd (by kernel_rfl) ?_)
    simp only [aa.all, ax]
    refine ⟨by omega, by omega, fun s' hs' => ⟨i + 1, by omega, by dsimp only; omega, dx.le ⟨[(0, 0), (1, 1), (2, 2), (3, 16392)], rfl, rfl, rfl, bR rfl rfl rfl (fun k hk => aQ ?_ ?_) (aU rfl rfl (rF rfl (b7 rfl rfl rfl)) (aU rfl rfl (aQ rfl rfl) (aU rfl rfl (aQ rfl rfl) trivial)))⟩ hs' hk⟩⟩
    all_goals
     by_cases h : k < i
     ·rw [if_pos h]; try rfl
     ·have : k = i := by omega
      subst this
      rw [if_neg h, Nat.sub_self]; try rfl
 ·subst hi
  refine ak.jg ((az.fin hT tD hm 60 PR (by kernel_rfl) ?_).mono fun _ _ h => .inl h)
  simp only [aa.all, ax]
  exact ⟨by omega, by omega, eG ⟨.refl _, .refl _, iP fun _ _ => dF (by decide), .refl _, .refl _, trivial⟩, .refl _, trivial⟩
def CV : Spec := ey (kC (sN sX 300) (kC kI kN)) (fun a => .tuple [CA a.1 a.2.1.toNat, .int .i64 0]) fun a => [1 ≤ a.2.1, a.2.1 ≤ 4, a.1.n < 2 ^ 30, a.1.m < 2 ^ 30]
theorem MZ : ∀ K args pre r, CV K args pre = some r → aB P qy K args pre r := eE fun ⟨c, q, _⟩ K hn => by
 obtain ⟨h1, h2, h3, h4⟩ := hn
 simp only at h1 h2
 have := NN (q := q.toNat) (by omega) (by omega) h3 h4 K
 rw [Int.toNat_of_nonneg (by omega)] at this
 exact this
end Go.Am.B

/- Parameters within a domain. -/
namespace Go.Am.B
open Go Go.Am.N AV aa ah IntKind
theorem YO {d : Int} : 0 ≤ g9 d ∧ g9 d ≤ 1 := by
 unfold g9
 have h1 : 1 ≤ oG d := by
  unfold oG
  have := Int.emod_nonneg (IntKind.i64.wrap (d.tdiv 17)) (show (12 : Int) ≠ 0 by omega)
  omega
 generalize oG d = m at *
 have h2 := Int.emod_nonneg d (show m + 1 ≠ 0 by omega)
 have h3 := Int.emod_lt_of_pos d (show 0 < m + 1 by omega)
 generalize d % (m + 1) = x at *
 have e1 : (0 : Rat) ≤ (x : Rat) := by exact_mod_cast h2
 have e2 : (x : Rat) ≤ (m : Rat) := by exact_mod_cast (show x ≤ m by omega)
 have e3 : (0 : Rat) < (m : Rat) := by exact_mod_cast (show 0 < m by omega)
 have e4 : (x : Rat) / (m : Rat) * (m : Rat) = (x : Rat) := Rat.div_mul_cancel (by intro h; rw [h] at e3; exact absurd e3 (by decide))
 generalize (x : Rat) / (m : Rat) = q at *
 generalize (x : Rat) = u at *
 generalize (m : Rat) = v at *
 refine ⟨?_, ?_⟩
 ·rcases Rat.le_total (a := 0) (b := q) with h | h
  ·exact h
  ·by_cases hq : q = 0
   ·rw [hq]; exact Rat.le_refl
   ·have := Rat.mul_pos (a := -q) (b := v) (by grind) e3
    grind
 ·rcases Rat.le_total (a := q) (b := 1) with h | h
  ·exact h
  ·by_cases hq : q = 1
   ·rw [hq]; exact Rat.le_refl
   ·have := Rat.mul_pos (a := q - 1) (b := v) (by grind) e3
    grind
theorem WM {a b : Rat} {d : Int} (h : a ≤ b) : a ≤ a + g9 d * (b - a) ∧ a + g9 d * (b - a) ≤ b := by
 obtain ⟨h1, h2⟩ := YO (d := d)
 generalize g9 d = q at *
 have e1 := Rat.mul_nonneg h1 (show 0 ≤ b - a by grind)
 have e2 := Rat.mul_nonneg (show 0 ≤ 1 - q by grind) (show 0 ≤ b - a by grind)
 constructor <;> grind
theorem Kn.Jr {n p : Nat} {k : Nat → Rat} (h : Kn n p k) {d : Int} : ¬ bT n k (k 0 + g9 d * (k (n - 1) - k 0)) := by
 have hl := h.len
 obtain ⟨h1, h2⟩ := WM (d := d) (h.mono (show 0 ≤ n - 1 by omega) (show n - 1 < n by omega))
 rintro (h3 | h3) <;> grind
end Go.Am.B
