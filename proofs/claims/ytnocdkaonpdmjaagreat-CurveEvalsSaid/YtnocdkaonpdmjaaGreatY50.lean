/- brepkernelmade: Knots. -/
import Derived.Test.YtnocdkaonpdmjaaGreatY45
import Derived.Test.YtnocdkaonpdmjaaGreatB33
import Derived.Test.YtnocdkaonpdmjaaGreatY49
import Derived.Test.YtnocdkaonpdmjaaGreatY48
set_option linter.unusedVariables false
namespace Go.Am.B
open Go Go.Am.N AV aa ah IntKind
theorem Lr : aN P vO wg (au wg) := aP OD (by kernel_rfl) (by kernel_rfl) (by kernel_rfl)
def lD : aQ := nG :: (mu, fY pR) :: (jv, vL) :: (nj, tr) :: jf
abbrev jd (n : Nat) (z : Nat → Int) (a : Int) : az := gE n (fun i => .int .i64 (z i)) a
abbrev tO (t : Rat) : az := ⟨false, true, 3, 1, fun _ => .rat t 64⟩
abbrev So (m : Nat) (k : Nat → Rat) : az := ⟨true, true, 3, m, fun i => .rat (k i) 64⟩
abbrev oL : List Nat := [0, 1, 2, 7, 8, 9]
abbrev zC (p m : Int) (v : AV) (i : Int) : List AV := [.ptr 0 0 2 0 [], .int .i64 p, .int .i64 m, .ptr 1 0 3 0 [], v, .int .i64 i]
noncomputable abbrev wH : Code := au wg
noncomputable abbrev tI : Code := part wH [1,1,1,1]
noncomputable abbrev p7 : Code := part tI [1]
abbrev uf : List Nat := [0, 1, 7, 8, 10]
abbrev xp : List Nat := [0, 1, 7, 8, 11]
abbrev nL (p : Int) (l : Nat) (i : Int) : List AV := [.ptr 0 0 2 0 [], .int .i64 p, .ptr 1 0 3 0 [], .own 2 3 0 l, .int .i64 i]
abbrev kE (n : Nat) (z : Nat → Int) (a : Int) (t : Rat) (l : Nat) (k : Nat → Rat) : aD := [(2, So l k), (1, tO t), (0, jd n z a)]
theorem VT {n : Nat} {z : Nat → Int} {a p m : Int} : aI T lD [] 60 oL (before wH [1,1,1,0,1]) ⟨aL 0 [.ptr 0 0 2 0 [], .int .i64 p, .int .i64 m], [(0, jd n z a)], 1⟩ =
  let c2 : Int := (2 : Int) ^ 63; let c1 : Int := b6 n (fun i ↦ int i64 (z i)) a (4 : Int) - (2 : Int); some (ag [cz n (fun i ↦ int i64 (z i)) a, (0 : Int) < (4 : Int), (4 : Int) < (2 : Int) ^ 62, -c2 ≤ c1 ∧ c1 < c2, -c2 ≤ c1, c1 < c2, (0 : Nat) < 1] (leaf normal ([ptr 0 0 2 0 [], int i64 p, int i64 m, ptr 20481 0 3 0 [], nil, int i64 (0 : Int)], [((20481 : Nat), az.mk false true 3 1 fun j ↦ if (j == 0) = true then bA (rat (↑c1 : Rat) (Max.max 1 (bg c1.natAbs))) else rat 0 1), ((0 : Nat), az.mk false true 2 1 fun x ↦ agg [ak 1 n fun i ↦ int i64 (z i), int i64 (bn n a)])]))) := by kernel_rfl
theorem V4 {n : Nat} {z : Nat → Int} {a p m : Int} {t : Rat} : aI T lD [18] 60 oL [part wH [1,1,1,0,1,0,0]] ⟨aB oL (zC p m .nil 0), [(1, tO t), (0, jd n z a)], 3⟩ =
  let c3 : AV := ptr 1 0 3 0 []; let c2 : AV := ptr 0 0 2 0 []; let c1 : List (Nat × az) := [((1 : Nat), az.mk false true 3 1 fun x ↦ rat t 64), ((0 : Nat), az.mk false true 2 1 fun x ↦ agg [ak 1 n fun i ↦ int i64 (z i), int i64 a])]; some (fork (decide ((0 : Int) ≤ p)) (ag [(0 : Nat) < 1, (1 : Nat) * 3 ≤ 2 ^ 24, (0 : Nat) < 1 ∧ 1 * ((56 : Nat) + 1) * 2 ≤ 2 ^ 47] (ag [-(2 : Int) ^ 63 ≤ (0 : Int) + (1 : Int) ∧ (0 : Int) + (1 : Int) < (2 : Int) ^ 63] (leaf normal ([c2, int i64 p, int i64 m, c3, own 24579 3 0 1, int i64 (1 : Int)], ((24579 : Nat), az.mk true true 3 1 fun i ↦ nth [rat t 64] (rat 0 1) (i + 0)) :: c1)))) (leaf (exit 0) ([c2, int i64 p, int i64 m, c3, nil, int i64 (0 : Int)], c1))) := by kernel_rfl
theorem TF {n j : Nat} {z : Nat → Int} {a p m : Int} {t : Rat} {k : Nat → Rat} : aI T lD [18] 60 oL [part wH [1,1,1,0,1,0,0]] ⟨aB oL (zC p m (.own 2 3 0 (j + 1)) ((j + 1 : Nat) : Int)), kE n z a t (j + 1) k, 3⟩ =
  let c4 : AV := ptr 1 0 3 0 []; let c3 : AV := ptr 0 0 2 0 []; let c2 : Nat := j + 1; let c1 : List (Nat × az) := [((1 : Nat), az.mk false true 3 1 fun x ↦ rat t 64), ((0 : Nat), az.mk false true 2 1 fun x ↦ agg [ak 1 n fun i ↦ int i64 (z i), int i64 a])]; let c7 : Nat := c2 + 1; let c6 : Int := (↑c2 : Int); let c5 : Int := c6 + (1 : Int); some (fork (decide (c6 ≤ p)) (ag [(0 : Nat) < 1, (1 : Nat) * 3 ≤ 2 ^ 24, c7 * ((56 : Nat) + 1) * 2 ≤ 2 ^ 47] (ag [-(2 : Int) ^ 63 ≤ c5 ∧ c5 < (2 : Int) ^ 63] (leaf normal ([c3, int i64 p, int i64 m, c4, own 24579 3 0 c7, int i64 c5], ((24579 : Nat), az.mk true true 3 c7 fun i ↦ if i < c2 then rat (k i) 64 else nth [rat t 64] (rat 0 1) (i - c2 + 0)) :: c1)))) (leaf (exit 0) ([c3, int i64 p, int i64 m, c4, own 2 3 0 c2, int i64 c6], ((2 : Nat), az.mk true true 3 c2 fun i ↦ rat (k i) 64) :: c1))) := by kernel_rfl
theorem V5 {n j : Nat} {z : Nat → Int} {a p m : Int} {t : Rat} {k : Nat → Rat} : aI T lD [] 60 uf (before tI [0,1]) ⟨aB oL (zC p m (.own 2 3 0 (j + 1)) ((j + 1 : Nat) : Int)), kE n z a t (j + 1) k, 3⟩ =
  let c1 : Int := m + (1 : Int); some (ag [-(2 : Int) ^ 63 ≤ c1 ∧ c1 < (2 : Int) ^ 63, cz n (fun i ↦ int i64 (z i)) a, (0 : Int) < c1, c1 < (2 : Int) ^ 62] (leaf normal ([ptr 0 0 2 0 [], int i64 p, ptr 1 0 3 0 [], own 2 3 0 (j + 1), int i64 (b6 n (fun i ↦ int i64 (z i)) a c1)], [((2 : Nat), az.mk true true 3 (j + 1) fun i ↦ rat (k i) 64), ((1 : Nat), az.mk false true 3 1 fun x ↦ rat t 64), ((0 : Nat), az.mk false true 2 1 fun x ↦ agg [ak 1 n fun i ↦ int i64 (z i), int i64 (bn n a)])]))) := by kernel_rfl
theorem SQ {n l : Nat} {z : Nat → Int} {a p i : Int} {t : Rat} {k : Nat → Rat} : aI T lD [30, 38, 43, 53] 60 uf [part tI [0,1,0,0]] ⟨aB uf (nL p l i), kE n z a t l k, 3⟩ =
  let c40 : Int := i - (1 : Int); let c39 : Nat := 64 + 64 + 1; let c35 : AV := rat t 64; let c34 : AV := rat 0 1; let c33 : Int := bn n a; let c31 : Nat := l + 1; let c30 : Prop := (0 : Int) < (3 : Int); let c28 : Prop := cz n (fun i ↦ int i64 (z i)) a; let c27 : Int := (↑l : Int); let c25 : AV := ptr 1 0 3 0 []; let c24 : AV := ptr 0 0 2 0 []; let c23 : Prop := 0 < 1; let c21 : Int := (2 : Int) ^ 62; let c20 : AV := ak 1 n fun i ↦ int i64 (z i); let c18 : Int := p + (1 : Int); let c16 : Prop := 64 < 2 ^ 41; let c7 : Int := b6 n (fun i ↦ int i64 (z i)) a (3 : Int); let c5 : Int := (2 : Int) ^ 63; let c43 : Int := bn n c33; let c41 : Bool := c27 == c18; let c38 : Prop := cz n (fun i ↦ int i64 (z i)) c33; let c37 : Prop := (3 : Int) < c21; let c32 : Prop := -c5 ≤ c18 ∧ c18 < c5; let c29 : Int := (1 : Int) + c7; let c26 : Nat × az := ((1 : Nat), az.mk false true 3 1 fun x ↦ c35); let c22 : Bool := bif false then true else decide (c7 > (0 : Int)); let c19 : List Prop := [-c5 ≤ c40 ∧ c40 < c5]; let c17 : Nat := (c27 - p).toNat + 0; let c15 : Nat × az := ((106499 : Nat), az.mk true true 3 c31 fun i ↦ if i < l then rat (k i) 64 else nth [c35] c34 (i - l + 0)); let c13 : List AV := [c24, int i64 p, c25, own 147459 3 0 c31, int i64 c40]; let c12 : List AV := [c24, int i64 p, c25, own 106499 3 0 c31, int i64 c40]; let c10 : Int := (1 : Int) + b6 n (fun i ↦ int i64 (z i)) c33 (2 : Int); let c9 : Int := (1 : Int) + b6 n (fun i ↦ int i64 (z i)) c33 (3 : Int); let c6 : List Prop := [c23, (1 : Nat) * 3 ≤ 2 ^ 24, c31 * ((56 : Nat) + 1) * 2 ≤ 2 ^ 47]; let c42 : Rat := (↑c29 : Rat) / (↑c10 : Rat); let c36 : Bool := bif false then true else decide (t = k c17); let c14 : List (Nat × az) := [c26, ((0 : Nat), az.mk false true 2 1 fun x ↦ agg [c20, int i64 a])]; let c11 : List Prop := [c23, -c5 ≤ c27 - p ∧ c27 - p < c5, (0 : Int) ≤ c27 - p ∧ (c27 - p).toNat < l, c17 < l, c16, c16]; let c8 : Int := (1 : Int) + b6 n (fun i ↦ int i64 (z i)) c43 (2 : Int); let c3 : aa (List AV × aD) := ag c6 (ag c19 (leaf normal (c12, [c15, c26, ((0 : Nat), az.mk false true 2 1 fun x ↦ agg [c20, int i64 c33])]))); let c44 : Rat := (↑c9 : Rat) / (↑c8 : Rat); let c4 : aa (List AV × aD) := ag c6 (ag c19 (leaf normal (c12, c15 :: c14))); let c2 : aa (List AV × aD) := ag [c23, c28, c30, c37, -c5 ≤ c29 ∧ c29 < c5, c38, (0 : Int) < (2 : Int), (2 : Int) < c21, -c5 ≤ c10 ∧ c10 < c5, -c5 ≤ c29, c29 < c5, -c5 ≤ c10, c10 < c5, c16, c16, c23] (ag c6 (ag c19 (leaf normal (c13, [((147459 : Nat), az.mk true true 3 c31 fun i ↦ if i < l then rat (k i) 64 else nth [rat (t + c42) c39] c34 (i - l + 0)), ((1 : Nat), az.mk false true 3 1 fun j ↦ if (j == 0) = true then bA (gX (t, (64 : Nat)) (c42, (64 : Nat))) else c35), ((0 : Nat), az.mk false true 2 1 fun x ↦ agg [c20, int i64 c43])])))); let c1 : aa (List AV × aD) := ag [c23, c38, c30, c37, -c5 ≤ c9 ∧ c9 < c5, cz n (fun i ↦ int i64 (z i)) c43, (0 : Int) < (2 : Int), (2 : Int) < c21, -c5 ≤ c8 ∧ c8 < c5, -c5 ≤ c9, c9 < c5, -c5 ≤ c8, c8 < c5, c16, c16, c23] (ag c6 (ag c19 (leaf normal (c13, [((147459 : Nat), az.mk true true 3 c31 fun i ↦ if i < l then rat (k i) 64 else nth [rat (t + c44) c39] c34 (i - l + 0)), ((1 : Nat), az.mk false true 3 1 fun j ↦ if (j == 0) = true then bA (gX (t, (64 : Nat)) (c44, (64 : Nat))) else c35), ((0 : Nat), az.mk false true 2 1 fun x ↦ agg [c20, int i64 (bn n c43)])])))); some (fork (decide (i > (0 : Int))) (fork c41 (fork true (ag [c32, c41 = true, true = true] (fork true c2 c4)) (ag (c32 :: (c41 = true) :: (true = false) :: c11) (fork c36 c2 c4))) (fork c22 (ag [c32, c41 = false, c28, c30, c37, c22 = true] (fork true c1 c3)) (ag (c32 :: (c41 = false) :: c28 :: c30 :: c37 :: (c22 = false) :: c11) (fork c36 c1 c3)))) (leaf (exit 2) ([c24, int i64 p, c25, own 2 3 0 l, int i64 i], ((2 : Nat), az.mk true true 3 l fun i ↦ rat (k i) 64) :: c14))) := by kernel_rfl
theorem Pn {n l : Nat} {z : Nat → Int} {a p i : Int} {t : Rat} {k : Nat → Rat} : aI T lD [] 60 xp (before p7 [1,0,1]) ⟨aB uf (nL p l i), kE n z a t l k, 3⟩ =
  let c1 : Nat := Max.max 1 (bg (Int.natAbs (1 : Int))); some (ag [(0 : Nat) < 1, -(2 : Int) ^ 63 ≤ (1 : Int), (1 : Int) < (2 : Int) ^ 63, (64 : Nat) < 2 ^ 41, c1 < 2 ^ 41, (0 : Nat) < 1] (leaf normal ([ptr 0 0 2 0 [], int i64 p, ptr 1 0 3 0 [], own 2 3 0 l, int i64 (0 : Int)], [((2 : Nat), az.mk true true 3 l fun i ↦ rat (k i) 64), ((1 : Nat), az.mk false true 3 1 fun j ↦ if (j == 0) = true then bA (gX (t, (64 : Nat)) ((↑(1 : Int) : Rat), c1)) else rat t 64), ((0 : Nat), az.mk false true 2 1 fun x ↦ agg [ak 1 n fun i ↦ int i64 (z i), int i64 a])]))) := by kernel_rfl
theorem Q7 {n l : Nat} {z : Nat → Int} {a p i : Int} {t : Rat} {k : Nat → Rat} : aI T lD [72] 60 xp [part p7 [1,0,1,0,0]] ⟨aB xp (nL p l i), kE n z a t l k, 3⟩ =
  let c3 : AV := ptr 1 0 3 0 []; let c2 : AV := ptr 0 0 2 0 []; let c1 : List (Nat × az) := [((1 : Nat), az.mk false true 3 1 fun x ↦ rat t 64), ((0 : Nat), az.mk false true 2 1 fun x ↦ agg [ak 1 n fun i ↦ int i64 (z i), int i64 a])]; some (fork (decide (i ≤ p)) (ag [(0 : Nat) < 1, (1 : Nat) * 3 ≤ 2 ^ 24, (l + 1) * ((56 : Nat) + 1) * 2 ≤ 2 ^ 47] (ag [-(2 : Int) ^ 63 ≤ i + (1 : Int) ∧ i + (1 : Int) < (2 : Int) ^ 63] (leaf normal ([c2, int i64 p, c3, own 24579 3 0 (l + 1), int i64 (i + (1 : Int))], ((24579 : Nat), az.mk true true 3 (l + 1) fun i ↦ if i < l then rat (k i) 64 else nth [rat t 64] (rat 0 1) (i - l + 0)) :: c1)))) (leaf (exit 4) ([c2, int i64 p, c3, own 2 3 0 l, int i64 i], ((2 : Nat), az.mk true true 3 l fun i ↦ rat (k i) 64) :: c1))) := by kernel_rfl
theorem P6 {n l : Nat} {z : Nat → Int} {a p i : Int} {t : Rat} {k : Nat → Rat} : An T lD [] 60 wg [part p7 [1,1]] ⟨aB xp (nL p l i), kE n z a t l k, 3⟩ =
  some (leaf ret ([ak 3 l fun i ↦ rat (k (i + 0)) 64], some (az.mk false true 2 1 fun x ↦ agg [ak 1 n fun i ↦ int i64 (z i), int i64 a]))) := by kernel_rfl
structure pZ where
 k : Nat → Rat
 t : Rat
 a : Int
def oU (n : Nat) (f : Nat → AV) (t : Rat) (a : Int) : Rat := t + ((1 + b6 n f a 3 : Int) : Rat) / ((1 + b6 n f (bn n a) 2 : Int) : Rat)
def nX (n : Nat) (f : Nat → AV) (p j : Nat) (s : pZ) : pZ :=
 if j = 0 ∨ 0 < b6 n f s.a 3 ∨ s.t = s.k (j + 1) then
  ⟨jB s.k (p + 1 + j) (oU n f s.t (if j = 0 then s.a else bn n s.a)), oU n f s.t (if j = 0 then s.a else bn n s.a), bn n (bn n (if j = 0 then s.a else bn n s.a))⟩
 else ⟨jB s.k (p + 1 + j) s.t, s.t, if j = 0 then s.a else bn n s.a⟩
def nk (n : Nat) (f : Nat → AV) (p : Nat) (s0 : pZ) : Nat → pZ
 | 0 => s0
 | j + 1 => nX n f p j (nk n f p s0 j)
def m7 (n : Nat) (f : Nat → AV) (a : Int) : pZ := ⟨fun _ => ((b6 n f a 4 - 2 : Int) : Rat), ((b6 n f a 4 - 2 : Int) : Rat), bn n (bn n a)⟩
def iY (n : Nat) (f : Nat → AV) (a : Int) (m : Nat) : Nat := (b6 n f (bn n a) (m + 1)).toNat
def zk (n : Nat) (f : Nat → AV) (a : Int) (p m : Nat) : pZ := nk n f p (m7 n f a) (iY n f a m)
def mM (n : Nat) (f : Nat → AV) (a : Int) (p m : Nat) : Nat := 2 * p + 2 + iY n f a m
def oT (n : Nat) (f : Nat → AV) (a : Int) (p m : Nat) : Nat → Rat := jT p (iY n f a m) (zk n f a p m).k (zk n f a p m).t
def oy (n : Nat) (f : Nat → AV) (a : Int) (p m : Nat) : Int := (zk n f a p m).a
theorem yC {n : Nat} {f : Nat → AV} {a : Int} {p : Nat} (hd : cz n f a) (hp : 1 ≤ p) : ∀ j, KG p j (nk n f p (m7 n f a) j).k (nk n f p (m7 n f a) j).t ∧ cz n f (nk n f p (m7 n f a) j).a
 | 0 => by
  have h1 := ig (n := n) (f := f) (a := a) (m := 4) (by omega)
  have h2 := iw (n := n) (f := f) (a := a) (m := 4) (by omega)
  exact ⟨KG.start hp (by omega) (by omega), hd.next.next⟩
 | j + 1 => by
  obtain ⟨h1, h2⟩ := yC hd hp j
  unfold nk nX oU
  generalize nk n f p (m7 n f a) j = s at *
  obtain ⟨k, t, b⟩ := s
  simp only at h1 h2 ⊢
  have hb : cz n f (if j = 0 then b else bn n b) := by split; exact h2; exact h2.next
  generalize (if j = 0 then b else bn n b) = a1 at *
  split
  ·have x1 := ig (n := n) (f := f) (a := a1) (m := 3) (by omega)
   have x2 := iw (n := n) (f := f) (a := a1) (m := 3) (by omega)
   have y1 := ig (n := n) (f := f) (a := bn n a1) (m := 2) (by omega)
   have y2 := iw (n := n) (f := f) (a := bn n a1) (m := 2) (by omega)
   refine ⟨h1.next (.inl ?_), hb.next.next⟩
   generalize b6 n f a1 3 = x at *
   generalize b6 n f (bn n a1) 2 = y at *
   have key : ∃ z : Int, ((1 + x : Int) : Rat) / ((1 + y : Int) : Rat) = (z : Rat) / 2 ∧ 1 ≤ z ∧ z ≤ 6 := by
    rcases (show y = 0 ∨ y = 1 by omega) with h | h
    ·subst h
     refine ⟨2 * (1 + x), ?_, by omega, by omega⟩
     have : ((2 * (1 + x) : Int) : Rat) = 2 * ((1 + x : Int) : Rat) := by simp
     rw [this]
     generalize ((1 + x : Int) : Rat) = w
     simp; grind
    ·subst h
     exact ⟨1 + x, by simp, by omega, by omega⟩
   obtain ⟨z, e, z1, z2⟩ := key
   rw [e]
   refine ⟨?_, z, rfl, z2⟩
   have : (1 : Rat) ≤ (z : Rat) := by exact_mod_cast z1
   grind
  ·rename_i hc
   have hc1 : ¬ j = 0 := fun h => hc (.inl h)
   have hc2 : ¬ t = k (j + 1) := fun h => hc (.inr (.inr h))
   exact ⟨h1.next (.inr ⟨rfl, by omega, hc2⟩), hb⟩
theorem I0 {z : Int} (h1 : -2 ^ 63 ≤ z) (h2 : z < 2 ^ 63) : Sz ((z : Rat) / 2) 64 := by
 have := J6 h1 h2 (y := 2) (by omega) (by omega) (by omega)
 simpa using this
theorem KG.sz {p j : Nat} {k : Nat → Rat} {t : Rat} (h : KG p j k t) (hj : j < 2 ^ 50) : Sz t 64 := by
 obtain ⟨z, e, h1, h2⟩ := h.half (p + j) (Nat.le_refl _)
 rw [h.top] at e
 rw [e]
 exact I0 (by omega) (by omega)
theorem adO {J j : Nat} (h : j < J) : ((J - j : Nat) : Int) - 1 = ((J - (j + 1) : Nat) : Int) := by omega
theorem Bo {rl : List (Nat × Nat)} {l i : Nat} {k k' : Nat → Rat} {t : Rat} {s : Nat} (hk : k' = jB k l t) (ht : Sz t 64) (hi : i < l + 1) : fq rl (if i < l then .rat (k i) 64 else nth [.rat t s] (.rat 0 1) (i - l + 0)) (.rat (k' i) 64) := by
 subst hk
 by_cases h : i < l
 ·rw [if_pos h, jZ (by omega)]; exact aM rfl rfl
 ·have : i = l := by omega
  subst this
  rw [if_neg h, qA, Nat.sub_self]
  exact .inr ⟨rfl, eM rfl ht⟩
theorem zo : aY P lD := cO (aF yJ (aF z9 (aF xx kr)))
theorem W9 {k n p m : Nat} {z : Nat → Int} {a : Int} {o : az} (ho : ∀ ρ, cq ρ o (jd n z a)) (h : cz n (fun i => .int .i64 (z i)) a) (hp : 1 ≤ p) (hp2 : p < 1000) (hm2 : m < 1000) (K : Nat) :
  aA P vO K [.ptr k 0 2 0 [], .int .i64 p, .int .i64 m] [(k, o)] ⟨bH (oT n (fun i => .int .i64 (z i)) a p m) (mM n (fun i => .int .i64 (z i)) a p m) 64, [(k, jd n z (oy n (fun i => .int .i64 (z i)) a p m))], []⟩ := by
 refine Kw hT Lr rfl rfl (of_decide_eq_true (by kernel_rfl)) ho (fun _ c hk => ?_) K
 have a1 := ig (n := n) (f := fun i => .int .i64 (z i)) (a := a) (m := 4) (by omega)
 have a2 := iw (n := n) (f := fun i => .int .i64 (z i)) (a := a) (m := 4) (by omega)
 have b1 := ig (n := n) (f := fun i => .int .i64 (z i)) (a := bn n a) (m := m + 1) (by omega)
 have b2 := iw (n := n) (f := fun i => .int .i64 (z i)) (a := bn n a) (m := m + 1) (by omega)
 have hS := yC h hp
 unfold oy oT mM zk at *
 obtain ⟨J, hJ⟩ : ∃ J, J = iY n (fun i => .int .i64 (z i)) a m := ⟨_, rfl⟩
 have hJ2 : b6 n (fun i => .int .i64 (z i)) (bn n a) (m + 1) = (J : Int) := by rw [hJ]; unfold iY; omega
 rw [← hJ] at *
 have hJ3 : J < 1000 := by omega
 obtain ⟨S, hSd⟩ : ∃ S, S = nk n (fun i => .int .i64 (z i)) p (m7 n (fun i => .int .i64 (z i)) a) := ⟨_, rfl⟩
 have h00 : S 0 = m7 n (fun i => .int .i64 (z i)) a := by rw [hSd]; rfl
 have hS1 : ∀ j, S (j + 1) = nX n (fun i => .int .i64 (z i)) p j (S j) := fun j => by rw [hSd]; rfl
 rw [← hSd] at hS ⊢
 clear hSd hJ
 obtain ⟨t0, ht0⟩ : ∃ t0 : Rat, t0 = ((b6 n (fun i => .int .i64 (z i)) a 4 - 2 : Int) : Rat) := ⟨_, rfl⟩
 unfold m7 at h00
 rw [← ht0] at h00
 have hs0 : Sz t0 64 := by have := (hS 0).1.sz (by omega); rw [h00] at this; exact this
 refine aq.kY hT zo hm [1,1,1,0,1] (i := 0) (y := part wH [1,1,1,0,1,0,0]) (z := tI) (by kernel_rfl) (by kernel_rfl) (by kernel_rfl) Lr.dst hk (f1 := []) (f2 := [18]) 60 oL 3
  (fun j : Nat => zC p m (match j with
   | 0 => .nil
   | _ + 1 => .own 2 3 0 j) j) (fun j => match j with
   | 0 => [(1, tO t0), (0, jd n z (bn n a))]
   | _ + 1 => kE n z (bn n a) t0 j (fun _ => t0)) (fun j => j ≤ p + 1) (fun j => j = p + 1) (fun j => p + 1 - j) (fun _ => False) ⟨_, VT, ?_⟩ (fun j hj => ?_) (fun j hj => ?_) (fun _ _ h => h.elim)
 ·simp only [aa.all, ay]
  refine ⟨⟨h, by omega, by omega, by omega, by omega, by omega, by omega⟩, 0, by omega, [(0, 0), (1, 20481)], rfl, rfl, rfl, aR rfl rfl (.inr ⟨rfl, ?_⟩) (aR rfl rfl (aM rfl rfl) trivial)⟩
  rw [← ht0]
  exact eM rfl hs0
 ·cases j with
  | zero =>
   refine ⟨_, V4, ?_⟩
   simp only [aa.all, ay, decide_eq_true_eq, decide_eq_false_iff_not]
   refine ⟨fun _ => ⟨by omega, by omega, 1, by omega, by dsimp only; omega, [(0, 0), (1, 1), (2, 24579)], rfl, rfl, rfl, bD rfl rfl rfl (fun i hi => ?_) (aR rfl rfl (aM rfl rfl) (aR rfl rfl (aM rfl rfl) trivial))⟩, fun h => by omega⟩
   have : i = 0 := by omega
   subst this
   exact aM rfl rfl
  | succ j =>
   refine ⟨_, TF, ?_⟩
   simp only [aa.all, ay, decide_eq_true_eq, decide_eq_false_iff_not]
   refine ⟨fun _ => ⟨by omega, by omega, j + 2, by omega, by dsimp only; omega, [(0, 0), (1, 1), (2, 24579)], rfl, rfl, rfl, bD rfl rfl rfl (fun i hi => Bo (by funext i; unfold jB; split <;> rfl) hs0 hi) (aR rfl rfl (aM rfl rfl) (aR rfl rfl (aM rfl rfl) trivial))⟩,
    fun _ => ⟨rfl, j + 1, by omega, [(0, 0), (1, 1), (2, 2)], rfl, rfl, rfl, bD rfl rfl rfl (fun i hi => aM rfl rfl) (aR rfl rfl (aM rfl rfl) (aR rfl rfl (aM rfl rfl) trivial))⟩⟩
 subst hj
 refine aq.kY hT zo hm [0,1] (i := 2) (y := part tI [0,1,0,0]) (z := p7) (by kernel_rfl) (by kernel_rfl) (by kernel_rfl) (by kernel_rfl) hk (f1 := []) (f2 := [30, 38, 43, 53]) 60 uf 3
  (fun j : Nat => nL p (p + 1 + j) ((J - j : Nat) : Int)) (fun j => kE n z (S j).a (S j).t (p + 1 + j) (S j).k) (fun j => j ≤ J) (fun j => j = J) (fun j => J - j) (fun _ => False) ⟨_, V5, ?_⟩ (fun j hj => ?_) (fun j hj => ?_) (fun _ _ h => h.elim)
 ·simp only [aa.all, ay]
  rw [hJ2]
  refine ⟨⟨by omega, h.next, by omega, by omega⟩, 0, by omega, [(0, 0), (1, 1), (2, 2)], rfl, rfl, rfl, ?_⟩
  dsimp only
  rw [h00]
  exact bD rfl rfl rfl (fun i hi => aM rfl rfl) (aR rfl rfl (aM rfl rfl) (aR rfl rfl (aM rfl rfl) trivial))
 ·refine ⟨_, SQ, ?_⟩
  have hj1 := hS1 j
  obtain ⟨hg, hd⟩ := hS j
  have hs1 : ∀ {j}, j < 2000 → Sz (S j).t 64 := fun hj => (hS _).1.sz (by omega)
  have hsj := hs1 (j := j) (by omega)
  have hsj1 := hs1 (j := j + 1) (by omega)
  have e1 : (((p + 1 + j : Nat) : Int) - (p : Int)).toNat + 0 = j + 1 := by omega
  simp only [aa.all, ay, decide_eq_true_eq, decide_eq_false_iff_not, beq_iff_eq, beq_eq_false_iff_ne, e1, cond_false]
  have v3 := fun a => And.intro (ig (n := n) (f := fun i => .int .i64 (z i)) (a := a) (m := 3) (by omega)) (iw (n := n) (f := fun i => .int .i64 (z i)) (a := a) (m := 3) (by omega))
  have v2 := fun a => And.intro (ig (n := n) (f := fun i => .int .i64 (z i)) (a := a) (m := 2) (by omega)) (iw (n := n) (f := fun i => .int .i64 (z i)) (a := a) (m := 2) (by omega))
  have q1 := v3 (S j).a
  have q2 := v3 (bn n (S j).a)
  have q3 := v2 (bn n (S j).a)
  have q4 := v2 (bn n (bn n (S j).a))
  refine ⟨fun hi => ?_, fun hi => ⟨rfl, j, by omega, [(0, 0), (1, 1), (2, 2)], rfl, rfl, rfl, bD rfl rfl rfl (fun i hi => aM rfl rfl) (aR rfl rfl (aM rfl rfl) (aR rfl rfl (aM rfl rfl) trivial))⟩⟩
  have hlt : j < J := by omega
  have fin : ∀ (key : Nat) (t : Rat) (s s2 : Nat) (b : Int) (g : Nat → AV), S (j + 1) = ⟨jB (S j).k (p + 1 + j) t, t, b⟩ → g 0 = .rat t s2 → (gb 3 [(0, 0), (1, 1), (2, key)]) = true → (key == 1) = false → (key == 0) = false →
    Round [0] (fun j => nL p (p + 1 + j) ((J - j : Nat) : Int)) (fun j => kE n z (S j).a (S j).t (p + 1 + j) (S j).k) 3 (fun j => j ≤ J) (fun j => j = J) (fun j => J - j) 2 (fun _ => False) j normal
     ([ptr 0 0 2 0 [], int i64 p, ptr 1 0 3 0 [], own key 3 0 (p + 1 + j + 1), int i64 (((J - j : Nat) : Int) - 1)], [(key, ⟨true, true, 3, p + 1 + j + 1, fun i => if i < p + 1 + j then .rat ((S j).k i) 64 else nth [.rat t s] (.rat 0 1) (i - (p + 1 + j) + 0)⟩), (1, ⟨false, true, 3, 1, g⟩), (0, jd n z b)]) := by
   intro key t s s2 b g e1 e2 e3 hk1 hk0
   rw [e1] at hsj1
   refine ⟨j + 1, by omega, by dsimp only; omega, [(0, 0), (1, 1), (2, key)], by rw [e3]; rfl, by rw [adO hlt]; rfl, rfl, ?_⟩
   dsimp only
   rw [e1]
   exact bD rfl A0 rfl (fun i hi => Bo rfl hsj1 hi) (aR rfl ((Hh hk1).trans rfl) (.inr ⟨by rw [e2]; rfl, by rw [e2]; exact eM rfl hsj1⟩) (aR rfl ((Hh hk0).trans rfl) (aM rfl rfl) trivial))
  refine ⟨fun hl => ?_, fun hl => ⟨fun hc => ?_, fun hc => ?_⟩⟩
  all_goals (repeat' with_reducible first | refine And.intro ?_ ?_ | intro _)
  all_goals first | omega | exact hd | exact hd.next | exact hd.next.next | skip
  all_goals try exact absurd ‹true = false› (by decide)
  ·refine fin 147459 _ _ _ _ _ ?_ rfl rfl rfl rfl
   rw [hj1]; unfold nX oU
   have hj0 : j = 0 := by omega
   rw [if_pos (.inl hj0), if_pos hj0]
  ·refine fin 147459 _ _ _ _ _ ?_ rfl rfl rfl rfl
   rw [hj1]; unfold nX oU
   have hj0 : j ≠ 0 := by omega
   rw [if_pos (.inr (.inl hc)), if_neg hj0]
  ·refine fin 147459 _ _ _ _ _ ?_ rfl rfl rfl rfl
   rw [hj1]; unfold nX oU
   have hj0 : j ≠ 0 := by omega
   rename_i hk
   rw [if_pos (.inr (.inr hk)), if_neg hj0]
  ·refine fin 106499 _ _ _ _ _ ?_ rfl rfl rfl rfl
   rw [hj1]; unfold nX oU
   have hj0 : j ≠ 0 := by omega
   rename_i hk
   rw [if_neg (by simp only [hj0, hk, or_false, false_or]; omega), if_neg hj0]
 subst hj
 have hs1 : Sz ((S j).t + 1) 64 := by
  obtain ⟨z, e, h1, h2⟩ := (hS j).1.UK (p + 1 + j)
  unfold jT at e
  rw [if_neg (by omega)] at e
  rw [e]; exact I0 (by omega) (by omega)
 refine aq.kY hT zo hm [1,0,1] (i := 4) (y := part p7 [1,0,1,0,0]) (z := part p7 [1,1]) (by kernel_rfl) (by kernel_rfl) (by kernel_rfl) (by kernel_rfl) hk (f1 := []) (f2 := [72]) 60 xp 3
  (fun i : Nat => nL p (p + 1 + j + i) i) (fun i => kE n z (S j).a ((S j).t + 1) (p + 1 + j + i) (jT p j (S j).k (S j).t)) (fun i => i ≤ p + 1) (fun i => i = p + 1) (fun i => p + 1 - i) (fun _ => False) ⟨_, Pn, ?_⟩ (fun i hi => ?_) (fun i hi => ?_) (fun _ _ h => h.elim)
 ·simp only [aa.all, ay]
  refine ⟨⟨by omega, by omega, by omega, by omega, by decide, by omega⟩, 0, by omega, [(0, 0), (1, 1), (2, 2)], rfl, rfl, rfl, bD rfl rfl rfl (fun i hi => ?_) (aR rfl rfl (.inr ⟨rfl, eM rfl hs1⟩) (aR rfl rfl (aM rfl rfl) trivial))⟩
  refine aM rfl ?_
  unfold jT
  rw [if_pos (by omega)]
 ·refine ⟨_, Q7, ?_⟩
  simp only [aa.all, ay, decide_eq_true_eq, decide_eq_false_iff_not]
  refine ⟨fun _ => ⟨by omega, by omega, i + 1, by omega, by dsimp only; omega, [(0, 0), (1, 1), (2, 24579)], rfl, rfl, rfl, bD rfl rfl rfl (fun i hi => Bo ?_ hs1 hi) (aR rfl rfl (aM rfl rfl) (aR rfl rfl (aM rfl rfl) trivial))⟩,
   fun _ => ⟨rfl, i, by omega, [(0, 0), (1, 1), (2, 2)], rfl, rfl, rfl, bD rfl rfl rfl (fun i hi => aM rfl rfl) (aR rfl rfl (aM rfl rfl) (aR rfl rfl (aM rfl rfl) trivial))⟩⟩
  funext x
  unfold jB jT
  split
  ·rename_i hx; rw [if_neg (by omega)]
  ·split <;> rfl
 ·subst hi
  refine aq.lJ (aC.KC hT zo hm 60 P6 (by kernel_rfl) ⟨?_, _, rfl, rfl, l5 rfl rfl⟩)
  exact uK (by omega) fun _ _ => rfl
def Bz (n : Nat) (f : Nat → AV) (a : Int) (l : List AV) : Option (AV × Int × List Prop) := match l with
 | [.int .i64 p, .int .i64 m] => some (bH (oT n f a p.toNat m.toNat) (mM n f a p.toNat m.toNat) 64, oy n f a p.toNat m.toNat, [1 ≤ p, p < 1000, 0 ≤ m, m < 1000])
 | _ => none
theorem U7 : ∀ K args pre r, fY Bz K args pre = some r → aA P vO K args pre r := by
 refine rT fun {k n z a l v b q o} K hg ho hd hq => ?_
 unfold Bz at hg
 split at hg
 ·rename_i p m
  simp only [Option.some.injEq, Prod.mk.injEq] at hg
  obtain ⟨rfl, rfl, rfl⟩ := hg
  obtain ⟨h1, h2, h3, h4⟩ := hq
  have h4 : m < 1000 := h4
  have := W9 (k := k) (p := p.toNat) (m := m.toNat) ho hd (by omega) (by omega) (by omega) K
  rw [Int.toNat_of_nonneg (by omega), Int.toNat_of_nonneg h3] at this
  exact this
 ·simp at hg
end Go.Am.B

/- brepkernelmade: Number. -/
namespace Go.Am.B
open Go Go.Am.N AV
end Go.Am.B

/- law09: made, at. -/
namespace Go.Am.B
open Go Go.Am.N AV aa ah IntKind
end Go.Am.B

/- ref02.Text of a few numbers; law09.awake. -/
namespace Go.Am.B
open Go Go.Am.N AV aa ah IntKind
def qN : aQ := [sG, (qB, D9)]
theorem ac5 : aY P qN := jj (aF J9 bk)
theorem Kn.congr {n p : Nat} {k k' : Nat → Rat} (h : Kn n p k) (e : ∀ i, i < n → k i = k' i) : Kn n p k' := by
 have hp := h.p1
 have hl := h.len
 refine ⟨h.p1, h.len, fun i hi => ?_, fun i hi => ?_, fun i h1 h2 => ?_, fun i h1 h2 => ?_⟩
 ·rw [← e i (by omega), ← e (i + 1) hi]; exact h.sorted i hi
 ·rw [← e i (by omega), ← e 0 (by omega)]; exact h.first i hi
 ·rw [← e i h2, ← e (n - 1) (by omega)]; exact h.last i h1 h2
 ·rw [← e i (by omega), ← e (i + p) (by omega)]; exact h.mult i h1 h2
theorem Re {f : Nat → Rat} (h : ∀ i, i < 6 → f i = jT 2 0 (fun _ => ((0 : Int) : Rat)) ((0 : Int) : Rat) i) : Kn 6 2 f :=
 ((KG.start (p := 2) (by omega) (z := 0) (by omega) (by omega)).done : Kn (2 * 2 + 2 + 0) 2 _).congr fun i hi => (h i hi).symm
end Go.Am.B

/- shapes, vector, ref14: by the evaluator; law14.awake. -/
namespace Go.Am.B
open Go Go.Am.N AV aa ah IntKind
end Go.Am.B

/- law10.awake. -/
namespace Go.Am.B
open Go Go.Am.N AV aa ah IntKind
theorem aaG : aN P ux vJ (au vJ) := aP abD (by kernel_rfl) (by kernel_rfl) (by kernel_rfl)
def HY : Spec := bw fun l => match l with
 | [.mag 2] => some (aG (.str [50]) [])
 | [.mag 3] => some (aG (.str [51]) [])
 | [.mag 4] => some (aG (.str [52]) [])
 | [.mag 5] => some (aG (.str [53]) [])
 | _ => none
def sZ : aQ := [sG, (vX, HY)]
def FE : Spec := bw fun l => match l with
 | [.rat q _] => match decide (q = 3 / 5), decide (q = 4 / 5), decide (q = 3 / 2) with
  | true, _, _ => some (aG (.str [51, 47, 53]) [])
  | false, true, _ => some (aG (.str [52, 47, 53]) [])
  | false, false, true => some (aG (.str [51, 47, 50]) [])
  | _, _, _ => none
 | _ => none
noncomputable def Fe : aQ := sG :: (s9, CR) :: (AT, Ll) :: (yz, JM) :: (LS, fS T (sG :: pn) [] 200 J4) :: (nj, tr) :: (sY, FE) :: pn
theorem Ra : bu T qN [] 60 iW (au iW) ⟨aL 0 [.mag 2], [], 0⟩ =
  let c1 : Int := (↑(1 : Nat) : Int); some (ag [nl 2 < 2 ^ 40, (0 : Int) < (1000000000 : Int), (1000000000 : Int) < (2 : Int) ^ 32] (ag [(10 : Int) ≠ (0 : Int), (0 : Nat) < 1 ∧ 1 * ((1 : Nat) + 1) * 2 ≤ 2 ^ 47] (ag [(10 : Int) ≠ (0 : Int)] (ag [(0 : Int) ≤ c1 ∧ c1 ≤ c1 ∧ c1 ≤ (2 : Int) ^ 47 ∧ c1 * c1 ≤ (2 : Int) ^ 47] (leaf ret [str [UInt8.ofNat (u8.wrap (u32.wrap ((48 : Int) + (↑((2 : Nat) % Int.toNat (1000000000 : Int)) : Int).tmod (10 : Int)))).toNat]]))))) := by kernel_rfl
theorem M0 : bu T qN [] 60 iW (au iW) ⟨aL 0 [.mag 3], [], 0⟩ =
  let c1 : Int := (↑(1 : Nat) : Int); some (ag [nl 3 < 2 ^ 40, (0 : Int) < (1000000000 : Int), (1000000000 : Int) < (2 : Int) ^ 32] (ag [(10 : Int) ≠ (0 : Int), (0 : Nat) < 1 ∧ 1 * ((1 : Nat) + 1) * 2 ≤ 2 ^ 47] (ag [(10 : Int) ≠ (0 : Int)] (ag [(0 : Int) ≤ c1 ∧ c1 ≤ c1 ∧ c1 ≤ (2 : Int) ^ 47 ∧ c1 * c1 ≤ (2 : Int) ^ 47] (leaf ret [str [UInt8.ofNat (u8.wrap (u32.wrap ((48 : Int) + (↑((3 : Nat) % Int.toNat (1000000000 : Int)) : Int).tmod (10 : Int)))).toNat]]))))) := by kernel_rfl
theorem aag : bu T qN [] 60 iW (au iW) ⟨aL 0 [.mag 4], [], 0⟩ =
  let c1 : Int := (↑(1 : Nat) : Int); some (ag [nl 4 < 2 ^ 40, (0 : Int) < (1000000000 : Int), (1000000000 : Int) < (2 : Int) ^ 32] (ag [(10 : Int) ≠ (0 : Int), (0 : Nat) < 1 ∧ 1 * ((1 : Nat) + 1) * 2 ≤ 2 ^ 47] (ag [(10 : Int) ≠ (0 : Int)] (ag [(0 : Int) ≤ c1 ∧ c1 ≤ c1 ∧ c1 ≤ (2 : Int) ^ 47 ∧ c1 * c1 ≤ (2 : Int) ^ 47] (leaf ret [str [UInt8.ofNat (u8.wrap (u32.wrap ((48 : Int) + (↑((4 : Nat) % Int.toNat (1000000000 : Int)) : Int).tmod (10 : Int)))).toNat]]))))) := by kernel_rfl
theorem Tm : bu T qN [] 60 iW (au iW) ⟨aL 0 [.mag 5], [], 0⟩ =
  let c1 : Int := (↑(1 : Nat) : Int); some (ag [nl 5 < 2 ^ 40, (0 : Int) < (1000000000 : Int), (1000000000 : Int) < (2 : Int) ^ 32] (ag [(10 : Int) ≠ (0 : Int), (0 : Nat) < 1 ∧ 1 * ((1 : Nat) + 1) * 2 ≤ 2 ^ 47] (ag [(10 : Int) ≠ (0 : Int)] (ag [(0 : Int) ≤ c1 ∧ c1 ≤ c1 ∧ c1 ≤ (2 : Int) ^ 47 ∧ c1 * c1 ≤ (2 : Int) ^ 47] (leaf ret [str [UInt8.ofNat (u8.wrap (u32.wrap ((48 : Int) + (↑((5 : Nat) % Int.toNat (1000000000 : Int)) : Int).tmod (10 : Int)))).toNat]]))))) := by kernel_rfl
theorem OX : bu T sZ [] 60 jU (au jU) ⟨aL 0 [.agg [.bool false, .mag 3, .mag 5]], [], 0⟩ =
  some (leaf ret [str [(51 : UInt8), (47 : UInt8), (53 : UInt8)]]) := by kernel_rfl
theorem T7 : bu T sZ [] 60 jU (au jU) ⟨aL 0 [.agg [.bool false, .mag 4, .mag 5]], [], 0⟩ =
  some (leaf ret [str [(52 : UInt8), (47 : UInt8), (53 : UInt8)]]) := by kernel_rfl
theorem Td : bu T sZ [] 60 jU (au jU) ⟨aL 0 [.agg [.bool false, .mag 3, .mag 2]], [], 0⟩ =
  some (leaf ret [str [(51 : UInt8), (47 : UInt8), (50 : UInt8)]]) := by kernel_rfl
theorem abu : bu T Fe [100024, 100028, 100032, 100038, 100044, 100050] 200 vJ (au vJ) ⟨aL 0 [], [], 0⟩ =
  let c10 : Rat := (↑(1 : Int) : Rat) / (↑(2 : Int) : Rat); let c9 : Int := (2 : Int) ^ 63; let c8 : List UInt8 := [(47 : UInt8), (53 : UInt8)]; let c6 : AV := agg [AV.bool (decide ((0 : Rat) < 0)), mag (↑(nat_lit 0) : Int).natAbs, mag (if 1 = 1 then 0 else 1)]; let c5 : AV := rat 0 1; let c4 : AV := rat (↑(1 : Int) : Rat) (Max.max 1 (bg (Int.natAbs (1 : Int)))); let c7 : AV := agg [agg [c5, c5, c5], c5]; let c3 : List AV := [agg [agg [c4, c5, c5], c4], agg [agg [c4, c4, c5], c4], agg [agg [c6, c4, c5], rat (↑(2 : Int) : Rat) (Max.max 1 (bg (Int.natAbs (2 : Int))))]]; let c2 : List AV := [c6, c6, c6, c4, c4, c4]; let c1 : Cu := Cu.mk (2 : Int) 6 (fun i ↦ aT (nth c2 c5 (i + 0))) 3 fun i ↦ jW (nth c3 c7 (i + 0)); some (ag [(0 : Nat) < 1] (ag [-c9 ≤ (1 : Int), (1 : Int) < c9, -c9 ≤ (2 : Int), (2 : Int) < c9] (ag [ck (fun i ↦ nth c2 c5 (i + 0)) 6 sJ, ir (fun i ↦ nth c3 c7 (i + 0)) 3 sJ, (64 : Nat) ≤ sK, fl c1] (ag [ck (fun i ↦ nth c2 c5 (i + 0)) 6 2000, ir (fun i ↦ nth c3 c7 (i + 0)) 3 2000, (64 : Nat) ≤ 2000, fl c1] (ag [ck (fun i ↦ nth c2 c5 (i + 0)) 6 2048, ir (fun i ↦ nth c3 c7 (i + 0)) 3 2048, fl c1, ∀ (i : Nat), i < 3 → 0 < (jW (nth c3 c7 (i + 0))).d, ((0 : Int) == (0 : Int)) = true, (bif true then cH 6 (fun i ↦ aT (nth c2 c5 (i + 0))) c10 == (0 : Int) else false) = true, (bif true then jP c1 c10 == (0 : Int) else false) = true, (bif true then (51 : UInt8) :: c8 == (51 : UInt8) :: c8 else false) = true, (bif true then (52 : UInt8) :: c8 == (52 : UInt8) :: c8 else false) = true, (bif true then (↑((6 : Nat) + 1 - Int.toNat (2 : Int) - 1) : Int) == (4 : Int) else false) = true] (leaf ret [AV.bool true])))))) := by kernel_rfl
theorem PD : ∀ K args pre r, HY K args pre = some r → aA P vX K args pre r := by
 refine bI fun K args r hk hs _ => ?_
 have fin : ∀ {N : Nat} {t : aa (List AV)} {l : List UInt8}, bu T qN [] 60 iW (au iW) ⟨aL 0 [.mag N], [], 0⟩ = some t → (t.all fun _ us => dn us (.str l)) → aA P vX K [.mag N] [] (aG (.str l) []) := fun h1 h2 =>
  bC (r := aG _ []) hT ac5 hm YZ rfl (of_decide_eq_true (by kernel_rfl)) rfl 60 h1 (fun _ => h2) K []
 split at hs <;> simp only [Option.some.injEq, reduceCtorEq] at hs
 all_goals subst hs
 ·exact fin Ra (by simp only [aa.all, ay]; exact ⟨by decide, by decide, by decide, by decide, .refl _⟩)
 ·exact fin M0 (by simp only [aa.all, ay]; exact ⟨by decide, by decide, by decide, by decide, .refl _⟩)
 ·exact fin aag (by simp only [aa.all, ay]; exact ⟨by decide, by decide, by decide, by decide, .refl _⟩)
 ·exact fin Tm (by simp only [aa.all, ay]; exact ⟨by decide, by decide, by decide, by decide, .refl _⟩)
theorem Sv : aY P sZ := jj (aF PD bk)
theorem Z2 : ∀ K args pre r, FE K args pre = some r → aA P sY K args pre r := by
 refine bI fun K args r hk hs _ => ?_
 have fin : ∀ {q : Rat} {n a b : Nat} {t : aa (List AV)} {l : List UInt8}, kids (.rat q n) = [.bool false, .mag a, .mag b] → bu T sZ [] 60 jU (au jU) ⟨aL 0 [.agg [.bool false, .mag a, .mag b]], [], 0⟩ = some t → (t.all fun _ us => dn us (.str l)) → aA P sY K [.rat q n] [] (aG (.str l) []) := fun h0 h1 h2 =>
  eR (bC (r := aG _ []) hT Sv hm W3 rfl (of_decide_eq_true (by kernel_rfl)) rfl 60 h1 (fun _ => h2) K []) rfl (show ec [_] [_] from ⟨by rw [← h0]; exact Jm, trivial⟩) []
 split at hs
 ·rename_i q n
  split at hs
  all_goals simp only [Option.some.injEq, reduceCtorEq] at hs
  all_goals subst hs
  ·obtain rfl : q = 3 / 5 := of_decide_eq_true ‹_›
   exact fin (by kernel_rfl) OX (.refl _)
  ·obtain rfl : q = 4 / 5 := of_decide_eq_true ‹decide (q = 4 / 5) = true›
   exact fin (by kernel_rfl) T7 (.refl _)
  ·obtain rfl : q = 3 / 2 := of_decide_eq_true ‹decide (q = 3 / 2) = true›
   exact fin (by kernel_rfl) Td (.refl _)
 ·simp at hs
theorem Ql : aY P Fe := jj (aF H9 (aF Ue (aF adJ (aF (ga hT (jj qP) hm (aP XX (by kernel_rfl) (by kernel_rfl) (by kernel_rfl)) _ _) (aF xx (aF Z2 qP))))))
theorem ad3 (K : Nat) : aA P ux K [] [] (aG (.bool true) []) := by
 refine bC (r := aG (.bool true) []) hT Ql hm aaG rfl (of_decide_eq_true (by kernel_rfl)) rfl 200 abu (fun _ => ?_) K []
 have hR : ∀ s, 4 ≤ s → ck (fun i => nth [.agg [AV.bool (decide ((0 : Rat) < 0)), mag (↑(nat_lit 0) : Int).natAbs, mag (if 1 = 1 then 0 else 1)], .agg [AV.bool (decide ((0 : Rat) < 0)), mag (↑(nat_lit 0) : Int).natAbs, mag (if 1 = 1 then 0 else 1)], .agg [AV.bool (decide ((0 : Rat) < 0)), mag (↑(nat_lit 0) : Int).natAbs, mag (if 1 = 1 then 0 else 1)], .rat (↑(1 : Int) : Rat) (Max.max 1 (bg (Int.natAbs (1 : Int)))), .rat (↑(1 : Int) : Rat) (Max.max 1 (bg (Int.natAbs (1 : Int)))), .rat (↑(1 : Int) : Rat) (Max.max 1 (bg (Int.natAbs (1 : Int))))] (.rat 0 1) (i + 0)) 6 s := fun s hs i hi => by
  obtain ⟨s, rfl⟩ : ∃ s', s = s' + 1 := ⟨s - 1, by omega⟩
  match i, hi with
  | 0, _ | 1, _ | 2, _ => exact iu
  | 3, _ | 4, _ | 5, _ => exact dm (Nat.le_trans (by decide) hs)
 simp only [aa.all, ay]
 (repeat' with_reducible first | refine And.intro ?_ ?_)
 all_goals first | omega | decide | exact hR _ (by decide) | skip
 all_goals first | decide +kernel | exact .refl _ | skip
 all_goals first | refine ⟨Re fun i hi => ?_, by decide, by decide, by decide, by decide⟩ | intro i hi
 all_goals first
  | match i, hi with
   | 0, _ | 1, _ | 2, _ | 3, _ | 4, _ | 5, _ => decide +kernel
  | match i, hi with
   | 0, _ | 1, _ | 2, _ => decide +kernel
  | skip
 all_goals match i, hi with
  | 0, _ | 1, _ => exact dx ⟨dx ⟨dm (by decide), dm (by decide), dm (by decide), trivial⟩, dm (by decide), trivial⟩
  | 2, _ => exact dx ⟨dx ⟨iu, dm (by decide), dm (by decide), trivial⟩, dm (by decide), trivial⟩
def Fu : Spec := bw fun l => match l with
 | [] => some (aG (.bool true) [])
 | _ => none
theorem Zo : ∀ K args pre r, Fu K args pre = some r → aA P ux K args pre r := by
 refine bI fun K args r hk hs _ => ?_
 split at hs
 ·simp only [Option.some.injEq] at hs
  subst hs
  exact fun need => ad3 K need
 ·simp at hs
end Go.Am.B

/- brepkernelmade: pole, Curve. -/
namespace Go.Am.B
open Go Go.Am.N AV aa ah IntKind
theorem Pe : aN P Aq uk (au uk) := aP adL (by kernel_rfl) (by kernel_rfl) (by kernel_rfl)
theorem EK : aN P xX xA (au xA) := aP SW (by kernel_rfl) (by kernel_rfl) (by kernel_rfl)
def Lh : aQ := [(mu, fY pR), (yK, fY CP), (jv, vL)]
def nE (n : Nat) (f : Nat → AV) (a : Int) (b : Bool) : Pl := ⟨⟨fV n f a, fV n f (ep n f a), if b = true then 0 else fV n f (ep n f (ep n f a))⟩, ((1 + b6 n f (jn n f a) 3 : Int) : Rat)⟩
def CA (n : Nat) (f : Nat → AV) (a : Int) : Int := bn n (jn n f a)
def CZ (n : Nat) (f : Nat → AV) (a : Int) (l : List AV) : Option (AV × Int × List Prop) := match l with
 | [.bool b] => some (cS (nE n f a b) 64, CA n f a, [])
 | _ => none
def zL : aQ := nG :: (mu, fY pR) :: (vO, fY Bz) :: (Aq, fY CZ) :: []
abbrev wQ : List Nat := [0, 3, 8, 9, 10]
abbrev BH (b : Bool) (i : Nat) : List AV := [.ptr 0 0 2 0 [], .bool b, .ptr 1 0 3 0 [], .ptr 2 0 3 0 [], .int .i64 i]
abbrev Ep (n : Nat) (z : Nat → Int) (a p : Int) (N : Nat) (k : Nat → Rat) (f : Nat → Pl) (j : Nat) : aD :=
 [(3, ⟨true, true, 12, j, fun i => cS (f i) 64⟩), (2, ⟨false, true, 3, 1, fun _ => .agg [.int .i64 p, bH k N 64, .own 3 12 0 j]⟩), (1, ⟨false, true, 3, 1, fun _ => .agg [.int .i64 0, .nil, .nil]⟩), (0, jd n z a)]
noncomputable abbrev wB : Code := au xA
theorem VM {n : Nat} {z : Nat → Int} {a : Int} {b : Bool} : qv T Lh [8] 60 uk (au uk) ⟨aL 0 [.ptr 0 0 2 0 [], .bool b], [(0, jd n z a)], 1⟩ =
  let c9 : Int := ep n (fun i ↦ int i64 (z i)) a; let c8 : AV := rat (fV n (fun i ↦ int i64 (z i)) a) 64; let c6 : Int := jn n (fun i ↦ int i64 (z i)) a; let c4 : Prop := 0 < 1; let c5 : AV := rat (fV n (fun i ↦ int i64 (z i)) c9) 64; let c3 : Option az := some (az.mk false true 2 1 fun x ↦ agg [ak 1 n fun i ↦ int i64 (z i), int i64 (bn n c6)]); let c1 : Int := i64.wrap ((1 : Int) + (b6 n (fun i ↦ int i64 (z i)) c6 (3 : Int)).tmod (3 : Int)); let c7 : AV := rat (↑c1 : Rat) (Max.max 1 (bg c1.natAbs)); let c2 : List Prop := [c4, cz n (fun i ↦ int i64 (z i)) c6, (0 : Int) < (3 : Int), (3 : Int) < (2 : Int) ^ 62, (3 : Int) ≠ (0 : Int), -(2 : Int) ^ 63 ≤ c1, c1 < (2 : Int) ^ 63, c4]; some (ag [cz n (fun i ↦ int i64 (z i)) a, c4] (fork b (ag [(0 : Int) ≤ (2 : Int) ∧ (2 : Int) < (↑(3 : Nat) : Int), c4] (ag c2 (ag [c4] (leaf ret ([agg [agg [c8, c5, agg [AV.bool false, mag 0, mag 0]], c7]], c3))))) (ag c2 (ag [c4] (leaf ret ([agg [agg [c8, c5, rat (fV n (fun i ↦ int i64 (z i)) (ep n (fun i ↦ int i64 (z i)) c9)) 64], c7]], c3)))))) := by kernel_rfl
theorem TE {n : Nat} {z : Nat → Int} {a p m : Int} {b : Bool} : aI T zL [] 60 wQ (before wB [1,1,1,0,1]) ⟨aL 0 [.ptr 0 0 2 0 [], .int .i64 p, .int .i64 m, .bool b], [(0, jd n z a)], 1⟩ =
  let c4 : Prop := 0 < 1; let c2 : AV := agg [int i64 (0 : Int), nil, nil]; let c1 : Int := (1 : Int) + b6 n (fun i ↦ int i64 (z i)) a p; let c3 : AV := bA (agg (c2.kids.set 0 (bA (int i64 c1)))); some (ag [cz n (fun i ↦ int i64 (z i)) a, (0 : Int) < p, p < (2 : Int) ^ 62, -(2 : Int) ^ 63 ≤ c1 ∧ c1 < (2 : Int) ^ 63, c4] (ag [c4, cz n (fun i ↦ int i64 (z i)) (bn n a), (1 : Int) ≤ c1, c1 < (1000 : Int), (0 : Int) ≤ m, m < (1000 : Int), c4] (leaf normal ([ptr 0 0 2 0 [], AV.bool b, ptr 1 0 3 0 [], ptr 24577 0 3 0 [], int i64 (0 : Int)], [((24577 : Nat), az.mk false true 3 1 fun j ↦ if (j == 0) = true then agg ((if ((0 : Nat) == 0) = true then c3 else c2).kids.set 1 (bA (bH (oT n (fun i ↦ int i64 (z i)) (bn n a) c1.toNat m.toNat) (mM n (fun i ↦ int i64 (z i)) (bn n a) c1.toNat m.toNat) 64))) else if (j == 0) = true then c3 else c2), ((1 : Nat), az.mk false true 3 1 fun x ↦ c2), ((0 : Nat), az.mk false true 2 1 fun x ↦ agg [ak 1 n fun i ↦ int i64 (z i), int i64 (oy n (fun i ↦ int i64 (z i)) (bn n a) c1.toNat m.toNat)])])))) := by kernel_rfl
theorem Uo {n N j : Nat} {z : Nat → Int} {a p : Int} {k : Nat → Rat} {f : Nat → Pl} {b : Bool} : aI T zL [30] 60 wQ [part wB [1,1,1,0,1,0,0]] ⟨aB wQ (BH b j), Ep n z a p N k f j, 4⟩ =
  let c15 : Int := (↑j : Int); let c14 : Int := (↑N : Int) - p; let c13 : Int := ep n (fun i ↦ int i64 (z i)) a; let c12 : AV := own 3 12 0 j; let c11 : AV := ak 1 n fun i ↦ int i64 (z i); let c9 : AV := ptr 2 0 3 0 []; let c8 : AV := ptr 1 0 3 0 []; let c7 : AV := ptr 0 0 2 0 []; let c6 : Prop := 0 < 1; let c5 : AV := rat 0 1; let c2 : Nat × az := ((1 : Nat), az.mk false true 3 1 fun x ↦ agg [int i64 (0 : Int), nil, nil]); let c1 : Int := (2 : Int) ^ 63; let c10 : Int := c15 + (1 : Int); let c4 : Int := c14 - (1 : Int); let c3 : AV := agg [int i64 p, bH k N 64, c12]; some (ag [c6, c6, -c1 ≤ c14 ∧ c14 < c1, -c1 ≤ c4 ∧ c4 < c1] (fork (decide (c15 < c4)) (ag [c6, cz n (fun i ↦ int i64 (z i)) a, (1 : Nat) * 12 ≤ 2 ^ 24, (j + 1) * ((224 : Nat) + 1) * 2 ≤ 2 ^ 47, c6] (ag [-c1 ≤ c10 ∧ c10 < c1] (leaf normal ([c7, AV.bool b, c8, c9, int i64 c10], [((61444 : Nat), az.mk true true 12 (j + 1) fun i ↦ if i < j then cS (f i) 64 else nth [agg [agg [rat (fV n (fun i ↦ int i64 (z i)) a) 64, rat (fV n (fun i ↦ int i64 (z i)) c13) 64, rat (if b = true then 0 else fV n (fun i ↦ int i64 (z i)) (ep n (fun i ↦ int i64 (z i)) c13)) 64], rat (↑((1 : Int) + b6 n (fun i ↦ int i64 (z i)) (jn n (fun i ↦ int i64 (z i)) a) (3 : Int)) : Rat) 64]] (agg [agg [c5, c5, c5], c5]) (i - j + 0)), ((2 : Nat), az.mk false true 3 1 fun j_1 ↦ if (j_1 == 0) = true then agg (c3.kids.set 2 (bA (own (nat_lit 61443 + 1) 12 0 (j + 1)))) else c3), c2, ((0 : Nat), az.mk false true 2 1 fun x ↦ agg [c11, int i64 (CA n (fun i ↦ int i64 (z i)) a)])])))) (leaf (exit 0) ([c7, AV.bool b, c8, c9, int i64 c15], [((3 : Nat), az.mk true true 12 j fun i ↦ agg [agg [rat (f i).n.x 64, rat (f i).n.y 64, rat (f i).n.z 64], rat (f i).d 64]), ((2 : Nat), az.mk false true 3 1 fun x ↦ agg [int i64 p, ak 3 N fun i ↦ rat (k i) 64, c12]), c2, ((0 : Nat), az.mk false true 2 1 fun x ↦ agg [c11, int i64 a])])))) := by kernel_rfl
theorem QO {n N j : Nat} {z : Nat → Int} {a p : Int} {k : Nat → Rat} {f : Nat → Pl} {b : Bool} : An T zL [] 60 xA [part wB [1,1,1,1]] ⟨aB wQ (BH b j), Ep n z a p N k f j, 4⟩ =
  let c1 : Prop := 0 < 1; some (ag [c1, c1] (ag [c1] (leaf ret ([agg [int i64 p, ak 3 N fun i ↦ rat (k i) 64, ak 12 j fun i ↦ agg [agg [rat (f (i + 0)).n.x 64, rat (f (i + 0)).n.y 64, rat (f (i + 0)).n.z 64], rat (f (i + 0)).d 64]]], some (az.mk false true 2 1 fun x ↦ agg [ak 1 n fun i ↦ int i64 (z i), int i64 a]))))) := by kernel_rfl
theorem acT : aY P Lh := aF yJ (aF X1 (aF z9 bk))
theorem TL : ∀ K args pre r, fY CZ K args pre = some r → aA P Aq K args pre r := by
 refine rT fun {k n z a l v b q o} K hg ho hd hq => ?_
 unfold CZ at hg
 split at hg
 ·rename_i b
  simp only [Option.some.injEq, Prod.mk.injEq] at hg
  obtain ⟨rfl, rfl, rfl⟩ := hg
  refine As hT acT hm Pe rfl rfl (of_decide_eq_true (by kernel_rfl)) ho 60 VM (fun _ => ?_) K
  have a1 := ig (n := n) (f := fun i => .int .i64 (z i)) (a := jn n (fun i => .int .i64 (z i)) a) (m := 3) (by omega)
  have a2 := iw (n := n) (f := fun i => .int .i64 (z i)) (a := jn n (fun i => .int .i64 (z i)) a) (m := 3) (by omega)
  unfold nE
  generalize b6 n (fun i => .int .i64 (z i)) (jn n (fun i => .int .i64 (z i)) a) 3 = x at *
  have e1 : x.tmod 3 = x := by rw [Int.tmod_eq_of_lt a1 a2]
  have e2 : i64.wrap (1 + x) = 1 + x := wrap_i64 (by omega) (by omega)
  simp only [aa.all, ay, e1, e2]
  have hw : bB (.rat ((1 + x : Int) : Rat) (max 1 (bg (1 + x).natAbs))) (.rat ((1 + x : Int) : Rat) 64) := eM rfl (Ft (y := 0) (by omega) (by omega))
  refine ⟨⟨hd, by omega⟩, fun hb => ⟨by omega, ⟨by omega, hd.B5, by omega, by omega, by omega, by omega, by omega, by omega⟩, by omega, ?_, _, rfl, rfl, l5 rfl rfl⟩, fun hb => ⟨⟨by omega, hd.B5, by omega, by omega, by omega, by omega, by omega, by omega⟩, by omega, ?_, _, rfl, rfl, l5 rfl rfl⟩⟩
  ·rw [if_pos hb]
   exact dx ⟨dx ⟨.refl _, .refl _, pJ (q := (0 : Rat)) ⟨by decide, by decide⟩ rfl rfl rfl, trivial⟩, hw, trivial⟩
  ·rw [if_neg (by rw [hb]; decide)]
   exact dx ⟨.refl _, hw, trivial⟩
 ·simp at hg
theorem JC : aY P zL := cO (aF yJ (aF U7 (aF TL bk)))
def jR (n : Nat) (f : Nat → AV) (a : Int) : Nat → Int
 | 0 => a
 | j + 1 => CA n f (jR n f a j)
theorem cz.tZ {n : Nat} {f : Nat → AV} {a : Int} (h : cz n f a) : ∀ j, cz n f (jR n f a j)
 | 0 => h
 | j + 1 => (h.tZ j).B5.next
theorem cz.fE {n : Nat} {f : Nat → AV} {a : Int} {p m : Nat} (h : cz n f a) (hp : 1 ≤ p) : cz n f (oy n f a p m) := (yC h hp _).2
def j6 (n : Nat) (f : Nat → AV) (a d : Int) : Nat := (1 + b6 n f a d).toNat
def nR (n : Nat) (f : Nat → AV) (a d : Int) (m : Nat) : Int := oy n f (bn n a) (j6 n f a d) m
def gd (n : Nat) (f : Nat → AV) (a d : Int) (m : Nat) (b : Bool) : Cu :=
 ⟨(j6 n f a d : Nat), mM n f (bn n a) (j6 n f a d) m, oT n f (bn n a) (j6 n f a d) m, j6 n f a d + 1 + iY n f (bn n a) m, fun i => nE n f (jR n f (nR n f a d m) i) b⟩
def D3 (n : Nat) (f : Nat → AV) (a d : Int) (m : Nat) : Int := jR n f (nR n f a d m) (j6 n f a d + 1 + iY n f (bn n a) m)
def BV (n : Nat) (f : Nat → AV) (a : Int) (l : List AV) : Option (AV × Int × List Prop) := match l with
 | [.int .i64 d, .int .i64 m, .bool b] => some (en (gd n f a d m.toNat b) 64 64, D3 n f a d m.toNat, [1 ≤ d, d < 900, 0 ≤ m, m < 900])
 | _ => none
theorem KB {n : Nat} {f : Nat → AV} {a : Int} {m : Nat} : iY n f a m ≤ m := by
 have h1 := ig (n := n) (f := f) (a := bn n a) (m := m + 1) (by omega)
 have h2 := iw (n := n) (f := f) (a := bn n a) (m := m + 1) (by omega)
 unfold iY; omega
theorem aau {k n m : Nat} {z : Nat → Int} {a d : Int} {b : Bool} {o : az} (ho : ∀ ρ, cq ρ o (jd n z a)) (h : cz n (fun i => .int .i64 (z i)) a) (hd1 : 1 ≤ d) (hd2 : d < 900) (hm2 : m < 900) (K : Nat) :
  aA P xX K [.ptr k 0 2 0 [], .int .i64 d, .int .i64 m, .bool b] [(k, o)] ⟨en (gd n (fun i => .int .i64 (z i)) a d m b) 64 64, [(k, jd n z (D3 n (fun i => .int .i64 (z i)) a d m))], []⟩ := by
 refine Kw hT EK rfl rfl (of_decide_eq_true (by kernel_rfl)) ho (fun _ c hk => ?_) K
 have a1 := ig (n := n) (f := fun i => .int .i64 (z i)) (a := a) (m := d) (by omega)
 have a2 := iw (n := n) (f := fun i => .int .i64 (z i)) (a := a) (m := d) (by omega)
 have hJ := KB (n := n) (f := fun i => .int .i64 (z i)) (a := bn n a) (m := m)
 unfold gd D3 nR j6
 obtain ⟨p, hp⟩ : ∃ p, p = (1 + b6 n (fun i => .int .i64 (z i)) a d).toNat := ⟨_, rfl⟩
 have hp2 : 1 + b6 n (fun i => .int .i64 (z i)) a d = (p : Int) := by omega
 rw [← hp]
 have hB := (h.next.fE (p := p) (m := m) (by omega))
 obtain ⟨N, hN⟩ : ∃ N, N = mM n (fun i => .int .i64 (z i)) (bn n a) p m := ⟨_, rfl⟩
 obtain ⟨kk, hkk⟩ : ∃ kk, kk = oT n (fun i => .int .i64 (z i)) (bn n a) p m := ⟨_, rfl⟩
 obtain ⟨B, hB2⟩ : ∃ B, B = oy n (fun i => .int .i64 (z i)) (bn n a) p m := ⟨_, rfl⟩
 have hN2 : N = 2 * p + 2 + iY n (fun i => .int .i64 (z i)) (bn n a) m := hN
 rw [← hN, ← hkk, ← hB2]
 rw [← hB2] at hB
 generalize iY n (fun i => .int .i64 (z i)) (bn n a) m = J at *
 refine aq.kY hT JC hm [1,1,1,0,1] (i := 0) (y := part wB [1,1,1,0,1,0,0]) (z := part wB [1,1,1,1]) (by kernel_rfl) (by kernel_rfl) (by kernel_rfl) EK.dst hk (f1 := []) (f2 := [30]) 60 wQ 4 (fun j : Nat => BH b j)
  (fun j => Ep n z (jR n (fun i => .int .i64 (z i)) B j) p N kk (fun i => nE n (fun i => .int .i64 (z i)) (jR n (fun i => .int .i64 (z i)) B i) b) j) (fun j => j ≤ p + 1 + J) (fun j => j = p + 1 + J) (fun j => p + 1 + J - j) (fun _ => False) ⟨_, TE, ?_⟩ (fun j hj => ⟨_, Uo, ?_⟩) (fun j hj => ?_) (fun _ _ h => h.elim)
 ·simp only [aa.all, ay, hp2, Int.toNat_natCast]
  rw [← hN, ← hkk, ← hB2]
  exact ⟨⟨h, by omega, by omega, by omega, by omega⟩, ⟨by omega, h.next, by omega, by omega, by omega, by omega, by omega⟩, 0, Nat.zero_le _, [(0, 0), (1, 1), (2, 24577)], rfl, rfl, rfl,
   zf rfl (by omega) (by omega) (aR rfl rfl (pY ⟨⟨rfl, aH rfl⟩, ⟨rfl, aH rfl⟩, ⟨rfl, tF (by omega)⟩, trivial⟩) (aR rfl rfl (aM rfl rfl) (aR rfl rfl (aM rfl rfl) trivial)))⟩
 ·simp only [aa.all, ay, decide_eq_true_eq, decide_eq_false_iff_not]
  have hv : ∀ {rl : List (Nat × Nat)} {a l : Nat}, aS rl 3 = some a → fq rl (.agg [.int .i64 p, bH kk N 64, .own a 12 0 l]) (.agg [.int .i64 p, bH kk N 64, .own 3 12 0 l]) := fun h => pY ⟨⟨rfl, aH rfl⟩, ⟨rfl, aH rfl⟩, ⟨rfl, cF h rfl rfl⟩, trivial⟩
  refine ⟨⟨by omega, by omega, by omega, by omega⟩, fun h => ⟨⟨by omega, hB.tZ j, by omega, by omega, by omega⟩, by omega, j + 1, by omega, by dsimp only; omega, [(0, 0), (1, 1), (2, 2), (3, 61444)], rfl, rfl, rfl,
   bD rfl rfl rfl (fun i hi => Uv (y := fun i => nE n (fun i => .int .i64 (z i)) (jR n (fun i => .int .i64 (z i)) B i) b) (fun _ _ => rfl) (.refl _) rfl (Nat.le_refl _) (Nat.le_refl _) hi) (aR rfl rfl (hv rfl) (aR rfl rfl (aM rfl rfl) (aR rfl rfl (aM rfl rfl) trivial)))⟩,
   fun h => ⟨rfl, j, by omega, [(0, 0), (1, 1), (2, 2), (3, 3)], rfl, rfl, rfl, bD rfl rfl rfl (fun _ _ => aM rfl rfl) (aR rfl rfl (hv rfl) (aR rfl rfl (aM rfl rfl) (aR rfl rfl (aM rfl rfl) trivial)))⟩⟩
 ·subst hj
  refine aq.lJ (aC.KC hT JC hm 60 QO (by kernel_rfl) ?_)
  simp only [aa.all, ay]
  exact ⟨by omega, by omega, .refl _, _, rfl, rfl, l5 rfl rfl⟩
theorem Ms : ∀ K args pre r, fY BV K args pre = some r → aA P xX K args pre r := by
 refine rT fun {k n z a l v b q o} K hg ho hd hq => ?_
 unfold BV at hg
 split at hg
 ·rename_i d m b
  simp only [Option.some.injEq, Prod.mk.injEq] at hg
  obtain ⟨rfl, rfl, rfl⟩ := hg
  obtain ⟨h1, h2, h3, h4⟩ := hq
  have h4 : m < 900 := h4
  have := aau (k := k) (m := m.toNat) (b := b) ho hd h1 h2 (by omega) K
  rw [Int.toNat_of_nonneg h3] at this
  exact this
 ·simp at hg
theorem Oq {n m : Nat} {f : Nat → AV} {a d : Int} {b : Bool} (h : cz n f a) (hd : 1 ≤ d) : Kn (gd n f a d m b).n (gd n f a d m b).p.toNat (gd n f a d m b).k ∧ 1 ≤ (gd n f a d m b).p ∧ (gd n f a d m b).p ≤ d ∧ ((gd n f a d m b).m : Int) = ((gd n f a d m b).n : Int) - (gd n f a d m b).p - 1 ∧
  (gd n f a d m b).m ≤ (gd n f a d m b).p.toNat + 1 + m ∧ ∀ i, 1 ≤ ((gd n f a d m b).f i).d ∧ ((gd n f a d m b).f i).d ≤ 3 := by
 have a1 := ig (n := n) (f := f) (a := a) (m := d) (by omega)
 have a2 := iw (n := n) (f := f) (a := a) (m := d) (by omega)
 have hJ := KB (n := n) (f := f) (a := bn n a) (m := m)
 unfold gd
 obtain ⟨p, hp⟩ : ∃ p, p = j6 n f a d := ⟨_, rfl⟩
 have hp2 : 1 + b6 n f a d = (p : Int) := by rw [hp]; unfold j6; omega
 rw [← hp]
 dsimp only
 refine ⟨?_, by omega, by omega, ?_, by omega, fun i => ?_⟩
 ·rw [Int.toNat_natCast]
  exact (yC h.next (by omega) _).1.done
 ·have : mM n f (bn n a) p m = 2 * p + 2 + iY n f (bn n a) m := rfl
  omega
 ·have c1 := ig (n := n) (f := f) (a := jn n f (jR n f (nR n f a d m) i)) (m := 3) (by omega)
  have c2 := iw (n := n) (f := f) (a := jn n f (jR n f (nR n f a d m) i)) (m := 3) (by omega)
  unfold nE
  dsimp only
  generalize b6 n f (jn n f (jR n f (nR n f a d m) i)) 3 = x at *
  exact ⟨by exact_mod_cast (show 1 ≤ 1 + x by omega), by exact_mod_cast (show 1 + x ≤ 3 by omega)⟩
end Go.Am.B
