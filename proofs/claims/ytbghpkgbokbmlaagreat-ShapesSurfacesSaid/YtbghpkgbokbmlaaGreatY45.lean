/- brepkernelmade: Rat, Within; lists of numbers as arguments. -/
import Derived.Test.YtbghpkgbokbmlaaGreatB43
import Derived.Test.YtbghpkgbokbmlaaGreatY39
import Derived.Test.YtbghpkgbokbmlaaGreatZ2
import Derived.Test.YtbghpkgbokbmlaaGreatC4
import Derived.Test.YtbghpkgbokbmlaaGreatD1
set_option linter.unusedVariables false
namespace Go.Am.B
open Go Go.Am.N AV
def kL (s : Nat) : Kind (Nat × (Nat → Rat)) := ⟨fun v => match BA v with
 | some (n, f) => some ((n, fun i => aY (f i)), [bZ f n s])
 | none => none, fun a => bH a.2 a.1 s, fun {v a q} h hq => by
  split at h
  ·rename_i h1
   simp only [Option.some.injEq, Prod.mk.injEq] at h
   obtain ⟨rfl, rfl⟩ := h
   exact UR h1 hq
  ·simp at h⟩
def p0 (s : Nat) : Kind Rat := ⟨fun v => match fW v with
 | some (q, n) => some (q, [n ≤ s])
 | none => none, fun a => .rat a s, fun {v a q} h hq => by
  split at h
  ·rename_i h1
   simp only [Option.some.injEq, Prod.mk.injEq] at h
   obtain ⟨rfl, rfl⟩ := h
   exact (gv h1).trans (dF hq)
  ·simp at h⟩
structure o9 (α : Type) where
 read : List AV → Option (α × List Prop)
 make : α → List AV
 ok : ∀ {l : List AV} {a : α} {q : List Prop}, read l = some (a, q) → ax q → dB l (make a)
def kN : o9 Unit := ⟨fun l => match l with
 | [] => some ((), [])
 | _ => none, fun _ => [], fun {l a q} h _ => by
  split at h
  ·trivial
  ·simp at h⟩
def kC {α β : Type} (k : Kind α) (kl : o9 β) : o9 (α × β) := ⟨fun l => match l with
 | v :: l => match k.read v, kl.read l with
  | some (a, p), some (b, q) => some ((a, b), p ++ q)
  | _, _ => none
 | [] => none, fun a => k.make a.1 :: kl.make a.2, fun {l a q} h hq => by
  split at h
  ·split at h
   ·rename_i h1 h2
    simp only [Option.some.injEq, Prod.mk.injEq] at h
    obtain ⟨rfl, rfl⟩ := h
    obtain ⟨q1, q2⟩ := dn.1 hq
    exact ⟨k.ok h1 q1, kl.ok h2 q2⟩
   ·simp at h
  ·simp at h⟩
def eH {α : Type} (k : o9 α) (g : α → AV) (need : α → List Prop) : Spec := bA fun l => match k.read l with
 | some (a, p) => some (aF (g a) (p ++ need a))
 | none => none
theorem en {α : Type} {f : FuncId} {k : o9 α} {g : α → AV} {need : α → List Prop} (h : ∀ a K, ax (need a) → ay P f K (k.make a) [] (aF (g a) [])) : ∀ K args pre r, eH k g need K args pre = some r → ay P f K args pre r := by
 refine bQ fun K args r hk hs _ => ?_
 split at hs
 ·rename_i h1
  simp only [Option.some.injEq] at hs
  subst hs
  intro hn
  obtain ⟨n1, hn⟩ := dn.1 hn
  exact fk (h _ K hn) hk (k.ok h1 n1) [] trivial
 ·simp at hs
end Go.Am.B

/- brepkernelmade: Knots. -/
namespace Go.Am.B
open Go Go.Am.N AV aa ah IntKind
theorem Gn : aP P vZ sB (au sB) := aL QO (by kernel_rfl) (by kernel_rfl) (by kernel_rfl)
def kg : aO := nG :: (lE, fe pN) :: (ir, qx) :: (oE, yb) :: iy
abbrev iN (n : Nat) (z : Nat → Int) (a : Int) : aA := fZ n (fun i => .int .i64 (z i)) a
abbrev tO (t : Rat) : aA := ⟨false, true, 3, 1, fun _ => .rat t 64⟩
abbrev Wv (m : Nat) (k : Nat → Rat) : aA := ⟨true, true, 3, m, fun i => .rat (k i) 64⟩
abbrev n9 : List Nat := [0, 1, 2, 7, 8, 9]
abbrev x5 (p m : Int) (v : AV) (i : Int) : List AV := [.ptr 0 0 2 0 [], .int .i64 p, .int .i64 m, .ptr 1 0 3 0 [], v, .int .i64 i]
noncomputable abbrev qT : Code := au sB
noncomputable abbrev sS : Code := part qT [1,1,1,1]
noncomputable abbrev qc : Code := part sS [1]
abbrev rW : List Nat := [0, 1, 7, 8, 10]
abbrev rJ : List Nat := [0, 1, 7, 8, 11]
abbrev nY (p : Int) (l : Nat) (i : Int) : List AV := [.ptr 0 0 2 0 [], .int .i64 p, .ptr 1 0 3 0 [], .own 2 3 0 l, .int .i64 i]
abbrev jW (n : Nat) (z : Nat → Int) (a : Int) (t : Rat) (l : Nat) (k : Nat → Rat) : aC := [(2, Wv l k), (1, tO t), (0, iN n z a)]
theorem R5 {n : Nat} {z : Nat → Int} {a p m : Int} : aI T kg [] 60 n9 (before qT [1,1,1,0,1]) ⟨aK 0 [.ptr 0 0 2 0 [], .int .i64 p, .int .i64 m], [(0, iN n z a)], 1⟩ =
  let c2 : Int := (2 : Int) ^ 63; let c1 : Int := bY n (fun i ↦ int i64 (z i)) a (4 : Int) - (2 : Int); some (af [bT n (fun i ↦ int i64 (z i)) a, (0 : Int) < (4 : Int), (4 : Int) < (2 : Int) ^ 62, -c2 ≤ c1 ∧ c1 < c2, -c2 ≤ c1, c1 < c2, (0 : Nat) < 1] (leaf normal ([ptr 0 0 2 0 [], int i64 p, int i64 m, ptr 20481 0 3 0 [], nil, int i64 (0 : Int)], [((20481 : Nat), aA.mk false true 3 1 fun j ↦ if (j == 0) = true then bw (rat (↑c1 : Rat) (Max.max 1 (aQ c1.natAbs))) else rat 0 1), ((0 : Nat), aA.mk false true 2 1 fun x ↦ agg [aj 1 n fun i ↦ int i64 (z i), int i64 (bm n a)])]))) := by kernel_rfl
theorem Vv {n : Nat} {z : Nat → Int} {a p m : Int} {t : Rat} : aI T kg [18] 60 n9 [part qT [1,1,1,0,1,0,0]] ⟨aB n9 (x5 p m .nil 0), [(1, tO t), (0, iN n z a)], 3⟩ =
  let c3 : AV := ptr 1 0 3 0 []; let c2 : AV := ptr 0 0 2 0 []; let c1 : List (Nat × aA) := [((1 : Nat), aA.mk false true 3 1 fun x ↦ rat t 64), ((0 : Nat), aA.mk false true 2 1 fun x ↦ agg [aj 1 n fun i ↦ int i64 (z i), int i64 a])]; some (fork (decide ((0 : Int) ≤ p)) (af [(0 : Nat) < 1, (1 : Nat) * 3 ≤ 2 ^ 24, (0 : Nat) < 1 ∧ 1 * ((56 : Nat) + 1) * 2 ≤ 2 ^ 47] (af [-(2 : Int) ^ 63 ≤ (0 : Int) + (1 : Int) ∧ (0 : Int) + (1 : Int) < (2 : Int) ^ 63] (leaf normal ([c2, int i64 p, int i64 m, c3, own 24579 3 0 1, int i64 (1 : Int)], ((24579 : Nat), aA.mk true true 3 1 fun i ↦ nth [rat t 64] (rat 0 1) (i + 0)) :: c1)))) (leaf (exit 0) ([c2, int i64 p, int i64 m, c3, nil, int i64 (0 : Int)], c1))) := by kernel_rfl
theorem T5 {n j : Nat} {z : Nat → Int} {a p m : Int} {t : Rat} {k : Nat → Rat} : aI T kg [18] 60 n9 [part qT [1,1,1,0,1,0,0]] ⟨aB n9 (x5 p m (.own 2 3 0 (j + 1)) ((j + 1 : Nat) : Int)), jW n z a t (j + 1) k, 3⟩ =
  let c4 : AV := ptr 1 0 3 0 []; let c3 : AV := ptr 0 0 2 0 []; let c2 : Nat := j + 1; let c1 : List (Nat × aA) := [((1 : Nat), aA.mk false true 3 1 fun x ↦ rat t 64), ((0 : Nat), aA.mk false true 2 1 fun x ↦ agg [aj 1 n fun i ↦ int i64 (z i), int i64 a])]; let c7 : Nat := c2 + 1; let c6 : Int := (↑c2 : Int); let c5 : Int := c6 + (1 : Int); some (fork (decide (c6 ≤ p)) (af [(0 : Nat) < 1, (1 : Nat) * 3 ≤ 2 ^ 24, c7 * ((56 : Nat) + 1) * 2 ≤ 2 ^ 47] (af [-(2 : Int) ^ 63 ≤ c5 ∧ c5 < (2 : Int) ^ 63] (leaf normal ([c3, int i64 p, int i64 m, c4, own 24579 3 0 c7, int i64 c5], ((24579 : Nat), aA.mk true true 3 c7 fun i ↦ if i < c2 then rat (k i) 64 else nth [rat t 64] (rat 0 1) (i - c2 + 0)) :: c1)))) (leaf (exit 0) ([c3, int i64 p, int i64 m, c4, own 2 3 0 c2, int i64 c6], ((2 : Nat), aA.mk true true 3 c2 fun i ↦ rat (k i) 64) :: c1))) := by kernel_rfl
theorem Ml {n j : Nat} {z : Nat → Int} {a p m : Int} {t : Rat} {k : Nat → Rat} : aI T kg [] 60 rW (before sS [0,1]) ⟨aB n9 (x5 p m (.own 2 3 0 (j + 1)) ((j + 1 : Nat) : Int)), jW n z a t (j + 1) k, 3⟩ =
  let c1 : Int := m + (1 : Int); some (af [-(2 : Int) ^ 63 ≤ c1 ∧ c1 < (2 : Int) ^ 63, bT n (fun i ↦ int i64 (z i)) a, (0 : Int) < c1, c1 < (2 : Int) ^ 62] (leaf normal ([ptr 0 0 2 0 [], int i64 p, ptr 1 0 3 0 [], own 2 3 0 (j + 1), int i64 (bY n (fun i ↦ int i64 (z i)) a c1)], [((2 : Nat), aA.mk true true 3 (j + 1) fun i ↦ rat (k i) 64), ((1 : Nat), aA.mk false true 3 1 fun x ↦ rat t 64), ((0 : Nat), aA.mk false true 2 1 fun x ↦ agg [aj 1 n fun i ↦ int i64 (z i), int i64 (bm n a)])]))) := by kernel_rfl
theorem V9 {n l : Nat} {z : Nat → Int} {a p i : Int} {t : Rat} {k : Nat → Rat} : aI T kg [30, 38, 43, 53] 60 rW [part sS [0,1,0,0]] ⟨aB rW (nY p l i), jW n z a t l k, 3⟩ =
  let c40 : Int := i - (1 : Int); let c39 : Nat := 64 + 64 + 1; let c35 : AV := rat t 64; let c34 : AV := rat 0 1; let c33 : Int := bm n a; let c31 : Nat := l + 1; let c30 : Prop := (0 : Int) < (3 : Int); let c28 : Prop := bT n (fun i ↦ int i64 (z i)) a; let c27 : Int := (↑l : Int); let c25 : AV := ptr 1 0 3 0 []; let c24 : AV := ptr 0 0 2 0 []; let c23 : Prop := 0 < 1; let c21 : Int := (2 : Int) ^ 62; let c20 : AV := aj 1 n fun i ↦ int i64 (z i); let c18 : Int := p + (1 : Int); let c16 : Prop := 64 < 2 ^ 41; let c7 : Int := bY n (fun i ↦ int i64 (z i)) a (3 : Int); let c5 : Int := (2 : Int) ^ 63; let c43 : Int := bm n c33; let c41 : Bool := c27 == c18; let c38 : Prop := bT n (fun i ↦ int i64 (z i)) c33; let c37 : Prop := (3 : Int) < c21; let c32 : Prop := -c5 ≤ c18 ∧ c18 < c5; let c29 : Int := (1 : Int) + c7; let c26 : Nat × aA := ((1 : Nat), aA.mk false true 3 1 fun x ↦ c35); let c22 : Bool := bif false then true else decide (c7 > (0 : Int)); let c19 : List Prop := [-c5 ≤ c40 ∧ c40 < c5]; let c17 : Nat := (c27 - p).toNat + 0; let c15 : Nat × aA := ((106499 : Nat), aA.mk true true 3 c31 fun i ↦ if i < l then rat (k i) 64 else nth [c35] c34 (i - l + 0)); let c13 : List AV := [c24, int i64 p, c25, own 147459 3 0 c31, int i64 c40]; let c12 : List AV := [c24, int i64 p, c25, own 106499 3 0 c31, int i64 c40]; let c10 : Int := (1 : Int) + bY n (fun i ↦ int i64 (z i)) c33 (2 : Int); let c9 : Int := (1 : Int) + bY n (fun i ↦ int i64 (z i)) c33 (3 : Int); let c6 : List Prop := [c23, (1 : Nat) * 3 ≤ 2 ^ 24, c31 * ((56 : Nat) + 1) * 2 ≤ 2 ^ 47]; let c42 : Rat := (↑c29 : Rat) / (↑c10 : Rat); let c36 : Bool := bif false then true else decide (t = k c17); let c14 : List (Nat × aA) := [c26, ((0 : Nat), aA.mk false true 2 1 fun x ↦ agg [c20, int i64 a])]; let c11 : List Prop := [c23, -c5 ≤ c27 - p ∧ c27 - p < c5, (0 : Int) ≤ c27 - p ∧ (c27 - p).toNat < l, c17 < l, c16, c16]; let c8 : Int := (1 : Int) + bY n (fun i ↦ int i64 (z i)) c43 (2 : Int); let c3 : aa (List AV × aC) := af c6 (af c19 (leaf normal (c12, [c15, c26, ((0 : Nat), aA.mk false true 2 1 fun x ↦ agg [c20, int i64 c33])]))); let c44 : Rat := (↑c9 : Rat) / (↑c8 : Rat); let c4 : aa (List AV × aC) := af c6 (af c19 (leaf normal (c12, c15 :: c14))); let c2 : aa (List AV × aC) := af [c23, c28, c30, c37, -c5 ≤ c29 ∧ c29 < c5, c38, (0 : Int) < (2 : Int), (2 : Int) < c21, -c5 ≤ c10 ∧ c10 < c5, -c5 ≤ c29, c29 < c5, -c5 ≤ c10, c10 < c5, c16, c16, c23] (af c6 (af c19 (leaf normal (c13, [((147459 : Nat), aA.mk true true 3 c31 fun i ↦ if i < l then rat (k i) 64 else nth [rat (t + c42) c39] c34 (i - l + 0)), ((1 : Nat), aA.mk false true 3 1 fun j ↦ if (j == 0) = true then bw (jt (t, (64 : Nat)) (c42, (64 : Nat))) else c35), ((0 : Nat), aA.mk false true 2 1 fun x ↦ agg [c20, int i64 c43])])))); let c1 : aa (List AV × aC) := af [c23, c38, c30, c37, -c5 ≤ c9 ∧ c9 < c5, bT n (fun i ↦ int i64 (z i)) c43, (0 : Int) < (2 : Int), (2 : Int) < c21, -c5 ≤ c8 ∧ c8 < c5, -c5 ≤ c9, c9 < c5, -c5 ≤ c8, c8 < c5, c16, c16, c23] (af c6 (af c19 (leaf normal (c13, [((147459 : Nat), aA.mk true true 3 c31 fun i ↦ if i < l then rat (k i) 64 else nth [rat (t + c44) c39] c34 (i - l + 0)), ((1 : Nat), aA.mk false true 3 1 fun j ↦ if (j == 0) = true then bw (jt (t, (64 : Nat)) (c44, (64 : Nat))) else c35), ((0 : Nat), aA.mk false true 2 1 fun x ↦ agg [c20, int i64 (bm n c43)])])))); some (fork (decide (i > (0 : Int))) (fork c41 (fork true (af [c32, c41 = true, true = true] (fork true c2 c4)) (af (c32 :: (c41 = true) :: (true = false) :: c11) (fork c36 c2 c4))) (fork c22 (af [c32, c41 = false, c28, c30, c37, c22 = true] (fork true c1 c3)) (af (c32 :: (c41 = false) :: c28 :: c30 :: c37 :: (c22 = false) :: c11) (fork c36 c1 c3)))) (leaf (exit 2) ([c24, int i64 p, c25, own 2 3 0 l, int i64 i], ((2 : Nat), aA.mk true true 3 l fun i ↦ rat (k i) 64) :: c14))) := by kernel_rfl
theorem Lp {n l : Nat} {z : Nat → Int} {a p i : Int} {t : Rat} {k : Nat → Rat} : aI T kg [] 60 rJ (before qc [1,0,1]) ⟨aB rW (nY p l i), jW n z a t l k, 3⟩ =
  let c1 : Nat := Max.max 1 (aQ (Int.natAbs (1 : Int))); some (af [(0 : Nat) < 1, -(2 : Int) ^ 63 ≤ (1 : Int), (1 : Int) < (2 : Int) ^ 63, (64 : Nat) < 2 ^ 41, c1 < 2 ^ 41, (0 : Nat) < 1] (leaf normal ([ptr 0 0 2 0 [], int i64 p, ptr 1 0 3 0 [], own 2 3 0 l, int i64 (0 : Int)], [((2 : Nat), aA.mk true true 3 l fun i ↦ rat (k i) 64), ((1 : Nat), aA.mk false true 3 1 fun j ↦ if (j == 0) = true then bw (jt (t, (64 : Nat)) ((↑(1 : Int) : Rat), c1)) else rat t 64), ((0 : Nat), aA.mk false true 2 1 fun x ↦ agg [aj 1 n fun i ↦ int i64 (z i), int i64 a])]))) := by kernel_rfl
theorem Xz {n l : Nat} {z : Nat → Int} {a p i : Int} {t : Rat} {k : Nat → Rat} : aI T kg [72] 60 rJ [part qc [1,0,1,0,0]] ⟨aB rJ (nY p l i), jW n z a t l k, 3⟩ =
  let c3 : AV := ptr 1 0 3 0 []; let c2 : AV := ptr 0 0 2 0 []; let c1 : List (Nat × aA) := [((1 : Nat), aA.mk false true 3 1 fun x ↦ rat t 64), ((0 : Nat), aA.mk false true 2 1 fun x ↦ agg [aj 1 n fun i ↦ int i64 (z i), int i64 a])]; some (fork (decide (i ≤ p)) (af [(0 : Nat) < 1, (1 : Nat) * 3 ≤ 2 ^ 24, (l + 1) * ((56 : Nat) + 1) * 2 ≤ 2 ^ 47] (af [-(2 : Int) ^ 63 ≤ i + (1 : Int) ∧ i + (1 : Int) < (2 : Int) ^ 63] (leaf normal ([c2, int i64 p, c3, own 24579 3 0 (l + 1), int i64 (i + (1 : Int))], ((24579 : Nat), aA.mk true true 3 (l + 1) fun i ↦ if i < l then rat (k i) 64 else nth [rat t 64] (rat 0 1) (i - l + 0)) :: c1)))) (leaf (exit 4) ([c2, int i64 p, c3, own 2 3 0 l, int i64 i], ((2 : Nat), aA.mk true true 3 l fun i ↦ rat (k i) 64) :: c1))) := by kernel_rfl
theorem SP {n l : Nat} {z : Nat → Int} {a p i : Int} {t : Rat} {k : Nat → Rat} : wW T kg [] 60 sB [part qc [1,1]] ⟨aB rJ (nY p l i), jW n z a t l k, 3⟩ =
  some (leaf ret ([aj 3 l fun i ↦ rat (k (i + 0)) 64], some (aA.mk false true 2 1 fun x ↦ agg [aj 1 n fun i ↦ int i64 (z i), int i64 a]))) := by kernel_rfl
structure o6 where
 k : Nat → Rat
 t : Rat
 a : Int
def ni (n : Nat) (f : Nat → AV) (t : Rat) (a : Int) : Rat := t + ((1 + bY n f a 3 : Int) : Rat) / ((1 + bY n f (bm n a) 2 : Int) : Rat)
def nV (n : Nat) (f : Nat → AV) (p j : Nat) (s : o6) : o6 :=
 if j = 0 ∨ 0 < bY n f s.a 3 ∨ s.t = s.k (j + 1) then
  ⟨jR s.k (p + 1 + j) (ni n f s.t (if j = 0 then s.a else bm n s.a)), ni n f s.t (if j = 0 then s.a else bm n s.a), bm n (bm n (if j = 0 then s.a else bm n s.a))⟩
 else ⟨jR s.k (p + 1 + j) s.t, s.t, if j = 0 then s.a else bm n s.a⟩
def me (n : Nat) (f : Nat → AV) (p : Nat) (s0 : o6) : Nat → o6
 | 0 => s0
 | j + 1 => nV n f p j (me n f p s0 j)
def lJ (n : Nat) (f : Nat → AV) (a : Int) : o6 := ⟨fun _ => ((bY n f a 4 - 2 : Int) : Rat), ((bY n f a 4 - 2 : Int) : Rat), bm n (bm n a)⟩
def iD (n : Nat) (f : Nat → AV) (a : Int) (m : Nat) : Nat := (bY n f (bm n a) (m + 1)).toNat
def xN (n : Nat) (f : Nat → AV) (a : Int) (p m : Nat) : o6 := me n f p (lJ n f a) (iD n f a m)
def mm (n : Nat) (f : Nat → AV) (a : Int) (p m : Nat) : Nat := 2 * p + 2 + iD n f a m
def lD (n : Nat) (f : Nat → AV) (a : Int) (p m : Nat) : Nat → Rat := iZ p (iD n f a m) (xN n f a p m).k (xN n f a p m).t
def oB (n : Nat) (f : Nat → AV) (a : Int) (p m : Nat) : Int := (xN n f a p m).a
theorem yy {n : Nat} {f : Nat → AV} {a : Int} {p : Nat} (hd : bT n f a) (hp : 1 ≤ p) : ∀ j, KG p j (me n f p (lJ n f a) j).k (me n f p (lJ n f a) j).t ∧ bT n f (me n f p (lJ n f a) j).a
 | 0 => by
  have h1 := gp (n := n) (f := f) (a := a) (m := 4) (by omega)
  have h2 := g7 (n := n) (f := f) (a := a) (m := 4) (by omega)
  exact ⟨KG.start hp (by omega) (by omega), hd.next.next⟩
 | j + 1 => by
  obtain ⟨h1, h2⟩ := yy hd hp j
  unfold me nV ni
  generalize me n f p (lJ n f a) j = s at *
  obtain ⟨k, t, b⟩ := s
  simp only at h1 h2 ⊢
  have hb : bT n f (if j = 0 then b else bm n b) := by split; exact h2; exact h2.next
  generalize (if j = 0 then b else bm n b) = a1 at *
  split
  ·have x1 := gp (n := n) (f := f) (a := a1) (m := 3) (by omega)
   have x2 := g7 (n := n) (f := f) (a := a1) (m := 3) (by omega)
   have y1 := gp (n := n) (f := f) (a := bm n a1) (m := 2) (by omega)
   have y2 := g7 (n := n) (f := f) (a := bm n a1) (m := 2) (by omega)
   refine ⟨h1.next (.inl ?_), hb.next.next⟩
   generalize bY n f a1 3 = x at *
   generalize bY n f (bm n a1) 2 = y at *
   have key : ∃ z : Int, ((1 + x : Int) : Rat) / ((1 + y : Int) : Rat) = (z : Rat) / 2 ∧ 1 ≤ z ∧ z ≤ 6 := by
    rcases (show y = 0 ∨ y = 1 by omega) with h | h
    ·subst h
     refine ⟨2 * (1 + x), ?_, by omega, by omega⟩
     have : ((2 * (1 + x) : Int) : Rat) = 2 * ((1 + x : Int) : Rat) := by simp
     rw [this]
     generalize ((1 + x : Int) : Rat) = w
     simp; grind
    ·subst h
     exact ⟨1 + x, by simp, by omega, by omega⟩
   obtain ⟨z, e, z1, z2⟩ := key
   rw [e]
   refine ⟨?_, z, rfl, z2⟩
   have : (1 : Rat) ≤ (z : Rat) := by exact_mod_cast z1
   grind
  ·rename_i hc
   have hc1 : ¬ j = 0 := fun h => hc (.inl h)
   have hc2 : ¬ t = k (j + 1) := fun h => hc (.inr (.inr h))
   exact ⟨h1.next (.inr ⟨rfl, by omega, hc2⟩), hb⟩
theorem HV {z : Int} (h1 : -2 ^ 63 ≤ z) (h2 : z < 2 ^ 63) : Sz ((z : Rat) / 2) 64 := by
 have := I4 h1 h2 (y := 2) (by omega) (by omega) (by omega)
 simpa using this
theorem KG.sz {p j : Nat} {k : Nat → Rat} {t : Rat} (h : KG p j k t) (hj : j < 2 ^ 50) : Sz t 64 := by
 obtain ⟨z, e, h1, h2⟩ := h.half (p + j) (Nat.le_refl _)
 rw [h.top] at e
 rw [e]
 exact HV (by omega) (by omega)
theorem Yx {J j : Nat} (h : j < J) : ((J - j : Nat) : Int) - 1 = ((J - (j + 1) : Nat) : Int) := by omega
theorem Cm {rl : List (Nat × Nat)} {l i : Nat} {k k' : Nat → Rat} {t : Rat} {s : Nat} (hk : k' = jR k l t) (ht : Sz t 64) (hi : i < l + 1) : gm rl (if i < l then .rat (k i) 64 else nth [.rat t s] (.rat 0 1) (i - l + 0)) (.rat (k' i) 64) := by
 subst hk
 by_cases h : i < l
 ·rw [if_pos h, jq (by omega)]; exact aR rfl rfl
 ·have : i = l := by omega
  subst this
  rw [if_neg h, pV, Nat.sub_self]
  exact .inr ⟨rfl, eE rfl ht⟩
theorem y6 : aW P kg := ep (aD yt (aD sX (aD Bm jw)))
theorem QD {k n p m : Nat} {z : Nat → Int} {a : Int} {o : aA} (ho : ∀ ρ, cH ρ o (iN n z a)) (h : bT n (fun i => .int .i64 (z i)) a) (hp : 1 ≤ p) (hp2 : p < 1000) (hm2 : m < 1000) (K : Nat) :
  ay P vZ K [.ptr k 0 2 0 [], .int .i64 p, .int .i64 m] [(k, o)] ⟨bH (lD n (fun i => .int .i64 (z i)) a p m) (mm n (fun i => .int .i64 (z i)) a p m) 64, [(k, iN n z (oB n (fun i => .int .i64 (z i)) a p m))], []⟩ := by
 refine IU hT Gn rfl rfl (of_decide_eq_true (by kernel_rfl)) ho (fun _ c hk => ?_) K
 have a1 := gp (n := n) (f := fun i => .int .i64 (z i)) (a := a) (m := 4) (by omega)
 have a2 := g7 (n := n) (f := fun i => .int .i64 (z i)) (a := a) (m := 4) (by omega)
 have b1 := gp (n := n) (f := fun i => .int .i64 (z i)) (a := bm n a) (m := m + 1) (by omega)
 have b2 := g7 (n := n) (f := fun i => .int .i64 (z i)) (a := bm n a) (m := m + 1) (by omega)
 have hS := yy h hp
 unfold oB lD mm xN at *
 obtain ⟨J, hJ⟩ : ∃ J, J = iD n (fun i => .int .i64 (z i)) a m := ⟨_, rfl⟩
 have hJ2 : bY n (fun i => .int .i64 (z i)) (bm n a) (m + 1) = (J : Int) := by rw [hJ]; unfold iD; omega
 rw [← hJ] at *
 have hJ3 : J < 1000 := by omega
 obtain ⟨S, hSd⟩ : ∃ S, S = me n (fun i => .int .i64 (z i)) p (lJ n (fun i => .int .i64 (z i)) a) := ⟨_, rfl⟩
 have h00 : S 0 = lJ n (fun i => .int .i64 (z i)) a := by rw [hSd]; rfl
 have hS1 : ∀ j, S (j + 1) = nV n (fun i => .int .i64 (z i)) p j (S j) := fun j => by rw [hSd]; rfl
 rw [← hSd] at hS ⊢
 clear hSd hJ
 obtain ⟨t0, ht0⟩ : ∃ t0 : Rat, t0 = ((bY n (fun i => .int .i64 (z i)) a 4 - 2 : Int) : Rat) := ⟨_, rfl⟩
 unfold lJ at h00
 rw [← ht0] at h00
 have hs0 : Sz t0 64 := by have := (hS 0).1.sz (by omega); rw [h00] at this; exact this
 refine ak.kz hT y6 hm [1,1,1,0,1] (i := 0) (y := part qT [1,1,1,0,1,0,0]) (z := sS) (by kernel_rfl) (by kernel_rfl) (by kernel_rfl) Gn.dst hk (f1 := []) (f2 := [18]) 60 n9 3
  (fun j : Nat => x5 p m (match j with
   | 0 => .nil
   | _ + 1 => .own 2 3 0 j) j) (fun j => match j with
   | 0 => [(1, tO t0), (0, iN n z (bm n a))]
   | _ + 1 => jW n z (bm n a) t0 j (fun _ => t0)) (fun j => j ≤ p + 1) (fun j => j = p + 1) (fun j => p + 1 - j) (fun _ => False) ⟨_, R5, ?_⟩ (fun j hj => ?_) (fun j hj => ?_) (fun _ _ h => h.elim)
 ·simp only [aa.all, ax]
  refine ⟨⟨h, by omega, by omega, by omega, by omega, by omega, by omega⟩, 0, by omega, [(0, 0), (1, 20481)], rfl, rfl, rfl, aU rfl rfl (.inr ⟨rfl, ?_⟩) (aU rfl rfl (aR rfl rfl) trivial)⟩
  rw [← ht0]
  exact eE rfl hs0
 ·cases j with
  | zero =>
   refine ⟨_, Vv, ?_⟩
   simp only [aa.all, ax, decide_eq_true_eq, decide_eq_false_iff_not]
   refine ⟨fun _ => ⟨by omega, by omega, 1, by omega, by dsimp only; omega, [(0, 0), (1, 1), (2, 24579)], rfl, rfl, rfl, cz rfl rfl rfl (fun i hi => ?_) (aU rfl rfl (aR rfl rfl) (aU rfl rfl (aR rfl rfl) trivial))⟩, fun h => by omega⟩
   have : i = 0 := by omega
   subst this
   exact aR rfl rfl
  | succ j =>
   refine ⟨_, T5, ?_⟩
   simp only [aa.all, ax, decide_eq_true_eq, decide_eq_false_iff_not]
   refine ⟨fun _ => ⟨by omega, by omega, j + 2, by omega, by dsimp only; omega, [(0, 0), (1, 1), (2, 24579)], rfl, rfl, rfl, cz rfl rfl rfl (fun i hi => Cm (by funext i; unfold jR; split <;> rfl) hs0 hi) (aU rfl rfl (aR rfl rfl) (aU rfl rfl (aR rfl rfl) trivial))⟩,
    fun _ => ⟨rfl, j + 1, by omega, [(0, 0), (1, 1), (2, 2)], rfl, rfl, rfl, cz rfl rfl rfl (fun i hi => aR rfl rfl) (aU rfl rfl (aR rfl rfl) (aU rfl rfl (aR rfl rfl) trivial))⟩⟩
 subst hj
 refine ak.kz hT y6 hm [0,1] (i := 2) (y := part sS [0,1,0,0]) (z := qc) (by kernel_rfl) (by kernel_rfl) (by kernel_rfl) (by kernel_rfl) hk (f1 := []) (f2 := [30, 38, 43, 53]) 60 rW 3
  (fun j : Nat => nY p (p + 1 + j) ((J - j : Nat) : Int)) (fun j => jW n z (S j).a (S j).t (p + 1 + j) (S j).k) (fun j => j ≤ J) (fun j => j = J) (fun j => J - j) (fun _ => False) ⟨_, Ml, ?_⟩ (fun j hj => ?_) (fun j hj => ?_) (fun _ _ h => h.elim)
 ·simp only [aa.all, ax]
  rw [hJ2]
  refine ⟨⟨by omega, h.next, by omega, by omega⟩, 0, by omega, [(0, 0), (1, 1), (2, 2)], rfl, rfl, rfl, ?_⟩
  dsimp only
  rw [h00]
  exact cz rfl rfl rfl (fun i hi => aR rfl rfl) (aU rfl rfl (aR rfl rfl) (aU rfl rfl (aR rfl rfl) trivial))
 ·refine ⟨_, V9, ?_⟩
  have hj1 := hS1 j
  obtain ⟨hg, hd⟩ := hS j
  have hs1 : ∀ {j}, j < 2000 → Sz (S j).t 64 := fun hj => (hS _).1.sz (by omega)
  have hsj := hs1 (j := j) (by omega)
  have hsj1 := hs1 (j := j + 1) (by omega)
  have e1 : (((p + 1 + j : Nat) : Int) - (p : Int)).toNat + 0 = j + 1 := by omega
  simp only [aa.all, ax, decide_eq_true_eq, decide_eq_false_iff_not, beq_iff_eq, beq_eq_false_iff_ne, e1, cond_false]
  have v3 := fun a => And.intro (gp (n := n) (f := fun i => .int .i64 (z i)) (a := a) (m := 3) (by omega)) (g7 (n := n) (f := fun i => .int .i64 (z i)) (a := a) (m := 3) (by omega))
  have v2 := fun a => And.intro (gp (n := n) (f := fun i => .int .i64 (z i)) (a := a) (m := 2) (by omega)) (g7 (n := n) (f := fun i => .int .i64 (z i)) (a := a) (m := 2) (by omega))
  have q1 := v3 (S j).a
  have q2 := v3 (bm n (S j).a)
  have q3 := v2 (bm n (S j).a)
  have q4 := v2 (bm n (bm n (S j).a))
  refine ⟨fun hi => ?_, fun hi => ⟨rfl, j, by omega, [(0, 0), (1, 1), (2, 2)], rfl, rfl, rfl, cz rfl rfl rfl (fun i hi => aR rfl rfl) (aU rfl rfl (aR rfl rfl) (aU rfl rfl (aR rfl rfl) trivial))⟩⟩
  have hlt : j < J := by omega
  have fin : ∀ (key : Nat) (t : Rat) (s s2 : Nat) (b : Int) (g : Nat → AV), S (j + 1) = ⟨jR (S j).k (p + 1 + j) t, t, b⟩ → g 0 = .rat t s2 → (gM 3 [(0, 0), (1, 1), (2, key)]) = true → (key == 1) = false → (key == 0) = false →
    Round [0] (fun j => nY p (p + 1 + j) ((J - j : Nat) : Int)) (fun j => jW n z (S j).a (S j).t (p + 1 + j) (S j).k) 3 (fun j => j ≤ J) (fun j => j = J) (fun j => J - j) 2 (fun _ => False) j normal
     ([ptr 0 0 2 0 [], int i64 p, ptr 1 0 3 0 [], own key 3 0 (p + 1 + j + 1), int i64 (((J - j : Nat) : Int) - 1)], [(key, ⟨true, true, 3, p + 1 + j + 1, fun i => if i < p + 1 + j then .rat ((S j).k i) 64 else nth [.rat t s] (.rat 0 1) (i - (p + 1 + j) + 0)⟩), (1, ⟨false, true, 3, 1, g⟩), (0, iN n z b)]) := by
   intro key t s s2 b g e1 e2 e3 hk1 hk0
   rw [e1] at hsj1
   refine ⟨j + 1, by omega, by dsimp only; omega, [(0, 0), (1, 1), (2, key)], by rw [e3]; rfl, by rw [Yx hlt]; rfl, rfl, ?_⟩
   dsimp only
   rw [e1]
   exact cz rfl X9 rfl (fun i hi => Cm rfl hsj1 hi) (aU rfl ((Ie hk1).trans rfl) (.inr ⟨by rw [e2]; rfl, by rw [e2]; exact eE rfl hsj1⟩) (aU rfl ((Ie hk0).trans rfl) (aR rfl rfl) trivial))
  refine ⟨fun hl => ?_, fun hl => ⟨fun hc => ?_, fun hc => ?_⟩⟩
  all_goals (repeat' with_reducible first | refine And.intro ?_ ?_ | intro _)
  all_goals first | omega | exact hd | exact hd.next | exact hd.next.next | skip
  all_goals try exact absurd ‹true = false› (by decide)
  ·refine fin 147459 _ _ _ _ _ ?_ rfl rfl rfl rfl
   rw [hj1]; unfold nV ni
   have hj0 : j = 0 := by omega
   rw [if_pos (.inl hj0), if_pos hj0]
  ·refine fin 147459 _ _ _ _ _ ?_ rfl rfl rfl rfl
   rw [hj1]; unfold nV ni
   have hj0 : j ≠ 0 := by omega
   rw [if_pos (.inr (.inl hc)), if_neg hj0]
  ·refine fin 147459 _ _ _ _ _ ?_ rfl rfl rfl rfl
   rw [hj1]; unfold nV ni
   have hj0 : j ≠ 0 := by omega
   rename_i hk
   rw [if_pos (.inr (.inr hk)), if_neg hj0]
  ·refine fin 106499 _ _ _ _ _ ?_ rfl rfl rfl rfl
   rw [hj1]; unfold nV ni
   have hj0 : j ≠ 0 := by omega
   rename_i hk
   rw [if_neg (by simp only [hj0, hk, or_false, false_or]; omega), if_neg hj0]
 subst hj
 have hs1 : Sz ((S j).t + 1) 64 := by
  obtain ⟨z, e, h1, h2⟩ := (hS j).1.Xk (p + 1 + j)
  unfold iZ at e
  rw [if_neg (by omega)] at e
  rw [e]; exact HV (by omega) (by omega)
 refine ak.kz hT y6 hm [1,0,1] (i := 4) (y := part qc [1,0,1,0,0]) (z := part qc [1,1]) (by kernel_rfl) (by kernel_rfl) (by kernel_rfl) (by kernel_rfl) hk (f1 := []) (f2 := [72]) 60 rJ 3
  (fun i : Nat => nY p (p + 1 + j + i) i) (fun i => jW n z (S j).a ((S j).t + 1) (p + 1 + j + i) (iZ p j (S j).k (S j).t)) (fun i => i ≤ p + 1) (fun i => i = p + 1) (fun i => p + 1 - i) (fun _ => False) ⟨_, Lp, ?_⟩ (fun i hi => ?_) (fun i hi => ?_) (fun _ _ h => h.elim)
 ·simp only [aa.all, ax]
  refine ⟨⟨by omega, by omega, by omega, by omega, by decide, by omega⟩, 0, by omega, [(0, 0), (1, 1), (2, 2)], rfl, rfl, rfl, cz rfl rfl rfl (fun i hi => ?_) (aU rfl rfl (.inr ⟨rfl, eE rfl hs1⟩) (aU rfl rfl (aR rfl rfl) trivial))⟩
  refine aR rfl ?_
  unfold iZ
  rw [if_pos (by omega)]
 ·refine ⟨_, Xz, ?_⟩
  simp only [aa.all, ax, decide_eq_true_eq, decide_eq_false_iff_not]
  refine ⟨fun _ => ⟨by omega, by omega, i + 1, by omega, by dsimp only; omega, [(0, 0), (1, 1), (2, 24579)], rfl, rfl, rfl, cz rfl rfl rfl (fun i hi => Cm ?_ hs1 hi) (aU rfl rfl (aR rfl rfl) (aU rfl rfl (aR rfl rfl) trivial))⟩,
   fun _ => ⟨rfl, i, by omega, [(0, 0), (1, 1), (2, 2)], rfl, rfl, rfl, cz rfl rfl rfl (fun i hi => aR rfl rfl) (aU rfl rfl (aR rfl rfl) (aU rfl rfl (aR rfl rfl) trivial))⟩⟩
  funext x
  unfold jR iZ
  split
  ·rename_i hx; rw [if_neg (by omega)]
  ·split <;> rfl
 ·subst hi
  refine ak.jE (az.Iy hT y6 hm 60 SP (by kernel_rfl) ⟨?_, _, rfl, rfl, jD rfl rfl⟩)
  exact qw (by omega) fun _ _ => rfl
def Cp (n : Nat) (f : Nat → AV) (a : Int) (l : List AV) : Option (AV × Int × List Prop) := match l with
 | [.int .i64 p, .int .i64 m] => some (bH (lD n f a p.toNat m.toNat) (mm n f a p.toNat m.toNat) 64, oB n f a p.toNat m.toNat, [1 ≤ p, p < 1000, 0 ≤ m, m < 1000])
 | _ => none
theorem TN : ∀ K args pre r, fe Cp K args pre = some r → ay P vZ K args pre r := by
 refine nA fun {k n z a l v b q o} K hg ho hd hq => ?_
 unfold Cp at hg
 split at hg
 ·rename_i p m
  simp only [Option.some.injEq, Prod.mk.injEq] at hg
  obtain ⟨rfl, rfl, rfl⟩ := hg
  obtain ⟨h1, h2, h3, h4⟩ := hq
  have h4 : m < 1000 := h4
  have := QD (k := k) (p := p.toNat) (m := m.toNat) ho hd (by omega) (by omega) (by omega) K
  rw [Int.toNat_of_nonneg (by omega), Int.toNat_of_nonneg h3] at this
  exact this
 ·simp at hg
end Go.Am.B

/- Poles, lists of lQ, curves, surfaces as arguments. -/
namespace Go.Am.B
open Go Go.Am.N AV
def bD : AV → Pl
 | .agg [.agg [x, y, z], w] => ⟨⟨aY x, aY y, aY z⟩, aY w⟩
 | _ => ⟨⟨0, 0, 0⟩, 0⟩
def eZ (f : Nat → AV) (n s : Nat) : Prop := ∀ i, i < n → bu (f i) (aS (bD (f i)) s)
abbrev cm (f : Nat → Pl) (n s : Nat) : AV := .aj 12 n (fun i => aS (f i) s)
theorem oc {u v : Pl} {n k : Nat} (h : u = v) (hk : n ≤ k) : bu (aS u n) (aS v k) :=
 h ▸ cq ⟨lH rfl hk, bI rfl hk, trivial⟩
theorem jK {f : Nat → Pl} {n s s' : Nat} (h : s ≤ s') : eZ (fun i => aS (f i) s) n s' := fun _ _ => oc rfl h
def zX : AV → Option (Nat × (Nat → AV))
 | .aj 12 n f => some (n, f)
 | .nil => some (0, fun _ => .nil)
 | _ => none
theorem Qo {v : AV} {n s : Nat} {f : Nat → AV} (h : zX v = some (n, f)) (ha : eZ f n s) : bu v (cm (fun i => bD (f i)) n s) := by
 unfold zX at h
 split at h
 ·simp only [Option.some.injEq, Prod.mk.injEq] at h
  obtain ⟨rfl, rfl⟩ := h
  exact dP ha
 ·simp only [Option.some.injEq, Prod.mk.injEq] at h
  obtain ⟨rfl, rfl⟩ := h
  exact gD (by omega)
 ·simp at h
def vN (s : Nat) : Kind (Nat × (Nat → Pl)) := ⟨fun v => match zX v with
 | some (n, f) => some ((n, fun i => bD (f i)), [eZ f n s])
 | none => none, fun a => cm a.2 a.1 s, fun {v a q} h hq => by
  split at h
  ·rename_i h1
   simp only [Option.some.injEq, Prod.mk.injEq] at h
   obtain ⟨rfl, rfl⟩ := h
   exact Qo h1 hq
  ·simp at h⟩
def p8 (s : Nat) : Kind V3 := ⟨fun v => match v with
 | .agg [x, y, z] => match fW x, fW y, fW z with
  | some (x, a), some (y, b), some (z, c) => some (⟨x, y, z⟩, [a ≤ s, b ≤ s, c ≤ s])
  | _, _, _ => none
 | _ => none, fun a => vA a s, fun {v a q} h hq => by
  split at h
  ·split at h
   ·rename_i h1 h2 h3
    simp only [Option.some.injEq, Prod.mk.injEq] at h
    obtain ⟨rfl, rfl⟩ := h
    exact cq ⟨(gv h1).trans (bI rfl hq.1), (gv h2).trans (bI rfl hq.2.1), (gv h3).trans (bI rfl hq.2.2), trivial⟩
   ·simp at h
  ·simp at h⟩
abbrev jP (h : Pl) (s : Nat) : AV := .agg [.rat h.n.x s, .rat h.n.y s, .rat h.n.z s, .rat h.d s]
def Xy (s : Nat) : Kind Pl := ⟨fun v => match v with
 | .agg [x, y, z, w] => match fW x, fW y, fW z, fW w with
  | some (x, a), some (y, b), some (z, c), some (w, d) => some (⟨⟨x, y, z⟩, w⟩, [a ≤ s, b ≤ s, c ≤ s, d ≤ s])
  | _, _, _, _ => none
 | _ => none, fun a => jP a s, fun {v a q} h hq => by
  split at h
  ·split at h
   ·rename_i h1 h2 h3 h4
    simp only [Option.some.injEq, Prod.mk.injEq] at h
    obtain ⟨rfl, rfl⟩ := h
    exact cq ⟨(gv h1).trans (bI rfl hq.1), (gv h2).trans (bI rfl hq.2.1), (gv h3).trans (bI rfl hq.2.2.1), (gv h4).trans (bI rfl hq.2.2.2), trivial⟩
   ·simp at h
  ·simp at h⟩
structure Cu where
 p : Int
 n : Nat
 k : Nat → Rat
 m : Nat
 f : Nat → Pl
abbrev cr (c : Cu) (s r : Nat) : AV := .agg [.int .i64 c.p, bH c.k c.n s, cm c.f c.m r]
def jQ (s r : Nat) : Kind Cu := ⟨fun v => match v with
 | .agg [p, k, f] => match kI.read p, (kL s).read k, (vN r).read f with
  | some (p, q1), some ((n, k), q2), some ((m, f), q3) => some (⟨p, n, k, m, f⟩, q1 ++ (q2 ++ q3))
  | _, _, _ => none
 | _ => none, fun a => cr a s r, fun {v a q} h hq => by
  split at h
  ·split at h
   ·rename_i h1 h2 h3
    simp only [Option.some.injEq, Prod.mk.injEq] at h
    obtain ⟨rfl, rfl⟩ := h
    obtain ⟨q1, hq⟩ := dn.1 hq
    obtain ⟨q2, q3⟩ := dn.1 hq
    exact cq ⟨kI.ok h1 q1, (kL s).ok h2 q2, (vN r).ok h3 q3, trivial⟩
   ·simp at h
  ·simp at h⟩
def jk : AV → Nat
 | .aj _ n _ => n
 | _ => 0
def Ms : AV → Nat → AV
 | .aj _ _ f => f
 | _ => fun _ => .nil
def jN (g : Nat → AV) (i j : Nat) : Pl := bD (Ms (g i) j)
abbrev Fy (f : Nat → Nat → Pl) (n m s : Nat) : AV := .aj 1 n (fun i => cm (f i) m s)
def jJ (g : Nat → AV) (n s : Nat) : Prop := ∀ i, i < n → bu (g i) (cm (jN g i) (jk (g 0)) s)
theorem FV {f : Nat → Nat → Pl} {n m s s' : Nat} (h : s ≤ s') : jJ (fun i => cm (f i) m s) n s' := fun _ _ => dP fun _ _ => oc rfl h
def F0 (s : Nat) : Kind (Nat × Nat × (Nat → Nat → Pl)) := ⟨fun v => match v with
 | .aj 1 n g => some ((n, jk (g 0), jN g), [jJ g n s])
 | _ => none, fun a => Fy a.2.2 a.1 a.2.1 s, fun {v a q} h hq => by
  split at h
  ·simp only [Option.some.injEq, Prod.mk.injEq] at h
   obtain ⟨rfl, rfl⟩ := h
   exact dP hq
  ·simp at h⟩
structure Sf where
 u : Int
 v : Int
 a : Nat
 ku : Nat → Rat
 b : Nat
 kv : Nat → Rat
 n : Nat
 m : Nat
 f : Nat → Nat → Pl
abbrev dL (x : Sf) (s r : Nat) : AV := .agg [.int .i64 x.u, .int .i64 x.v, bH x.ku x.a s, bH x.kv x.b s, Fy x.f x.n x.m r]
def F1 (s r : Nat) : Kind Sf := ⟨fun v => match v with
 | .agg [u, w, a, b, f] => match kI.read u, kI.read w, (kL s).read a, (kL s).read b, (F0 r).read f with
  | some (u, q1), some (w, q2), some ((a, ku), q3), some ((b, kv), q4), some ((n, m, f), q5) => some (⟨u, w, a, ku, b, kv, n, m, f⟩, q1 ++ (q2 ++ (q3 ++ (q4 ++ q5))))
  | _, _, _, _, _ => none
 | _ => none, fun a => dL a s r, fun {v a q} h hq => by
  split at h
  ·split at h
   ·rename_i h1 h2 h3 h4 h5
    simp only [Option.some.injEq, Prod.mk.injEq] at h
    obtain ⟨rfl, rfl⟩ := h
    obtain ⟨q1, hq⟩ := dn.1 hq
    obtain ⟨q2, hq⟩ := dn.1 hq
    obtain ⟨q3, hq⟩ := dn.1 hq
    obtain ⟨q4, q5⟩ := dn.1 hq
    exact cq ⟨kI.ok h1 q1, kI.ok h2 q2, (kL s).ok h3 q3, (kL s).ok h4 q4, (F0 r).ok h5 q5, trivial⟩
   ·simp at h
  ·simp at h⟩
theorem zE {rl : List (Nat × Nat)} {l i s s' s2 : Nat} {x y : Nat → Pl} {t : AV} {z : AV} (hx : ∀ i, i < l → x i = y i) (ht : bu t (aS (y l) s')) (hk : keys t = []) (h1 : s ≤ s2) (h2 : s' ≤ s2) (hi : i < l + 1) :
  gm rl (if i < l then aS (x i) s else nth [t] z (i - l + 0)) (aS (y i) s2) := by
 by_cases h : i < l
 ·rw [if_pos h, hx i h]; exact .inr ⟨rfl, oc rfl h1⟩
 ·have : i = l := by omega
  subst this
  rw [if_neg h, Nat.sub_self]
  exact .inr ⟨hk, ht.trans (oc rfl h2)⟩
end Go.Am.B

/- brepkernelmade: pole, Curve. -/
namespace Go.Am.B
open Go Go.Am.N AV aa ah IntKind
theorem Ma : aP P xq sI (au sI) := aL U6 (by kernel_rfl) (by kernel_rfl) (by kernel_rfl)
theorem Jz : aP P vM tZ (au tZ) := aL R6 (by kernel_rfl) (by kernel_rfl) (by kernel_rfl)
def ED : aO := [(lE, fe pN), (pJ, fe vh), (ir, qx)]
def mM (n : Nat) (f : Nat → AV) (a : Int) (b : Bool) : Pl := ⟨⟨bP n f a, bP n f (bG n f a), if b = true then 0 else bP n f (bG n f (bG n f a))⟩, ((1 + bY n f (aV n f a) 3 : Int) : Rat)⟩
def zu (n : Nat) (f : Nat → AV) (a : Int) : Int := bm n (aV n f a)
def Az (n : Nat) (f : Nat → AV) (a : Int) (l : List AV) : Option (AV × Int × List Prop) := match l with
 | [.bool b] => some (aS (mM n f a b) 64, zu n f a, [])
 | _ => none
def x9 : aO := nG :: (lE, fe pN) :: (vZ, fe Cp) :: (xq, fe Az) :: []
abbrev q8 : List Nat := [0, 3, 8, 9, 10]
abbrev zd (b : Bool) (i : Nat) : List AV := [.ptr 0 0 2 0 [], .bool b, .ptr 1 0 3 0 [], .ptr 2 0 3 0 [], .int .i64 i]
abbrev A6 (n : Nat) (z : Nat → Int) (a p : Int) (N : Nat) (k : Nat → Rat) (f : Nat → Pl) (j : Nat) : aC :=
 [(3, ⟨true, true, 12, j, fun i => aS (f i) 64⟩), (2, ⟨false, true, 3, 1, fun _ => .agg [.int .i64 p, bH k N 64, .own 3 12 0 j]⟩), (1, ⟨false, true, 3, 1, fun _ => .agg [.int .i64 0, .nil, .nil]⟩), (0, iN n z a)]
noncomputable abbrev ua : Code := au tZ
theorem Po {n : Nat} {z : Nat → Int} {a : Int} {b : Bool} : nW T ED [8] 60 sI (au sI) ⟨aK 0 [.ptr 0 0 2 0 [], .bool b], [(0, iN n z a)], 1⟩ =
  let c9 : Int := bG n (fun i ↦ int i64 (z i)) a; let c8 : AV := rat (bP n (fun i ↦ int i64 (z i)) a) 64; let c6 : Int := aV n (fun i ↦ int i64 (z i)) a; let c4 : Prop := 0 < 1; let c5 : AV := rat (bP n (fun i ↦ int i64 (z i)) c9) 64; let c3 : Option aA := some (aA.mk false true 2 1 fun x ↦ agg [aj 1 n fun i ↦ int i64 (z i), int i64 (bm n c6)]); let c1 : Int := i64.wrap ((1 : Int) + (bY n (fun i ↦ int i64 (z i)) c6 (3 : Int)).tmod (3 : Int)); let c7 : AV := rat (↑c1 : Rat) (Max.max 1 (aQ c1.natAbs)); let c2 : List Prop := [c4, bT n (fun i ↦ int i64 (z i)) c6, (0 : Int) < (3 : Int), (3 : Int) < (2 : Int) ^ 62, (3 : Int) ≠ (0 : Int), -(2 : Int) ^ 63 ≤ c1, c1 < (2 : Int) ^ 63, c4]; some (af [bT n (fun i ↦ int i64 (z i)) a, c4] (fork b (af [(0 : Int) ≤ (2 : Int) ∧ (2 : Int) < (↑(3 : Nat) : Int), c4] (af c2 (af [c4] (leaf ret ([agg [agg [c8, c5, agg [AV.bool false, mag 0, mag 0]], c7]], c3))))) (af c2 (af [c4] (leaf ret ([agg [agg [c8, c5, rat (bP n (fun i ↦ int i64 (z i)) (bG n (fun i ↦ int i64 (z i)) c9)) 64], c7]], c3)))))) := by kernel_rfl
theorem KM {n : Nat} {z : Nat → Int} {a p m : Int} {b : Bool} : aI T x9 [] 60 q8 (before ua [1,1,1,0,1]) ⟨aK 0 [.ptr 0 0 2 0 [], .int .i64 p, .int .i64 m, .bool b], [(0, iN n z a)], 1⟩ =
  let c4 : Prop := 0 < 1; let c2 : AV := agg [int i64 (0 : Int), nil, nil]; let c1 : Int := (1 : Int) + bY n (fun i ↦ int i64 (z i)) a p; let c3 : AV := bw (agg (c2.kids.set 0 (bw (int i64 c1)))); some (af [bT n (fun i ↦ int i64 (z i)) a, (0 : Int) < p, p < (2 : Int) ^ 62, -(2 : Int) ^ 63 ≤ c1 ∧ c1 < (2 : Int) ^ 63, c4] (af [c4, bT n (fun i ↦ int i64 (z i)) (bm n a), (1 : Int) ≤ c1, c1 < (1000 : Int), (0 : Int) ≤ m, m < (1000 : Int), c4] (leaf normal ([ptr 0 0 2 0 [], AV.bool b, ptr 1 0 3 0 [], ptr 24577 0 3 0 [], int i64 (0 : Int)], [((24577 : Nat), aA.mk false true 3 1 fun j ↦ if (j == 0) = true then agg ((if ((0 : Nat) == 0) = true then c3 else c2).kids.set 1 (bw (bH (lD n (fun i ↦ int i64 (z i)) (bm n a) c1.toNat m.toNat) (mm n (fun i ↦ int i64 (z i)) (bm n a) c1.toNat m.toNat) 64))) else if (j == 0) = true then c3 else c2), ((1 : Nat), aA.mk false true 3 1 fun x ↦ c2), ((0 : Nat), aA.mk false true 2 1 fun x ↦ agg [aj 1 n fun i ↦ int i64 (z i), int i64 (oB n (fun i ↦ int i64 (z i)) (bm n a) c1.toNat m.toNat)])])))) := by kernel_rfl
theorem PC {n N j : Nat} {z : Nat → Int} {a p : Int} {k : Nat → Rat} {f : Nat → Pl} {b : Bool} : aI T x9 [30] 60 q8 [part ua [1,1,1,0,1,0,0]] ⟨aB q8 (zd b j), A6 n z a p N k f j, 4⟩ =
  let c15 : Int := (↑j : Int); let c14 : Int := (↑N : Int) - p; let c13 : Int := bG n (fun i ↦ int i64 (z i)) a; let c12 : AV := own 3 12 0 j; let c11 : AV := aj 1 n fun i ↦ int i64 (z i); let c9 : AV := ptr 2 0 3 0 []; let c8 : AV := ptr 1 0 3 0 []; let c7 : AV := ptr 0 0 2 0 []; let c6 : Prop := 0 < 1; let c5 : AV := rat 0 1; let c2 : Nat × aA := ((1 : Nat), aA.mk false true 3 1 fun x ↦ agg [int i64 (0 : Int), nil, nil]); let c1 : Int := (2 : Int) ^ 63; let c10 : Int := c15 + (1 : Int); let c4 : Int := c14 - (1 : Int); let c3 : AV := agg [int i64 p, bH k N 64, c12]; some (af [c6, c6, -c1 ≤ c14 ∧ c14 < c1, -c1 ≤ c4 ∧ c4 < c1] (fork (decide (c15 < c4)) (af [c6, bT n (fun i ↦ int i64 (z i)) a, (1 : Nat) * 12 ≤ 2 ^ 24, (j + 1) * ((224 : Nat) + 1) * 2 ≤ 2 ^ 47, c6] (af [-c1 ≤ c10 ∧ c10 < c1] (leaf normal ([c7, AV.bool b, c8, c9, int i64 c10], [((61444 : Nat), aA.mk true true 12 (j + 1) fun i ↦ if i < j then aS (f i) 64 else nth [agg [agg [rat (bP n (fun i ↦ int i64 (z i)) a) 64, rat (bP n (fun i ↦ int i64 (z i)) c13) 64, rat (if b = true then 0 else bP n (fun i ↦ int i64 (z i)) (bG n (fun i ↦ int i64 (z i)) c13)) 64], rat (↑((1 : Int) + bY n (fun i ↦ int i64 (z i)) (aV n (fun i ↦ int i64 (z i)) a) (3 : Int)) : Rat) 64]] (agg [agg [c5, c5, c5], c5]) (i - j + 0)), ((2 : Nat), aA.mk false true 3 1 fun j_1 ↦ if (j_1 == 0) = true then agg (c3.kids.set 2 (bw (own (nat_lit 61443 + 1) 12 0 (j + 1)))) else c3), c2, ((0 : Nat), aA.mk false true 2 1 fun x ↦ agg [c11, int i64 (zu n (fun i ↦ int i64 (z i)) a)])])))) (leaf (exit 0) ([c7, AV.bool b, c8, c9, int i64 c15], [((3 : Nat), aA.mk true true 12 j fun i ↦ agg [agg [rat (f i).n.x 64, rat (f i).n.y 64, rat (f i).n.z 64], rat (f i).d 64]), ((2 : Nat), aA.mk false true 3 1 fun x ↦ agg [int i64 p, aj 3 N fun i ↦ rat (k i) 64, c12]), c2, ((0 : Nat), aA.mk false true 2 1 fun x ↦ agg [c11, int i64 a])])))) := by kernel_rfl
theorem Oy {n N j : Nat} {z : Nat → Int} {a p : Int} {k : Nat → Rat} {f : Nat → Pl} {b : Bool} : wW T x9 [] 60 tZ [part ua [1,1,1,1]] ⟨aB q8 (zd b j), A6 n z a p N k f j, 4⟩ =
  let c1 : Prop := 0 < 1; some (af [c1, c1] (af [c1] (leaf ret ([agg [int i64 p, aj 3 N fun i ↦ rat (k i) 64, aj 12 j fun i ↦ agg [agg [rat (f (i + 0)).n.x 64, rat (f (i + 0)).n.y 64, rat (f (i + 0)).n.z 64], rat (f (i + 0)).d 64]]], some (aA.mk false true 2 1 fun x ↦ agg [aj 1 n fun i ↦ int i64 (z i), int i64 a]))))) := by kernel_rfl
theorem Pg : aW P ED := aD yt (aD Bq (aD sX bg))
theorem Z2 : ∀ K args pre r, fe Az K args pre = some r → ay P xq K args pre r := by
 refine nA fun {k n z a l v b q o} K hg ho hd hq => ?_
 unfold Az at hg
 split at hg
 ·rename_i b
  simp only [Option.some.injEq, Prod.mk.injEq] at hg
  obtain ⟨rfl, rfl, rfl⟩ := hg
  refine uI hT Pg hm Ma rfl rfl (of_decide_eq_true (by kernel_rfl)) ho 60 Po (fun _ => ?_) K
  have a1 := gp (n := n) (f := fun i => .int .i64 (z i)) (a := aV n (fun i => .int .i64 (z i)) a) (m := 3) (by omega)
  have a2 := g7 (n := n) (f := fun i => .int .i64 (z i)) (a := aV n (fun i => .int .i64 (z i)) a) (m := 3) (by omega)
  unfold mM
  generalize bY n (fun i => .int .i64 (z i)) (aV n (fun i => .int .i64 (z i)) a) 3 = x at *
  have e1 : x.tmod 3 = x := by rw [Int.tmod_eq_of_lt a1 a2]
  have e2 : i64.wrap (1 + x) = 1 + x := wrap_i64 (by omega) (by omega)
  simp only [aa.all, ax, e1, e2]
  have hw : bu (.rat ((1 + x : Int) : Rat) (max 1 (aQ (1 + x).natAbs))) (.rat ((1 + x : Int) : Rat) 64) := eE rfl (wV (y := 0) (by omega) (by omega))
  refine ⟨⟨hd, by omega⟩, fun hb => ⟨by omega, ⟨by omega, hd.fF, by omega, by omega, by omega, by omega, by omega, by omega⟩, by omega, ?_, _, rfl, rfl, jD rfl rfl⟩, fun hb => ⟨⟨by omega, hd.fF, by omega, by omega, by omega, by omega, by omega, by omega⟩, by omega, ?_, _, rfl, rfl, jD rfl rfl⟩⟩
  ·rw [if_pos hb]
   exact cq ⟨cq ⟨.refl _, .refl _, j6 (q := (0 : Rat)) ⟨by decide, by decide⟩ rfl rfl rfl, trivial⟩, hw, trivial⟩
  ·rw [if_neg (by rw [hb]; decide)]
   exact cq ⟨.refl _, hw, trivial⟩
 ·simp at hg
theorem Fp : aW P x9 := ep (aD yt (aD TN (aD Z2 bg)))
def iR (n : Nat) (f : Nat → AV) (a : Int) : Nat → Int
 | 0 => a
 | j + 1 => zu n f (iR n f a j)
theorem bT.lQ {n : Nat} {f : Nat → AV} {a : Int} (h : bT n f a) : ∀ j, bT n f (iR n f a j)
 | 0 => h
 | j + 1 => (h.lQ j).fF.next
theorem bT.fD {n : Nat} {f : Nat → AV} {a : Int} {p m : Nat} (h : bT n f a) (hp : 1 ≤ p) : bT n f (oB n f a p m) := (yy h hp _).2
def iM (n : Nat) (f : Nat → AV) (a d : Int) : Nat := (1 + bY n f a d).toNat
def oe (n : Nat) (f : Nat → AV) (a d : Int) (m : Nat) : Int := oB n f (bm n a) (iM n f a d) m
def fC (n : Nat) (f : Nat → AV) (a d : Int) (m : Nat) (b : Bool) : Cu :=
 ⟨(iM n f a d : Nat), mm n f (bm n a) (iM n f a d) m, lD n f (bm n a) (iM n f a d) m, iM n f a d + 1 + iD n f (bm n a) m, fun i => mM n f (iR n f (oe n f a d m) i) b⟩
def gN (n : Nat) (f : Nat → AV) (a d : Int) (m : Nat) : Int := iR n f (oe n f a d m) (iM n f a d + 1 + iD n f (bm n a) m)
def A5 (n : Nat) (f : Nat → AV) (a : Int) (l : List AV) : Option (AV × Int × List Prop) := match l with
 | [.int .i64 d, .int .i64 m, .bool b] => some (cr (fC n f a d m.toNat b) 64 64, gN n f a d m.toNat, [1 ≤ d, d < 900, 0 ≤ m, m < 900])
 | _ => none
theorem Ib {n : Nat} {f : Nat → AV} {a : Int} {m : Nat} : iD n f a m ≤ m := by
 have h1 := gp (n := n) (f := f) (a := bm n a) (m := m + 1) (by omega)
 have h2 := g7 (n := n) (f := f) (a := bm n a) (m := m + 1) (by omega)
 unfold iD; omega
theorem aal {k n m : Nat} {z : Nat → Int} {a d : Int} {b : Bool} {o : aA} (ho : ∀ ρ, cH ρ o (iN n z a)) (h : bT n (fun i => .int .i64 (z i)) a) (hd1 : 1 ≤ d) (hd2 : d < 900) (hm2 : m < 900) (K : Nat) :
  ay P vM K [.ptr k 0 2 0 [], .int .i64 d, .int .i64 m, .bool b] [(k, o)] ⟨cr (fC n (fun i => .int .i64 (z i)) a d m b) 64 64, [(k, iN n z (gN n (fun i => .int .i64 (z i)) a d m))], []⟩ := by
 refine IU hT Jz rfl rfl (of_decide_eq_true (by kernel_rfl)) ho (fun _ c hk => ?_) K
 have a1 := gp (n := n) (f := fun i => .int .i64 (z i)) (a := a) (m := d) (by omega)
 have a2 := g7 (n := n) (f := fun i => .int .i64 (z i)) (a := a) (m := d) (by omega)
 have hJ := Ib (n := n) (f := fun i => .int .i64 (z i)) (a := bm n a) (m := m)
 unfold fC gN oe iM
 obtain ⟨p, hp⟩ : ∃ p, p = (1 + bY n (fun i => .int .i64 (z i)) a d).toNat := ⟨_, rfl⟩
 have hp2 : 1 + bY n (fun i => .int .i64 (z i)) a d = (p : Int) := by omega
 rw [← hp]
 have hB := (h.next.fD (p := p) (m := m) (by omega))
 obtain ⟨N, hN⟩ : ∃ N, N = mm n (fun i => .int .i64 (z i)) (bm n a) p m := ⟨_, rfl⟩
 obtain ⟨kk, hkk⟩ : ∃ kk, kk = lD n (fun i => .int .i64 (z i)) (bm n a) p m := ⟨_, rfl⟩
 obtain ⟨B, hB2⟩ : ∃ B, B = oB n (fun i => .int .i64 (z i)) (bm n a) p m := ⟨_, rfl⟩
 have hN2 : N = 2 * p + 2 + iD n (fun i => .int .i64 (z i)) (bm n a) m := hN
 rw [← hN, ← hkk, ← hB2]
 rw [← hB2] at hB
 generalize iD n (fun i => .int .i64 (z i)) (bm n a) m = J at *
 refine ak.kz hT Fp hm [1,1,1,0,1] (i := 0) (y := part ua [1,1,1,0,1,0,0]) (z := part ua [1,1,1,1]) (by kernel_rfl) (by kernel_rfl) (by kernel_rfl) Jz.dst hk (f1 := []) (f2 := [30]) 60 q8 4 (fun j : Nat => zd b j)
  (fun j => A6 n z (iR n (fun i => .int .i64 (z i)) B j) p N kk (fun i => mM n (fun i => .int .i64 (z i)) (iR n (fun i => .int .i64 (z i)) B i) b) j) (fun j => j ≤ p + 1 + J) (fun j => j = p + 1 + J) (fun j => p + 1 + J - j) (fun _ => False) ⟨_, KM, ?_⟩ (fun j hj => ⟨_, PC, ?_⟩) (fun j hj => ?_) (fun _ _ h => h.elim)
 ·simp only [aa.all, ax, hp2, Int.toNat_natCast]
  rw [← hN, ← hkk, ← hB2]
  exact ⟨⟨h, by omega, by omega, by omega, by omega⟩, ⟨by omega, h.next, by omega, by omega, by omega, by omega, by omega⟩, 0, Nat.zero_le _, [(0, 0), (1, 1), (2, 24577)], rfl, rfl, rfl,
   nP rfl (by omega) (by omega) (aU rfl rfl (qi ⟨⟨rfl, aG rfl⟩, ⟨rfl, aG rfl⟩, ⟨rfl, tn (by omega)⟩, trivial⟩) (aU rfl rfl (aR rfl rfl) (aU rfl rfl (aR rfl rfl) trivial)))⟩
 ·simp only [aa.all, ax, decide_eq_true_eq, decide_eq_false_iff_not]
  have hv : ∀ {rl : List (Nat × Nat)} {a l : Nat}, aZ rl 3 = some a → gm rl (.agg [.int .i64 p, bH kk N 64, .own a 12 0 l]) (.agg [.int .i64 p, bH kk N 64, .own 3 12 0 l]) := fun h => qi ⟨⟨rfl, aG rfl⟩, ⟨rfl, aG rfl⟩, ⟨rfl, cy h rfl rfl⟩, trivial⟩
  refine ⟨⟨by omega, by omega, by omega, by omega⟩, fun h => ⟨⟨by omega, hB.lQ j, by omega, by omega, by omega⟩, by omega, j + 1, by omega, by dsimp only; omega, [(0, 0), (1, 1), (2, 2), (3, 61444)], rfl, rfl, rfl,
   cz rfl rfl rfl (fun i hi => zE (y := fun i => mM n (fun i => .int .i64 (z i)) (iR n (fun i => .int .i64 (z i)) B i) b) (fun _ _ => rfl) (.refl _) rfl (Nat.le_refl _) (Nat.le_refl _) hi) (aU rfl rfl (hv rfl) (aU rfl rfl (aR rfl rfl) (aU rfl rfl (aR rfl rfl) trivial)))⟩,
   fun h => ⟨rfl, j, by omega, [(0, 0), (1, 1), (2, 2), (3, 3)], rfl, rfl, rfl, cz rfl rfl rfl (fun _ _ => aR rfl rfl) (aU rfl rfl (hv rfl) (aU rfl rfl (aR rfl rfl) (aU rfl rfl (aR rfl rfl) trivial)))⟩⟩
 ·subst hj
  refine ak.jE (az.Iy hT Fp hm 60 Oy (by kernel_rfl) ?_)
  simp only [aa.all, ax]
  exact ⟨by omega, by omega, .refl _, _, rfl, rfl, jD rfl rfl⟩
theorem Za : ∀ K args pre r, fe A5 K args pre = some r → ay P vM K args pre r := by
 refine nA fun {k n z a l v b q o} K hg ho hd hq => ?_
 unfold A5 at hg
 split at hg
 ·rename_i d m b
  simp only [Option.some.injEq, Prod.mk.injEq] at hg
  obtain ⟨rfl, rfl, rfl⟩ := hg
  obtain ⟨h1, h2, h3, h4⟩ := hq
  have h4 : m < 900 := h4
  have := aal (k := k) (m := m.toNat) (b := b) ho hd h1 h2 (by omega) K
  rw [Int.toNat_of_nonneg h3] at this
  exact this
 ·simp at hg
theorem Hw {n m : Nat} {f : Nat → AV} {a d : Int} {b : Bool} (h : bT n f a) (hd : 1 ≤ d) : Kn (fC n f a d m b).n (fC n f a d m b).p.toNat (fC n f a d m b).k ∧ 1 ≤ (fC n f a d m b).p ∧ (fC n f a d m b).p ≤ d ∧ ((fC n f a d m b).m : Int) = ((fC n f a d m b).n : Int) - (fC n f a d m b).p - 1 ∧
  (fC n f a d m b).m ≤ (fC n f a d m b).p.toNat + 1 + m ∧ ∀ i, 1 ≤ ((fC n f a d m b).f i).d ∧ ((fC n f a d m b).f i).d ≤ 3 := by
 have a1 := gp (n := n) (f := f) (a := a) (m := d) (by omega)
 have a2 := g7 (n := n) (f := f) (a := a) (m := d) (by omega)
 have hJ := Ib (n := n) (f := f) (a := bm n a) (m := m)
 unfold fC
 obtain ⟨p, hp⟩ : ∃ p, p = iM n f a d := ⟨_, rfl⟩
 have hp2 : 1 + bY n f a d = (p : Int) := by rw [hp]; unfold iM; omega
 rw [← hp]
 dsimp only
 refine ⟨?_, by omega, by omega, ?_, by omega, fun i => ?_⟩
 ·rw [Int.toNat_natCast]
  exact (yy h.next (by omega) _).1.done
 ·have : mm n f (bm n a) p m = 2 * p + 2 + iD n f (bm n a) m := rfl
  omega
 ·have c1 := gp (n := n) (f := f) (a := aV n f (iR n f (oe n f a d m) i)) (m := 3) (by omega)
  have c2 := g7 (n := n) (f := f) (a := aV n f (iR n f (oe n f a d m) i)) (m := 3) (by omega)
  unfold mM
  dsimp only
  generalize bY n f (aV n f (iR n f (oe n f a d m) i)) 3 = x at *
  exact ⟨by exact_mod_cast (show 1 ≤ 1 + x by omega), by exact_mod_cast (show 1 + x ≤ 3 by omega)⟩
end Go.Am.B

/- fD.Interval, ref08.Interval; numbers of lQ. -/
namespace Go.Am.B
open Go Go.Am.N AV aa ah IntKind
theorem Sk : aP P qd uQ (au uQ) := aL YF (by kernel_rfl) (by kernel_rfl) (by kernel_rfl)
def wE : aO := nG :: jf
def od : aO := nG :: gC
abbrev sK : Nat := 4096
abbrev ls (k : Nat → Rat) (n : Nat) : AV := bH k n sK
abbrev tP (t : Rat) (s : Nat) : aA := ⟨false, true, 3, 1, fun _ => .rat t s⟩
abbrev vf : List Nat := [0, 5, 9, 6, 7]
abbrev vk (n : Nat) (k : Nat → Rat) (i : Nat) : List AV := [ls k n, .ptr 0 0 3 0 [], .int .i64 i, .int .i64 0, .int .i64 0]
noncomputable abbrev s7 : Code := au uQ
theorem XT {n p : Nat} {k : Nat → Rat} {t : Rat} : aI T od [19, 27] 60 vf (before s7 [1,1,1,1,0]) ⟨aK 0 [ls k n, .int .i64 p, .rat t sK], [], 0⟩ =
  let c13 : AV := int i64 (0 : Int); let c12 : Prop := 0 < 1; let c10 : Prop := (0 : Int) ≤ (0 : Int) ∧ Int.toNat (0 : Int) < n; let c9 : AV := aj 3 n fun i ↦ rat (k i) 4096; let c7 : AV := ptr 0 0 (bw (rat t sK)).size 0 []; let c6 : Nat × aA := ((0 : Nat), aA.mk false true (bw (rat t sK)).size 1 fun x ↦ rat t 4096); let c5 : Int := (2 : Int) ^ 63; let c4 : Int := gl t (k (Int.toNat (0 : Int))); let c3 : Int := (↑n : Int) - (1 : Int); let c14 : Int := c3 - (↑p : Int); let c11 : Bool := decide (c4 < (0 : Int)); let c2 : aa (List AV × aC) := leaf ret ([c9, c7, tuple [], c13, int i64 (7 : Int)], [c6]); let c8 : Int := c14 - (1 : Int); let c1 : aa (List AV × aC) := af [-c5 ≤ c14 ∧ c14 < c5, -c5 ≤ c8 ∧ c8 < c5] (leaf normal ([c9, c7, int i64 c8, c13, c13], [c6])); some (af [-c5 ≤ c3 ∧ c3 < c5] (fork c11 (af [c12, c10, c11 = true] (fork true c2 c1)) (af [c12, c10, c11 = false, c12, (0 : Int) ≤ c3 ∧ c3.toNat < n] (fork (bif false then true else decide (gl t (k c3.toNat) > (0 : Int))) c2 c1)))) := by kernel_rfl
theorem SF {n i : Nat} {k : Nat → Rat} {t : Rat} : aI T od [34, 42] 60 vf [part s7 [1,1,1,1,0,0,0]] ⟨aB vf (vk n k i), [(0, tP t sK)], 1⟩ =
  let c7 : AV := int i64 (0 : Int); let c6 : AV := ptr 0 0 3 0 []; let c5 : AV := aj 3 n fun i ↦ rat (k i) 4096; let c4 : Nat × aA := ((0 : Nat), aA.mk false true 3 1 fun x ↦ rat t 4096); let c3 : Int := (↑i : Int); let c9 : Int := c3 - (1 : Int); let c8 : Bool := decide (c3 > (0 : Int)); let c2 : aa (List AV × aC) := leaf (exit 0) ([c5, c6, int i64 c3, c7, c7], [c4]); let c1 : aa (List AV × aC) := af [-(2 : Int) ^ 63 ≤ c9 ∧ c9 < (2 : Int) ^ 63] (leaf normal ([c5, c6, int i64 c9, c7, c7], [c4])); some (fork c8 (af [c8 = true, (0 : Nat) < 1, (0 : Int) ≤ c3 ∧ c3.toNat < n] (fork (bif true then decide (gl t (k c3.toNat) < (0 : Int)) else false) c1 c2)) (af [c8 = false] (fork false c1 c2))) := by kernel_rfl
theorem SE {n i : Nat} {k : Nat → Rat} {t : Rat} : ct T od [] 60 uQ [part s7 [1,1,1,1,1]] ⟨aB vf (vk n k i), [(0, tP t sK)], 1⟩ =
  some (leaf ret [int i64 (↑i : Int), int i64 (0 : Int)]) := by kernel_rfl
theorem LQ : aW P wE := ep jx
theorem Db : aW P od := ep gO
theorem pR {q : Rat} {n : Nat} : aY (.rat q n) = q := rfl
theorem MS : max 1 (aQ (Int.natAbs 1)) = 1 := by decide
theorem Jc {rl : List (Nat × Nat)} {l i s s' s2 : Nat} {x y : Nat → Rat} {t : Rat} (hx : ∀ i, i < l → x i = y i) (ht : t = y l) (h1 : s ≤ s2) (h2 : s' ≤ s2) (hi : i < l + 1) : gm rl (if i < l then .rat (x i) s else nth [.rat t s'] (.rat 0 1) (i - l + 0)) (.rat (y i) s2) := by
 by_cases h : i < l
 ·rw [if_pos h, hx i h]; exact .inr ⟨rfl, bI rfl h1⟩
 ·have : i = l := by omega
  subst this
  rw [if_neg h, Nat.sub_self, ht]
  exact .inr ⟨rfl, bI rfl h2⟩
theorem Kf {rl : List (Nat × Nat)} {i s' s2 : Nat} {y : Nat → Rat} {t : Rat} (ht : t = y 0) (h2 : s' ≤ s2) (hi : i < 1) : gm rl (nth [.rat t s'] (.rat 0 1) (i + 0)) (.rat (y i) s2) := by
 have : i = 0 := by omega
 subst this
 rw [ht]
 exact .inr ⟨rfl, bI rfl h2⟩
def ef (n : Nat) (k : Nat → Rat) (t : Rat) : Prop := t < k 0 ∨ k (n - 1) < t
instance {n : Nat} {k : Nat → Rat} {t : Rat} : Decidable (ef n k t) := inferInstanceAs (Decidable (t < k 0 ∨ k (n - 1) < t))
def pU (n : Nat) (k : Nat → Rat) (t : Rat) : Nat := if ef n k t then 0 else dh n k t
def fj (n : Nat) (k : Nat → Rat) (t : Rat) : Int := if ef n k t then 7 else 0
abbrev vu (n : Nat) (k : Nat → Rat) (t : Rat) : AV := .tuple [.int .i64 (pU n k t), .int .i64 (fj n k t)]
theorem JD {n : Nat} {k : Nat → Rat} {t : Rat} (h : ef n k t) : dN [.int .i64 0, .int .i64 7] (vu n k t) :=
 ⟨bB (by unfold pU; rw [if_pos h]; rfl), bB (by unfold fj; rw [if_pos h]), trivial⟩
theorem VS {n i : Nat} {k : Nat → Rat} {t : Rat} (h : ¬ ef n k t) (hi : i = dh n k t) : dN [.int .i64 i, .int .i64 0] (vu n k t) :=
 ⟨bB (by unfold pU; rw [if_neg h, hi]), bB (by unfold fj; rw [if_neg h]), trivial⟩
theorem aaf {n p : Nat} {k : Nat → Rat} {t : Rat} (h : Kn n p k) (hn : n < 2 ^ 40) (K : Nat) : ay P qd K [ls k n, .int .i64 p, .rat t sK] [] (aF (vu n k t) []) := by
 have hp := h.p1
 have hl := h.len
 refine kQ (r := aF (vu n k t) []) hT Db hm Sk rfl (of_decide_eq_true (by kernel_rfl)) rfl [1,1,1,1,0] (i := 0) (y := part s7 [1,1,1,1,0,0,0]) (z := part s7 [1,1,1,1,1]) (by kernel_rfl) (by kernel_rfl) (by kernel_rfl) (f1 := [19, 27]) (f2 := [34, 42]) (f3 := []) 60 vf 1
  (fun i : Nat => vk n k i) (fun _ => [(0, tP t sK)]) (fun i => i + p + 2 ≤ n ∧ (∀ j, i < j → j + p + 2 ≤ n → t < k j) ∧ ¬ ef n k t) (fun i => i = dh n k t ∧ ¬ ef n k t) (fun i => i) (fun _ => ⟨⟨_, XT, ?_⟩, fun i ⟨h1, h2, h4⟩ => ⟨_, SF, ?_⟩, fun i ⟨h1, h2⟩ => ⟨_, SE, VS h2 h1⟩⟩) K []
 ·simp only [aa.all, ax, decide_eq_true_eq, decide_eq_false_iff_not, B1, EZ, cond_false, Int.toNat_zero, show ((n : Int) - 1).toNat = n - 1 by omega]
  (repeat' with_reducible first | refine And.intro ?_ ?_ | intro _)
  all_goals first | omega | assumption | skip
  ·exact ⟨_, by kernel_rfl, JD (.inl ‹_›)⟩
  ·exact absurd ‹true = false› (by decide)
  ·exact ⟨_, by kernel_rfl, JD (.inr ‹_›)⟩
  ·rename_i a b
   have hin : ¬ ef n k t := fun h => h.elim (fun h => a h) fun h => b h
   refine ⟨n - p - 2, ⟨by omega, fun j h1 h2 => by omega, hin⟩, [(0, 0)], rfl, ?_, rfl, aU rfl rfl (aR rfl rfl) trivial⟩
   rw [show (n : Int) - 1 - (p : Int) - 1 = ((n - p - 2 : Nat) : Int) by omega]
   rfl
 ·simp only [aa.all, ax, decide_eq_true_eq, decide_eq_false_iff_not, B1, Int.toNat_natCast, cond_true]
  have hin : k 0 ≤ t ∧ t ≤ k (n - 1) := by
   constructor
   ·have : ¬ t < k 0 := fun h => h4 (.inl h)
    grind
   ·have : ¬ k (n - 1) < t := fun h => h4 (.inr h)
    grind
  have fin : k i ≤ t → i = dh n k t := fun h3 => by
   by_cases hi : i + p + 2 < n
   ·have h5 := h2 (i + 1) (by omega) (by omega)
    exact (D9 ⟨⟨by omega, h.sorted, by grind⟩, h3, by grind, .inl h5⟩).symm
   ·have e1 := h.last (i + 1) (by omega) (by omega)
    have e2 := h.last (i + p) (by omega) (by omega)
    have e3 := h.mult i (by omega) (by omega)
    exact (D9 ⟨⟨by omega, h.sorted, by rw [e1, ← e2]; exact e3⟩, h3, by rw [e1]; exact hin.2, .inr e1⟩).symm
  (repeat' with_reducible first | refine And.intro ?_ ?_ | intro _)
  all_goals first | omega | assumption | skip
  ·rename_i a b
   refine ⟨i - 1, ⟨by omega, fun j h5 h6 => ?_, h4⟩, by dsimp only; omega, [(0, 0)], rfl, ?_, rfl, aU rfl rfl (aR rfl rfl) trivial⟩
   ·by_cases hj : j = i
    ·subst hj; exact b
    ·exact h2 j (by omega) h6
   ·rw [show (i : Int) - 1 = ((i - 1 : Nat) : Int) by omega]; rfl
  ·rename_i a b
   exact ⟨rfl, i, ⟨fin (by grind), h4⟩, [(0, 0)], rfl, rfl, rfl, aU rfl rfl (aR rfl rfl) trivial⟩
  ·exact absurd ‹false = true› (by decide)
  ·have hi : i = 0 := by omega
   subst hi
   exact ⟨rfl, 0, ⟨fin hin.1, h4⟩, [(0, 0)], rfl, rfl, rfl, aU rfl rfl (aR rfl rfl) trivial⟩
abbrev Ep : o9 ((Nat × (Nat → Rat)) × Int × Rat × Unit) := kC (kL sK) (kC kI (kC (p0 sK) kN))
def B5 : Spec := eH Ep (fun a => vu a.1.1 a.1.2 a.2.2.1) fun a => [Kn a.1.1 a.2.1.toNat a.1.2, 0 ≤ a.2.1, a.1.1 < 2 ^ 40]
theorem Gm : ∀ K args pre r, B5 K args pre = some r → ay P qd K args pre r := en fun ⟨⟨n, k⟩, p, t, _⟩ K hn => by
 have := aaf hn.1 hn.2.2 K (t := t)
 rw [Int.toNat_of_nonneg hn.2.1] at this
 exact this
end Go.Am.B

/- basis.fraction, basis.Values. -/
namespace Go.Am.B
open Go Go.Am.N AV aa ah IntKind
abbrev sF : Nat := 16386
def SB (d : Nat) : Nat := 65536 * 4 ^ d
abbrev BR (m : Nat) (x : Nat → Rat) (s : Nat → Nat) : aA := ⟨true, true, 3, m, fun i => .rat (x i) (s i)⟩
theorem JT {d : Nat} : SB (d + 1) = 4 * SB d := by unfold SB; rw [Nat.pow_succ]; omega
theorem Jl : ∀ {d : Nat}, 65536 ≤ SB d
 | 0 => by unfold SB; omega
 | d + 1 => by rw [JT]; have := Jl (d := d); omega
theorem Y7 : sF = 16386 := rfl
theorem K9 {d e : Nat} (h : d ≤ e) : SB d ≤ SB e := Nat.mul_le_mul_left _ (Nat.pow_le_pow_right (by omega) h)
abbrev sV : Nat := 268435456
theorem De {d : Nat} (h : d ≤ 6) : SB d ≤ sV := Nat.le_trans (K9 h) (by decide)
def uJ (n : Nat) (k : Nat → Rat) (p : Nat) (t : Rat) (f : Nat → Rat) : AV := .tuple [.int .i64 (if ef n k t then 0 else (dh n k t : Int) - p), .aj 3 (if ef n k t then 0 else p + 1) (fun j => .rat (f j) sV), .int .i64 (fj n k t)]
abbrev Aw (n : Nat) (k : Nat → Rat) (p : Nat) (t : Rat) : AV := uJ n k p t (vB k (dh n k t) t p)
theorem RU {n p : Nat} {k f : Nat → Rat} {t : Rat} (h : ef n k t) : dN [.int .i64 0, .nil, .int .i64 7] (uJ n k p t f) := by
 unfold uJ fj
 rw [if_pos h, if_pos h, if_pos h]
 exact ⟨.refl _, gD (by omega), .refl _, trivial⟩
theorem X1 {n p : Nat} {k f : Nat → Rat} {t : Rat} {g : Nat → AV} (h : ¬ ef n k t) (hg : ∀ j, j < p + 1 → bu (g j) (.rat (f j) sV)) : dN [.int .i64 ((dh n k t : Int) - p), .aj 3 (p + 1) g, .int .i64 0] (uJ n k p t f) := by
 unfold uJ fj
 rw [if_neg h, if_neg h, if_neg h]
 exact ⟨.refl _, dP hg, .refl _, trivial⟩
def Ip (k : Nat → Rat) (i : Nat) (t : Rat) (d j : Nat) : Rat := if j = 0 then 0 else fr (k (i - d + (j - 1))) (k (i - d + (j - 1) + (d + 1))) t * vB k i t d (j - 1)
end Go.Am.B

/- basis.Sum; numbers of lQ. -/
namespace Go.Am.B
open Go Go.Am.N AV aa ah IntKind
theorem M0 : aP P wN uu (au uu) := aL RR (by kernel_rfl) (by kernel_rfl) (by kernel_rfl)
def E5 : Spec := eH Ep (fun a => Aw a.1.1 a.1.2 a.2.1.toNat a.2.2.1) fun a => [Kn a.1.1 a.2.1.toNat a.1.2, 0 ≤ a.2.1, a.2.1 ≤ 6, a.1.1 < 2 ^ 40]
def FC : Spec := eH (kC (kL sK) (kC kI kN)) (fun a => .int .i64 ((a.1.1 : Int) - a.2.1 - 1)) fun a => [a.1.1 < 2 ^ 40, -2 ^ 40 < a.2.1, a.2.1 < 2 ^ 40]
theorem VV {n : Nat} {k : Nat → Rat} {p : Int} : bq T [nG] [] 60 uu (au uu) ⟨aK 0 [ls k n, .int .i64 p], [], 0⟩ =
  let c3 : Int := (↑n : Int) - p; let c1 : Int := (2 : Int) ^ 63; let c2 : Int := c3 - (1 : Int); some (af [-c1 ≤ c3 ∧ c3 < c1, -c1 ≤ c2 ∧ c2 < c1] (leaf ret [int i64 c2])) := by kernel_rfl
theorem XR : ∀ K args pre r, FC K args pre = some r → ay P wN K args pre r := en fun ⟨⟨n, k⟩, p, _⟩ K hn => by
 obtain ⟨h1, h2, h3⟩ := hn
 have h3 : p < 2 ^ 40 := h3
 simp only at h1 h2
 refine bt (r := aF (.int .i64 ((n : Int) - p - 1)) []) hT (ep bg) hm M0 rfl (of_decide_eq_true (by kernel_rfl)) rfl 60 VV (fun _ => ?_) K []
 simp only [aa.all, ax]
 exact ⟨by omega, .refl _⟩
abbrev sU : Nat := 4294967296
theorem U2 {n : Nat} {k : Nat → Rat} {t : Rat} (h : fj n k t ≠ 0) : ef n k t := by
 unfold fj at h
 by_cases ho : ef n k t
 ·exact ho
 ·rw [if_neg ho] at h; exact absurd rfl h
theorem Ev {n : Nat} {k : Nat → Rat} {t : Rat} (h : fj n k t = 0) : ¬ ef n k t := fun ho => by unfold fj at h; rw [if_pos ho] at h; omega
theorem Kn.xI {n p : Nat} {k : Nat → Rat} (h : Kn n p k) {t : Rat} (hin : ¬ ef n k t) : p ≤ dh n k t ∧ dh n k t + p + 1 < n := by
 have h1 : ¬ t < k 0 := fun h => hin (.inl h)
 have h2 : ¬ k (n - 1) < t := fun h => hin (.inr h)
 exact (h.E4 (by grind) (by grind)).2
end Go.Am.B
