/- brepkernelmade: Rat, Within; lists of numbers as arguments. -/
import Derived.Test.YtjhhblmbiaghfaaB43
import Derived.Test.YtjhhblmbiaghfaaY39
import Derived.Test.YtjhhblmbiaghfaaZ2
import Derived.Test.YtjhhblmbiaghfaaC4
import Derived.Test.YtjhhblmbiaghfaaD1
set_option linter.unusedVariables false
namespace Go.Am.B
open Go Go.Am.N AV
def qk (s : Nat) : Kind Rat := ⟨fun v => match kT v with
 | some (q, n) => some (q, [n ≤ s])
 | none => none, fun a => .rat a s, fun {v a q} h hq => by
  split at h
  ·rename_i h1
   simp only [Option.some.injEq, Prod.mk.injEq] at h
   obtain ⟨rfl, rfl⟩ := h
   exact (oB h1).trans (iB hq)
  ·simp at h⟩
structure pR (α : Type) where
 read : List AV → Option (α × List Prop)
 make : α → List AV
 ok : ∀ {l : List AV} {a : α} {q : List Prop}, read l = some (a, q) → az q → dO l (make a)
def kN : pR Unit := ⟨fun l => match l with
 | [] => some ((), [])
 | _ => none, fun _ => [], fun {l a q} h _ => by
  split at h
  ·trivial
  ·simp at h⟩
def kC {α β : Type} (k : Kind α) (kl : pR β) : pR (α × β) := ⟨fun l => match l with
 | v :: l => match k.read v, kl.read l with
  | some (a, p), some (b, q) => some ((a, b), p ++ q)
  | _, _ => none
 | [] => none, fun a => k.make a.1 :: kl.make a.2, fun {l a q} h hq => by
  split at h
  ·split at h
   ·rename_i h1 h2
    simp only [Option.some.injEq, Prod.mk.injEq] at h
    obtain ⟨rfl, rfl⟩ := h
    obtain ⟨q1, q2⟩ := dU.1 hq
    exact ⟨k.ok h1 q1, kl.ok h2 q2⟩
   ·simp at h
  ·simp at h⟩
def fN {α : Type} (k : pR α) (g : α → AV) (need : α → List Prop) : Spec := bp fun l => match k.read l with
 | some (a, p) => some (aJ (g a) (p ++ need a))
 | none => none
theorem gj {α : Type} {f : FuncId} {k : pR α} {g : α → AV} {need : α → List Prop} (h : ∀ a K, az (need a) → aC P f K (k.make a) [] (aJ (g a) [])) : ∀ K args pre r, fN k g need K args pre = some r → aC P f K args pre r := by
 refine bK fun K args r hk hs _ => ?_
 split at hs
 ·rename_i h1
  simp only [Option.some.injEq] at hs
  subst hs
  intro hn
  obtain ⟨n1, hn⟩ := dU.1 hn
  exact eJ (h _ K hn) hk (k.ok h1 n1) [] trivial
 ·simp at hs
end Go.Am.B

/- slices.Grow of no spans, slices.Concat of two lists of spans. -/
namespace Go.Am.B
open Go Go.Am.N AV aa aj IntKind
abbrev tC : FuncId := AZ
noncomputable abbrev qB : Func := Dh
abbrev sJ : FuncId := Eb
noncomputable abbrev o6 : Func := BA
abbrev GV (n : Nat) : aH := ⟨true, true, 6, n, fun _ => .agg [.rat 0 1, .rat 0 1]⟩
def Du : Spec := sG fun K l => match l with
 | [.nil, .int .i64 n] => some ⟨mJ [.own K 6 0 0], [(K, GV n.toNat)], [0 < n ∧ n < 2 ^ 30]⟩
 | _ => none
def Ek : Spec := bp fun l => match l with
 | [.nil, .int .i64 n] => some (aJ .nil [n = 0])
 | _ => none
abbrev rz (na nb : Nat) (f g : Nat → AV) : AV := .ah 1 2 fun i => nth [.ah 6 na f, .ah 6 nb g] .nil i
theorem Kt {n : Int} : aG T [nG] [200006, 100016] 60 [4] [ax qB] ⟨aM 0 [.nil, .int .i64 n], [], 0⟩ =
  let c6 : AV := rat 0 1; let c4 : Prop := (0 : Int) ≤ (0 : Int); let c3 : Int := (2 : Int) ^ 63; let c2 : Int := (↑(0 : Nat) : Int); let c1 : Int := (0 : Int) - c2; let c5 : Nat := (n - c1).toNat; some (af [decide (n < (0 : Int)) = false] (af [-c3 ≤ c1 ∧ c1 < c3, -c3 ≤ n - c1 ∧ n - c1 < c3] (af [decide (n - c1 > (0 : Int)) = true] (af [c4 ∧ c4 ∧ c4 ∧ (0 : Int) ≤ c2, (0 : Int) < n - c1 ∧ c5 * ((112 : Nat) + 1) * 2 ≤ 2 ^ 47, c4 ∧ (0 : Int) ≤ c2 ∧ c2 ≤ c2 ∧ c2 ≤ (↑c5 : Int)] (leaf ret ([own 73728 6 0 0], [((73728 : Nat), aH.mk true true 6 c5 fun x ↦ agg [c6, c6])])))))) := by kernel_rfl
theorem M8 {n : Int} : bA T [nG] [200006, 200016] 60 qB (ax qB) ⟨aM 0 [.nil, .int .i64 n], [], 0⟩ =
  let c2 : Int := (2 : Int) ^ 63; let c1 : Int := (0 : Int) - (↑(0 : Nat) : Int); some (af [decide (n < (0 : Int)) = false] (af [-c2 ≤ c1 ∧ c1 < c2, -c2 ≤ n - c1 ∧ n - c1 < c2] (af [decide (n - c1 > (0 : Int)) = false] (leaf ret [nil])))) := by kernel_rfl
theorem F9 {na nb : Nat} {f g : Nat → AV} : bA T [nG, (tC, Du)] [200020] 60 o6 (ax o6) ⟨aM 0 [rz na nb f g], [], 0⟩ =
  let c9 : AV := rat 0 1; let c6 : Prop := (0 : Int) ≤ (0 : Int) ∧ Int.toNat (0 : Int) < 2; let c5 : Nat := 0 + na; let c3 : Int := (0 : Int) + (↑na : Int); let c2 : Int := (0 : Int) + (1 : Int); let c1 : Int := (2 : Int) ^ 63; let c8 : Prop := (0 : Int) ≤ c2 ∧ c2.toNat < 2; let c7 : Prop := -c1 ≤ c2 + (1 : Int) ∧ c2 + (1 : Int) < c1; let c4 : Int := c3 + (↑nb : Int); some (af [c6] (af [-c1 ≤ c3 ∧ c3 < c1] (af [decide (c3 < (0 : Int)) = false] (af [-c1 ≤ c2 ∧ c2 < c1] (af [c8] (af [-c1 ≤ c4 ∧ c4 < c1] (af [decide (c4 < (0 : Int)) = false] (af [c7] (af [(0 : Int) < c4 ∧ c4 < (2 : Int) ^ 30] (af [c6] (af [c5 * ((112 : Nat) + 1) * 2 ≤ 2 ^ 47] (af [-c1 ≤ c2 ∧ c2 < c1] (af [c8] (af [(c5 + nb) * ((112 : Nat) + 1) * 2 ≤ 2 ^ 47] (af [c7] (leaf ret [ah 6 (c5 + nb) fun i ↦ if i + 0 < c5 then if i + 0 < 0 then agg [c9, c9] else f (i + 0 - 0) else g (i + 0 - c5)])))))))))))))))) := by kernel_rfl
theorem EY : aO P tC qB (ax qB) := aS Og (by kernel_rfl) (by kernel_rfl) (by kernel_rfl)
theorem Dd : aO P sJ o6 (ax o6) := aS HZ (by kernel_rfl) (by kernel_rfl) (by kernel_rfl)
theorem SQ : ∀ K args pre r, Du K args pre = some r → aC P tC K args pre r := by
 refine y7 fun K args r hk hs => ?_
 split at hs
 ·rename_i n
  simp only [Option.some.injEq] at hs
  subst hs
  refine Th hT EY (fun _ => Cg hk rfl (show dO [.nil, .int .i64 n] [.nil, .int .i64 n] from ⟨.refl _, .refl _, trivial⟩)) (of_decide_eq_true (by kernel_rfl)) fun need c hkp => ?_
  have need : 0 < n ∧ n < 2 ^ 30 := need
  obtain ⟨h1, h2⟩ := need
  refine aq.aR hT (iH aZ) hm 60 [4] Kt (by kernel_rfl) ?_
  have e : n - (0 - ((0 : Nat) : Int)) = n := by omega
  simp only [aa.all, az, e]
  exact ⟨decide_eq_false (by omega), ⟨by omega, by omega⟩, decide_eq_true (by omega), ⟨by omega, by omega, by omega⟩, fun s' hs' => ⟨by simp, [4], _, [.own 73728 6 0 0], _, 73728, _, hs', by kernel_rfl, ⟨⟨rfl, cz (by simp [aU, look]) rfl rfl⟩, trivial⟩, rfl, gV rfl fun i hi => aE rfl⟩⟩
 ·simp at hs
theorem Pr {na nb : Nat} {f g : Nat → AV} (h : 0 < na + nb) (h2 : na + nb < 2 ^ 30) (K : Nat) : aC P sJ K [rz na nb f g] [] (aJ (.ah 6 (na + nb) fun i => if i < na then f i else g (i - na)) []) := by
 refine bE (r := aJ (.ah 6 (na + nb) fun i => if i < na then f i else g (i - na)) []) hT (iH (aK SQ aZ)) hm Dd rfl (of_decide_eq_true (by kernel_rfl)) rfl 60 F9 (fun _ => ?_) K []
 simp only [aa.all, az, Nat.zero_add]
 (repeat' with_reducible refine And.intro ?_ ?_)
 all_goals first | omega | exact decide_eq_false (by omega) | skip
 refine ij fun i _ => ?_
 show bn (if i < na then (if i < 0 then _ else f i) else g (i - na)) _
 rw [if_neg (Nat.not_lt_zero i)]
 exact .refl _
end Go.Am.B

/- ref02: Min, Max; spans. -/
namespace Go.Am.B
open Go Go.Am.N AV aa aj IntKind
theorem Nm : aO P wE th (ax th) := aS TQ (by kernel_rfl) (by kernel_rfl) (by kernel_rfl)
theorem M6 : aO P wK qo (ax qo) := aS FL (by kernel_rfl) (by kernel_rfl) (by kernel_rfl)
theorem NW {q r : Rat} {n m : Nat} : bA T tX [8] 60 th (ax th) ⟨aM 0 [.rat q n, .rat r m], [], 0⟩ =
  let c1 : Prop := 0 < 1; some (af [c1, c1, m < 2 ^ 41, n < 2 ^ 41] (fork (decide (dJ r q < (0 : Int))) (af [c1, c1] (af [c1] (leaf ret [rat r m]))) (af [c1, c1] (af [c1] (leaf ret [rat q n]))))) := by kernel_rfl
theorem JK {q r : Rat} {n m : Nat} : bA T tX [8] 60 qo (ax qo) ⟨aM 0 [.rat q n, .rat r m], [], 0⟩ =
  let c1 : Prop := 0 < 1; some (af [c1, c1, m < 2 ^ 41, n < 2 ^ 41] (fork (decide (dJ r q > (0 : Int))) (af [c1, c1] (af [c1] (leaf ret [rat r m]))) (af [c1, c1] (af [c1] (leaf ret [rat q n]))))) := by kernel_rfl
theorem TM {q r : Rat} : decide (dJ q r < (0 : Int)) = decide (q < r) := by unfold dJ; by_cases h : q < r <;> by_cases h' : r < q <;> simp [h, h']
theorem z6 {q r : Rat} : decide (dJ q r > (0 : Int)) = decide (r < q) := by
 unfold dJ
 by_cases h : q < r
 ·have : ¬ r < q := by grind
  simp [h, this]
 ·by_cases h' : r < q <;> simp [h, h']
theorem Lg {q r : Rat} {n m : Nat} (hn : n < 2 ^ 41) (hm' : m < 2 ^ 41) (K : Nat) : aC P wE K [.rat q n, .rat r m] [] (aJ (.rat (cO q r) (max n m)) []) := by
 refine bE hT x7 hm Nm rfl (of_decide_eq_true (by kernel_rfl)) rfl 60 NW (fun _ => ?_) K []
 rw [TM]
 simp only [aa.all, az, decide_eq_true_eq, decide_eq_false_iff_not]
 (repeat' with_reducible first | refine And.intro ?_ ?_ | intro _)
 all_goals first | omega | skip
 ·rename_i h; unfold cO; rw [if_pos h]; exact iB (Nat.le_max_right _ _)
 ·rename_i h; unfold cO; rw [if_neg h]; exact iB (Nat.le_max_left _ _)
theorem Ml {q r : Rat} {n m : Nat} (hn : n < 2 ^ 41) (hm' : m < 2 ^ 41) (K : Nat) : aC P wK K [.rat q n, .rat r m] [] (aJ (.rat (cQ q r) (max n m)) []) := by
 refine bE hT x7 hm M6 rfl (of_decide_eq_true (by kernel_rfl)) rfl 60 JK (fun _ => ?_) K []
 rw [z6]
 simp only [aa.all, az, decide_eq_true_eq, decide_eq_false_iff_not]
 (repeat' with_reducible first | refine And.intro ?_ ?_ | intro _)
 all_goals first | omega | skip
 ·rename_i h; unfold cQ; rw [if_pos h]; exact iB (Nat.le_max_right _ _)
 ·rename_i h; unfold cQ; rw [if_neg h]; exact iB (Nat.le_max_left _ _)
def Cr : bf := [(wE, gP dR dR xU (b2 41)), (wK, gP dR dR zw (b2 41))]
theorem QD : bC P Cr := aK (gZ fun _ _ K hn => Lg (eo hn).1 (eo hn).2 K) (aK (gZ fun _ _ K hn => Ml (eo hn).1 (eo hn).2 K) aZ)
end Go.Am.B

/- Spans: lists of spans, cells; trace.spans, trace.alike, trace.Touch. -/
namespace Go.Am.B
open Go Go.Am.N AV aa aj IntKind
theorem Lx : aO P z7 vP (ax vP) := aS I3 (by kernel_rfl) (by kernel_rfl) (by kernel_rfl)
theorem JV : aO P x4 vK (ax vK) := aS UP (by kernel_rfl) (by kernel_rfl) (by kernel_rfl)
theorem NS : aO P yz vw (ax vw) := aS Gy (by kernel_rfl) (by kernel_rfl) (by kernel_rfl)
theorem Ku : aO P rB rC (ax rC) := aS Qu (by kernel_rfl) (by kernel_rfl) (by kernel_rfl)
theorem St : aO P tc pL (ax pL) := aS Qn (by kernel_rfl) (by kernel_rfl) (by kernel_rfl)
theorem N9 : aO P l9 q6 (ax q6) := aS RW (by kernel_rfl) (by kernel_rfl) (by kernel_rfl)
structure Sp where
 lo : Rat
 hi : Rat
abbrev sA (s : Sp) (n : Nat) : AV := .agg [.rat s.lo n, .rat s.hi n]
abbrev iP (f : Nat → Sp) (n s : Nat) : AV := .ah 6 n fun i => sA (f i) s
def dX : AV → Sp
 | .agg [x, y] => ⟨AG x, AG y⟩
 | _ => ⟨0, 0⟩
def kO : AV → Option (Nat × (Nat → AV))
 | .ah 6 n f => some (n, f)
 | .nil => some (0, fun _ => .nil)
 | _ => none
def ek (f : Nat → AV) (n s : Nat) : Prop := ∀ i, i < n → bn (f i) (sA (dX (f i)) s)
structure Ce where
 na : Nat
 a : Nat → Sp
 nb : Nat
 b : Nat → Sp
 k : Int
 j : Int
abbrev bO (c : Ce) (s : Nat) : AV := .agg [iP c.a c.na s, iP c.b c.nb s, .int .i64 c.k, .int .i64 c.j]
def Ce.sp (c : Ce) (i : Nat) : Sp := if i < c.na then c.a i else c.b (i - c.na)
def kq (s t : Sp) : Bool := !decide (cO s.hi t.hi < cQ s.lo t.lo)
def gY (c d : Ce) : Bool := decide (c.na = d.na ∧ c.nb = d.nb ∧ ∀ i, i < c.na + c.nb → kq (c.sp i) (d.sp i) = true)
def uh (v : AV) : Nat × (Nat → Sp) := match kO v with
 | some (n, f) => (n, fun i => dX (f i))
 | none => (0, fun _ => ⟨0, 0⟩)
def dL : AV → Ce
 | .agg [a, b, .int .i64 k, .int .i64 j] => ⟨(uh a).1, (uh a).2, (uh b).1, (uh b).2, k, j⟩
 | _ => ⟨0, fun _ => ⟨0, 0⟩, 0, fun _ => ⟨0, 0⟩, 0, 0⟩
abbrev eu (x : Nat → Ce) (n s : Nat) : AV := .ah 4 n fun i => bO (x i) s
def ir (f : Nat → AV) (n s : Nat) : Prop := ∀ i, i < n → bn (f i) (bO (dL (f i)) s)
def C5 : AV → Option (Nat × (Nat → AV))
 | .ah 4 n f => some (n, f)
 | .nil => some (0, fun _ => .nil)
 | _ => none
theorem vO {s t : Sp} {n k : Nat} (h : s = t) (hk : n ≤ k) : bn (sA s n) (sA t k) := h ▸ fC ⟨iU rfl hk, iU rfl hk, trivial⟩
theorem E9 {f g : Nat → Sp} {n s t : Nat} (h : ∀ i, i < n → f i = g i) (hs : s ≤ t) : bn (iP f n s) (iP g n t) := ij fun i hi => vO (h i hi) hs
theorem T2 {c d : Ce} {s t : Nat} (h : c = d) (hs : s ≤ t) : bn (bO c s) (bO d t) := h ▸ fC ⟨E9 (fun _ _ => rfl) hs, E9 (fun _ _ => rfl) hs, .refl _, .refl _, trivial⟩
theorem HX {v : AV} {n s : Nat} {f : Nat → AV} (h : kO v = some (n, f)) (ha : ek f n s) : bn v (iP (fun i => dX (f i)) n s) := by
 unfold kO at h
 split at h
 ·simp only [Option.some.injEq, Prod.mk.injEq] at h
  obtain ⟨rfl, rfl⟩ := h
  exact ij ha
 ·simp only [Option.some.injEq, Prod.mk.injEq] at h
  obtain ⟨rfl, rfl⟩ := h
  exact gQ (by omega)
 ·simp at h
theorem bS {f : Nat → Sp} {n s s' : Nat} (h : s ≤ s') : ek (fun i => sA (f i) s) n s' := fun _ _ => vO rfl h
theorem jT {x : Nat → Ce} {n s s' : Nat} (h : s ≤ s') : ir (fun i => bO (x i) s) n s' := fun _ _ => T2 rfl h
def vt (s : Nat) : Kind (Nat × (Nat → Sp)) := ⟨fun v => match kO v with
 | some (n, f) => some ((n, fun i => dX (f i)), [ek f n s])
 | none => none, fun a => iP a.2 a.1 s, fun {v a q} h hq => by
  split at h
  ·rename_i h1
   simp only [Option.some.injEq, Prod.mk.injEq] at h
   obtain ⟨rfl, rfl⟩ := h
   exact HX h1 hq
  ·simp at h⟩
def p5 (s : Nat) : Kind Ce := ⟨fun v => match v with
 | .agg [a, b, .int .i64 k, .int .i64 j] => match (vt s).read a, (vt s).read b with
  | some ((n, f), q1), some ((m, g), q2) => some (⟨n, f, m, g, k, j⟩, q1 ++ q2)
  | _, _ => none
 | _ => none, fun a => bO a s, fun {v a q} h hq => by
  split at h
  ·split at h
   ·rename_i h1 h2
    simp only [Option.some.injEq, Prod.mk.injEq] at h
    obtain ⟨rfl, rfl⟩ := h
    obtain ⟨g1, g2⟩ := dU.1 hq
    exact fC ⟨(vt s).ok h1 g1, (vt s).ok h2 g2, .refl _, .refl _, trivial⟩
   ·simp at h
  ·simp at h⟩
def jQ (s : Nat) : Kind (Nat × (Nat → Ce)) := ⟨fun v => match C5 v with
 | some (n, f) => some ((n, fun i => dL (f i)), [ir f n s])
 | none => none, fun a => eu a.2 a.1 s, fun {v a q} h hq => by
  split at h
  ·rename_i h1
   simp only [Option.some.injEq, Prod.mk.injEq] at h
   obtain ⟨rfl, rfl⟩ := h
   unfold C5 at h1
   split at h1
   ·simp only [Option.some.injEq, Prod.mk.injEq] at h1
    obtain ⟨rfl, rfl⟩ := h1
    exact ij hq
   ·simp only [Option.some.injEq, Prod.mk.injEq] at h1
    obtain ⟨rfl, rfl⟩ := h1
    exact gQ (by omega)
   ·simp at h1
  ·simp at h⟩
def Cl : Spec := bp fun l => match l with
 | [.ah 1 2 h] => match kO (h 0), kO (h 1) with
  | some (na, f), some (nb, g) => some (aJ (.ah 6 (na + nb) fun i => if i < na then f i else g (i - na)) [na + nb < 2 ^ 30])
  | _, _ => none
 | _ => none
noncomputable def Fy : bf := [(sJ, Cl)]
def yt (s : Nat) : Spec := fN (kC (p5 s) kN) (fun a => iP a.1.sp (a.1.na + a.1.nb) s) fun a => [a.1.na + a.1.nb < 2 ^ 30]
def yb (s : Nat) : Spec := fN (kC (p5 s) (kC (p5 s) kN)) (fun a => .bool (decide (a.1.na = a.2.1.na ∧ a.1.nb = a.2.1.nb))) fun a => [a.1.na < 2 ^ 30, a.1.nb < 2 ^ 30, a.2.1.na < 2 ^ 30, a.2.1.nb < 2 ^ 30]
def vQ : bf := (s9, gP dR dR xU (b2 42)) :: (ri, gP dR dR zw (b2 42)) :: Ei
noncomputable def wQ : bf := nG :: (tc, yb 64) :: (rB, yt 64) :: (z7, s5 T vQ [23] 60 vP) :: []
noncomputable abbrev sF : Code := ax q6
abbrev sW : List Nat := [4, 5, 17, 18, 19]
abbrev y6 (f g : Nat → Sp) (n i : Nat) : List AV := [.bool false, iP g n 64, iP f n 64, .int .i64 n, .int .i64 i]
def wq : Spec := fN (kC (p5 64) (kC (p5 64) kN)) (fun a => .bool (gY a.1 a.2.1)) fun a => [a.1.na + a.1.nb < 2 ^ 30, a.2.1.na + a.2.1.nb < 2 ^ 30]
theorem PG {f g : Nat → AV} : bA T [zG, (tC, Ek)] [] 60 o6 (ax o6) ⟨aM 0 [rz 0 0 f g], [], 0⟩ =
  let c5 : Int := (↑(0 : Nat) : Int); let c4 : Prop := (0 : Int) ≤ (0 : Int) ∧ Int.toNat (0 : Int) < 2; let c2 : Int := (0 : Int) + (1 : Int); let c1 : Int := (2 : Int) ^ 63; let c7 : Prop := (0 : Int) ≤ c2 ∧ c2.toNat < 2; let c6 : Prop := -c1 ≤ c2 + (1 : Int) ∧ c2 + (1 : Int) < c1; let c3 : Int := (0 : Int) + c5; some (af [c4] (af [-c1 ≤ c3 ∧ c3 < c1] (af [-c1 ≤ c2 ∧ c2 < c1] (af [c7] (af [-c1 ≤ c3 + c5 ∧ c3 + c5 < c1] (af [c6] (af [c3 + c5 = (0 : Int)] (af [c4] (af [(0 : Nat) * ((112 : Nat) + 1) * 2 ≤ 2 ^ 47] (af [-c1 ≤ c2 ∧ c2 < c1] (af [c7] (af [((0 : Nat) + 0) * ((112 : Nat) + 1) * 2 ≤ 2 ^ 47] (af [c6] (leaf ret [ah 6 0 fun i ↦ if i + 0 < 0 then f (i + 0) else g (i + 0 - 0)])))))))))))))) := by kernel_rfl
theorem MV {c : Ce} {s : Nat} : bA T Fy [] 60 rC (ax rC) ⟨aM 0 [bO c s], [], 0⟩ =
  some (af [(0 : Nat) < 1, (0 : Nat) < 1, (2 : Nat) * 1 ≤ 2 ^ 24, c.na + c.nb < 2 ^ 30] (leaf ret [ah 6 (c.na + c.nb) fun i ↦ if i < c.na then sA (c.a i) s else sA (c.b (i - c.na)) s])) := by kernel_rfl
theorem Ox {c d : Ce} {s : Nat} : bA T [] [12] 60 pL (ax pL) ⟨aM 0 [bO c s, bO d s], [], 0⟩ =
  let c2 : Bool := (↑c.na : Int) == (↑d.na : Int); let c1 : Prop := 0 < 1; some (fork c2 (af [c1, c1, c2 = true, c1, c1] (leaf ret [AV.bool (bif true then (↑c.nb : Int) == (↑d.nb : Int) else false)])) (af [c1, c1, c2 = false] (leaf ret [AV.bool false]))) := by kernel_rfl
theorem Ol {c d : Ce} : aG T wQ [13] 60 sW (before sF [1,1,1,0,1]) ⟨aM 0 [bO c 64, bO d 64], [], 0⟩ =
  let c8 : Prop := ek (fun i ↦ sA (d.a i) 64) d.na 64; let c7 : Prop := ek (fun i ↦ sA (c.b i) 64) c.nb 64; let c6 : Prop := ek (fun i ↦ sA (c.a i) 64) c.na 64; let c5 : Prop := ek (fun i ↦ sA (d.b i) 64) d.nb 64; let c4 : Prop := 0 < 1; let c3 : Nat := 2 ^ 30; let c2 : Ce := Ce.mk d.na (fun i ↦ dX (sA (d.a i) 64)) d.nb (fun i ↦ dX (sA (d.b i) 64)) d.k d.j; let c1 : Ce := Ce.mk c.na (fun i ↦ dX (sA (c.a i) 64)) c.nb (fun i ↦ dX (sA (c.b i) 64)) c.k c.j; some (af [c4, c4, c6, c7, c8, c5, c.na < c3, c.nb < c3, d.na < c3, d.nb < c3] (fork (!decide (c.na = d.na ∧ c.nb = d.nb)) (leaf ret ([AV.bool false, tuple [], tuple [], tuple [], tuple []], [])) (af [c4, c8, c5, d.na + d.nb < c3] (af [c4, c6, c7, c.na + c.nb < c3] (leaf normal ([AV.bool false, ah 6 (d.na + d.nb) fun i ↦ agg [rat (c2.sp i).lo 64, rat (c2.sp i).hi 64], ah 6 (c.na + c.nb) fun i ↦ agg [rat (c1.sp i).lo 64, rat (c1.sp i).hi 64], int i64 (↑(c.na + c.nb) : Int), int i64 (0 : Int)], [])))))) := by kernel_rfl
theorem FQ {f g : Nat → Sp} {n i : Nat} : aG T wQ [20, 34] 60 sW [part sF [1,1,1,0,1,0,0]] ⟨aB sW (y6 f g n i), [], 0⟩ =
  let c9 : Int := (↑n : Int); let c6 : AV := ah 6 n fun i ↦ agg [rat (g i).lo 64, rat (g i).hi 64]; let c5 : AV := ah 6 n fun i ↦ agg [rat (f i).lo 64, rat (f i).hi 64]; let c3 : Int := (↑i : Int); let c2 : Prop := 0 < 1; let c8 : Int := c3 + (1 : Int); let c7 : Prop := (0 : Int) ≤ c3 ∧ c3.toNat < n; let c4 : Int := dJ (cQ (f c3.toNat).lo (g c3.toNat).lo) (cO (f c3.toNat).hi (g c3.toNat).hi); let c1 : List AV × aA := ([AV.bool false, c6, c5, int i64 c9, int i64 c3], []); some (fork (decide (c3 < c9)) (af [c7, c2] (af [c2, c7, c2, c2, c2, c2, c2, c2, c2, decide (c4 > (0 : Int)) = true → az ([] ++ ([c2] ++ ([] ++ [])) ++ ([c2] ++ ([] ++ []) ++ [])), decide (c4 > (0 : Int)) = false → az ([c2] ++ ([c2] ++ ([] ++ [])) ++ ([c2] ++ ([] ++ []) ++ [])), c2] (fork (!bif decide (c4 > (0 : Int)) then false else true) (leaf ret c1) (af [-(2 : Int) ^ 63 ≤ c8 ∧ c8 < (2 : Int) ^ 63] (leaf normal ([AV.bool false, c6, c5, int i64 c9, int i64 c8], [])))))) (leaf (exit 0) c1)) := by kernel_rfl
theorem Ip {f g : Nat → Sp} {n i : Nat} : cJ T wQ [] 60 q6 [part sF [1,1,1,1]] ⟨aB sW (y6 f g n i), [], 0⟩ =
  some (leaf ret [AV.bool true]) := by kernel_rfl
theorem DP {v : AV} {n : Nat} {f : Nat → AV} (h : kO v = some (n, f)) : bn v (.ah 6 n f) := by
 unfold kO at h
 split at h
 ·simp only [Option.some.injEq, Prod.mk.injEq] at h
  obtain ⟨rfl, rfl⟩ := h
  exact .refl _
 ·simp only [Option.some.injEq, Prod.mk.injEq] at h
  obtain ⟨rfl, rfl⟩ := h
  exact gQ (by omega)
 ·simp at h
theorem SS : ∀ K args pre r, Ek K args pre = some r → aC P tC K args pre r := by
 refine bK fun K args r hk hs _ => ?_
 split at hs
 ·rename_i n
  simp only [Option.some.injEq] at hs
  subst hs
  intro need
  have need : n = 0 := need
  subst need
  refine (bE (r := aJ .nil []) hT (iH aZ) hm EY rfl (of_decide_eq_true (by kernel_rfl)) rfl 60 M8 (fun _ => ?_) K []) trivial
  simp only [aa.all, az]
  (repeat' with_reducible refine And.intro ?_ ?_) <;> first | exact .refl _ | omega | decide
 ·simp at hs
theorem K9 {f g : Nat → AV} (K : Nat) : aC P sJ K [rz 0 0 f g] [] (aJ (.ah 6 0 fun i => if i < 0 then f i else g (i - 0)) []) := by
 refine bE (r := aJ (.ah 6 0 fun i => if i < 0 then f i else g (i - 0)) []) hT (xB (aK SS aZ)) hm Dd rfl (of_decide_eq_true (by kernel_rfl)) rfl 60 PG (fun _ => ?_) K []
 simp only [aa.all, az]
 (repeat' with_reducible refine And.intro ?_ ?_)
 all_goals first | omega | decide | exact .refl _
theorem Tb : ∀ K args pre r, Cl K args pre = some r → aC P sJ K args pre r := by
 refine bK fun K args r hk hs _ => ?_
 split at hs
 ·rename_i h
  split at hs
  ·rename_i na f nb g h1 h2
   simp only [Option.some.injEq] at hs
   subst hs
   intro need
   have need : na + nb < 2 ^ 30 := need
   refine eJ (args' := [rz na nb f g]) ?_ hk ⟨ij fun i hi => ?_, trivial⟩ [] need
   ·intro _
    by_cases hz : na + nb = 0
    ·have : na = 0 ∧ nb = 0 := by omega
     obtain ⟨rfl, rfl⟩ := this
     exact K9 K trivial
    ·exact Pr (by omega) need K trivial
   ·match i, hi with
    | 0, _ => exact DP h1
    | 1, _ => exact DP h2
  ·simp at hs
 ·simp at hs
theorem SM : bC P Fy := aK Tb aZ
theorem Av (s : Nat) : ∀ K args pre r, yt s K args pre = some r → aC P rB K args pre r := by
 refine gj fun a K hn => ?_
 obtain ⟨c, _⟩ := a
 refine bE hT SM hm Ku rfl (of_decide_eq_true (by kernel_rfl)) rfl 60 (MV (c := c) (s := s)) (fun _ => ?_) K []
 simp only [aa.all, az]
 refine ⟨⟨by omega, by omega, by omega, hn⟩, ij fun i _ => ?_⟩
 show bn (if i < c.na then sA (c.a i) s else sA (c.b (i - c.na)) s) (sA (c.sp i) s)
 unfold Ce.sp
 by_cases h : i < c.na
 ·rw [if_pos h, if_pos h]; exact .refl _
 ·rw [if_neg h, if_neg h]; exact .refl _
theorem Eu (s : Nat) : ∀ K args pre r, yb s K args pre = some r → aC P tc K args pre r := by
 refine gj fun a K hn => ?_
 obtain ⟨c, d, _⟩ := a
 obtain ⟨n1, n2, n3, n4⟩ := hn
 refine bE hT aZ hm St rfl (of_decide_eq_true (by kernel_rfl)) rfl 60 (Ox (c := c) (d := d) (s := s)) (fun _ => ?_) K []
 simp only [aa.all, az, beq_iff_eq, beq_eq_false_iff_ne, cond_true]
 refine ⟨fun h => ⟨⟨by omega, by omega, h, by omega, by omega⟩, ep ?_⟩, fun h => ⟨⟨by omega, by omega, h⟩, ep (decide_eq_false fun hh => h (by rw [hh.1])).symm⟩⟩
 have h : c.na = d.na := by omega
 rw [Bool.eq_iff_iff]
 simp only [beq_iff_eq, decide_eq_true_eq]
 exact ⟨fun e => ⟨h, by omega⟩, fun e => by rw [e.2]⟩
theorem w8 : bC P vQ := aK (gZ fun _ _ K hn => C9 (eo hn).1 (eo hn).2 K) (aK (gZ fun _ _ K hn => A6 (eo hn).1 (eo hn).2 K) Ke)
theorem Mr : bC P wQ := iH (aK (Eu 64) (aK (Av 64) (aK (uS hT w8 hm Lx _ _) aZ)))
theorem Sr {c d : Ce} (h1 : c.na + c.nb < 2 ^ 30) (h2 : d.na + d.nb < 2 ^ 30) (K : Nat) : aC P l9 K [bO c 64, bO d 64] [] (aJ (.bool (gY c d)) []) := by
 refine zB (r := aJ (.bool (gY c d)) []) hT Mr hm N9 rfl (of_decide_eq_true (by kernel_rfl)) rfl [1,1,1,0,1] (i := 0) (y := part sF [1,1,1,0,1,0,0]) (z := part sF [1,1,1,1]) (by kernel_rfl) (by kernel_rfl) (by kernel_rfl) (f1 := [13]) (f2 := [20, 34]) (f3 := []) 60 sW 0
  (fun i : Nat => y6 c.sp d.sp (c.na + c.nb) i) (fun _ => []) (fun i => i ≤ c.na + c.nb ∧ c.na = d.na ∧ c.nb = d.nb ∧ ∀ j, j < i → kq (c.sp j) (d.sp j) = true) (fun i => i = c.na + c.nb ∧ c.na = d.na ∧ c.nb = d.nb ∧ ∀ j, j < i → kq (c.sp j) (d.sp j) = true) (fun i => c.na + c.nb - i) (fun _ => ⟨⟨_, Ol, ?_⟩, fun i ⟨g1, g2, g3, g4⟩ => ⟨_, FQ, ?_⟩, fun i ⟨g1, g2, g3, g4⟩ => ⟨_, Ip, ?_⟩⟩) K []
 ·simp only [aa.all, az, Bool.not_eq_true', Bool.not_eq_false', decide_eq_true_eq, decide_eq_false_iff_not]
  refine ⟨⟨by omega, by omega, bS (Nat.le_refl _), bS (Nat.le_refl _), bS (Nat.le_refl _), bS (Nat.le_refl _), by omega, by omega, by omega, by omega⟩, fun h => ⟨[.bool false], by kernel_rfl, ep (decide_eq_false fun hh => h ⟨hh.1, hh.2.1⟩).symm⟩, fun h => ⟨⟨by omega, bS (Nat.le_refl _), bS (Nat.le_refl _), h2⟩, ⟨by omega, bS (Nat.le_refl _), bS (Nat.le_refl _), h1⟩, 0, ⟨by omega, h.1, h.2, fun j hj => by omega⟩, ?_⟩⟩
  have e : d.na + d.nb = c.na + c.nb := by omega
  rw [e]
  exact .vals rfl
 ·have hc : dJ (cQ (c.sp i).lo (d.sp i).lo) (cO (c.sp i).hi (d.sp i).hi) > 0 ↔ ¬ kq (c.sp i) (d.sp i) = true := by
   have := z6 (q := cQ (c.sp i).lo (d.sp i).lo) (r := cO (c.sp i).hi (d.sp i).hi)
   unfold kq
   rw [← this]
   simp
  simp only [aa.all, az, Int.toNat_natCast, decide_eq_true_eq, decide_eq_false_iff_not]
  refine ⟨fun h => ⟨⟨by omega, by omega⟩, ⟨by omega, by omega, by omega, by omega, by omega, by omega, by omega, by omega, by omega, fun _ => (show 0 < 1 ∧ 0 < 1 from ⟨by omega, by omega⟩), fun _ => (show 0 < 1 ∧ 0 < 1 ∧ 0 < 1 from ⟨by omega, by omega, by omega⟩), by omega⟩, fun hb => ?_, fun hb => ⟨by omega, ?_⟩⟩, fun h => ⟨rfl, i, ⟨by omega, g2, g3, g4⟩, .vals rfl⟩⟩
  ·refine ⟨[.bool false], by kernel_rfl, ep (decide_eq_false fun hh => ?_).symm⟩
   have hb : dJ (cQ (c.sp i).lo (d.sp i).lo) (cO (c.sp i).hi (d.sp i).hi) > 0 := by simpa using hb
   exact hc.1 hb (hh.2.2 i (by omega))
  ·have hb : ¬ dJ (cQ (c.sp i).lo (d.sp i).lo) (cO (c.sp i).hi (d.sp i).hi) > 0 := by simpa using hb
   refine ⟨i + 1, ⟨by omega, g2, g3, fun j hj => ?_⟩, by dsimp only; omega, .vals rfl⟩
   by_cases hj2 : j = i
   ·subst hj2; exact Decidable.not_not.1 fun hn => hb (hc.2 hn)
   ·exact g4 j (by omega)
 ·subst g1
  simp only [aa.all]
  exact ep (decide_eq_true ⟨g2, g3, g4⟩).symm
theorem y5 : ∀ K args pre r, wq K args pre = some r → aC P l9 K args pre r := gj fun _ K hn => Sr hn.1 hn.2 K
theorem Jy {a b : Rat} : cO a b = cO b a := by unfold cO; grind
theorem PF {a b : Rat} : cQ a b = cQ b a := by unfold cQ; grind
theorem IT {c d : Ce} : gY c d = gY d c := by
 unfold gY
 have key : ∀ {c d : Ce}, (c.na = d.na ∧ c.nb = d.nb ∧ ∀ i, i < c.na + c.nb → kq (c.sp i) (d.sp i) = true) → d.na = c.na ∧ d.nb = c.nb ∧ ∀ i, i < d.na + d.nb → kq (d.sp i) (c.sp i) = true := fun {c d} ⟨h1, h2, h3⟩ => ⟨h1.symm, h2.symm, fun i hi => by
  have := h3 i (by omega)
  unfold kq at this ⊢
  rw [Jy, PF]; exact this⟩
 rw [Bool.eq_iff_iff]
 simp only [decide_eq_true_eq]
 exact ⟨key, key⟩
end Go.Am.B

/- brepkernellaw22.cells: the cells that a die makes. -/
namespace Go.Am.B
open Go Go.Am.N AV aa aj IntKind
theorem Kx : aO P vG tr (ax tr) := aS UC (by kernel_rfl) (by kernel_rfl) (by kernel_rfl)
theorem Dq : aO P qy qO (ax qO) := aS J0 (by kernel_rfl) (by kernel_rfl) (by kernel_rfl)
def DJ : bf := (tA, iQ xL) :: Cr
def gk (n : Nat) (f : Nat → AV) (a : Int) : Sp := ⟨cO (ff n f a) (ff n f (fT n f a)), cQ (ff n f a) (ff n f (fT n f a))⟩
def m0 (n : Nat) (f : Nat → AV) (a : Int) : Int := fT n f (fT n f a)
def yI (n : Nat) (f : Nat → AV) (a : Int) (l : List AV) : Option (AV × Int × List Prop) := match l with
 | [] => some (sA (gk n f a) 64, m0 n f a, [])
 | _ => none
def dS (n : Nat) (f : Nat → AV) (a : Int) : Nat → Int
 | 0 => a
 | j + 1 => m0 n f (dS n f a j)
def fH (n : Nat) (f : Nat → AV) (p : Int) (u v : Nat) : Int := dS n f (dS n f p u) v
def tG (n : Nat) (f : Nat → AV) (p : Int) (u v : Nat) : Ce :=
 ⟨u + (if bW n f (fH n f p u v) 12 = 11 then 1 else 0), fun i => if i < u then gk n f (dS n f p i) else gk n f (br n (fH n f p u v)), v, fun i => gk n f (dS n f (dS n f p u) i), 0, 0⟩
def lJ (n : Nat) (f : Nat → AV) (p : Int) (u v : Nat) : Int := if bW n f (fH n f p u v) 12 = 11 then m0 n f (br n (fH n f p u v)) else br n (fH n f p u v)
def dY (n : Nat) (f : Nat → AV) (p : Int) (u v : Nat) : Nat → Int
 | 0 => p
 | j + 1 => lJ n f (dY n f p u v j) u v
def iF (n : Nat) (f : Nat → AV) (a : Int) : Nat := (bW n f a 3).toNat
def g7 (n : Nat) (f : Nat → AV) (a : Int) : Nat := (bW n f (br n a) 3).toNat
def js (n : Nat) (f : Nat → AV) (a : Int) : Nat := (bW n f (br n (br n a)) 9).toNat
def iq (n : Nat) (a : Int) : Int := br n (br n (br n a))
def ia (n : Nat) (f : Nat → AV) (a : Int) (i : Nat) : Ce := tG n f (dY n f (iq n a) (iF n f a) (g7 n f a) i) (iF n f a) (g7 n f a)
def y8 (n : Nat) (f : Nat → AV) (a : Int) : Int := dY n f (iq n a) (iF n f a) (g7 n f a) (js n f a)
def zV (n : Nat) (f : Nat → AV) (a : Int) (l : List AV) : Option (AV × Int × List Prop) := match l with
 | [] => some (eu (ia n f a) (js n f a) 64, y8 n f a, [])
 | _ => none
abbrev oG (n : Nat) (z : Nat → Int) (a : Int) : aH := fW n (fun i => .int .i64 (z i)) a
def jD : bf := nG :: (nI, iQ uu) :: (vG, iQ yI) :: []
noncomputable abbrev vf : Code := ax qO
noncomputable abbrev o5 : Code := part vf [1,1,1,0,1,0,0]
noncomputable abbrev mm : Code := part o5 [1,0,0]
noncomputable abbrev kJ : Code := part mm [1,1]
abbrev jY : List Nat := [0, 3, 4, 5, 6]
abbrev nQ (u v : Nat) (m : Int) (j : Nat) : List AV := [.ptr 0 0 2 0 [], .own 1 4 0 j, .int .i64 u, .int .i64 v, .int .i64 m]
abbrev pJ (n : Nat) (z : Nat → Int) (p : Int) (x : Nat → Ce) (j : Nat) : aA := [(1, ⟨true, true, 4, j, fun i => bO (x i) 64⟩), (0, oG n z p)]
abbrev rS : List Nat := [0, 3, 4, 5, 6, 7, 8]
abbrev oe (u v : Nat) (m : Int) (j i : Nat) : List AV := [.ptr 0 0 2 0 [], .own 1 4 0 j, .int .i64 u, .int .i64 v, .int .i64 m, .ptr 2 0 4 0 [], .int .i64 i]
abbrev z5 (n : Nat) (z : Nat → Int) (p : Int) (x : Nat → Ce) (j i : Nat) (f : Nat → Sp) : aA := [(3, ⟨true, true, 6, i, fun i => sA (f i) 64⟩), (2, ⟨false, true, 4, 1, fun _ => .agg [.own 3 6 0 i, .nil, .int .i64 0, .int .i64 0]⟩), (1, ⟨true, true, 4, j, fun i => bO (x i) 64⟩), (0, oG n z p)]
abbrev td : List Nat := [0, 3, 4, 5, 6, 7, 9]
abbrev yG (n : Nat) (z : Nat → Int) (p : Int) (x : Nat → Ce) (j u i : Nat) (f g : Nat → Sp) : aA := [(4, ⟨true, true, 6, i, fun i => sA (g i) 64⟩), (3, ⟨true, true, 6, u, fun i => sA (f i) 64⟩), (2, ⟨false, true, 4, 1, fun _ => .agg [.own 3 6 0 u, .own 4 6 0 i, .int .i64 0, .int .i64 0]⟩), (1, ⟨true, true, 4, j, fun i => bO (x i) 64⟩), (0, oG n z p)]
theorem Sl {n : Nat} {z : Nat → Int} {a : Int} : r7 T DJ [] 60 tr (ax tr) ⟨aM 0 [.ptr 0 0 2 0 []], [(0, fW n (fun i => .int .i64 (z i)) a)], 1⟩ =
  let c4 : Rat := ff n (fun i ↦ int i64 (z i)) a; let c2 : Int := fT n (fun i ↦ int i64 (z i)) a; let c1 : Prop := 0 < 1; let c3 : Rat := ff n (fun i ↦ int i64 (z i)) c2; some (af [cw n (fun i ↦ int i64 (z i)) a, cw n (fun i ↦ int i64 (z i)) c2, c1, c1] (af [c1, c1, c1, c1, c1] (af [c1] (leaf ret ([agg [rat (cO c4 c3) 64, rat (cQ c4 c3) 64]], some (aH.mk false true 2 1 fun x ↦ agg [ah 1 n fun i ↦ int i64 (z i), int i64 (fT n (fun i ↦ int i64 (z i)) c2)])))))) := by kernel_rfl
theorem IZ {n : Nat} {z : Nat → Int} {a : Int} : aG T jD [] 60 jY (before vf [1,1,1,0,1]) ⟨aM 0 [.ptr 0 0 2 0 []], [(0, oG n z a)], 1⟩ =
  let c2 : Int := br n (br n a); let c1 : Int := (2 : Int) ^ 62; some (af [cw n (fun i ↦ int i64 (z i)) a, (0 : Int) < (3 : Int), (3 : Int) < c1, cw n (fun i ↦ int i64 (z i)) (br n a), (0 : Int) < (3 : Int), (3 : Int) < c1] (af [cw n (fun i ↦ int i64 (z i)) c2, (0 : Int) < (9 : Int), (9 : Int) < c1] (leaf normal ([ptr 0 0 2 0 [], nil, int i64 (bW n (fun i ↦ int i64 (z i)) a (3 : Int)), int i64 (bW n (fun i ↦ int i64 (z i)) (br n a) (3 : Int)), int i64 (bW n (fun i ↦ int i64 (z i)) c2 (9 : Int))], [((0 : Nat), aH.mk false true 2 1 fun x ↦ agg [ah 1 n fun i ↦ int i64 (z i), int i64 (br n c2)])])))) := by kernel_rfl
theorem P4 {n u v j : Nat} {m : Int} {z : Nat → Int} {p : Int} {x : Nat → Ce} : aG T jD [17] 60 jY (before o5 [1,0]) ⟨aB jY (nQ u v m j), pJ n z p x j, 2⟩ =
  let c1 : List AV × aA := ([ptr 0 0 2 0 [], own 1 4 0 j, int i64 (↑u : Int), int i64 (↑v : Int), int i64 m], [((1 : Nat), aH.mk true true 4 j fun i ↦ agg [ah 6 (x i).na fun i_1 ↦ agg [rat ((x i).a i_1).lo 64, rat ((x i).a i_1).hi 64], ah 6 (x i).nb fun i_1 ↦ agg [rat ((x i).b i_1).lo 64, rat ((x i).b i_1).hi 64], int i64 (x i).k, int i64 (x i).j]), ((0 : Nat), aH.mk false true 2 1 fun x ↦ agg [ah 1 n fun i ↦ int i64 (z i), int i64 p])]); some (fork (decide (m > (0 : Int))) (leaf normal c1) (leaf (exit 0) c1)) := by kernel_rfl
theorem QN {n u v j : Nat} {m : Int} {z : Nat → Int} {p : Int} {x : Nat → Ce} : aG T jD [] 60 rS (before mm [1,0,1]) ⟨aB jY (nQ u v m j), pJ n z p x j, 2⟩ =
  let c1 : AV := int i64 (0 : Int); some (leaf normal ([ptr 0 0 2 0 [], own 1 4 0 j, int i64 (↑u : Int), int i64 (↑v : Int), int i64 m, ptr 2 0 4 0 [], c1], [((2 : Nat), aH.mk false true 4 1 fun x ↦ agg [nil, nil, c1, c1]), ((1 : Nat), aH.mk true true 4 j fun i ↦ agg [ah 6 (x i).na fun i_1 ↦ agg [rat ((x i).a i_1).lo 64, rat ((x i).a i_1).hi 64], ah 6 (x i).nb fun i_1 ↦ agg [rat ((x i).b i_1).lo 64, rat ((x i).b i_1).hi 64], int i64 (x i).k, int i64 (x i).j]), ((0 : Nat), aH.mk false true 2 1 fun x ↦ agg [ah 1 n fun i ↦ int i64 (z i), int i64 p])])) := by kernel_rfl
theorem T9 {n u v j i : Nat} {m : Int} {z : Nat → Int} {p : Int} {x : Nat → Ce} {f : Nat → Sp} : aG T jD [22] 60 rS [part mm [1,0,1,0,0]] ⟨aB rS (oe u v m j i), z5 n z p x j i f, 4⟩ =
  let c12 : Int := (↑i : Int); let c11 : AV := rat 0 1; let c10 : Int := (↑u : Int); let c9 : Rat := ff n (fun i ↦ int i64 (z i)) p; let c8 : AV := own 1 4 0 j; let c7 : AV := ah 1 n fun i ↦ int i64 (z i); let c5 : AV := ptr 0 0 2 0 []; let c4 : AV := ptr 2 0 4 0 []; let c3 : Rat := ff n (fun i ↦ int i64 (z i)) (fT n (fun i ↦ int i64 (z i)) p); let c2 : AV := agg [own 3 6 0 i, nil, int i64 (0 : Int), int i64 (0 : Int)]; let c1 : Nat × aH := ((1 : Nat), aH.mk true true 4 j fun i ↦ agg [ah 6 (x i).na fun i_1 ↦ agg [rat ((x i).a i_1).lo 64, rat ((x i).a i_1).hi 64], ah 6 (x i).nb fun i_1 ↦ agg [rat ((x i).b i_1).lo 64, rat ((x i).b i_1).hi 64], int i64 (x i).k, int i64 (x i).j]); let c6 : Int := c12 + (1 : Int); some (fork (decide (c12 < c10)) (af [(0 : Nat) < 1, cw n (fun i ↦ int i64 (z i)) p, (1 : Nat) * 6 ≤ 2 ^ 24, (i + 1) * ((112 : Nat) + 1) * 2 ≤ 2 ^ 47, (0 : Nat) < 1] (af [-(2 : Int) ^ 63 ≤ c6 ∧ c6 < (2 : Int) ^ 63] (leaf normal ([c5, c8, int i64 c10, int i64 (↑v : Int), int i64 m, c4, int i64 c6], [((32772 : Nat), aH.mk true true 6 (i + 1) fun i_1 ↦ if i_1 < i then sA (f i_1) 64 else nth [agg [rat (cO c9 c3) 64, rat (cQ c9 c3) 64]] (agg [c11, c11]) (i_1 - i + 0)), ((2 : Nat), aH.mk false true 4 1 fun j ↦ if (j == 0) = true then agg (c2.kids.set 0 (dg (own (nat_lit 32771 + 1) 6 0 (i + 1)))) else c2), c1, ((0 : Nat), aH.mk false true 2 1 fun x ↦ agg [c7, int i64 (m0 n (fun i ↦ int i64 (z i)) p)])])))) (leaf (exit 2) ([c5, c8, int i64 c10, int i64 (↑v : Int), int i64 m, c4, int i64 c12], [((3 : Nat), aH.mk true true 6 i fun i ↦ agg [rat (f i).lo 64, rat (f i).hi 64]), ((2 : Nat), aH.mk false true 4 1 fun x ↦ c2), c1, ((0 : Nat), aH.mk false true 2 1 fun x ↦ agg [c7, int i64 p])]))) := by kernel_rfl
theorem ON {n u v j i : Nat} {m : Int} {z : Nat → Int} {p : Int} {x : Nat → Ce} {f : Nat → Sp} : aG T jD [] 60 td (before kJ [0,1]) ⟨aB rS (oe u v m j i), z5 n z p x j i f, 4⟩ =
  let c1 : AV := int i64 (0 : Int); some (leaf normal ([ptr 0 0 2 0 [], own 1 4 0 j, int i64 (↑u : Int), int i64 (↑v : Int), int i64 m, ptr 2 0 4 0 [], c1], [((3 : Nat), aH.mk true true 6 i fun i ↦ agg [rat (f i).lo 64, rat (f i).hi 64]), ((2 : Nat), aH.mk false true 4 1 fun x ↦ agg [own 3 6 0 i, nil, c1, c1]), ((1 : Nat), aH.mk true true 4 j fun i ↦ agg [ah 6 (x i).na fun i_1 ↦ agg [rat ((x i).a i_1).lo 64, rat ((x i).a i_1).hi 64], ah 6 (x i).nb fun i_1 ↦ agg [rat ((x i).b i_1).lo 64, rat ((x i).b i_1).hi 64], int i64 (x i).k, int i64 (x i).j]), ((0 : Nat), aH.mk false true 2 1 fun x ↦ agg [ah 1 n fun i ↦ int i64 (z i), int i64 p])])) := by kernel_rfl
theorem Ui {n u v j i : Nat} {m : Int} {z : Nat → Int} {p : Int} {x : Nat → Ce} {f g : Nat → Sp} : aG T jD [34] 60 td [part kJ [0,1,0,0]] ⟨aB td (oe u v m j i), yG n z p x j u i f g, 5⟩ =
  let c13 : AV := rat 0 1; let c12 : Int := (↑i : Int); let c11 : Int := (↑v : Int); let c10 : Rat := ff n (fun i ↦ int i64 (z i)) p; let c9 : AV := own 1 4 0 j; let c8 : AV := ah 1 n fun i ↦ int i64 (z i); let c6 : AV := ptr 0 0 2 0 []; let c5 : AV := ptr 2 0 4 0 []; let c4 : Rat := ff n (fun i ↦ int i64 (z i)) (fT n (fun i ↦ int i64 (z i)) p); let c3 : Nat × aH := ((3 : Nat), aH.mk true true 6 u fun i ↦ agg [rat (f i).lo 64, rat (f i).hi 64]); let c2 : AV := agg [own 3 6 0 u, own 4 6 0 i, int i64 (0 : Int), int i64 (0 : Int)]; let c1 : Nat × aH := ((1 : Nat), aH.mk true true 4 j fun i ↦ agg [ah 6 (x i).na fun i_1 ↦ agg [rat ((x i).a i_1).lo 64, rat ((x i).a i_1).hi 64], ah 6 (x i).nb fun i_1 ↦ agg [rat ((x i).b i_1).lo 64, rat ((x i).b i_1).hi 64], int i64 (x i).k, int i64 (x i).j]); let c7 : Int := c12 + (1 : Int); some (fork (decide (c12 < c11)) (af [(0 : Nat) < 1, cw n (fun i ↦ int i64 (z i)) p, (1 : Nat) * 6 ≤ 2 ^ 24, (i + 1) * ((112 : Nat) + 1) * 2 ≤ 2 ^ 47, (0 : Nat) < 1] (af [-(2 : Int) ^ 63 ≤ c7 ∧ c7 < (2 : Int) ^ 63] (leaf normal ([c6, c9, int i64 (↑u : Int), int i64 c11, int i64 m, c5, int i64 c7], [((32773 : Nat), aH.mk true true 6 (i + 1) fun i_1 ↦ if i_1 < i then sA (g i_1) 64 else nth [agg [rat (cO c10 c4) 64, rat (cQ c10 c4) 64]] (agg [c13, c13]) (i_1 - i + 0)), c3, ((2 : Nat), aH.mk false true 4 1 fun j ↦ if (j == 0) = true then agg (c2.kids.set 1 (dg (own (nat_lit 32772 + 1) 6 0 (i + 1)))) else c2), c1, ((0 : Nat), aH.mk false true 2 1 fun x ↦ agg [c8, int i64 (m0 n (fun i ↦ int i64 (z i)) p)])])))) (leaf (exit 4) ([c6, c9, int i64 (↑u : Int), int i64 c11, int i64 m, c5, int i64 c12], [((4 : Nat), aH.mk true true 6 i fun i ↦ agg [rat (g i).lo 64, rat (g i).hi 64]), c3, ((2 : Nat), aH.mk false true 4 1 fun x ↦ c2), c1, ((0 : Nat), aH.mk false true 2 1 fun x ↦ agg [c8, int i64 p])]))) := by kernel_rfl
theorem UA {n u v j i : Nat} {m : Int} {z : Nat → Int} {p : Int} {x : Nat → Ce} {f g : Nat → Sp} : aG T jD [46] 60 jY [part kJ [1], part o5 [1,1]] ⟨aB td (oe u v m j i), yG n z p x j u i f g, 5⟩ =
  let c13 : AV := rat 0 1; let c12 : Int := br n p; let c11 : Prop := 0 < 1; let c10 : AV := ah 1 n fun i ↦ int i64 (z i); let c8 : Nat := j + 1; let c7 : AV := ptr 0 0 2 0 []; let c5 : List AV := [int i64 (↑u : Int), int i64 (↑v : Int), int i64 (m - (1 : Int))]; let c3 : Prop := -(2 : Int) ^ 63 ≤ m - (1 : Int) ∧ m - (1 : Int) < (2 : Int) ^ 63; let c2 : List AV := [int i64 (0 : Int), int i64 (0 : Int)]; let c9 : Rat := ff n (fun i ↦ int i64 (z i)) c12; let c6 : List AV := (ah 6 i fun i ↦ sA (g (i + 0)) 64) :: c2; let c4 : Rat := ff n (fun i ↦ int i64 (z i)) (fT n (fun i ↦ int i64 (z i)) c12); let c1 : List Prop := [c11, (1 : Nat) * 4 ≤ 2 ^ 24, c8 * ((64 : Nat) + 1) * 2 ≤ 2 ^ 47]; some (af [cw n (fun i ↦ int i64 (z i)) p, (0 : Int) < (12 : Int), (12 : Int) < (2 : Int) ^ 62] (fork (bW n (fun i ↦ int i64 (z i)) p (12 : Int) == (11 : Int)) (af [c11, cw n (fun i ↦ int i64 (z i)) c12, (1 : Nat) * 6 ≤ 2 ^ 24, (u + 1) * ((112 : Nat) + 1) * 2 ≤ 2 ^ 47, c11] (af c1 (af [c3] (leaf normal (c7 :: own 57349 4 0 c8 :: c5, [((57349 : Nat), aH.mk true true 4 c8 fun i ↦ if i < j then bO (x i) 64 else nth [agg ((ah 6 (u + 1) fun i ↦ if i + 0 < u then sA (f (i + 0)) 64 else nth [agg [rat (cO c9 c4) 64, rat (cQ c9 c4) 64]] (agg [c13, c13]) (i + 0 - u + 0)) :: c6)] (agg (nil :: nil :: c2)) (i - j + 0)), ((0 : Nat), aH.mk false true 2 1 fun x ↦ agg [c10, int i64 (m0 n (fun i ↦ int i64 (z i)) c12)])]))))) (af c1 (af [c3] (leaf normal (c7 :: own 24581 4 0 c8 :: c5, [((24581 : Nat), aH.mk true true 4 c8 fun i ↦ if i < j then bO (x i) 64 else nth [agg ((ah 6 u fun i ↦ sA (f (i + 0)) 64) :: c6)] (agg (nil :: nil :: c2)) (i - j + 0)), ((0 : Nat), aH.mk false true 2 1 fun x ↦ agg [c10, int i64 c12])])))))) := by kernel_rfl
theorem TO {n u v j : Nat} {m : Int} {z : Nat → Int} {p : Int} {x : Nat → Ce} : xE T jD [] 60 qO [part vf [1,1,1,1]] ⟨aB jY (nQ u v m j), pJ n z p x j, 2⟩ =
  some (leaf ret ([ah 4 j fun i ↦ agg [ah 6 (x (i + 0)).na fun i_1 ↦ agg [rat ((x (i + 0)).a i_1).lo 64, rat ((x (i + 0)).a i_1).hi 64], ah 6 (x (i + 0)).nb fun i_1 ↦ agg [rat ((x (i + 0)).b i_1).lo 64, rat ((x (i + 0)).b i_1).hi 64], int i64 (x (i + 0)).k, int i64 (x (i + 0)).j]], some (aH.mk false true 2 1 fun x ↦ agg [ah 1 n fun i ↦ int i64 (z i), int i64 p]))) := by kernel_rfl
theorem Ns : bC P DJ := aK RT QD
theorem Lt : ∀ K args pre r, iQ yI K args pre = some r → aC P vG K args pre r := by
 refine vu fun {k n z a l v b q o} K hg ho hd hq => ?_
 unfold yI at hg
 split at hg
 ·simp only [Option.some.injEq, Prod.mk.injEq] at hg
  obtain ⟨rfl, rfl, rfl⟩ := hg
  refine z4 hT Ns hm Kx rfl rfl (of_decide_eq_true (by kernel_rfl)) ho 60 Sl (fun _ => ?_) K
  simp only [aa.all, az]
  (repeat' with_reducible refine And.intro ?_ ?_)
  all_goals first | omega | exact hd | exact hd.number | skip
  ·exact bn.refl _
  ·exact ⟨_, rfl, rfl, nj rfl rfl⟩
 ·simp at hg
theorem pn : bC P jD := iH (aK AN (aK Lt aZ))
theorem cw.Db {n : Nat} {f : Nat → AV} {a : Int} (h : cw n f a) : cw n f (m0 n f a) := h.number.number
theorem cw.jJ {n : Nat} {f : Nat → AV} {a : Int} (h : cw n f a) : ∀ j, cw n f (dS n f a j)
 | 0 => h
 | j + 1 => (h.jJ j).Db
theorem cw.lJ {n : Nat} {f : Nat → AV} {a : Int} {u v : Nat} (h : cw n f a) : cw n f (Go.Am.B.lJ n f a u v) := by
 unfold Go.Am.B.lJ
 split
 ·exact ((h.jJ u).jJ v).next.Db
 ·exact ((h.jJ u).jJ v).next
theorem cw.dY {n : Nat} {f : Nat → AV} {a : Int} {u v : Nat} (h : cw n f a) : ∀ j, cw n f (Go.Am.B.dY n f a u v j)
 | 0 => h
 | j + 1 => (h.dY j).lJ
theorem Cm {rl : List (Nat × Nat)} {l i : Nat} {f : Nat → Sp} {s : Sp} (hs : s = f l) (hi : i < l + 1) : iE rl (if i < l then sA (f i) 64 else nth [agg [rat s.lo 64, rat s.hi 64]] (agg [rat 0 1, rat 0 1]) (i - l + 0)) (sA (f i) 64) := by
 subst hs
 by_cases h : i < l
 ·rw [if_pos h]; exact aP rfl rfl
 ·have : i = l := by omega
  subst this
  rw [if_neg h, Nat.sub_self]
  exact aP rfl rfl
theorem Ep {rl : List (Nat × Nat)} {l i : Nat} {x : Nat → Ce} {v z : AV} (hk : keys v = []) (hs : bn v (bO (x l) 64)) (hi : i < l + 1) : iE rl (if i < l then bO (x i) 64 else nth [v] z (i - l + 0)) (bO (x i) 64) := by
 by_cases h : i < l
 ·rw [if_pos h]; exact aP rfl rfl
 ·have : i = l := by omega
  subst this
  rw [if_neg h, Nat.sub_self]
  exact .inr ⟨hk, hs⟩
theorem Hg {k n : Nat} {z : Nat → Int} {a : Int} {o : aH} (ho : ∀ ρ, ck ρ o (oG n z a)) (h : cw n (fun i => .int .i64 (z i)) a) (K : Nat) :
  aC P qy K [.ptr k 0 2 0 []] [(k, o)] ⟨eu (ia n (fun i => .int .i64 (z i)) a) (js n (fun i => .int .i64 (z i)) a) 64, [(k, oG n z (y8 n (fun i => .int .i64 (z i)) a))], []⟩ := by
 refine K4 hT Dq rfl rfl (of_decide_eq_true (by kernel_rfl)) ho (fun _ c hk => ?_) K
 have a1 := pN (n := n) (f := fun i => .int .i64 (z i)) (a := a) (m := 3) (by omega)
 have a2 := lE (n := n) (f := fun i => .int .i64 (z i)) (a := a) (m := 3) (by omega)
 have b1 := pN (n := n) (f := fun i => .int .i64 (z i)) (a := br n a) (m := 3) (by omega)
 have b2 := lE (n := n) (f := fun i => .int .i64 (z i)) (a := br n a) (m := 3) (by omega)
 have c1 := pN (n := n) (f := fun i => .int .i64 (z i)) (a := br n (br n a)) (m := 9) (by omega)
 have c2 := lE (n := n) (f := fun i => .int .i64 (z i)) (a := br n (br n a)) (m := 9) (by omega)
 have hx : ia n (fun i => .int .i64 (z i)) a = fun i => tG n (fun i => .int .i64 (z i)) (dY n (fun i => .int .i64 (z i)) (iq n a) (iF n (fun i => .int .i64 (z i)) a) (g7 n (fun i => .int .i64 (z i)) a) i) (iF n (fun i => .int .i64 (z i)) a) (g7 n (fun i => .int .i64 (z i)) a) := rfl
 rw [hx]
 unfold y8
 have hp0 : cw n (fun i => .int .i64 (z i)) (iq n a) := h.next.next.next
 have hu : bW n (fun i => .int .i64 (z i)) a 3 = (iF n (fun i => .int .i64 (z i)) a : Int) := by unfold iF; omega
 have hv : bW n (fun i => .int .i64 (z i)) (br n a) 3 = (g7 n (fun i => .int .i64 (z i)) a : Int) := by unfold g7; omega
 have hN : bW n (fun i => .int .i64 (z i)) (br n (br n a)) 9 = (js n (fun i => .int .i64 (z i)) a : Int) := by unfold js; omega
 clear hx
 generalize hU : iF n (fun i => .int .i64 (z i)) a = u at *
 generalize hV : g7 n (fun i => .int .i64 (z i)) a = v at *
 generalize hM : js n (fun i => .int .i64 (z i)) a = N at *
 rw [hu] at a1 a2; rw [hv] at b1 b2; rw [hN] at c1 c2
 obtain ⟨x, hx⟩ : ∃ x : Nat → Ce, x = fun i => tG n (fun i => .int .i64 (z i)) (dY n (fun i => .int .i64 (z i)) (iq n a) u v i) u v := ⟨_, rfl⟩
 rw [← hx]
 refine aq.vE hT pn hm [1,1,1,0,1] (i := 0) (y := o5) (z := part vf [1,1,1,1]) (by kernel_rfl) (by kernel_rfl) (by kernel_rfl) Dq.dst hk (f1 := []) 60 jY 2 (fun j : Nat => nQ u v ((N : Int) - j) j)
  (fun j => pJ n z (dY n (fun i => .int .i64 (z i)) (iq n a) u v j) x j) (fun j => j ≤ N) (fun j => j = N) (fun j => N - j) (fun _ => False) ⟨_, IZ, ?_⟩ (fun j hj => ?_) (fun j hj => ?_) (fun _ _ h => h.elim)
 ·simp only [aa.all, az]
  refine ⟨⟨h, by omega, by omega, h.next, by omega, by omega⟩, ⟨h.next.next, by omega, by omega⟩, 0, Nat.zero_le _, [(0, 0)], rfl, ?_, rfl, sY rfl (by omega) (by omega) (cV rfl rfl (aP rfl rfl) trivial)⟩
  show _ = (nQ u v ((N : Int) - 0) 0).map _
  rw [hu, hv, hN, Int.sub_zero]; rfl
 ·have hpj := hp0.dY (u := u) (v := v) j
  have hxj : x j = tG n (fun i => .int .i64 (z i)) (dY n (fun i => .int .i64 (z i)) (iq n a) u v j) u v := by rw [hx]
  have hnx : dY n (fun i => .int .i64 (z i)) (iq n a) u v (j + 1) = lJ n (fun i => .int .i64 (z i)) (dY n (fun i => .int .i64 (z i)) (iq n a) u v j) u v := rfl
  refine aq.nS hT pn hm (y := o5) (x1 := mm) (zb := part o5 [1,1]) [1,0] (j := 1) (by kernel_rfl) (by kernel_rfl) (by kernel_rfl) (by kernel_rfl) hk (f1 := [17]) 60 jY 2 (fun _ : Unit => nQ u v ((N : Int) - j) j) (fun _ => pJ n z (dY n (fun i => .int .i64 (z i)) (iq n a) u v j) x j) (fun _ => j < N) ⟨_, P4, ?_⟩ (fun _ hlt => ?_)
  ·simp only [aa.all, az, decide_eq_true_eq, decide_eq_false_iff_not]
   refine ⟨fun h => ⟨(), by omega, [(0, 0), (1, 1)], rfl, rfl, rfl, bh rfl rfl rfl (fun _ _ => aP rfl rfl) (cV rfl rfl (aP rfl rfl) trivial)⟩, fun h s' hs' => ⟨rfl, j, by omega, dK.le ⟨[(0, 0), (1, 1)], rfl, rfl, rfl, bh rfl rfl rfl (fun _ _ => aP rfl rfl) (cV rfl rfl (aP rfl rfl) trivial)⟩ hs' hk⟩⟩
  generalize dY n (fun i => .int .i64 (z i)) (iq n a) u v j = p at *
  refine aq.uF hT pn hm (x := mm) [1,0,1] (i := 2) (y := part mm [1,0,1,0,0]) (by kernel_rfl) (by kernel_rfl) (by kernel_rfl) hk (f1 := []) (f2 := [22]) 60 rS 4 (fun i : Nat => oe u v ((N : Int) - j) j i)
   (fun i => z5 n z (dS n (fun i => .int .i64 (z i)) p i) x j i (fun i => gk n (fun i => .int .i64 (z i)) (dS n (fun i => .int .i64 (z i)) p i))) (fun i => i ≤ u) (fun i => i = u) (fun i => u - i) (fun _ => False) ⟨_, QN, ?_⟩ (fun i hi => ⟨_, T9, ?_⟩) (fun i s' hi hle => ?_) (fun _ _ h => h.elim)
  ·simp only [aa.all, az]
   exact ⟨0, Nat.zero_le _, [(0, 0), (1, 1), (2, 2)], rfl, rfl, rfl, sY rfl (by omega) (by omega) (cV rfl rfl (u7 ⟨⟨rfl, ya (by omega)⟩, ⟨rfl, aE rfl⟩, ⟨rfl, aE rfl⟩, ⟨rfl, aE rfl⟩, trivial⟩) (bh rfl rfl rfl (fun _ _ => aP rfl rfl) (cV rfl rfl (aP rfl rfl) trivial)))⟩
  ·simp only [aa.all, az, decide_eq_true_eq, decide_eq_false_iff_not]
   have hv : ∀ {rl : List (Nat × Nat)} {a l : Nat}, aU rl 3 = some a → iE rl (.agg [.own a 6 0 l, .nil, .int .i64 0, .int .i64 0]) (.agg [.own 3 6 0 l, .nil, .int .i64 0, .int .i64 0]) := fun h => u7 ⟨⟨rfl, cz h rfl rfl⟩, ⟨rfl, aE rfl⟩, ⟨rfl, aE rfl⟩, ⟨rfl, aE rfl⟩, trivial⟩
   exact ⟨fun h => ⟨⟨by omega, hpj.jJ i, by omega, by omega, by omega⟩, by omega, i + 1, by omega, by dsimp only; omega, [(0, 0), (1, 1), (2, 2), (3, 32772)], rfl, rfl, rfl,
    bh rfl rfl rfl (fun l hl => Cm (f := fun i => gk n (fun i => .int .i64 (z i)) (dS n (fun i => .int .i64 (z i)) p i)) rfl hl) (cV rfl rfl (hv rfl) (bh rfl rfl rfl (fun _ _ => aP rfl rfl) (cV rfl rfl (aP rfl rfl) trivial)))⟩,
    fun h => ⟨rfl, i, by omega, [(0, 0), (1, 1), (2, 2), (3, 3)], rfl, rfl, rfl, bh rfl rfl rfl (fun _ _ => aP rfl rfl) (cV rfl rfl (hv rfl) (bh rfl rfl rfl (fun _ _ => aP rfl rfl) (cV rfl rfl (aP rfl rfl) trivial)))⟩⟩
  subst hi
  rw [show behind mm [1,0,1] = [kJ] from by kernel_rfl]
  refine ay.weak rfl hle (ay.one ?_)
  have hq := hpj.jJ i
  refine aq.uF hT pn hm (x := kJ) [0,1] (i := 4) (y := part kJ [0,1,0,0]) (by kernel_rfl) (by kernel_rfl) (by kernel_rfl) hk (f1 := []) (f2 := [34]) 60 td 5 (fun l : Nat => oe i v ((N : Int) - j) j l)
   (fun l => yG n z (dS n (fun i => .int .i64 (z i)) (dS n (fun i => .int .i64 (z i)) p i) l) x j i l (fun i => gk n (fun i => .int .i64 (z i)) (dS n (fun i => .int .i64 (z i)) p i)) (fun l => gk n (fun i => .int .i64 (z i)) (dS n (fun i => .int .i64 (z i)) (dS n (fun i => .int .i64 (z i)) p i) l))) (fun l => l ≤ v) (fun l => l = v) (fun l => v - l) (fun _ => False) ⟨_, ON, ?_⟩ (fun l hl => ⟨_, Ui, ?_⟩) (fun l s' hl hle => ?_) (fun _ _ h => h.elim)
  ·simp only [aa.all, az]
   exact ⟨0, Nat.zero_le _, [(0, 0), (1, 1), (2, 2), (3, 3)], rfl, rfl, rfl, sY rfl (by omega) (by omega) (bh rfl rfl rfl (fun _ _ => aP rfl rfl) (cV rfl rfl (u7 ⟨⟨rfl, cz rfl rfl rfl⟩, ⟨rfl, ya (by omega)⟩, ⟨rfl, aE rfl⟩, ⟨rfl, aE rfl⟩, trivial⟩) (bh rfl rfl rfl (fun _ _ => aP rfl rfl) (cV rfl rfl (aP rfl rfl) trivial))))⟩
  ·simp only [aa.all, az, decide_eq_true_eq, decide_eq_false_iff_not]
   have hv : ∀ {rl : List (Nat × Nat)} {b l : Nat}, aU rl 3 = some 3 → aU rl 4 = some b → iE rl (.agg [.own 3 6 0 i, .own b 6 0 l, .int .i64 0, .int .i64 0]) (.agg [.own 3 6 0 i, .own 4 6 0 l, .int .i64 0, .int .i64 0]) := fun h h' => u7 ⟨⟨rfl, cz h rfl rfl⟩, ⟨rfl, cz h' rfl rfl⟩, ⟨rfl, aE rfl⟩, ⟨rfl, aE rfl⟩, trivial⟩
   exact ⟨fun h => ⟨⟨by omega, hq.jJ l, by omega, by omega, by omega⟩, by omega, l + 1, by omega, by dsimp only; omega, [(0, 0), (1, 1), (2, 2), (3, 3), (4, 32773)], rfl, rfl, rfl,
    bh rfl rfl rfl (fun l' hl' => Cm (f := fun l => gk n (fun i => .int .i64 (z i)) (dS n (fun i => .int .i64 (z i)) (dS n (fun i => .int .i64 (z i)) p i) l)) rfl hl') (bh rfl rfl rfl (fun _ _ => aP rfl rfl) (cV rfl rfl (hv rfl rfl) (bh rfl rfl rfl (fun _ _ => aP rfl rfl) (cV rfl rfl (aP rfl rfl) trivial))))⟩,
    fun h => ⟨rfl, l, by omega, [(0, 0), (1, 1), (2, 2), (3, 3), (4, 4)], rfl, rfl, rfl, bh rfl rfl rfl (fun _ _ => aP rfl rfl) (bh rfl rfl rfl (fun _ _ => aP rfl rfl) (cV rfl rfl (hv rfl rfl) (bh rfl rfl rfl (fun _ _ => aP rfl rfl) (cV rfl rfl (aP rfl rfl) trivial))))⟩⟩
  subst hl
  rw [show behind kJ [0,1] = [part kJ [1]] from by kernel_rfl]
  refine ay.weak rfl hle (ay.one (aq.tail (fun s' hh => by have := hh.1; omega) (ay.aR hT pn hm 60 jY UA (by kernel_rfl) ?_)))
  have hr := hq.jJ l
  have e1 : ((N : Int) - j) - 1 = (N : Int) - (j + 1 : Nat) := by omega
  simp only [aa.all, az, beq_iff_eq, beq_eq_false_iff_ne, e1]
  refine ⟨⟨hr, by omega, by omega⟩, fun h11 => ⟨⟨by omega, hr.next, by omega, by omega, by omega⟩, ⟨by omega, by omega, by omega⟩, by omega, fun s' hs' => ⟨j + 1, by omega, by dsimp only; omega, dK.le ⟨[(0, 0), (1, 57349)], rfl, rfl, rfl, bh rfl rfl rfl (fun b hb => Ep rfl ?_ hb) (cV rfl rfl (aP rfl ?_) trivial)⟩ hs' hk⟩⟩,
   fun h11 => ⟨⟨by omega, by omega, by omega⟩, by omega, fun s' hs' => ⟨j + 1, by omega, by dsimp only; omega, dK.le ⟨[(0, 0), (1, 24581)], rfl, rfl, rfl, bh rfl rfl rfl (fun b hb => Ep rfl ?_ hb) (cV rfl rfl (aP rfl ?_) trivial)⟩ hs' hk⟩⟩⟩
  ·rw [hxj]
   have e : i + (if bW n (fun i => .int .i64 (z i)) (fH n (fun i => .int .i64 (z i)) p i l) 12 = 11 then 1 else 0) = i + 1 := by rw [if_pos (show bW n (fun i => .int .i64 (z i)) (fH n (fun i => .int .i64 (z i)) p i l) 12 = 11 from h11)]
   show bn _ (.agg [.ah 6 (i + (if bW n (fun i => .int .i64 (z i)) (fH n (fun i => .int .i64 (z i)) p i l) 12 = 11 then 1 else 0)) _, _, _, _])
   rw [e]
   refine fC ⟨ij fun b hb => ?_, .refl _, .refl _, .refl _, trivial⟩
   show bn (if b < i then _ else nth _ _ (b - i + 0)) (sA (if b < i then _ else _) 64)
   by_cases hbi : b < i
   ·rw [if_pos hbi, if_pos hbi]; exact .refl _
   ·have : b = i := by omega
    subst this
    rw [if_neg hbi, if_neg hbi, Nat.sub_self]
    exact .refl _
  ·show _ = AV.agg [_, .int .i64 _]
   rw [hnx]; unfold lJ
   rw [if_pos (show bW n (fun i => .int .i64 (z i)) (fH n (fun i => .int .i64 (z i)) p i l) 12 = 11 from h11)]; rfl
  ·rw [hxj]
   have e : i + (if bW n (fun i => .int .i64 (z i)) (fH n (fun i => .int .i64 (z i)) p i l) 12 = 11 then 1 else 0) = i := by rw [if_neg (show ¬ bW n (fun i => .int .i64 (z i)) (fH n (fun i => .int .i64 (z i)) p i l) 12 = 11 from h11)]; rfl
   show bn _ (.agg [.ah 6 (i + (if bW n (fun i => .int .i64 (z i)) (fH n (fun i => .int .i64 (z i)) p i l) 12 = 11 then 1 else 0)) _, _, _, _])
   rw [e]
   refine fC ⟨ij fun b hb => ?_, .refl _, .refl _, .refl _, trivial⟩
   show bn (sA _ 64) (sA (if b < i then _ else _) 64)
   rw [if_pos hb]; exact .refl _
  ·show _ = AV.agg [_, .int .i64 _]
   rw [hnx]; unfold lJ
   rw [if_neg (show ¬ bW n (fun i => .int .i64 (z i)) (fH n (fun i => .int .i64 (z i)) p i l) 12 = 11 from h11)]; rfl
 ·subst hj
  refine aq.nE (ay.IX hT pn hm 60 TO (by kernel_rfl) ?_)
  simp only [aa.all, az]
  exact ⟨.refl _, _, rfl, rfl, nj rfl rfl⟩
theorem Ta : ∀ K args pre r, iQ zV K args pre = some r → aC P qy K args pre r := by
 refine vu fun {k n z a l v b q o} K hg ho hd hq => ?_
 unfold zV at hg
 split at hg
 ·simp only [Option.some.injEq, Prod.mk.injEq] at hg
  obtain ⟨rfl, rfl, rfl⟩ := hg
  exact Hg ho hd K
 ·simp at hg
def Ce.ok (c : Ce) : Prop := (∀ i, (c.a i).lo ≤ (c.a i).hi) ∧ ∀ i, (c.b i).lo ≤ (c.b i).hi
theorem EC {n : Nat} {f : Nat → AV} {a : Int} : (gk n f a).lo ≤ (gk n f a).hi := by
 show cO _ _ ≤ cQ _ _
 unfold cO cQ; grind
theorem Lk {n : Nat} {f : Nat → AV} {a : Int} {i : Nat} : (ia n f a i).ok := by
 unfold ia tG
 refine ⟨fun i => ?_, fun i => EC⟩
 show Sp.lo (if _ then _ else _) ≤ Sp.hi (if _ then _ else _)
 split <;> exact EC
theorem E0 {n : Nat} {f : Nat → AV} {a : Int} {i : Nat} : (ia n f a i).na + (ia n f a i).nb ≤ 5 := by
 have a2 := lE (n := n) (f := f) (a := a) (m := 3) (by omega)
 have b2 := lE (n := n) (f := f) (a := br n a) (m := 3) (by omega)
 have hu : iF n f a ≤ 2 := by unfold iF; omega
 have hv : g7 n f a ≤ 2 := by unfold g7; omega
 show iF n f a + (if _ then 1 else 0) + g7 n f a ≤ 5
 split <;> omega
theorem Jo {n : Nat} {f : Nat → AV} {a : Int} : js n f a ≤ 8 := by
 have := lE (n := n) (f := f) (a := br n (br n a)) (m := 9) (by omega)
 unfold js; omega
end Go.Am.B
