/- brepkernelmade: Rat, Within; lists of numbers as arguments. -/
import Derived.Test.YtjhhblmbiaghfaaGreatB43
import Derived.Test.YtjhhblmbiaghfaaGreatY39
import Derived.Test.YtjhhblmbiaghfaaGreatZ2
import Derived.Test.YtjhhblmbiaghfaaGreatC4
import Derived.Test.YtjhhblmbiaghfaaGreatD1
set_option linter.unusedVariables false
namespace Go.Am.B
open Go Go.Am.N AV
def yC (s : Nat) : Kind Rat := ⟨fun v => match mF v with
 | some (q, n) => some (q, [n ≤ s])
 | none => none, fun a => .rat a s, fun {v a q} h hq => by
  split at h
  ·rename_i h1
   simp only [Option.some.injEq, Prod.mk.injEq] at h
   obtain ⟨rfl, rfl⟩ := h
   exact (oX h1).trans (jb hq)
  ·simp at h⟩
structure uh (α : Type) where
 read : List AV → Option (α × List Prop)
 make : α → List AV
 ok : ∀ {l : List AV} {a : α} {q : List Prop}, read l = some (a, q) → ay q → dX l (make a)
def kN : uh Unit := ⟨fun l => match l with
 | [] => some ((), [])
 | _ => none, fun _ => [], fun {l a q} h _ => by
  split at h
  ·trivial
  ·simp at h⟩
def kC {α β : Type} (k : Kind α) (kl : uh β) : uh (α × β) := ⟨fun l => match l with
 | v :: l => match k.read v, kl.read l with
  | some (a, p), some (b, q) => some ((a, b), p ++ q)
  | _, _ => none
 | [] => none, fun a => k.make a.1 :: kl.make a.2, fun {l a q} h hq => by
  split at h
  ·split at h
   ·rename_i h1 h2
    simp only [Option.some.injEq, Prod.mk.injEq] at h
    obtain ⟨rfl, rfl⟩ := h
    obtain ⟨q1, q2⟩ := ep.1 hq
    exact ⟨k.ok h1 q1, kl.ok h2 q2⟩
   ·simp at h
  ·simp at h⟩
def fh {α : Type} (k : uh α) (g : α → AV) (need : α → List Prop) : Spec := bu fun l => match k.read l with
 | some (a, p) => some (aK (g a) (p ++ need a))
 | none => none
theorem en {α : Type} {f : FuncId} {k : uh α} {g : α → AV} {need : α → List Prop} (h : ∀ a K, ay (need a) → aC P f K (k.make a) [] (aK (g a) [])) : ∀ K args pre r, fh k g need K args pre = some r → aC P f K args pre r := by
 refine bQ fun K args r hk hs _ => ?_
 split at hs
 ·rename_i h1
  simp only [Option.some.injEq] at hs
  subst hs
  intro hn
  obtain ⟨n1, hn⟩ := ep.1 hn
  exact fm (h _ K hn) hk (k.ok h1 n1) [] trivial
 ·simp at hs
end Go.Am.B

/- slices.Grow of no spans, slices.Concat of two lists of spans. -/
namespace Go.Am.B
open Go Go.Am.N AV af ak IntKind
abbrev uo : FuncId := Fl
noncomputable abbrev q8 : Func := HT
abbrev q9 : FuncId := CZ
noncomputable abbrev oF : Func := HI
abbrev Np (n : Nat) : aD := ⟨true, true, 6, n, fun _ => .agg [.rat 0 1, .rat 0 1]⟩
def FZ : Spec := qY fun K l => match l with
 | [.nil, .int .i64 n] => some ⟨ou [.own K 6 0 0], [(K, Np n.toNat)], [0 < n ∧ n < 2 ^ 30]⟩
 | _ => none
def De : Spec := bu fun l => match l with
 | [.nil, .int .i64 n] => some (aK .nil [n = 0])
 | _ => none
abbrev vv (na nb : Nat) (f g : Nat → AV) : AV := .ah 1 2 fun i => nth [.ah 6 na f, .ah 6 nb g] .nil i
theorem Xy {n : Int} : aF T [nG] [200006, 100016] 60 [4] [ax q8] ⟨aN 0 [.nil, .int .i64 n], [], 0⟩ =
  let c6 : AV := rat 0 1; let c4 : Prop := (0 : Int) ≤ (0 : Int); let c3 : Int := (2 : Int) ^ 63; let c2 : Int := (↑(0 : Nat) : Int); let c1 : Int := (0 : Int) - c2; let c5 : Nat := (n - c1).toNat; some (ag [decide (n < (0 : Int)) = false] (ag [-c3 ≤ c1 ∧ c1 < c3, -c3 ≤ n - c1 ∧ n - c1 < c3] (ag [decide (n - c1 > (0 : Int)) = true] (ag [c4 ∧ c4 ∧ c4 ∧ (0 : Int) ≤ c2, (0 : Int) < n - c1 ∧ c5 * ((112 : Nat) + 1) * 2 ≤ 2 ^ 47, c4 ∧ (0 : Int) ≤ c2 ∧ c2 ≤ c2 ∧ c2 ≤ (↑c5 : Int)] (leaf ret ([own 73728 6 0 0], [((73728 : Nat), aD.mk true true 6 c5 fun x ↦ agg [c6, c6])])))))) := by kernel_rfl
theorem Wh {n : Int} : bF T [nG] [200006, 200016] 60 q8 (ax q8) ⟨aN 0 [.nil, .int .i64 n], [], 0⟩ =
  let c2 : Int := (2 : Int) ^ 63; let c1 : Int := (0 : Int) - (↑(0 : Nat) : Int); some (ag [decide (n < (0 : Int)) = false] (ag [-c2 ≤ c1 ∧ c1 < c2, -c2 ≤ n - c1 ∧ n - c1 < c2] (ag [decide (n - c1 > (0 : Int)) = false] (leaf ret [nil])))) := by kernel_rfl
theorem Kx {na nb : Nat} {f g : Nat → AV} : bF T [nG, (uo, FZ)] [200020] 60 oF (ax oF) ⟨aN 0 [vv na nb f g], [], 0⟩ =
  let c9 : AV := rat 0 1; let c6 : Prop := (0 : Int) ≤ (0 : Int) ∧ Int.toNat (0 : Int) < 2; let c5 : Nat := 0 + na; let c3 : Int := (0 : Int) + (↑na : Int); let c2 : Int := (0 : Int) + (1 : Int); let c1 : Int := (2 : Int) ^ 63; let c8 : Prop := (0 : Int) ≤ c2 ∧ c2.toNat < 2; let c7 : Prop := -c1 ≤ c2 + (1 : Int) ∧ c2 + (1 : Int) < c1; let c4 : Int := c3 + (↑nb : Int); some (ag [c6] (ag [-c1 ≤ c3 ∧ c3 < c1] (ag [decide (c3 < (0 : Int)) = false] (ag [-c1 ≤ c2 ∧ c2 < c1] (ag [c8] (ag [-c1 ≤ c4 ∧ c4 < c1] (ag [decide (c4 < (0 : Int)) = false] (ag [c7] (ag [(0 : Int) < c4 ∧ c4 < (2 : Int) ^ 30] (ag [c6] (ag [c5 * ((112 : Nat) + 1) * 2 ≤ 2 ^ 47] (ag [-c1 ≤ c2 ∧ c2 < c1] (ag [c8] (ag [(c5 + nb) * ((112 : Nat) + 1) * 2 ≤ 2 ^ 47] (ag [c7] (leaf ret [ah 6 (c5 + nb) fun i ↦ if i + 0 < c5 then if i + 0 < 0 then agg [c9, c9] else f (i + 0 - 0) else g (i + 0 - c5)])))))))))))))))) := by kernel_rfl
theorem GB : aO P uo q8 (ax q8) := aP Sy (by kernel_rfl) (by kernel_rfl) (by kernel_rfl)
theorem Jm : aO P q9 oF (ax oF) := aP VW (by kernel_rfl) (by kernel_rfl) (by kernel_rfl)
theorem XO : ∀ K args pre r, FZ K args pre = some r → aC P uo K args pre r := by
 refine BP fun K args r hk hs => ?_
 split at hs
 ·rename_i n
  simp only [Option.some.injEq] at hs
  subst hs
  refine Qb hT GB (fun _ => I7 hk rfl (show dX [.nil, .int .i64 n] [.nil, .int .i64 n] from ⟨.refl _, .refl _, trivial⟩)) (of_decide_eq_true (by kernel_rfl)) fun need c hkp => ?_
  have need : 0 < n ∧ n < 2 ^ 30 := need
  obtain ⟨h1, h2⟩ := need
  refine aq.aS hT (eV aY) hm 60 [4] Xy (by kernel_rfl) ?_
  have e : n - (0 - ((0 : Nat) : Int)) = n := by omega
  simp only [af.all, ay, e]
  exact ⟨decide_eq_false (by omega), ⟨by omega, by omega⟩, decide_eq_true (by omega), ⟨by omega, by omega, by omega⟩, fun s' hs' => ⟨by simp, [4], _, [.own 73728 6 0 0], _, 73728, _, hs', by kernel_rfl, ⟨⟨rfl, cH (by simp [aU, look]) rfl rfl⟩, trivial⟩, rfl, g7 rfl fun i hi => aG rfl⟩⟩
 ·simp at hs
theorem Y3 {na nb : Nat} {f g : Nat → AV} (h : 0 < na + nb) (h2 : na + nb < 2 ^ 30) (K : Nat) : aC P q9 K [vv na nb f g] [] (aK (.ah 6 (na + nb) fun i => if i < na then f i else g (i - na)) []) := by
 refine bH (r := aK (.ah 6 (na + nb) fun i => if i < na then f i else g (i - na)) []) hT (eV (aJ XO aY)) hm Jm rfl (of_decide_eq_true (by kernel_rfl)) rfl 60 Kx (fun _ => ?_) K []
 simp only [af.all, ay, Nat.zero_add]
 (repeat' with_reducible refine And.intro ?_ ?_)
 all_goals first | omega | exact decide_eq_false (by omega) | skip
 refine gj fun i _ => ?_
 show bq (if i < na then (if i < 0 then _ else f i) else g (i - na)) _
 rw [if_neg (Nat.not_lt_zero i)]
 exact .refl _
end Go.Am.B

/- ref02: Min, Max; spans. -/
namespace Go.Am.B
open Go Go.Am.N AV af ak IntKind
theorem NP : aO P zA vi (ax vi) := aP U8 (by kernel_rfl) (by kernel_rfl) (by kernel_rfl)
theorem WH : aO P wT vZ (ax vZ) := aP P6 (by kernel_rfl) (by kernel_rfl) (by kernel_rfl)
theorem Vs {q r : Rat} {n m : Nat} : bF T pX [8] 60 vi (ax vi) ⟨aN 0 [.rat q n, .rat r m], [], 0⟩ =
  let c1 : Prop := 0 < 1; some (ag [c1, c1, m < 2 ^ 41, n < 2 ^ 41] (fork (decide (cB r q < (0 : Int))) (ag [c1, c1] (ag [c1] (leaf ret [rat r m]))) (ag [c1, c1] (ag [c1] (leaf ret [rat q n]))))) := by kernel_rfl
theorem Kz {q r : Rat} {n m : Nat} : bF T pX [8] 60 vZ (ax vZ) ⟨aN 0 [.rat q n, .rat r m], [], 0⟩ =
  let c1 : Prop := 0 < 1; some (ag [c1, c1, m < 2 ^ 41, n < 2 ^ 41] (fork (decide (cB r q > (0 : Int))) (ag [c1, c1] (ag [c1] (leaf ret [rat r m]))) (ag [c1, c1] (ag [c1] (leaf ret [rat q n]))))) := by kernel_rfl
theorem DD {q r : Rat} : decide (cB q r < (0 : Int)) = decide (q < r) := by unfold cB; by_cases h : q < r <;> by_cases h' : r < q <;> simp [h, h']
theorem xj {q r : Rat} : decide (cB q r > (0 : Int)) = decide (r < q) := by
 unfold cB
 by_cases h : q < r
 ·have : ¬ r < q := by grind
  simp [h, this]
 ·by_cases h' : r < q <;> simp [h, h']
theorem YV {q r : Rat} {n m : Nat} (hn : n < 2 ^ 41) (hm' : m < 2 ^ 41) (K : Nat) : aC P zA K [.rat q n, .rat r m] [] (aK (.rat (cR q r) (max n m)) []) := by
 refine bH hT th hm NP rfl (of_decide_eq_true (by kernel_rfl)) rfl 60 Vs (fun _ => ?_) K []
 rw [DD]
 simp only [af.all, ay, decide_eq_true_eq, decide_eq_false_iff_not]
 (repeat' with_reducible first | refine And.intro ?_ ?_ | intro _)
 all_goals first | omega | skip
 ·rename_i h; unfold cR; rw [if_pos h]; exact jb (Nat.le_max_right _ _)
 ·rename_i h; unfold cR; rw [if_neg h]; exact jb (Nat.le_max_left _ _)
theorem S1 {q r : Rat} {n m : Nat} (hn : n < 2 ^ 41) (hm' : m < 2 ^ 41) (K : Nat) : aC P wT K [.rat q n, .rat r m] [] (aK (.rat (cW q r) (max n m)) []) := by
 refine bH hT th hm WH rfl (of_decide_eq_true (by kernel_rfl)) rfl 60 Kz (fun _ => ?_) K []
 rw [xj]
 simp only [af.all, ay, decide_eq_true_eq, decide_eq_false_iff_not]
 (repeat' with_reducible first | refine And.intro ?_ ?_ | intro _)
 all_goals first | omega | skip
 ·rename_i h; unfold cW; rw [if_pos h]; exact jb (Nat.le_max_right _ _)
 ·rename_i h; unfold cW; rw [if_neg h]; exact jb (Nat.le_max_left _ _)
def yV : aW := [(zA, g9 dR dR A1 (b2 41)), (wT, g9 dR dR Ap (b2 41))]
theorem A3 : br P yV := aJ (iP fun _ _ K hn => YV (eE hn).1 (eE hn).2 K) (aJ (iP fun _ _ K hn => S1 (eE hn).1 (eE hn).2 K) aY)
end Go.Am.B

/- Spans: lists of spans, cells; trace.spans, trace.alike, trace.Touch. -/
namespace Go.Am.B
open Go Go.Am.N AV af ak IntKind
theorem U9 : aO P AT xN (ax xN) := aP VM (by kernel_rfl) (by kernel_rfl) (by kernel_rfl)
theorem SX : aO P Bm yd (ax yd) := aP JF (by kernel_rfl) (by kernel_rfl) (by kernel_rfl)
theorem NC : aO P BL y5 (ax y5) := aP Q0 (by kernel_rfl) (by kernel_rfl) (by kernel_rfl)
theorem Nk : aO P pV vq (ax vq) := aP MD (by kernel_rfl) (by kernel_rfl) (by kernel_rfl)
theorem Ou : aO P pY ua (ax ua) := aP SN (by kernel_rfl) (by kernel_rfl) (by kernel_rfl)
theorem JV : aO P oD sD (ax sD) := aP La (by kernel_rfl) (by kernel_rfl) (by kernel_rfl)
structure Sp where
 lo : Rat
 hi : Rat
abbrev sA (s : Sp) (n : Nat) : AV := .agg [.rat s.lo n, .rat s.hi n]
abbrev de (f : Nat → Sp) (n s : Nat) : AV := .ah 6 n fun i => sA (f i) s
def bR : AV → Sp
 | .agg [x, y] => ⟨F9 x, F9 y⟩
 | _ => ⟨0, 0⟩
def l8 : AV → Option (Nat × (Nat → AV))
 | .ah 6 n f => some (n, f)
 | .nil => some (0, fun _ => .nil)
 | _ => none
def bK (f : Nat → AV) (n s : Nat) : Prop := ∀ i, i < n → bq (f i) (sA (bR (f i)) s)
structure Ce where
 na : Nat
 a : Nat → Sp
 nb : Nat
 b : Nat → Sp
 k : Int
 j : Int
abbrev bk (c : Ce) (s : Nat) : AV := .agg [de c.a c.na s, de c.b c.nb s, .int .i64 c.k, .int .i64 c.j]
def Ce.sp (c : Ce) (i : Nat) : Sp := if i < c.na then c.a i else c.b (i - c.na)
def iR (s t : Sp) : Bool := !decide (cR s.hi t.hi < cW s.lo t.lo)
def gM (c d : Ce) : Bool := decide (c.na = d.na ∧ c.nb = d.nb ∧ ∀ i, i < c.na + c.nb → iR (c.sp i) (d.sp i) = true)
def wH (v : AV) : Nat × (Nat → Sp) := match l8 v with
 | some (n, f) => (n, fun i => bR (f i))
 | none => (0, fun _ => ⟨0, 0⟩)
def cL : AV → Ce
 | .agg [a, b, .int .i64 k, .int .i64 j] => ⟨(wH a).1, (wH a).2, (wH b).1, (wH b).2, k, j⟩
 | _ => ⟨0, fun _ => ⟨0, 0⟩, 0, fun _ => ⟨0, 0⟩, 0, 0⟩
abbrev cq (x : Nat → Ce) (n s : Nat) : AV := .ah 4 n fun i => bk (x i) s
def fZ (f : Nat → AV) (n s : Nat) : Prop := ∀ i, i < n → bq (f i) (bk (cL (f i)) s)
def Ja : AV → Option (Nat × (Nat → AV))
 | .ah 4 n f => some (n, f)
 | .nil => some (0, fun _ => .nil)
 | _ => none
theorem lC {s t : Sp} {n k : Nat} (h : s = t) (hk : n ≤ k) : bq (sA s n) (sA t k) := h ▸ eI ⟨ic rfl hk, ic rfl hk, trivial⟩
theorem En {f g : Nat → Sp} {n s t : Nat} (h : ∀ i, i < n → f i = g i) (hs : s ≤ t) : bq (de f n s) (de g n t) := gj fun i hi => lC (h i hi) hs
theorem Nt {c d : Ce} {s t : Nat} (h : c = d) (hs : s ≤ t) : bq (bk c s) (bk d t) := h ▸ eI ⟨En (fun _ _ => rfl) hs, En (fun _ _ => rfl) hs, .refl _, .refl _, trivial⟩
theorem K9 {v : AV} {n s : Nat} {f : Nat → AV} (h : l8 v = some (n, f)) (ha : bK f n s) : bq v (de (fun i => bR (f i)) n s) := by
 unfold l8 at h
 split at h
 ·simp only [Option.some.injEq, Prod.mk.injEq] at h
  obtain ⟨rfl, rfl⟩ := h
  exact gj ha
 ·simp only [Option.some.injEq, Prod.mk.injEq] at h
  obtain ⟨rfl, rfl⟩ := h
  exact fS (by omega)
 ·simp at h
theorem bD {f : Nat → Sp} {n s s' : Nat} (h : s ≤ s') : bK (fun i => sA (f i) s) n s' := fun _ _ => lC rfl h
theorem jc {x : Nat → Ce} {n s s' : Nat} (h : s ≤ s') : fZ (fun i => bk (x i) s) n s' := fun _ _ => Nt rfl h
def lg (s : Nat) : Kind (Nat × (Nat → Sp)) := ⟨fun v => match l8 v with
 | some (n, f) => some ((n, fun i => bR (f i)), [bK f n s])
 | none => none, fun a => de a.2 a.1 s, fun {v a q} h hq => by
  split at h
  ·rename_i h1
   simp only [Option.some.injEq, Prod.mk.injEq] at h
   obtain ⟨rfl, rfl⟩ := h
   exact K9 h1 hq
  ·simp at h⟩
def p6 (s : Nat) : Kind Ce := ⟨fun v => match v with
 | .agg [a, b, .int .i64 k, .int .i64 j] => match (lg s).read a, (lg s).read b with
  | some ((n, f), q1), some ((m, g), q2) => some (⟨n, f, m, g, k, j⟩, q1 ++ q2)
  | _, _ => none
 | _ => none, fun a => bk a s, fun {v a q} h hq => by
  split at h
  ·split at h
   ·rename_i h1 h2
    simp only [Option.some.injEq, Prod.mk.injEq] at h
    obtain ⟨rfl, rfl⟩ := h
    obtain ⟨g1, g2⟩ := ep.1 hq
    exact eI ⟨(lg s).ok h1 g1, (lg s).ok h2 g2, .refl _, .refl _, trivial⟩
   ·simp at h
  ·simp at h⟩
def jM (s : Nat) : Kind (Nat × (Nat → Ce)) := ⟨fun v => match Ja v with
 | some (n, f) => some ((n, fun i => cL (f i)), [fZ f n s])
 | none => none, fun a => cq a.2 a.1 s, fun {v a q} h hq => by
  split at h
  ·rename_i h1
   simp only [Option.some.injEq, Prod.mk.injEq] at h
   obtain ⟨rfl, rfl⟩ := h
   unfold Ja at h1
   split at h1
   ·simp only [Option.some.injEq, Prod.mk.injEq] at h1
    obtain ⟨rfl, rfl⟩ := h1
    exact gj hq
   ·simp only [Option.some.injEq, Prod.mk.injEq] at h1
    obtain ⟨rfl, rfl⟩ := h1
    exact fS (by omega)
   ·simp at h1
  ·simp at h⟩
def DM : Spec := bu fun l => match l with
 | [.ah 1 2 h] => match l8 (h 0), l8 (h 1) with
  | some (na, f), some (nb, g) => some (aK (.ah 6 (na + nb) fun i => if i < na then f i else g (i - na)) [na + nb < 2 ^ 30])
  | _, _ => none
 | _ => none
noncomputable def IM : aW := [(q9, DM)]
def oC (s : Nat) : Spec := fh (kC (p6 s) kN) (fun a => de a.1.sp (a.1.na + a.1.nb) s) fun a => [a.1.na + a.1.nb < 2 ^ 30]
def lf (s : Nat) : Spec := fh (kC (p6 s) (kC (p6 s) kN)) (fun a => .bool (decide (a.1.na = a.2.1.na ∧ a.1.nb = a.2.1.nb))) fun a => [a.1.na < 2 ^ 30, a.1.nb < 2 ^ 30, a.2.1.na < 2 ^ 30, a.2.1.nb < 2 ^ 30]
def xK : aW := (rE, g9 dR dR A1 (b2 42)) :: (uZ, g9 dR dR Ap (b2 42)) :: BF
noncomputable def zm : aW := nG :: (pY, lf 64) :: (pV, oC 64) :: (AT, mm T xK [23] 60 xN) :: []
noncomputable abbrev tI : Code := ax sD
abbrev uF : List Nat := [4, 5, 17, 18, 19]
abbrev CH (f g : Nat → Sp) (n i : Nat) : List AV := [.bool false, de g n 64, de f n 64, .int .i64 n, .int .i64 i]
def nT : Spec := fh (kC (p6 64) (kC (p6 64) kN)) (fun a => .bool (gM a.1 a.2.1)) fun a => [a.1.na + a.1.nb < 2 ^ 30, a.2.1.na + a.2.1.nb < 2 ^ 30]
theorem WM {f g : Nat → AV} : bF T [zG, (uo, De)] [] 60 oF (ax oF) ⟨aN 0 [vv 0 0 f g], [], 0⟩ =
  let c5 : Int := (↑(0 : Nat) : Int); let c4 : Prop := (0 : Int) ≤ (0 : Int) ∧ Int.toNat (0 : Int) < 2; let c2 : Int := (0 : Int) + (1 : Int); let c1 : Int := (2 : Int) ^ 63; let c7 : Prop := (0 : Int) ≤ c2 ∧ c2.toNat < 2; let c6 : Prop := -c1 ≤ c2 + (1 : Int) ∧ c2 + (1 : Int) < c1; let c3 : Int := (0 : Int) + c5; some (ag [c4] (ag [-c1 ≤ c3 ∧ c3 < c1] (ag [-c1 ≤ c2 ∧ c2 < c1] (ag [c7] (ag [-c1 ≤ c3 + c5 ∧ c3 + c5 < c1] (ag [c6] (ag [c3 + c5 = (0 : Int)] (ag [c4] (ag [(0 : Nat) * ((112 : Nat) + 1) * 2 ≤ 2 ^ 47] (ag [-c1 ≤ c2 ∧ c2 < c1] (ag [c7] (ag [((0 : Nat) + 0) * ((112 : Nat) + 1) * 2 ≤ 2 ^ 47] (ag [c6] (leaf ret [ah 6 0 fun i ↦ if i + 0 < 0 then f (i + 0) else g (i + 0 - 0)])))))))))))))) := by kernel_rfl
theorem UZ {c : Ce} {s : Nat} : bF T IM [] 60 vq (ax vq) ⟨aN 0 [bk c s], [], 0⟩ =
  some (ag [(0 : Nat) < 1, (0 : Nat) < 1, (2 : Nat) * 1 ≤ 2 ^ 24, c.na + c.nb < 2 ^ 30] (leaf ret [ah 6 (c.na + c.nb) fun i ↦ if i < c.na then sA (c.a i) s else sA (c.b (i - c.na)) s])) := by kernel_rfl
theorem KL {c d : Ce} {s : Nat} : bF T [] [12] 60 ua (ax ua) ⟨aN 0 [bk c s, bk d s], [], 0⟩ =
  let c2 : Bool := (↑c.na : Int) == (↑d.na : Int); let c1 : Prop := 0 < 1; some (fork c2 (ag [c1, c1, c2 = true, c1, c1] (leaf ret [AV.bool (bif true then (↑c.nb : Int) == (↑d.nb : Int) else false)])) (ag [c1, c1, c2 = false] (leaf ret [AV.bool false]))) := by kernel_rfl
theorem Tu {c d : Ce} : aF T zm [13] 60 uF (before tI [1,1,1,0,1]) ⟨aN 0 [bk c 64, bk d 64], [], 0⟩ =
  let c8 : Prop := bK (fun i ↦ sA (d.a i) 64) d.na 64; let c7 : Prop := bK (fun i ↦ sA (c.b i) 64) c.nb 64; let c6 : Prop := bK (fun i ↦ sA (c.a i) 64) c.na 64; let c5 : Prop := bK (fun i ↦ sA (d.b i) 64) d.nb 64; let c4 : Prop := 0 < 1; let c3 : Nat := 2 ^ 30; let c2 : Ce := Ce.mk d.na (fun i ↦ bR (sA (d.a i) 64)) d.nb (fun i ↦ bR (sA (d.b i) 64)) d.k d.j; let c1 : Ce := Ce.mk c.na (fun i ↦ bR (sA (c.a i) 64)) c.nb (fun i ↦ bR (sA (c.b i) 64)) c.k c.j; some (ag [c4, c4, c6, c7, c8, c5, c.na < c3, c.nb < c3, d.na < c3, d.nb < c3] (fork (!decide (c.na = d.na ∧ c.nb = d.nb)) (leaf ret ([AV.bool false, tuple [], tuple [], tuple [], tuple []], [])) (ag [c4, c8, c5, d.na + d.nb < c3] (ag [c4, c6, c7, c.na + c.nb < c3] (leaf normal ([AV.bool false, ah 6 (d.na + d.nb) fun i ↦ agg [rat (c2.sp i).lo 64, rat (c2.sp i).hi 64], ah 6 (c.na + c.nb) fun i ↦ agg [rat (c1.sp i).lo 64, rat (c1.sp i).hi 64], int i64 (↑(c.na + c.nb) : Int), int i64 (0 : Int)], [])))))) := by kernel_rfl
theorem VN {f g : Nat → Sp} {n i : Nat} : aF T zm [20, 34] 60 uF [part tI [1,1,1,0,1,0,0]] ⟨az uF (CH f g n i), [], 0⟩ =
  let c9 : Int := (↑n : Int); let c6 : AV := ah 6 n fun i ↦ agg [rat (g i).lo 64, rat (g i).hi 64]; let c5 : AV := ah 6 n fun i ↦ agg [rat (f i).lo 64, rat (f i).hi 64]; let c3 : Int := (↑i : Int); let c2 : Prop := 0 < 1; let c8 : Int := c3 + (1 : Int); let c7 : Prop := (0 : Int) ≤ c3 ∧ c3.toNat < n; let c4 : Int := cB (cW (f c3.toNat).lo (g c3.toNat).lo) (cR (f c3.toNat).hi (g c3.toNat).hi); let c1 : List AV × aB := ([AV.bool false, c6, c5, int i64 c9, int i64 c3], []); some (fork (decide (c3 < c9)) (ag [c7, c2] (ag [c2, c7, c2, c2, c2, c2, c2, c2, c2, decide (c4 > (0 : Int)) = true → ay ([] ++ ([c2] ++ ([] ++ [])) ++ ([c2] ++ ([] ++ []) ++ [])), decide (c4 > (0 : Int)) = false → ay ([c2] ++ ([c2] ++ ([] ++ [])) ++ ([c2] ++ ([] ++ []) ++ [])), c2] (fork (!bif decide (c4 > (0 : Int)) then false else true) (leaf ret c1) (ag [-(2 : Int) ^ 63 ≤ c8 ∧ c8 < (2 : Int) ^ 63] (leaf normal ([AV.bool false, c6, c5, int i64 c9, int i64 c8], [])))))) (leaf (exit 0) c1)) := by kernel_rfl
theorem UM {f g : Nat → Sp} {n i : Nat} : b9 T zm [] 60 sD [part tI [1,1,1,1]] ⟨az uF (CH f g n i), [], 0⟩ =
  some (leaf ret [AV.bool true]) := by kernel_rfl
theorem DU {v : AV} {n : Nat} {f : Nat → AV} (h : l8 v = some (n, f)) : bq v (.ah 6 n f) := by
 unfold l8 at h
 split at h
 ·simp only [Option.some.injEq, Prod.mk.injEq] at h
  obtain ⟨rfl, rfl⟩ := h
  exact .refl _
 ·simp only [Option.some.injEq, Prod.mk.injEq] at h
  obtain ⟨rfl, rfl⟩ := h
  exact fS (by omega)
 ·simp at h
theorem Q9 : ∀ K args pre r, De K args pre = some r → aC P uo K args pre r := by
 refine bQ fun K args r hk hs _ => ?_
 split at hs
 ·rename_i n
  simp only [Option.some.injEq] at hs
  subst hs
  intro need
  have need : n = 0 := need
  subst need
  refine (bH (r := aK .nil []) hT (eV aY) hm GB rfl (of_decide_eq_true (by kernel_rfl)) rfl 60 Wh (fun _ => ?_) K []) trivial
  simp only [af.all, ay]
  (repeat' with_reducible refine And.intro ?_ ?_) <;> first | exact .refl _ | omega | decide
 ·simp at hs
theorem Ym {f g : Nat → AV} (K : Nat) : aC P q9 K [vv 0 0 f g] [] (aK (.ah 6 0 fun i => if i < 0 then f i else g (i - 0)) []) := by
 refine bH (r := aK (.ah 6 0 fun i => if i < 0 then f i else g (i - 0)) []) hT (xC (aJ Q9 aY)) hm Jm rfl (of_decide_eq_true (by kernel_rfl)) rfl 60 WM (fun _ => ?_) K []
 simp only [af.all, ay]
 (repeat' with_reducible refine And.intro ?_ ?_)
 all_goals first | omega | decide | exact .refl _
theorem RQ : ∀ K args pre r, DM K args pre = some r → aC P q9 K args pre r := by
 refine bQ fun K args r hk hs _ => ?_
 split at hs
 ·rename_i h
  split at hs
  ·rename_i na f nb g h1 h2
   simp only [Option.some.injEq] at hs
   subst hs
   intro need
   have need : na + nb < 2 ^ 30 := need
   refine fm (args' := [vv na nb f g]) ?_ hk ⟨gj fun i hi => ?_, trivial⟩ [] need
   ·intro _
    by_cases hz : na + nb = 0
    ·have : na = 0 ∧ nb = 0 := by omega
     obtain ⟨rfl, rfl⟩ := this
     exact Ym K trivial
    ·exact Y3 (by omega) need K trivial
   ·match i, hi with
    | 0, _ => exact DU h1
    | 1, _ => exact DU h2
  ·simp at hs
 ·simp at hs
theorem XP : br P IM := aJ RQ aY
theorem B6 (s : Nat) : ∀ K args pre r, oC s K args pre = some r → aC P pV K args pre r := by
 refine en fun a K hn => ?_
 obtain ⟨c, _⟩ := a
 refine bH hT XP hm Nk rfl (of_decide_eq_true (by kernel_rfl)) rfl 60 (UZ (c := c) (s := s)) (fun _ => ?_) K []
 simp only [af.all, ay]
 refine ⟨⟨by omega, by omega, by omega, hn⟩, gj fun i _ => ?_⟩
 show bq (if i < c.na then sA (c.a i) s else sA (c.b (i - c.na)) s) (sA (c.sp i) s)
 unfold Ce.sp
 by_cases h : i < c.na
 ·rw [if_pos h, if_pos h]; exact .refl _
 ·rw [if_neg h, if_neg h]; exact .refl _
theorem Bz (s : Nat) : ∀ K args pre r, lf s K args pre = some r → aC P pY K args pre r := by
 refine en fun a K hn => ?_
 obtain ⟨c, d, _⟩ := a
 obtain ⟨n1, n2, n3, n4⟩ := hn
 refine bH hT aY hm Ou rfl (of_decide_eq_true (by kernel_rfl)) rfl 60 (KL (c := c) (d := d) (s := s)) (fun _ => ?_) K []
 simp only [af.all, ay, beq_iff_eq, beq_eq_false_iff_ne, cond_true]
 refine ⟨fun h => ⟨⟨by omega, by omega, h, by omega, by omega⟩, cZ ?_⟩, fun h => ⟨⟨by omega, by omega, h⟩, cZ (decide_eq_false fun hh => h (by rw [hh.1])).symm⟩⟩
 have h : c.na = d.na := by omega
 rw [Bool.eq_iff_iff]
 simp only [beq_iff_eq, decide_eq_true_eq]
 exact ⟨fun e => ⟨h, by omega⟩, fun e => by rw [e.2]⟩
theorem z8 : br P xK := aJ (iP fun _ _ K hn => I9 (eE hn).1 (eE hn).2 K) (aJ (iP fun _ _ K hn => Gi (eE hn).1 (eE hn).2 K) E9)
theorem Yn : br P zm := eV (aJ (Bz 64) (aJ (B6 64) (aJ (mU hT z8 hm U9 _ _) aY)))
theorem N5 {c d : Ce} (h1 : c.na + c.nb < 2 ^ 30) (h2 : d.na + d.nb < 2 ^ 30) (K : Nat) : aC P oD K [bk c 64, bk d 64] [] (aK (.bool (gM c d)) []) := by
 refine lX (r := aK (.bool (gM c d)) []) hT Yn hm JV rfl (of_decide_eq_true (by kernel_rfl)) rfl [1,1,1,0,1] (i := 0) (y := part tI [1,1,1,0,1,0,0]) (z := part tI [1,1,1,1]) (by kernel_rfl) (by kernel_rfl) (by kernel_rfl) (f1 := [13]) (f2 := [20, 34]) (f3 := []) 60 uF 0
  (fun i : Nat => CH c.sp d.sp (c.na + c.nb) i) (fun _ => []) (fun i => i ≤ c.na + c.nb ∧ c.na = d.na ∧ c.nb = d.nb ∧ ∀ j, j < i → iR (c.sp j) (d.sp j) = true) (fun i => i = c.na + c.nb ∧ c.na = d.na ∧ c.nb = d.nb ∧ ∀ j, j < i → iR (c.sp j) (d.sp j) = true) (fun i => c.na + c.nb - i) (fun _ => ⟨⟨_, Tu, ?_⟩, fun i ⟨g1, g2, g3, g4⟩ => ⟨_, VN, ?_⟩, fun i ⟨g1, g2, g3, g4⟩ => ⟨_, UM, ?_⟩⟩) K []
 ·simp only [af.all, ay, Bool.not_eq_true', Bool.not_eq_false', decide_eq_true_eq, decide_eq_false_iff_not]
  refine ⟨⟨by omega, by omega, bD (Nat.le_refl _), bD (Nat.le_refl _), bD (Nat.le_refl _), bD (Nat.le_refl _), by omega, by omega, by omega, by omega⟩, fun h => ⟨[.bool false], by kernel_rfl, cZ (decide_eq_false fun hh => h ⟨hh.1, hh.2.1⟩).symm⟩, fun h => ⟨⟨by omega, bD (Nat.le_refl _), bD (Nat.le_refl _), h2⟩, ⟨by omega, bD (Nat.le_refl _), bD (Nat.le_refl _), h1⟩, 0, ⟨by omega, h.1, h.2, fun j hj => by omega⟩, ?_⟩⟩
  have e : d.na + d.nb = c.na + c.nb := by omega
  rw [e]
  exact .vals rfl
 ·have hc : cB (cW (c.sp i).lo (d.sp i).lo) (cR (c.sp i).hi (d.sp i).hi) > 0 ↔ ¬ iR (c.sp i) (d.sp i) = true := by
   have := xj (q := cW (c.sp i).lo (d.sp i).lo) (r := cR (c.sp i).hi (d.sp i).hi)
   unfold iR
   rw [← this]
   simp
  simp only [af.all, ay, Int.toNat_natCast, decide_eq_true_eq, decide_eq_false_iff_not]
  refine ⟨fun h => ⟨⟨by omega, by omega⟩, ⟨by omega, by omega, by omega, by omega, by omega, by omega, by omega, by omega, by omega, fun _ => (show 0 < 1 ∧ 0 < 1 from ⟨by omega, by omega⟩), fun _ => (show 0 < 1 ∧ 0 < 1 ∧ 0 < 1 from ⟨by omega, by omega, by omega⟩), by omega⟩, fun hb => ?_, fun hb => ⟨by omega, ?_⟩⟩, fun h => ⟨rfl, i, ⟨by omega, g2, g3, g4⟩, .vals rfl⟩⟩
  ·refine ⟨[.bool false], by kernel_rfl, cZ (decide_eq_false fun hh => ?_).symm⟩
   have hb : cB (cW (c.sp i).lo (d.sp i).lo) (cR (c.sp i).hi (d.sp i).hi) > 0 := by simpa using hb
   exact hc.1 hb (hh.2.2 i (by omega))
  ·have hb : ¬ cB (cW (c.sp i).lo (d.sp i).lo) (cR (c.sp i).hi (d.sp i).hi) > 0 := by simpa using hb
   refine ⟨i + 1, ⟨by omega, g2, g3, fun j hj => ?_⟩, by dsimp only; omega, .vals rfl⟩
   by_cases hj2 : j = i
   ·subst hj2; exact Decidable.not_not.1 fun hn => hb (hc.2 hn)
   ·exact g4 j (by omega)
 ·subst g1
  simp only [af.all]
  exact cZ (decide_eq_true ⟨g2, g3, g4⟩).symm
theorem Ay : ∀ K args pre r, nT K args pre = some r → aC P oD K args pre r := en fun _ K hn => N5 hn.1 hn.2 K
theorem VA {a b : Rat} : cR a b = cR b a := by unfold cR; grind
theorem Lw {a b : Rat} : cW a b = cW b a := by unfold cW; grind
theorem XT {c d : Ce} : gM c d = gM d c := by
 unfold gM
 have key : ∀ {c d : Ce}, (c.na = d.na ∧ c.nb = d.nb ∧ ∀ i, i < c.na + c.nb → iR (c.sp i) (d.sp i) = true) → d.na = c.na ∧ d.nb = c.nb ∧ ∀ i, i < d.na + d.nb → iR (d.sp i) (c.sp i) = true := fun {c d} ⟨h1, h2, h3⟩ => ⟨h1.symm, h2.symm, fun i hi => by
  have := h3 i (by omega)
  unfold iR at this ⊢
  rw [VA, Lw]; exact this⟩
 rw [Bool.eq_iff_iff]
 simp only [decide_eq_true_eq]
 exact ⟨key, key⟩
end Go.Am.B

/- brepkernellaw22.cells: the cells that a die makes. -/
namespace Go.Am.B
open Go Go.Am.N AV af ak IntKind
theorem ZO : aO P yH tL (ax tL) := aP UR (by kernel_rfl) (by kernel_rfl) (by kernel_rfl)
theorem FD : aO P tE rL (ax rL) := aP Si (by kernel_rfl) (by kernel_rfl) (by kernel_rfl)
def Jq : aW := (r5, gB By) :: yV
def gE (n : Nat) (f : Nat → AV) (a : Int) : Sp := ⟨cR (fH n f a) (fH n f (gn n f a)), cW (fH n f a) (fH n f (gn n f a))⟩
def m9 (n : Nat) (f : Nat → AV) (a : Int) : Int := gn n f (gn n f a)
def BG (n : Nat) (f : Nat → AV) (a : Int) (l : List AV) : Option (AV × Int × List Prop) := match l with
 | [] => some (sA (gE n f a) 64, m9 n f a, [])
 | _ => none
def dZ (n : Nat) (f : Nat → AV) (a : Int) : Nat → Int
 | 0 => a
 | j + 1 => m9 n f (dZ n f a j)
def gu (n : Nat) (f : Nat → AV) (p : Int) (u v : Nat) : Int := dZ n f (dZ n f p u) v
def sV (n : Nat) (f : Nat → AV) (p : Int) (u v : Nat) : Ce :=
 ⟨u + (if bC n f (gu n f p u v) 12 = 11 then 1 else 0), fun i => if i < u then gE n f (dZ n f p i) else gE n f (aZ n (gu n f p u v)), v, fun i => gE n f (dZ n f (dZ n f p u) i), 0, 0⟩
def mG (n : Nat) (f : Nat → AV) (p : Int) (u v : Nat) : Int := if bC n f (gu n f p u v) 12 = 11 then m9 n f (aZ n (gu n f p u v)) else aZ n (gu n f p u v)
def ey (n : Nat) (f : Nat → AV) (p : Int) (u v : Nat) : Nat → Int
 | 0 => p
 | j + 1 => mG n f (ey n f p u v j) u v
def iJ (n : Nat) (f : Nat → AV) (a : Int) : Nat := (bC n f a 3).toNat
def iW (n : Nat) (f : Nat → AV) (a : Int) : Nat := (bC n f (aZ n a) 3).toNat
def jQ (n : Nat) (f : Nat → AV) (a : Int) : Nat := (bC n f (aZ n (aZ n a)) 9).toNat
def iC (n : Nat) (a : Int) : Int := aZ n (aZ n (aZ n a))
def lO (n : Nat) (f : Nat → AV) (a : Int) (i : Nat) : Ce := sV n f (ey n f (iC n a) (iJ n f a) (iW n f a) i) (iJ n f a) (iW n f a)
def pL (n : Nat) (f : Nat → AV) (a : Int) : Int := ey n f (iC n a) (iJ n f a) (iW n f a) (jQ n f a)
def Ah (n : Nat) (f : Nat → AV) (a : Int) (l : List AV) : Option (AV × Int × List Prop) := match l with
 | [] => some (cq (lO n f a) (jQ n f a) 64, pL n f a, [])
 | _ => none
abbrev iI (n : Nat) (z : Nat → Int) (a : Int) : aD := gl n (fun i => .int .i64 (z i)) a
def j9 : aW := nG :: (k8, gB oP) :: (yH, gB BG) :: []
noncomputable abbrev zE : Code := ax rL
noncomputable abbrev pR : Code := part zE [1,1,1,0,1,0,0]
noncomputable abbrev nc : Code := part pR [1,0,0]
noncomputable abbrev lS : Code := part nc [1,1]
abbrev ku : List Nat := [0, 3, 4, 5, 6]
abbrev qI (u v : Nat) (m : Int) (j : Nat) : List AV := [.ptr 0 0 2 0 [], .own 1 4 0 j, .int .i64 u, .int .i64 v, .int .i64 m]
abbrev vE (n : Nat) (z : Nat → Int) (p : Int) (x : Nat → Ce) (j : Nat) : aB := [(1, ⟨true, true, 4, j, fun i => bk (x i) 64⟩), (0, iI n z p)]
abbrev sU : List Nat := [0, 3, 4, 5, 6, 7, 8]
abbrev oJ (u v : Nat) (m : Int) (j i : Nat) : List AV := [.ptr 0 0 2 0 [], .own 1 4 0 j, .int .i64 u, .int .i64 v, .int .i64 m, .ptr 2 0 4 0 [], .int .i64 i]
abbrev AJ (n : Nat) (z : Nat → Int) (p : Int) (x : Nat → Ce) (j i : Nat) (f : Nat → Sp) : aB := [(3, ⟨true, true, 6, i, fun i => sA (f i) 64⟩), (2, ⟨false, true, 4, 1, fun _ => .agg [.own 3 6 0 i, .nil, .int .i64 0, .int .i64 0]⟩), (1, ⟨true, true, 4, j, fun i => bk (x i) 64⟩), (0, iI n z p)]
abbrev su : List Nat := [0, 3, 4, 5, 6, 7, 9]
abbrev Cf (n : Nat) (z : Nat → Int) (p : Int) (x : Nat → Ce) (j u i : Nat) (f g : Nat → Sp) : aB := [(4, ⟨true, true, 6, i, fun i => sA (g i) 64⟩), (3, ⟨true, true, 6, u, fun i => sA (f i) 64⟩), (2, ⟨false, true, 4, 1, fun _ => .agg [.own 3 6 0 u, .own 4 6 0 i, .int .i64 0, .int .i64 0]⟩), (1, ⟨true, true, 4, j, fun i => bk (x i) 64⟩), (0, iI n z p)]
theorem SW {n : Nat} {z : Nat → Int} {a : Int} : vp T Jq [] 60 tL (ax tL) ⟨aN 0 [.ptr 0 0 2 0 []], [(0, gl n (fun i => .int .i64 (z i)) a)], 1⟩ =
  let c4 : Rat := fH n (fun i ↦ int i64 (z i)) a; let c2 : Int := gn n (fun i ↦ int i64 (z i)) a; let c1 : Prop := 0 < 1; let c3 : Rat := fH n (fun i ↦ int i64 (z i)) c2; some (ag [bG n (fun i ↦ int i64 (z i)) a, bG n (fun i ↦ int i64 (z i)) c2, c1, c1] (ag [c1, c1, c1, c1, c1] (ag [c1] (leaf ret ([agg [rat (cR c4 c3) 64, rat (cW c4 c3) 64]], some (aD.mk false true 2 1 fun x ↦ agg [ah 1 n fun i ↦ int i64 (z i), int i64 (gn n (fun i ↦ int i64 (z i)) c2)])))))) := by kernel_rfl
theorem Yl {n : Nat} {z : Nat → Int} {a : Int} : aF T j9 [] 60 ku (before zE [1,1,1,0,1]) ⟨aN 0 [.ptr 0 0 2 0 []], [(0, iI n z a)], 1⟩ =
  let c2 : Int := aZ n (aZ n a); let c1 : Int := (2 : Int) ^ 62; some (ag [bG n (fun i ↦ int i64 (z i)) a, (0 : Int) < (3 : Int), (3 : Int) < c1, bG n (fun i ↦ int i64 (z i)) (aZ n a), (0 : Int) < (3 : Int), (3 : Int) < c1] (ag [bG n (fun i ↦ int i64 (z i)) c2, (0 : Int) < (9 : Int), (9 : Int) < c1] (leaf normal ([ptr 0 0 2 0 [], nil, int i64 (bC n (fun i ↦ int i64 (z i)) a (3 : Int)), int i64 (bC n (fun i ↦ int i64 (z i)) (aZ n a) (3 : Int)), int i64 (bC n (fun i ↦ int i64 (z i)) c2 (9 : Int))], [((0 : Nat), aD.mk false true 2 1 fun x ↦ agg [ah 1 n fun i ↦ int i64 (z i), int i64 (aZ n c2)])])))) := by kernel_rfl
theorem LR {n u v j : Nat} {m : Int} {z : Nat → Int} {p : Int} {x : Nat → Ce} : aF T j9 [17] 60 ku (before pR [1,0]) ⟨az ku (qI u v m j), vE n z p x j, 2⟩ =
  let c1 : List AV × aB := ([ptr 0 0 2 0 [], own 1 4 0 j, int i64 (↑u : Int), int i64 (↑v : Int), int i64 m], [((1 : Nat), aD.mk true true 4 j fun i ↦ agg [ah 6 (x i).na fun i_1 ↦ agg [rat ((x i).a i_1).lo 64, rat ((x i).a i_1).hi 64], ah 6 (x i).nb fun i_1 ↦ agg [rat ((x i).b i_1).lo 64, rat ((x i).b i_1).hi 64], int i64 (x i).k, int i64 (x i).j]), ((0 : Nat), aD.mk false true 2 1 fun x ↦ agg [ah 1 n fun i ↦ int i64 (z i), int i64 p])]); some (fork (decide (m > (0 : Int))) (leaf normal c1) (leaf (exit 0) c1)) := by kernel_rfl
theorem Rm {n u v j : Nat} {m : Int} {z : Nat → Int} {p : Int} {x : Nat → Ce} : aF T j9 [] 60 sU (before nc [1,0,1]) ⟨az ku (qI u v m j), vE n z p x j, 2⟩ =
  let c1 : AV := int i64 (0 : Int); some (leaf normal ([ptr 0 0 2 0 [], own 1 4 0 j, int i64 (↑u : Int), int i64 (↑v : Int), int i64 m, ptr 2 0 4 0 [], c1], [((2 : Nat), aD.mk false true 4 1 fun x ↦ agg [nil, nil, c1, c1]), ((1 : Nat), aD.mk true true 4 j fun i ↦ agg [ah 6 (x i).na fun i_1 ↦ agg [rat ((x i).a i_1).lo 64, rat ((x i).a i_1).hi 64], ah 6 (x i).nb fun i_1 ↦ agg [rat ((x i).b i_1).lo 64, rat ((x i).b i_1).hi 64], int i64 (x i).k, int i64 (x i).j]), ((0 : Nat), aD.mk false true 2 1 fun x ↦ agg [ah 1 n fun i ↦ int i64 (z i), int i64 p])])) := by kernel_rfl
theorem SU {n u v j i : Nat} {m : Int} {z : Nat → Int} {p : Int} {x : Nat → Ce} {f : Nat → Sp} : aF T j9 [22] 60 sU [part nc [1,0,1,0,0]] ⟨az sU (oJ u v m j i), AJ n z p x j i f, 4⟩ =
  let c12 : Int := (↑i : Int); let c11 : AV := rat 0 1; let c10 : Int := (↑u : Int); let c9 : Rat := fH n (fun i ↦ int i64 (z i)) p; let c8 : AV := own 1 4 0 j; let c7 : AV := ah 1 n fun i ↦ int i64 (z i); let c5 : AV := ptr 0 0 2 0 []; let c4 : AV := ptr 2 0 4 0 []; let c3 : Rat := fH n (fun i ↦ int i64 (z i)) (gn n (fun i ↦ int i64 (z i)) p); let c2 : AV := agg [own 3 6 0 i, nil, int i64 (0 : Int), int i64 (0 : Int)]; let c1 : Nat × aD := ((1 : Nat), aD.mk true true 4 j fun i ↦ agg [ah 6 (x i).na fun i_1 ↦ agg [rat ((x i).a i_1).lo 64, rat ((x i).a i_1).hi 64], ah 6 (x i).nb fun i_1 ↦ agg [rat ((x i).b i_1).lo 64, rat ((x i).b i_1).hi 64], int i64 (x i).k, int i64 (x i).j]); let c6 : Int := c12 + (1 : Int); some (fork (decide (c12 < c10)) (ag [(0 : Nat) < 1, bG n (fun i ↦ int i64 (z i)) p, (1 : Nat) * 6 ≤ 2 ^ 24, (i + 1) * ((112 : Nat) + 1) * 2 ≤ 2 ^ 47, (0 : Nat) < 1] (ag [-(2 : Int) ^ 63 ≤ c6 ∧ c6 < (2 : Int) ^ 63] (leaf normal ([c5, c8, int i64 c10, int i64 (↑v : Int), int i64 m, c4, int i64 c6], [((32772 : Nat), aD.mk true true 6 (i + 1) fun i_1 ↦ if i_1 < i then sA (f i_1) 64 else nth [agg [rat (cR c9 c3) 64, rat (cW c9 c3) 64]] (agg [c11, c11]) (i_1 - i + 0)), ((2 : Nat), aD.mk false true 4 1 fun j ↦ if (j == 0) = true then agg (c2.kids.set 0 (cJ (own (nat_lit 32771 + 1) 6 0 (i + 1)))) else c2), c1, ((0 : Nat), aD.mk false true 2 1 fun x ↦ agg [c7, int i64 (m9 n (fun i ↦ int i64 (z i)) p)])])))) (leaf (exit 2) ([c5, c8, int i64 c10, int i64 (↑v : Int), int i64 m, c4, int i64 c12], [((3 : Nat), aD.mk true true 6 i fun i ↦ agg [rat (f i).lo 64, rat (f i).hi 64]), ((2 : Nat), aD.mk false true 4 1 fun x ↦ c2), c1, ((0 : Nat), aD.mk false true 2 1 fun x ↦ agg [c7, int i64 p])]))) := by kernel_rfl
theorem J5 {n u v j i : Nat} {m : Int} {z : Nat → Int} {p : Int} {x : Nat → Ce} {f : Nat → Sp} : aF T j9 [] 60 su (before lS [0,1]) ⟨az sU (oJ u v m j i), AJ n z p x j i f, 4⟩ =
  let c1 : AV := int i64 (0 : Int); some (leaf normal ([ptr 0 0 2 0 [], own 1 4 0 j, int i64 (↑u : Int), int i64 (↑v : Int), int i64 m, ptr 2 0 4 0 [], c1], [((3 : Nat), aD.mk true true 6 i fun i ↦ agg [rat (f i).lo 64, rat (f i).hi 64]), ((2 : Nat), aD.mk false true 4 1 fun x ↦ agg [own 3 6 0 i, nil, c1, c1]), ((1 : Nat), aD.mk true true 4 j fun i ↦ agg [ah 6 (x i).na fun i_1 ↦ agg [rat ((x i).a i_1).lo 64, rat ((x i).a i_1).hi 64], ah 6 (x i).nb fun i_1 ↦ agg [rat ((x i).b i_1).lo 64, rat ((x i).b i_1).hi 64], int i64 (x i).k, int i64 (x i).j]), ((0 : Nat), aD.mk false true 2 1 fun x ↦ agg [ah 1 n fun i ↦ int i64 (z i), int i64 p])])) := by kernel_rfl
theorem MU {n u v j i : Nat} {m : Int} {z : Nat → Int} {p : Int} {x : Nat → Ce} {f g : Nat → Sp} : aF T j9 [34] 60 su [part lS [0,1,0,0]] ⟨az su (oJ u v m j i), Cf n z p x j u i f g, 5⟩ =
  let c13 : AV := rat 0 1; let c12 : Int := (↑i : Int); let c11 : Int := (↑v : Int); let c10 : Rat := fH n (fun i ↦ int i64 (z i)) p; let c9 : AV := own 1 4 0 j; let c8 : AV := ah 1 n fun i ↦ int i64 (z i); let c6 : AV := ptr 0 0 2 0 []; let c5 : AV := ptr 2 0 4 0 []; let c4 : Rat := fH n (fun i ↦ int i64 (z i)) (gn n (fun i ↦ int i64 (z i)) p); let c3 : Nat × aD := ((3 : Nat), aD.mk true true 6 u fun i ↦ agg [rat (f i).lo 64, rat (f i).hi 64]); let c2 : AV := agg [own 3 6 0 u, own 4 6 0 i, int i64 (0 : Int), int i64 (0 : Int)]; let c1 : Nat × aD := ((1 : Nat), aD.mk true true 4 j fun i ↦ agg [ah 6 (x i).na fun i_1 ↦ agg [rat ((x i).a i_1).lo 64, rat ((x i).a i_1).hi 64], ah 6 (x i).nb fun i_1 ↦ agg [rat ((x i).b i_1).lo 64, rat ((x i).b i_1).hi 64], int i64 (x i).k, int i64 (x i).j]); let c7 : Int := c12 + (1 : Int); some (fork (decide (c12 < c11)) (ag [(0 : Nat) < 1, bG n (fun i ↦ int i64 (z i)) p, (1 : Nat) * 6 ≤ 2 ^ 24, (i + 1) * ((112 : Nat) + 1) * 2 ≤ 2 ^ 47, (0 : Nat) < 1] (ag [-(2 : Int) ^ 63 ≤ c7 ∧ c7 < (2 : Int) ^ 63] (leaf normal ([c6, c9, int i64 (↑u : Int), int i64 c11, int i64 m, c5, int i64 c7], [((32773 : Nat), aD.mk true true 6 (i + 1) fun i_1 ↦ if i_1 < i then sA (g i_1) 64 else nth [agg [rat (cR c10 c4) 64, rat (cW c10 c4) 64]] (agg [c13, c13]) (i_1 - i + 0)), c3, ((2 : Nat), aD.mk false true 4 1 fun j ↦ if (j == 0) = true then agg (c2.kids.set 1 (cJ (own (nat_lit 32772 + 1) 6 0 (i + 1)))) else c2), c1, ((0 : Nat), aD.mk false true 2 1 fun x ↦ agg [c8, int i64 (m9 n (fun i ↦ int i64 (z i)) p)])])))) (leaf (exit 4) ([c6, c9, int i64 (↑u : Int), int i64 c11, int i64 m, c5, int i64 c12], [((4 : Nat), aD.mk true true 6 i fun i ↦ agg [rat (g i).lo 64, rat (g i).hi 64]), c3, ((2 : Nat), aD.mk false true 4 1 fun x ↦ c2), c1, ((0 : Nat), aD.mk false true 2 1 fun x ↦ agg [c8, int i64 p])]))) := by kernel_rfl
theorem Uf {n u v j i : Nat} {m : Int} {z : Nat → Int} {p : Int} {x : Nat → Ce} {f g : Nat → Sp} : aF T j9 [46] 60 ku [part lS [1], part pR [1,1]] ⟨az su (oJ u v m j i), Cf n z p x j u i f g, 5⟩ =
  let c13 : AV := rat 0 1; let c12 : Int := aZ n p; let c11 : Prop := 0 < 1; let c10 : AV := ah 1 n fun i ↦ int i64 (z i); let c8 : Nat := j + 1; let c7 : AV := ptr 0 0 2 0 []; let c5 : List AV := [int i64 (↑u : Int), int i64 (↑v : Int), int i64 (m - (1 : Int))]; let c3 : Prop := -(2 : Int) ^ 63 ≤ m - (1 : Int) ∧ m - (1 : Int) < (2 : Int) ^ 63; let c2 : List AV := [int i64 (0 : Int), int i64 (0 : Int)]; let c9 : Rat := fH n (fun i ↦ int i64 (z i)) c12; let c6 : List AV := (ah 6 i fun i ↦ sA (g (i + 0)) 64) :: c2; let c4 : Rat := fH n (fun i ↦ int i64 (z i)) (gn n (fun i ↦ int i64 (z i)) c12); let c1 : List Prop := [c11, (1 : Nat) * 4 ≤ 2 ^ 24, c8 * ((64 : Nat) + 1) * 2 ≤ 2 ^ 47]; some (ag [bG n (fun i ↦ int i64 (z i)) p, (0 : Int) < (12 : Int), (12 : Int) < (2 : Int) ^ 62] (fork (bC n (fun i ↦ int i64 (z i)) p (12 : Int) == (11 : Int)) (ag [c11, bG n (fun i ↦ int i64 (z i)) c12, (1 : Nat) * 6 ≤ 2 ^ 24, (u + 1) * ((112 : Nat) + 1) * 2 ≤ 2 ^ 47, c11] (ag c1 (ag [c3] (leaf normal (c7 :: own 57349 4 0 c8 :: c5, [((57349 : Nat), aD.mk true true 4 c8 fun i ↦ if i < j then bk (x i) 64 else nth [agg ((ah 6 (u + 1) fun i ↦ if i + 0 < u then sA (f (i + 0)) 64 else nth [agg [rat (cR c9 c4) 64, rat (cW c9 c4) 64]] (agg [c13, c13]) (i + 0 - u + 0)) :: c6)] (agg (nil :: nil :: c2)) (i - j + 0)), ((0 : Nat), aD.mk false true 2 1 fun x ↦ agg [c10, int i64 (m9 n (fun i ↦ int i64 (z i)) c12)])]))))) (ag c1 (ag [c3] (leaf normal (c7 :: own 24581 4 0 c8 :: c5, [((24581 : Nat), aD.mk true true 4 c8 fun i ↦ if i < j then bk (x i) 64 else nth [agg ((ah 6 u fun i ↦ sA (f (i + 0)) 64) :: c6)] (agg (nil :: nil :: c2)) (i - j + 0)), ((0 : Nat), aD.mk false true 2 1 fun x ↦ agg [c10, int i64 c12])])))))) := by kernel_rfl
theorem Q3 {n u v j : Nat} {m : Int} {z : Nat → Int} {p : Int} {x : Nat → Ce} : wV T j9 [] 60 rL [part zE [1,1,1,1]] ⟨az ku (qI u v m j), vE n z p x j, 2⟩ =
  some (leaf ret ([ah 4 j fun i ↦ agg [ah 6 (x (i + 0)).na fun i_1 ↦ agg [rat ((x (i + 0)).a i_1).lo 64, rat ((x (i + 0)).a i_1).hi 64], ah 6 (x (i + 0)).nb fun i_1 ↦ agg [rat ((x (i + 0)).b i_1).lo 64, rat ((x (i + 0)).b i_1).hi 64], int i64 (x (i + 0)).k, int i64 (x (i + 0)).j]], some (aD.mk false true 2 1 fun x ↦ agg [ah 1 n fun i ↦ int i64 (z i), int i64 p]))) := by kernel_rfl
theorem Pt : br P Jq := aJ L4 A3
theorem UC : ∀ K args pre r, gB BG K args pre = some r → aC P yH K args pre r := by
 refine tB fun {k n z a l v b q o} K hg ho hd hq => ?_
 unfold BG at hg
 split at hg
 ·simp only [Option.some.injEq, Prod.mk.injEq] at hg
  obtain ⟨rfl, rfl, rfl⟩ := hg
  refine zR hT Pt hm ZO rfl rfl (of_decide_eq_true (by kernel_rfl)) ho 60 SW (fun _ => ?_) K
  simp only [af.all, ay]
  (repeat' with_reducible refine And.intro ?_ ?_)
  all_goals first | omega | exact hd | exact hd.number | skip
  ·exact bq.refl _
  ·exact ⟨_, rfl, rfl, ni rfl rfl⟩
 ·simp at hg
theorem qn : br P j9 := eV (aJ x3 (aJ UC aY))
theorem bG.Ie {n : Nat} {f : Nat → AV} {a : Int} (h : bG n f a) : bG n f (m9 n f a) := h.number.number
theorem bG.jY {n : Nat} {f : Nat → AV} {a : Int} (h : bG n f a) : ∀ j, bG n f (dZ n f a j)
 | 0 => h
 | j + 1 => (h.jY j).Ie
theorem bG.mG {n : Nat} {f : Nat → AV} {a : Int} {u v : Nat} (h : bG n f a) : bG n f (Go.Am.B.mG n f a u v) := by
 unfold Go.Am.B.mG
 split
 ·exact ((h.jY u).jY v).next.Ie
 ·exact ((h.jY u).jY v).next
theorem bG.ey {n : Nat} {f : Nat → AV} {a : Int} {u v : Nat} (h : bG n f a) : ∀ j, bG n f (Go.Am.B.ey n f a u v j)
 | 0 => h
 | j + 1 => (h.ey j).mG
theorem HU {rl : List (Nat × Nat)} {l i : Nat} {f : Nat → Sp} {s : Sp} (hs : s = f l) (hi : i < l + 1) : ia rl (if i < l then sA (f i) 64 else nth [agg [rat s.lo 64, rat s.hi 64]] (agg [rat 0 1, rat 0 1]) (i - l + 0)) (sA (f i) 64) := by
 subst hs
 by_cases h : i < l
 ·rw [if_pos h]; exact aM rfl rfl
 ·have : i = l := by omega
  subst this
  rw [if_neg h, Nat.sub_self]
  exact aM rfl rfl
theorem DP {rl : List (Nat × Nat)} {l i : Nat} {x : Nat → Ce} {v z : AV} (hk : keys v = []) (hs : bq v (bk (x l) 64)) (hi : i < l + 1) : ia rl (if i < l then bk (x i) 64 else nth [v] z (i - l + 0)) (bk (x i) 64) := by
 by_cases h : i < l
 ·rw [if_pos h]; exact aM rfl rfl
 ·have : i = l := by omega
  subst this
  rw [if_neg h, Nat.sub_self]
  exact .inr ⟨hk, hs⟩
theorem Zj {k n : Nat} {z : Nat → Int} {a : Int} {o : aD} (ho : ∀ ρ, ct ρ o (iI n z a)) (h : bG n (fun i => .int .i64 (z i)) a) (K : Nat) :
  aC P tE K [.ptr k 0 2 0 []] [(k, o)] ⟨cq (lO n (fun i => .int .i64 (z i)) a) (jQ n (fun i => .int .i64 (z i)) a) 64, [(k, iI n z (pL n (fun i => .int .i64 (z i)) a))], []⟩ := by
 refine Hj hT FD rfl rfl (of_decide_eq_true (by kernel_rfl)) ho (fun _ c hk => ?_) K
 have a1 := kM (n := n) (f := fun i => .int .i64 (z i)) (a := a) (m := 3) (by omega)
 have a2 := ij (n := n) (f := fun i => .int .i64 (z i)) (a := a) (m := 3) (by omega)
 have b1 := kM (n := n) (f := fun i => .int .i64 (z i)) (a := aZ n a) (m := 3) (by omega)
 have b2 := ij (n := n) (f := fun i => .int .i64 (z i)) (a := aZ n a) (m := 3) (by omega)
 have c1 := kM (n := n) (f := fun i => .int .i64 (z i)) (a := aZ n (aZ n a)) (m := 9) (by omega)
 have c2 := ij (n := n) (f := fun i => .int .i64 (z i)) (a := aZ n (aZ n a)) (m := 9) (by omega)
 have hx : lO n (fun i => .int .i64 (z i)) a = fun i => sV n (fun i => .int .i64 (z i)) (ey n (fun i => .int .i64 (z i)) (iC n a) (iJ n (fun i => .int .i64 (z i)) a) (iW n (fun i => .int .i64 (z i)) a) i) (iJ n (fun i => .int .i64 (z i)) a) (iW n (fun i => .int .i64 (z i)) a) := rfl
 rw [hx]
 unfold pL
 have hp0 : bG n (fun i => .int .i64 (z i)) (iC n a) := h.next.next.next
 have hu : bC n (fun i => .int .i64 (z i)) a 3 = (iJ n (fun i => .int .i64 (z i)) a : Int) := by unfold iJ; omega
 have hv : bC n (fun i => .int .i64 (z i)) (aZ n a) 3 = (iW n (fun i => .int .i64 (z i)) a : Int) := by unfold iW; omega
 have hN : bC n (fun i => .int .i64 (z i)) (aZ n (aZ n a)) 9 = (jQ n (fun i => .int .i64 (z i)) a : Int) := by unfold jQ; omega
 clear hx
 generalize hU : iJ n (fun i => .int .i64 (z i)) a = u at *
 generalize hV : iW n (fun i => .int .i64 (z i)) a = v at *
 generalize hM : jQ n (fun i => .int .i64 (z i)) a = N at *
 rw [hu] at a1 a2; rw [hv] at b1 b2; rw [hN] at c1 c2
 obtain ⟨x, hx⟩ : ∃ x : Nat → Ce, x = fun i => sV n (fun i => .int .i64 (z i)) (ey n (fun i => .int .i64 (z i)) (iC n a) u v i) u v := ⟨_, rfl⟩
 rw [← hx]
 refine aq.yo hT qn hm [1,1,1,0,1] (i := 0) (y := pR) (z := part zE [1,1,1,1]) (by kernel_rfl) (by kernel_rfl) (by kernel_rfl) FD.dst hk (f1 := []) 60 ku 2 (fun j : Nat => qI u v ((N : Int) - j) j)
  (fun j => vE n z (ey n (fun i => .int .i64 (z i)) (iC n a) u v j) x j) (fun j => j ≤ N) (fun j => j = N) (fun j => N - j) (fun _ => False) ⟨_, Yl, ?_⟩ (fun j hj => ?_) (fun j hj => ?_) (fun _ _ h => h.elim)
 ·simp only [af.all, ay]
  refine ⟨⟨h, by omega, by omega, h.next, by omega, by omega⟩, ⟨h.next.next, by omega, by omega⟩, 0, Nat.zero_le _, [(0, 0)], rfl, ?_, rfl, jl rfl (by omega) (by omega) (cr rfl rfl (aM rfl rfl) trivial)⟩
  show _ = (qI u v ((N : Int) - 0) 0).map _
  rw [hu, hv, hN, Int.sub_zero]; rfl
 ·have hpj := hp0.ey (u := u) (v := v) j
  have hxj : x j = sV n (fun i => .int .i64 (z i)) (ey n (fun i => .int .i64 (z i)) (iC n a) u v j) u v := by rw [hx]
  have hnx : ey n (fun i => .int .i64 (z i)) (iC n a) u v (j + 1) = mG n (fun i => .int .i64 (z i)) (ey n (fun i => .int .i64 (z i)) (iC n a) u v j) u v := rfl
  refine aq.vI hT qn hm (y := pR) (x1 := nc) (zb := part pR [1,1]) [1,0] (j := 1) (by kernel_rfl) (by kernel_rfl) (by kernel_rfl) (by kernel_rfl) hk (f1 := [17]) 60 ku 2 (fun _ : Unit => qI u v ((N : Int) - j) j) (fun _ => vE n z (ey n (fun i => .int .i64 (z i)) (iC n a) u v j) x j) (fun _ => j < N) ⟨_, LR, ?_⟩ (fun _ hlt => ?_)
  ·simp only [af.all, ay, decide_eq_true_eq, decide_eq_false_iff_not]
   refine ⟨fun h => ⟨(), by omega, [(0, 0), (1, 1)], rfl, rfl, rfl, aT rfl rfl rfl (fun _ _ => aM rfl rfl) (cr rfl rfl (aM rfl rfl) trivial)⟩, fun h s' hs' => ⟨rfl, j, by omega, cQ.le ⟨[(0, 0), (1, 1)], rfl, rfl, rfl, aT rfl rfl rfl (fun _ _ => aM rfl rfl) (cr rfl rfl (aM rfl rfl) trivial)⟩ hs' hk⟩⟩
  generalize ey n (fun i => .int .i64 (z i)) (iC n a) u v j = p at *
  refine aq.uP hT qn hm (x := nc) [1,0,1] (i := 2) (y := part nc [1,0,1,0,0]) (by kernel_rfl) (by kernel_rfl) (by kernel_rfl) hk (f1 := []) (f2 := [22]) 60 sU 4 (fun i : Nat => oJ u v ((N : Int) - j) j i)
   (fun i => AJ n z (dZ n (fun i => .int .i64 (z i)) p i) x j i (fun i => gE n (fun i => .int .i64 (z i)) (dZ n (fun i => .int .i64 (z i)) p i))) (fun i => i ≤ u) (fun i => i = u) (fun i => u - i) (fun _ => False) ⟨_, Rm, ?_⟩ (fun i hi => ⟨_, SU, ?_⟩) (fun i s' hi hle => ?_) (fun _ _ h => h.elim)
  ·simp only [af.all, ay]
   exact ⟨0, Nat.zero_le _, [(0, 0), (1, 1), (2, 2)], rfl, rfl, rfl, jl rfl (by omega) (by omega) (cr rfl rfl (w9 ⟨⟨rfl, B3 (by omega)⟩, ⟨rfl, aG rfl⟩, ⟨rfl, aG rfl⟩, ⟨rfl, aG rfl⟩, trivial⟩) (aT rfl rfl rfl (fun _ _ => aM rfl rfl) (cr rfl rfl (aM rfl rfl) trivial)))⟩
  ·simp only [af.all, ay, decide_eq_true_eq, decide_eq_false_iff_not]
   have hv : ∀ {rl : List (Nat × Nat)} {a l : Nat}, aU rl 3 = some a → ia rl (.agg [.own a 6 0 l, .nil, .int .i64 0, .int .i64 0]) (.agg [.own 3 6 0 l, .nil, .int .i64 0, .int .i64 0]) := fun h => w9 ⟨⟨rfl, cH h rfl rfl⟩, ⟨rfl, aG rfl⟩, ⟨rfl, aG rfl⟩, ⟨rfl, aG rfl⟩, trivial⟩
   exact ⟨fun h => ⟨⟨by omega, hpj.jY i, by omega, by omega, by omega⟩, by omega, i + 1, by omega, by dsimp only; omega, [(0, 0), (1, 1), (2, 2), (3, 32772)], rfl, rfl, rfl,
    aT rfl rfl rfl (fun l hl => HU (f := fun i => gE n (fun i => .int .i64 (z i)) (dZ n (fun i => .int .i64 (z i)) p i)) rfl hl) (cr rfl rfl (hv rfl) (aT rfl rfl rfl (fun _ _ => aM rfl rfl) (cr rfl rfl (aM rfl rfl) trivial)))⟩,
    fun h => ⟨rfl, i, by omega, [(0, 0), (1, 1), (2, 2), (3, 3)], rfl, rfl, rfl, aT rfl rfl rfl (fun _ _ => aM rfl rfl) (cr rfl rfl (hv rfl) (aT rfl rfl rfl (fun _ _ => aM rfl rfl) (cr rfl rfl (aM rfl rfl) trivial)))⟩⟩
  subst hi
  rw [show behind nc [1,0,1] = [lS] from by kernel_rfl]
  refine aA.weak rfl hle (aA.one ?_)
  have hq := hpj.jY i
  refine aq.uP hT qn hm (x := lS) [0,1] (i := 4) (y := part lS [0,1,0,0]) (by kernel_rfl) (by kernel_rfl) (by kernel_rfl) hk (f1 := []) (f2 := [34]) 60 su 5 (fun l : Nat => oJ i v ((N : Int) - j) j l)
   (fun l => Cf n z (dZ n (fun i => .int .i64 (z i)) (dZ n (fun i => .int .i64 (z i)) p i) l) x j i l (fun i => gE n (fun i => .int .i64 (z i)) (dZ n (fun i => .int .i64 (z i)) p i)) (fun l => gE n (fun i => .int .i64 (z i)) (dZ n (fun i => .int .i64 (z i)) (dZ n (fun i => .int .i64 (z i)) p i) l))) (fun l => l ≤ v) (fun l => l = v) (fun l => v - l) (fun _ => False) ⟨_, J5, ?_⟩ (fun l hl => ⟨_, MU, ?_⟩) (fun l s' hl hle => ?_) (fun _ _ h => h.elim)
  ·simp only [af.all, ay]
   exact ⟨0, Nat.zero_le _, [(0, 0), (1, 1), (2, 2), (3, 3)], rfl, rfl, rfl, jl rfl (by omega) (by omega) (aT rfl rfl rfl (fun _ _ => aM rfl rfl) (cr rfl rfl (w9 ⟨⟨rfl, cH rfl rfl rfl⟩, ⟨rfl, B3 (by omega)⟩, ⟨rfl, aG rfl⟩, ⟨rfl, aG rfl⟩, trivial⟩) (aT rfl rfl rfl (fun _ _ => aM rfl rfl) (cr rfl rfl (aM rfl rfl) trivial))))⟩
  ·simp only [af.all, ay, decide_eq_true_eq, decide_eq_false_iff_not]
   have hv : ∀ {rl : List (Nat × Nat)} {b l : Nat}, aU rl 3 = some 3 → aU rl 4 = some b → ia rl (.agg [.own 3 6 0 i, .own b 6 0 l, .int .i64 0, .int .i64 0]) (.agg [.own 3 6 0 i, .own 4 6 0 l, .int .i64 0, .int .i64 0]) := fun h h' => w9 ⟨⟨rfl, cH h rfl rfl⟩, ⟨rfl, cH h' rfl rfl⟩, ⟨rfl, aG rfl⟩, ⟨rfl, aG rfl⟩, trivial⟩
   exact ⟨fun h => ⟨⟨by omega, hq.jY l, by omega, by omega, by omega⟩, by omega, l + 1, by omega, by dsimp only; omega, [(0, 0), (1, 1), (2, 2), (3, 3), (4, 32773)], rfl, rfl, rfl,
    aT rfl rfl rfl (fun l' hl' => HU (f := fun l => gE n (fun i => .int .i64 (z i)) (dZ n (fun i => .int .i64 (z i)) (dZ n (fun i => .int .i64 (z i)) p i) l)) rfl hl') (aT rfl rfl rfl (fun _ _ => aM rfl rfl) (cr rfl rfl (hv rfl rfl) (aT rfl rfl rfl (fun _ _ => aM rfl rfl) (cr rfl rfl (aM rfl rfl) trivial))))⟩,
    fun h => ⟨rfl, l, by omega, [(0, 0), (1, 1), (2, 2), (3, 3), (4, 4)], rfl, rfl, rfl, aT rfl rfl rfl (fun _ _ => aM rfl rfl) (aT rfl rfl rfl (fun _ _ => aM rfl rfl) (cr rfl rfl (hv rfl rfl) (aT rfl rfl rfl (fun _ _ => aM rfl rfl) (cr rfl rfl (aM rfl rfl) trivial))))⟩⟩
  subst hl
  rw [show behind lS [0,1] = [part lS [1]] from by kernel_rfl]
  refine aA.weak rfl hle (aA.one (aq.tail (fun s' hh => by have := hh.1; omega) (aA.aS hT qn hm 60 ku Uf (by kernel_rfl) ?_)))
  have hr := hq.jY l
  have e1 : ((N : Int) - j) - 1 = (N : Int) - (j + 1 : Nat) := by omega
  simp only [af.all, ay, beq_iff_eq, beq_eq_false_iff_ne, e1]
  refine ⟨⟨hr, by omega, by omega⟩, fun h11 => ⟨⟨by omega, hr.next, by omega, by omega, by omega⟩, ⟨by omega, by omega, by omega⟩, by omega, fun s' hs' => ⟨j + 1, by omega, by dsimp only; omega, cQ.le ⟨[(0, 0), (1, 57349)], rfl, rfl, rfl, aT rfl rfl rfl (fun b hb => DP rfl ?_ hb) (cr rfl rfl (aM rfl ?_) trivial)⟩ hs' hk⟩⟩,
   fun h11 => ⟨⟨by omega, by omega, by omega⟩, by omega, fun s' hs' => ⟨j + 1, by omega, by dsimp only; omega, cQ.le ⟨[(0, 0), (1, 24581)], rfl, rfl, rfl, aT rfl rfl rfl (fun b hb => DP rfl ?_ hb) (cr rfl rfl (aM rfl ?_) trivial)⟩ hs' hk⟩⟩⟩
  ·rw [hxj]
   have e : i + (if bC n (fun i => .int .i64 (z i)) (gu n (fun i => .int .i64 (z i)) p i l) 12 = 11 then 1 else 0) = i + 1 := by rw [if_pos (show bC n (fun i => .int .i64 (z i)) (gu n (fun i => .int .i64 (z i)) p i l) 12 = 11 from h11)]
   show bq _ (.agg [.ah 6 (i + (if bC n (fun i => .int .i64 (z i)) (gu n (fun i => .int .i64 (z i)) p i l) 12 = 11 then 1 else 0)) _, _, _, _])
   rw [e]
   refine eI ⟨gj fun b hb => ?_, .refl _, .refl _, .refl _, trivial⟩
   show bq (if b < i then _ else nth _ _ (b - i + 0)) (sA (if b < i then _ else _) 64)
   by_cases hbi : b < i
   ·rw [if_pos hbi, if_pos hbi]; exact .refl _
   ·have : b = i := by omega
    subst this
    rw [if_neg hbi, if_neg hbi, Nat.sub_self]
    exact .refl _
  ·show _ = AV.agg [_, .int .i64 _]
   rw [hnx]; unfold mG
   rw [if_pos (show bC n (fun i => .int .i64 (z i)) (gu n (fun i => .int .i64 (z i)) p i l) 12 = 11 from h11)]; rfl
  ·rw [hxj]
   have e : i + (if bC n (fun i => .int .i64 (z i)) (gu n (fun i => .int .i64 (z i)) p i l) 12 = 11 then 1 else 0) = i := by rw [if_neg (show ¬ bC n (fun i => .int .i64 (z i)) (gu n (fun i => .int .i64 (z i)) p i l) 12 = 11 from h11)]; rfl
   show bq _ (.agg [.ah 6 (i + (if bC n (fun i => .int .i64 (z i)) (gu n (fun i => .int .i64 (z i)) p i l) 12 = 11 then 1 else 0)) _, _, _, _])
   rw [e]
   refine eI ⟨gj fun b hb => ?_, .refl _, .refl _, .refl _, trivial⟩
   show bq (sA _ 64) (sA (if b < i then _ else _) 64)
   rw [if_pos hb]; exact .refl _
  ·show _ = AV.agg [_, .int .i64 _]
   rw [hnx]; unfold mG
   rw [if_neg (show ¬ bC n (fun i => .int .i64 (z i)) (gu n (fun i => .int .i64 (z i)) p i l) 12 = 11 from h11)]; rfl
 ·subst hj
  refine aq.js (aA.Gk hT qn hm 60 Q3 (by kernel_rfl) ?_)
  simp only [af.all, ay]
  exact ⟨.refl _, _, rfl, rfl, ni rfl rfl⟩
theorem SC : ∀ K args pre r, gB Ah K args pre = some r → aC P tE K args pre r := by
 refine tB fun {k n z a l v b q o} K hg ho hd hq => ?_
 unfold Ah at hg
 split at hg
 ·simp only [Option.some.injEq, Prod.mk.injEq] at hg
  obtain ⟨rfl, rfl, rfl⟩ := hg
  exact Zj ho hd K
 ·simp at hg
def Ce.ok (c : Ce) : Prop := (∀ i, (c.a i).lo ≤ (c.a i).hi) ∧ ∀ i, (c.b i).lo ≤ (c.b i).hi
theorem H8 {n : Nat} {f : Nat → AV} {a : Int} : (gE n f a).lo ≤ (gE n f a).hi := by
 show cR _ _ ≤ cW _ _
 unfold cR cW; grind
theorem Vr {n : Nat} {f : Nat → AV} {a : Int} {i : Nat} : (lO n f a i).ok := by
 unfold lO sV
 refine ⟨fun i => ?_, fun i => H8⟩
 show Sp.lo (if _ then _ else _) ≤ Sp.hi (if _ then _ else _)
 split <;> exact H8
theorem Xn {n : Nat} {f : Nat → AV} {a : Int} {i : Nat} : (lO n f a i).na + (lO n f a i).nb ≤ 5 := by
 have a2 := ij (n := n) (f := f) (a := a) (m := 3) (by omega)
 have b2 := ij (n := n) (f := f) (a := aZ n a) (m := 3) (by omega)
 have hu : iJ n f a ≤ 2 := by unfold iJ; omega
 have hv : iW n f a ≤ 2 := by unfold iW; omega
 show iJ n f a + (if _ then 1 else 0) + iW n f a ≤ 5
 split <;> omega
theorem OR {n : Nat} {f : Nat → AV} {a : Int} : jQ n f a ≤ 8 := by
 have := ij (n := n) (f := f) (a := aZ n (aZ n a)) (m := 9) (by omega)
 unfold jQ; omega
end Go.Am.B
