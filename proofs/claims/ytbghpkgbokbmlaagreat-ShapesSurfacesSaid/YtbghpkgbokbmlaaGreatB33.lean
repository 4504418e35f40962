/- brepkernelmade: number, Point, Map, Light, Roll. -/
import Derived.Test.YtbghpkgbokbmlaaGreatB32
set_option linter.unusedVariables false
namespace Go.Am.B
open Go Go.Am.N AV
theorem Q3 : aP P uD sw (au sw) := aL Yi (by kernel_rfl) (by kernel_rfl) (by kernel_rfl)
theorem Sd : aP P xQ vj (au vj) := aL Wy (by kernel_rfl) (by kernel_rfl) (by kernel_rfl)
theorem TR : aP P pJ vm (au vm) := aL Pc (by kernel_rfl) (by kernel_rfl) (by kernel_rfl)
def GN : aO := [(lE, fe pN), (oE, yb), (ir, qx)]
def bP (n : Nat) (f : Nat → AV) (a : Int) : Rat := if bY n f (bm n a) 4 = 3 then ((bY n f a 13 - 6 : Int) : Rat) / ((1 + bY n f (bm n (bm n a)) 4 : Int) : Rat) else ((bY n f a 13 - 6 : Int) : Rat)
def bG (n : Nat) (f : Nat → AV) (a : Int) : Int := if bY n f (bm n a) 4 = 3 then bm n (bm n (bm n a)) else bm n (bm n a)
def Bg (n : Nat) (f : Nat → AV) (a : Int) (l : List AV) : Option (AV × Int × List Prop) := match l with
 | [] => some (.rat (bP n f a) 64, bG n f a, [])
 | _ => none
def GP : aO := [(uD, fe Bg)]
def aV (n : Nat) (f : Nat → AV) (a : Int) : Int := bG n f (bG n f (bG n f a))
def vh (n : Nat) (f : Nat → AV) (a : Int) (l : List AV) : Option (AV × Int × List Prop) := match l with
 | [] => some (.agg [.rat (bP n f a) 64, .rat (bP n f (bG n f a)) 64, .rat (bP n f (bG n f (bG n f a))) 64], aV n f a, [])
 | _ => none
def JL : aO := [(pJ, fe vh)]
abbrev wO (n : Nat) (f : Nat → AV) (a : Int) : AV := .agg [.rat (bP n f a) 64, .rat (bP n f (bG n f a)) 64, .rat (bP n f (bG n f (bG n f a))) 64]
def Cf (n : Nat) (f : Nat → AV) (a : Int) (l : List AV) : Option (AV × Int × List Prop) := match l with
 | [] => some (.agg [.agg [wO n f a, wO n f (aV n f a), wO n f (aV n f (aV n f a))], wO n f (aV n f (aV n f (aV n f a)))], aV n f (aV n f (aV n f (aV n f a))), [])
 | _ => none
theorem Sb : aW P GN := aD yt (aD Bm (aD sX bg))
theorem YO {n : Nat} {z : Nat → Int} {a : Int} : nW T GN [8] 60 sw (au sw) ⟨aK 0 [.ptr 0 0 2 0 []], [(0, fZ n (fun i => .int .i64 (z i)) a)], 1⟩ =
  some (aa.af [bT n (fun (i : Nat) ↦ int IntKind.i64 (z i)) a, (0 : Int) < (13 : Int), (13 : Int) < (2 : Int) ^ 62] (aa.af [bT n (fun (i : Nat) ↦ int IntKind.i64 (z i)) (bm n a), (0 : Int) < (4 : Int), (4 : Int) < (2 : Int) ^ 62] (aa.fork (bY n (fun (i : Nat) ↦ int IntKind.i64 (z i)) (bm n a) (4 : Int) == (3 : Int)) (aa.af [bT n (fun (i : Nat) ↦ int IntKind.i64 (z i)) (bm n (bm n a)), (0 : Int) < (4 : Int), (4 : Int) < (2 : Int) ^ 62, -(2 : Int) ^ 63 ≤ IntKind.i64.wrap (bY n (fun (i : Nat) ↦ int IntKind.i64 (z i)) a (13 : Int) - (6 : Int)), IntKind.i64.wrap (bY n (fun (i : Nat) ↦ int IntKind.i64 (z i)) a (13 : Int) - (6 : Int)) < (2 : Int) ^ 63, -(2 : Int) ^ 63 ≤ IntKind.i64.wrap ((1 : Int) + bY n (fun (i : Nat) ↦ int IntKind.i64 (z i)) (bm n (bm n a)) (4 : Int)), IntKind.i64.wrap ((1 : Int) + bY n (fun (i : Nat) ↦ int IntKind.i64 (z i)) (bm n (bm n a)) (4 : Int)) < (2 : Int) ^ 63, (0 : Nat) < 1] (aa.af [(0 : Nat) < 1] (aa.leaf ah.ret ([rat ((↑(IntKind.i64.wrap (bY n (fun (i : Nat) ↦ int IntKind.i64 (z i)) a (13 : Int) - (6 : Int))) : Rat) / (↑(IntKind.i64.wrap ((1 : Int) + bY n (fun (i : Nat) ↦ int IntKind.i64 (z i)) (bm n (bm n a)) (4 : Int))) : Rat)) 64], some ⟨false, true, 2, 1, fun (x : Nat) ↦ agg [aj 1 n fun (i : Nat) ↦ int IntKind.i64 (z i), int IntKind.i64 (bm n (bm n (bm n a)))]⟩)))) (aa.af [-(2 : Int) ^ 63 ≤ IntKind.i64.wrap (bY n (fun (i : Nat) ↦ int IntKind.i64 (z i)) a (13 : Int) - (6 : Int)), IntKind.i64.wrap (bY n (fun (i : Nat) ↦ int IntKind.i64 (z i)) a (13 : Int) - (6 : Int)) < (2 : Int) ^ 63, (0 : Nat) < 1] (aa.af [(0 : Nat) < 1] (aa.leaf ah.ret ([rat (↑(IntKind.i64.wrap (bY n (fun (i : Nat) ↦ int IntKind.i64 (z i)) a (13 : Int) - (6 : Int))) : Rat) (max 1 (aQ (IntKind.i64.wrap (bY n (fun (i : Nat) ↦ int IntKind.i64 (z i)) a (13 : Int) - (6 : Int))).natAbs))], some ⟨false, true, 2, 1, fun (x : Nat) ↦ agg [aj 1 n fun (i : Nat) ↦ int IntKind.i64 (z i), int IntKind.i64 (bm n (bm n a))]⟩))))))) := by kernel_rfl
theorem MK {n : Nat} {z : Nat → Int} {a : Int} : nW T GP [] 60 vm (au vm) ⟨aK 0 [.ptr 0 0 2 0 []], [(0, fZ n (fun i => .int .i64 (z i)) a)], 1⟩ =
  some (aa.af [bT n (fun (i : Nat) ↦ int IntKind.i64 (z i)) a, bT n (fun (i : Nat) ↦ int IntKind.i64 (z i)) (bG n (fun (i : Nat) ↦ int IntKind.i64 (z i)) a), bT n (fun (i : Nat) ↦ int IntKind.i64 (z i)) (bG n (fun (i : Nat) ↦ int IntKind.i64 (z i)) (bG n (fun (i : Nat) ↦ int IntKind.i64 (z i)) a)), (0 : Nat) < 1] (aa.af [(0 : Nat) < 1] (aa.leaf ah.ret ([agg [rat (bP n (fun (i : Nat) ↦ int IntKind.i64 (z i)) a) 64, rat (bP n (fun (i : Nat) ↦ int IntKind.i64 (z i)) (bG n (fun (i : Nat) ↦ int IntKind.i64 (z i)) a)) 64, rat (bP n (fun (i : Nat) ↦ int IntKind.i64 (z i)) (bG n (fun (i : Nat) ↦ int IntKind.i64 (z i)) (bG n (fun (i : Nat) ↦ int IntKind.i64 (z i)) a))) 64]], some ⟨false, true, 2, 1, fun (x : Nat) ↦ agg [aj 1 n fun (i : Nat) ↦ int IntKind.i64 (z i), int IntKind.i64 (bG n (fun (i : Nat) ↦ int IntKind.i64 (z i)) (bG n (fun (i : Nat) ↦ int IntKind.i64 (z i)) (bG n (fun (i : Nat) ↦ int IntKind.i64 (z i)) a)))]⟩)))) := by kernel_rfl
theorem KL {n : Nat} {z : Nat → Int} {a : Int} : nW T JL [] 60 vj (au vj) ⟨aK 0 [.ptr 0 0 2 0 []], [(0, fZ n (fun i => .int .i64 (z i)) a)], 1⟩ =
  some (aa.af [bT n (fun (i : Nat) ↦ int IntKind.i64 (z i)) a, bT n (fun (i : Nat) ↦ int IntKind.i64 (z i)) (aV n (fun (i : Nat) ↦ int IntKind.i64 (z i)) a), bT n (fun (i : Nat) ↦ int IntKind.i64 (z i)) (aV n (fun (i : Nat) ↦ int IntKind.i64 (z i)) (aV n (fun (i : Nat) ↦ int IntKind.i64 (z i)) a)), bT n (fun (i : Nat) ↦ int IntKind.i64 (z i)) (aV n (fun (i : Nat) ↦ int IntKind.i64 (z i)) (aV n (fun (i : Nat) ↦ int IntKind.i64 (z i)) (aV n (fun (i : Nat) ↦ int IntKind.i64 (z i)) a))), (0 : Nat) < 1] (aa.af [(0 : Nat) < 1] (aa.leaf ah.ret ([agg [agg [agg [rat (bP n (fun (i : Nat) ↦ int IntKind.i64 (z i)) a) 64, rat (bP n (fun (i : Nat) ↦ int IntKind.i64 (z i)) (bG n (fun (i : Nat) ↦ int IntKind.i64 (z i)) a)) 64, rat (bP n (fun (i : Nat) ↦ int IntKind.i64 (z i)) (bG n (fun (i : Nat) ↦ int IntKind.i64 (z i)) (bG n (fun (i : Nat) ↦ int IntKind.i64 (z i)) a))) 64], agg [rat (bP n (fun (i : Nat) ↦ int IntKind.i64 (z i)) (aV n (fun (i : Nat) ↦ int IntKind.i64 (z i)) a)) 64, rat (bP n (fun (i : Nat) ↦ int IntKind.i64 (z i)) (bG n (fun (i : Nat) ↦ int IntKind.i64 (z i)) (aV n (fun (i : Nat) ↦ int IntKind.i64 (z i)) a))) 64, rat (bP n (fun (i : Nat) ↦ int IntKind.i64 (z i)) (bG n (fun (i : Nat) ↦ int IntKind.i64 (z i)) (bG n (fun (i : Nat) ↦ int IntKind.i64 (z i)) (aV n (fun (i : Nat) ↦ int IntKind.i64 (z i)) a)))) 64], agg [rat (bP n (fun (i : Nat) ↦ int IntKind.i64 (z i)) (aV n (fun (i : Nat) ↦ int IntKind.i64 (z i)) (aV n (fun (i : Nat) ↦ int IntKind.i64 (z i)) a))) 64, rat (bP n (fun (i : Nat) ↦ int IntKind.i64 (z i)) (bG n (fun (i : Nat) ↦ int IntKind.i64 (z i)) (aV n (fun (i : Nat) ↦ int IntKind.i64 (z i)) (aV n (fun (i : Nat) ↦ int IntKind.i64 (z i)) a)))) 64, rat (bP n (fun (i : Nat) ↦ int IntKind.i64 (z i)) (bG n (fun (i : Nat) ↦ int IntKind.i64 (z i)) (bG n (fun (i : Nat) ↦ int IntKind.i64 (z i)) (aV n (fun (i : Nat) ↦ int IntKind.i64 (z i)) (aV n (fun (i : Nat) ↦ int IntKind.i64 (z i)) a))))) 64]], agg [rat (bP n (fun (i : Nat) ↦ int IntKind.i64 (z i)) (aV n (fun (i : Nat) ↦ int IntKind.i64 (z i)) (aV n (fun (i : Nat) ↦ int IntKind.i64 (z i)) (aV n (fun (i : Nat) ↦ int IntKind.i64 (z i)) a)))) 64, rat (bP n (fun (i : Nat) ↦ int IntKind.i64 (z i)) (bG n (fun (i : Nat) ↦ int IntKind.i64 (z i)) (aV n (fun (i : Nat) ↦ int IntKind.i64 (z i)) (aV n (fun (i : Nat) ↦ int IntKind.i64 (z i)) (aV n (fun (i : Nat) ↦ int IntKind.i64 (z i)) a))))) 64, rat (bP n (fun (i : Nat) ↦ int IntKind.i64 (z i)) (bG n (fun (i : Nat) ↦ int IntKind.i64 (z i)) (bG n (fun (i : Nat) ↦ int IntKind.i64 (z i)) (aV n (fun (i : Nat) ↦ int IntKind.i64 (z i)) (aV n (fun (i : Nat) ↦ int IntKind.i64 (z i)) (aV n (fun (i : Nat) ↦ int IntKind.i64 (z i)) a)))))) 64]]], some ⟨false, true, 2, 1, fun (x : Nat) ↦ agg [aj 1 n fun (i : Nat) ↦ int IntKind.i64 (z i), int IntKind.i64 (aV n (fun (i : Nat) ↦ int IntKind.i64 (z i)) (aV n (fun (i : Nat) ↦ int IntKind.i64 (z i)) (aV n (fun (i : Nat) ↦ int IntKind.i64 (z i)) (aV n (fun (i : Nat) ↦ int IntKind.i64 (z i)) a))))]⟩)))) := by kernel_rfl
theorem bT.number {n : Nat} {f : Nat → AV} {a : Int} (h : bT n f a) : bT n f (bG n f a) := by
 unfold bG; split
 ·exact h.next.next.next
 ·exact h.next.next
theorem bT.fF {n : Nat} {f : Nat → AV} {a : Int} (h : bT n f a) : bT n f (aV n f a) := h.number.number.number
theorem wV {x y : Int} (h1 : -2 ^ 63 ≤ x) (h2 : x < 2 ^ 63) : Sz (x : Rat) 64 := zK.Fv (by
 have : aQ x.natAbs ≤ 64 := gY.2 (by omega)
 omega)
theorem Ke {k n : Nat} {z : Nat → Int} {a : Int} {o : aA} (ho : ∀ ρ, cH ρ o (fZ n (fun i => .int .i64 (z i)) a)) (h : bT n (fun i => .int .i64 (z i)) a) (K : Nat) :
  ay P uD K [.ptr k 0 2 0 []] [(k, o)] ⟨.rat (bP n (fun i => .int .i64 (z i)) a) 64, [(k, fZ n (fun i => .int .i64 (z i)) (bG n (fun i => .int .i64 (z i)) a))], []⟩ := by
 refine uI hT Sb hm Q3 rfl rfl (of_decide_eq_true (by kernel_rfl)) ho 60 YO (fun _ => ?_) K
 have a1 := gp (n := n) (f := fun i => .int .i64 (z i)) (a := a) (m := 13) (by omega)
 have a2 := g7 (n := n) (f := fun i => .int .i64 (z i)) (a := a) (m := 13) (by omega)
 have b1 := gp (n := n) (f := fun i => .int .i64 (z i)) (a := bm n (bm n a)) (m := 4) (by omega)
 have b2 := g7 (n := n) (f := fun i => .int .i64 (z i)) (a := bm n (bm n a)) (m := 4) (by omega)
 unfold bP bG
 generalize bY n (fun i => .int .i64 (z i)) a 13 = x at *
 generalize bY n (fun i => .int .i64 (z i)) (bm n (bm n a)) 4 = y at *
 generalize bY n (fun i => .int .i64 (z i)) (bm n a) 4 = w at *
 have e1 : IntKind.i64.wrap (x - 6) = x - 6 := wrap_i64 (by omega) (by omega)
 have e2 : IntKind.i64.wrap (1 + y) = 1 + y := wrap_i64 (by omega) (by omega)
 rw [e1, e2]
 simp only [aa.all, ax, beq_iff_eq, beq_eq_false_iff_ne, ne_eq]
 refine ⟨⟨h, by omega, by omega⟩, ⟨h.next, by omega, by omega⟩, fun hw => ⟨⟨h.next.next, by omega, by omega, by omega, by omega, by omega, by omega, by omega⟩, by omega, de (by rw [if_pos hw]), _, rfl, rfl, jD rfl (by rw [if_pos hw])⟩, fun hw => ⟨⟨by omega, by omega, by omega⟩, by omega, ?_, _, rfl, rfl, jD rfl (by rw [if_neg hw])⟩⟩
 rw [if_neg hw]
 exact eE rfl (wV (y := 0) (by omega) (by omega))
theorem Kb : ∀ K args pre r, fe Bg K args pre = some r → ay P uD K args pre r := by
 refine nA fun {k n z a l v b q o} K hg ho hd hq => ?_
 unfold Bg at hg
 split at hg
 ·simp only [Option.some.injEq, Prod.mk.injEq] at hg
  obtain ⟨rfl, rfl, rfl⟩ := hg
  exact Ke ho hd K
 ·simp at hg
theorem PD : aW P GP := aD Kb bg
theorem Bq : ∀ K args pre r, fe vh K args pre = some r → ay P pJ K args pre r := by
 refine nA fun {k n z a l v b q o} K hg ho hd hq => ?_
 unfold vh at hg
 split at hg
 ·simp only [Option.some.injEq, Prod.mk.injEq] at hg
  obtain ⟨rfl, rfl, rfl⟩ := hg
  refine uI hT PD hm TR rfl rfl (of_decide_eq_true (by kernel_rfl)) ho 60 MK (fun _ => ?_) K
  simp only [aa.all, ax]
  exact ⟨⟨hd, hd.number, hd.number.number, by omega⟩, by omega, .refl _, _, rfl, rfl, jD rfl rfl⟩
 ·simp at hg
theorem K7 : aW P JL := aD Bq bg
theorem Oe : ∀ K args pre r, fe Cf K args pre = some r → ay P xQ K args pre r := by
 refine nA fun {k n z a l v b q o} K hg ho hd hq => ?_
 unfold Cf at hg
 split at hg
 ·simp only [Option.some.injEq, Prod.mk.injEq] at hg
  obtain ⟨rfl, rfl, rfl⟩ := hg
  refine uI hT K7 hm Sd rfl rfl (of_decide_eq_true (by kernel_rfl)) ho 60 KL (fun _ => ?_) K
  simp only [aa.all, ax]
  exact ⟨⟨hd, hd.fF, hd.fF.fF, hd.fF.fF.fF, by omega⟩, by omega, .refl _, _, rfl, rfl, jD rfl rfl⟩
 ·simp at hg
def JY : Spec := bA fun l => match l with
 | [.aj 1 n _] => some (aF (.bool (decide ((n : Int) ≤ 500))) [])
 | _ => none
theorem ON : ∀ K args pre r, JY K args pre = some r → ay P xW K args pre r := by
 refine bQ fun K args r hk hs _ => ?_
 split at hs
 ·simp only [Option.some.injEq] at hs
  subst hs
  refine bt hT bg hm RS rfl (of_decide_eq_true (by kernel_rfl)) rfl 60 LO (fun _ => ?_) K []
  exact .refl _
 ·simp at hs
def Hu : Spec := oS fun K l => match l with
 | [.aj 1 n f] => some ⟨.ptr K 0 2 0 [], [(K, fZ n f 0)], []⟩
 | _ => none
theorem Lr : ∀ K args pre r, Hu K args pre = some r → ay P yd K args pre r := by
 refine yA fun K args r hk hs => ?_
 split at hs
 ·simp only [Option.some.injEq] at hs
  subst hs
  exact Th hT bg hm Ww hk rfl (of_decide_eq_true (by kernel_rfl)) (by kernel_rfl) (q := []) 60 Mh (.inr rfl) (fun ρ => jD rfl rfl) K
 ·simp at hs
end Go.Am.B
