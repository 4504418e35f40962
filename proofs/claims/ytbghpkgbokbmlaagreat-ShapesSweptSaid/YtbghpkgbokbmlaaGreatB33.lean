/- brepkernelmade: number, Point, Map, Light, Roll. -/
import Derived.Test.YtbghpkgbokbmlaaGreatB32
set_option linter.unusedVariables false
namespace Go.Am.B
open Go Go.Am.N AV
theorem MW : aP P wz wo (au wo) := aL U0 (by kernel_rfl) (by kernel_rfl) (by kernel_rfl)
theorem Mv : aP P ua tT (au tT) := aL XJ (by kernel_rfl) (by kernel_rfl) (by kernel_rfl)
def GN : aQ := [(mG, fX qz), (l5, ud), (iI, pD)]
def dJ (n : Nat) (f : Nat → AV) (a : Int) : Rat := if bU n f (bh n a) 4 = 3 then ((bU n f a 13 - 6 : Int) : Rat) / ((1 + bU n f (bh n (bh n a)) 4 : Int) : Rat) else ((bU n f a 13 - 6 : Int) : Rat)
def cK (n : Nat) (f : Nat → AV) (a : Int) : Int := if bU n f (bh n a) 4 = 3 then bh n (bh n (bh n a)) else bh n (bh n a)
def Ag (n : Nat) (f : Nat → AV) (a : Int) (l : List AV) : Option (AV × Int × List Prop) := match l with
 | [] => some (.rat (dJ n f a) 64, cK n f a, [])
 | _ => none
def GP : aQ := [(wz, fX Ag)]
def eF (n : Nat) (f : Nat → AV) (a : Int) : Int := cK n f (cK n f (cK n f a))
def zp (n : Nat) (f : Nat → AV) (a : Int) (l : List AV) : Option (AV × Int × List Prop) := match l with
 | [] => some (.agg [.rat (dJ n f a) 64, .rat (dJ n f (cK n f a)) 64, .rat (dJ n f (cK n f (cK n f a))) 64], eF n f a, [])
 | _ => none
theorem We : aW P GN := aC z7 (aC zj (aC uV aT))
theorem P2 {n : Nat} {z : Nat → Int} {a : Int} : pU T GN [8] 60 wo (au wo) ⟨aM 0 [.ptr 0 0 2 0 []], [(0, gN n (fun i => .int .i64 (z i)) a)], 1⟩ =
  some (aa.af [cm n (fun (i : Nat) ↦ int IntKind.i64 (z i)) a, (0 : Int) < (13 : Int), (13 : Int) < (2 : Int) ^ 62] (aa.af [cm n (fun (i : Nat) ↦ int IntKind.i64 (z i)) (bh n a), (0 : Int) < (4 : Int), (4 : Int) < (2 : Int) ^ 62] (aa.fork (bU n (fun (i : Nat) ↦ int IntKind.i64 (z i)) (bh n a) (4 : Int) == (3 : Int)) (aa.af [cm n (fun (i : Nat) ↦ int IntKind.i64 (z i)) (bh n (bh n a)), (0 : Int) < (4 : Int), (4 : Int) < (2 : Int) ^ 62, -(2 : Int) ^ 63 ≤ IntKind.i64.wrap (bU n (fun (i : Nat) ↦ int IntKind.i64 (z i)) a (13 : Int) - (6 : Int)), IntKind.i64.wrap (bU n (fun (i : Nat) ↦ int IntKind.i64 (z i)) a (13 : Int) - (6 : Int)) < (2 : Int) ^ 63, -(2 : Int) ^ 63 ≤ IntKind.i64.wrap ((1 : Int) + bU n (fun (i : Nat) ↦ int IntKind.i64 (z i)) (bh n (bh n a)) (4 : Int)), IntKind.i64.wrap ((1 : Int) + bU n (fun (i : Nat) ↦ int IntKind.i64 (z i)) (bh n (bh n a)) (4 : Int)) < (2 : Int) ^ 63, (0 : Nat) < 1] (aa.af [(0 : Nat) < 1] (aa.leaf ag.ret ([rat ((↑(IntKind.i64.wrap (bU n (fun (i : Nat) ↦ int IntKind.i64 (z i)) a (13 : Int) - (6 : Int))) : Rat) / (↑(IntKind.i64.wrap ((1 : Int) + bU n (fun (i : Nat) ↦ int IntKind.i64 (z i)) (bh n (bh n a)) (4 : Int))) : Rat)) 64], some ⟨false, true, 2, 1, fun (x : Nat) ↦ agg [aj 1 n fun (i : Nat) ↦ int IntKind.i64 (z i), int IntKind.i64 (bh n (bh n (bh n a)))]⟩)))) (aa.af [-(2 : Int) ^ 63 ≤ IntKind.i64.wrap (bU n (fun (i : Nat) ↦ int IntKind.i64 (z i)) a (13 : Int) - (6 : Int)), IntKind.i64.wrap (bU n (fun (i : Nat) ↦ int IntKind.i64 (z i)) a (13 : Int) - (6 : Int)) < (2 : Int) ^ 63, (0 : Nat) < 1] (aa.af [(0 : Nat) < 1] (aa.leaf ag.ret ([rat (↑(IntKind.i64.wrap (bU n (fun (i : Nat) ↦ int IntKind.i64 (z i)) a (13 : Int) - (6 : Int))) : Rat) (max 1 (aS (IntKind.i64.wrap (bU n (fun (i : Nat) ↦ int IntKind.i64 (z i)) a (13 : Int) - (6 : Int))).natAbs))], some ⟨false, true, 2, 1, fun (x : Nat) ↦ agg [aj 1 n fun (i : Nat) ↦ int IntKind.i64 (z i), int IntKind.i64 (bh n (bh n a))]⟩))))))) := by kernel_rfl
theorem VJ {n : Nat} {z : Nat → Int} {a : Int} : pU T GP [] 60 tT (au tT) ⟨aM 0 [.ptr 0 0 2 0 []], [(0, gN n (fun i => .int .i64 (z i)) a)], 1⟩ =
  some (aa.af [cm n (fun (i : Nat) ↦ int IntKind.i64 (z i)) a, cm n (fun (i : Nat) ↦ int IntKind.i64 (z i)) (cK n (fun (i : Nat) ↦ int IntKind.i64 (z i)) a), cm n (fun (i : Nat) ↦ int IntKind.i64 (z i)) (cK n (fun (i : Nat) ↦ int IntKind.i64 (z i)) (cK n (fun (i : Nat) ↦ int IntKind.i64 (z i)) a)), (0 : Nat) < 1] (aa.af [(0 : Nat) < 1] (aa.leaf ag.ret ([agg [rat (dJ n (fun (i : Nat) ↦ int IntKind.i64 (z i)) a) 64, rat (dJ n (fun (i : Nat) ↦ int IntKind.i64 (z i)) (cK n (fun (i : Nat) ↦ int IntKind.i64 (z i)) a)) 64, rat (dJ n (fun (i : Nat) ↦ int IntKind.i64 (z i)) (cK n (fun (i : Nat) ↦ int IntKind.i64 (z i)) (cK n (fun (i : Nat) ↦ int IntKind.i64 (z i)) a))) 64]], some ⟨false, true, 2, 1, fun (x : Nat) ↦ agg [aj 1 n fun (i : Nat) ↦ int IntKind.i64 (z i), int IntKind.i64 (cK n (fun (i : Nat) ↦ int IntKind.i64 (z i)) (cK n (fun (i : Nat) ↦ int IntKind.i64 (z i)) (cK n (fun (i : Nat) ↦ int IntKind.i64 (z i)) a)))]⟩)))) := by kernel_rfl
theorem cm.number {n : Nat} {f : Nat → AV} {a : Int} (h : cm n f a) : cm n f (cK n f a) := by
 unfold cK; split
 ·exact h.next.next.next
 ·exact h.next.next
theorem cm.iH {n : Nat} {f : Nat → AV} {a : Int} (h : cm n f a) : cm n f (eF n f a) := h.number.number.number
theorem x8 {x y : Int} (h1 : -2 ^ 63 ≤ x) (h2 : x < 2 ^ 63) : Sz (x : Rat) 64 := Af.Is (by
 have : aS x.natAbs ≤ 64 := fR.2 (by omega)
 omega)
theorem Uy {k n : Nat} {z : Nat → Int} {a : Int} {o : ay} (ho : ∀ ρ, cF ρ o (gN n (fun i => .int .i64 (z i)) a)) (h : cm n (fun i => .int .i64 (z i)) a) (K : Nat) :
  az P wz K [.ptr k 0 2 0 []] [(k, o)] ⟨.rat (dJ n (fun i => .int .i64 (z i)) a) 64, [(k, gN n (fun i => .int .i64 (z i)) (cK n (fun i => .int .i64 (z i)) a))], []⟩ := by
 refine zC hT We hm MW rfl rfl (of_decide_eq_true (by kernel_rfl)) ho 60 P2 (fun _ => ?_) K
 have a1 := ic (n := n) (f := fun i => .int .i64 (z i)) (a := a) (m := 13) (by omega)
 have a2 := iu (n := n) (f := fun i => .int .i64 (z i)) (a := a) (m := 13) (by omega)
 have b1 := ic (n := n) (f := fun i => .int .i64 (z i)) (a := bh n (bh n a)) (m := 4) (by omega)
 have b2 := iu (n := n) (f := fun i => .int .i64 (z i)) (a := bh n (bh n a)) (m := 4) (by omega)
 unfold dJ cK
 generalize bU n (fun i => .int .i64 (z i)) a 13 = x at *
 generalize bU n (fun i => .int .i64 (z i)) (bh n (bh n a)) 4 = y at *
 generalize bU n (fun i => .int .i64 (z i)) (bh n a) 4 = w at *
 have e1 : IntKind.i64.wrap (x - 6) = x - 6 := wrap_i64 (by omega) (by omega)
 have e2 : IntKind.i64.wrap (1 + y) = 1 + y := wrap_i64 (by omega) (by omega)
 rw [e1, e2]
 simp only [aa.all, ax, beq_iff_eq, beq_eq_false_iff_ne, ne_eq]
 refine ⟨⟨h, by omega, by omega⟩, ⟨h.next, by omega, by omega⟩, fun hw => ⟨⟨h.next.next, by omega, by omega, by omega, by omega, by omega, by omega, by omega⟩, by omega, cZ (by rw [if_pos hw]), _, rfl, rfl, kM rfl (by rw [if_pos hw])⟩, fun hw => ⟨⟨by omega, by omega, by omega⟩, by omega, ?_, _, rfl, rfl, kM rfl (by rw [if_neg hw])⟩⟩
 rw [if_neg hw]
 exact eG rfl (x8 (y := 0) (by omega) (by omega))
theorem adD : ∀ K args pre r, fX Ag K args pre = some r → az P wz K args pre r := by
 refine pS fun {k n z a l v b q o} K hg ho hd hq => ?_
 unfold Ag at hg
 split at hg
 ·simp only [Option.some.injEq, Prod.mk.injEq] at hg
  obtain ⟨rfl, rfl, rfl⟩ := hg
  exact Uy ho hd K
 ·simp at hg
theorem Qx : aW P GP := aC adD aT
theorem I7 : ∀ K args pre r, fX zp K args pre = some r → az P ua K args pre r := by
 refine pS fun {k n z a l v b q o} K hg ho hd hq => ?_
 unfold zp at hg
 split at hg
 ·simp only [Option.some.injEq, Prod.mk.injEq] at hg
  obtain ⟨rfl, rfl, rfl⟩ := hg
  refine zC hT Qx hm Mv rfl rfl (of_decide_eq_true (by kernel_rfl)) ho 60 VJ (fun _ => ?_) K
  simp only [aa.all, ax]
  exact ⟨⟨hd, hd.number, hd.number.number, by omega⟩, by omega, .refl _, _, rfl, rfl, kM rfl rfl⟩
 ·simp at hg
def Il : Spec := bt fun l => match l with
 | [.aj 1 n _] => some (aF (.bool (decide ((n : Int) ≤ 500))) [])
 | _ => none
theorem WJ : ∀ K args pre r, Il K args pre = some r → az P yb K args pre r := by
 refine bH fun K args r hk hs _ => ?_
 split at hs
 ·simp only [Option.some.injEq] at hs
  subst hs
  refine bD hT aT hm OY rfl (of_decide_eq_true (by kernel_rfl)) rfl 60 Ov (fun _ => ?_) K []
  exact .refl _
 ·simp at hs
def J3 : Spec := o5 fun K l => match l with
 | [.aj 1 n f] => some ⟨.ptr K 0 2 0 [], [(K, gN n f 0)], []⟩
 | _ => none
theorem UC : ∀ K args pre r, J3 K args pre = some r → az P yA K args pre r := by
 refine zy fun K args r hk hs => ?_
 split at hs
 ·simp only [Option.some.injEq] at hs
  subst hs
  exact Xd hT aT hm Qj hk rfl (of_decide_eq_true (by kernel_rfl)) (by kernel_rfl) (q := []) 60 adA (.inr rfl) (fun ρ => kM rfl rfl) K
 ·simp at hs
end Go.Am.B
