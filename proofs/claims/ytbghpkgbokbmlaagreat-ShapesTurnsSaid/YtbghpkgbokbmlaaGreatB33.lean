/- brepkernelmade: number, Point, Map, Light, Roll. -/
import Derived.Test.YtbghpkgbokbmlaaGreatB32
set_option linter.unusedVariables false
namespace Go.Am.B
open Go Go.Am.N AV
theorem abn : aN P vm rH (au rH) := aK Ok (by kernel_rfl) (by kernel_rfl) (by kernel_rfl)
theorem Yv : aN P tL rQ (au rQ) := aK SX (by kernel_rfl) (by kernel_rfl) (by kernel_rfl)
def GN : aO := [(lV, fO pA), (lF, vC), (ir, pZ)]
def dN (n : Nat) (f : Nat → AV) (a : Int) : Rat := if bO n f (bh n a) 4 = 3 then ((bO n f a 13 - 6 : Int) : Rat) / ((1 + bO n f (bh n (bh n a)) 4 : Int) : Rat) else ((bO n f a 13 - 6 : Int) : Rat)
def cK (n : Nat) (f : Nat → AV) (a : Int) : Int := if bO n f (bh n a) 4 = 3 then bh n (bh n (bh n a)) else bh n (bh n a)
def AK (n : Nat) (f : Nat → AV) (a : Int) (l : List AV) : Option (AV × Int × List Prop) := match l with
 | [] => some (.rat (dN n f a) 64, cK n f a, [])
 | _ => none
def GP : aO := [(vm, fO AK)]
def fy (n : Nat) (f : Nat → AV) (a : Int) : Int := cK n f (cK n f (cK n f a))
def yt (n : Nat) (f : Nat → AV) (a : Int) (l : List AV) : Option (AV × Int × List Prop) := match l with
 | [] => some (.agg [.rat (dN n f a) 64, .rat (dN n f (cK n f a)) 64, .rat (dN n f (cK n f (cK n f a))) 64], fy n f a, [])
 | _ => none
theorem VI : aV P GN := aD vS (aD vW (aD vK aU))
theorem Oa {n : Nat} {z : Nat → Int} {a : Int} : oC T GN [8] 60 rH (au rH) ⟨aL 0 [.ptr 0 0 2 0 []], [(0, ga n (fun i => .int .i64 (z i)) a)], 1⟩ =
  some (aa.af [bY n (fun (i : Nat) ↦ int IntKind.i64 (z i)) a, (0 : Int) < (13 : Int), (13 : Int) < (2 : Int) ^ 62] (aa.af [bY n (fun (i : Nat) ↦ int IntKind.i64 (z i)) (bh n a), (0 : Int) < (4 : Int), (4 : Int) < (2 : Int) ^ 62] (aa.fork (bO n (fun (i : Nat) ↦ int IntKind.i64 (z i)) (bh n a) (4 : Int) == (3 : Int)) (aa.af [bY n (fun (i : Nat) ↦ int IntKind.i64 (z i)) (bh n (bh n a)), (0 : Int) < (4 : Int), (4 : Int) < (2 : Int) ^ 62, -(2 : Int) ^ 63 ≤ IntKind.i64.wrap (bO n (fun (i : Nat) ↦ int IntKind.i64 (z i)) a (13 : Int) - (6 : Int)), IntKind.i64.wrap (bO n (fun (i : Nat) ↦ int IntKind.i64 (z i)) a (13 : Int) - (6 : Int)) < (2 : Int) ^ 63, -(2 : Int) ^ 63 ≤ IntKind.i64.wrap ((1 : Int) + bO n (fun (i : Nat) ↦ int IntKind.i64 (z i)) (bh n (bh n a)) (4 : Int)), IntKind.i64.wrap ((1 : Int) + bO n (fun (i : Nat) ↦ int IntKind.i64 (z i)) (bh n (bh n a)) (4 : Int)) < (2 : Int) ^ 63, (0 : Nat) < 1] (aa.af [(0 : Nat) < 1] (aa.leaf aj.ret ([rat ((↑(IntKind.i64.wrap (bO n (fun (i : Nat) ↦ int IntKind.i64 (z i)) a (13 : Int) - (6 : Int))) : Rat) / (↑(IntKind.i64.wrap ((1 : Int) + bO n (fun (i : Nat) ↦ int IntKind.i64 (z i)) (bh n (bh n a)) (4 : Int))) : Rat)) 64], some ⟨false, true, 2, 1, fun (x : Nat) ↦ agg [ag 1 n fun (i : Nat) ↦ int IntKind.i64 (z i), int IntKind.i64 (bh n (bh n (bh n a)))]⟩)))) (aa.af [-(2 : Int) ^ 63 ≤ IntKind.i64.wrap (bO n (fun (i : Nat) ↦ int IntKind.i64 (z i)) a (13 : Int) - (6 : Int)), IntKind.i64.wrap (bO n (fun (i : Nat) ↦ int IntKind.i64 (z i)) a (13 : Int) - (6 : Int)) < (2 : Int) ^ 63, (0 : Nat) < 1] (aa.af [(0 : Nat) < 1] (aa.leaf aj.ret ([rat (↑(IntKind.i64.wrap (bO n (fun (i : Nat) ↦ int IntKind.i64 (z i)) a (13 : Int) - (6 : Int))) : Rat) (max 1 (aQ (IntKind.i64.wrap (bO n (fun (i : Nat) ↦ int IntKind.i64 (z i)) a (13 : Int) - (6 : Int))).natAbs))], some ⟨false, true, 2, 1, fun (x : Nat) ↦ agg [ag 1 n fun (i : Nat) ↦ int IntKind.i64 (z i), int IntKind.i64 (bh n (bh n a))]⟩))))))) := by kernel_rfl
theorem aaC {n : Nat} {z : Nat → Int} {a : Int} : oC T GP [] 60 rQ (au rQ) ⟨aL 0 [.ptr 0 0 2 0 []], [(0, ga n (fun i => .int .i64 (z i)) a)], 1⟩ =
  some (aa.af [bY n (fun (i : Nat) ↦ int IntKind.i64 (z i)) a, bY n (fun (i : Nat) ↦ int IntKind.i64 (z i)) (cK n (fun (i : Nat) ↦ int IntKind.i64 (z i)) a), bY n (fun (i : Nat) ↦ int IntKind.i64 (z i)) (cK n (fun (i : Nat) ↦ int IntKind.i64 (z i)) (cK n (fun (i : Nat) ↦ int IntKind.i64 (z i)) a)), (0 : Nat) < 1] (aa.af [(0 : Nat) < 1] (aa.leaf aj.ret ([agg [rat (dN n (fun (i : Nat) ↦ int IntKind.i64 (z i)) a) 64, rat (dN n (fun (i : Nat) ↦ int IntKind.i64 (z i)) (cK n (fun (i : Nat) ↦ int IntKind.i64 (z i)) a)) 64, rat (dN n (fun (i : Nat) ↦ int IntKind.i64 (z i)) (cK n (fun (i : Nat) ↦ int IntKind.i64 (z i)) (cK n (fun (i : Nat) ↦ int IntKind.i64 (z i)) a))) 64]], some ⟨false, true, 2, 1, fun (x : Nat) ↦ agg [ag 1 n fun (i : Nat) ↦ int IntKind.i64 (z i), int IntKind.i64 (cK n (fun (i : Nat) ↦ int IntKind.i64 (z i)) (cK n (fun (i : Nat) ↦ int IntKind.i64 (z i)) (cK n (fun (i : Nat) ↦ int IntKind.i64 (z i)) a)))]⟩)))) := by kernel_rfl
theorem bY.number {n : Nat} {f : Nat → AV} {a : Int} (h : bY n f a) : bY n f (cK n f a) := by
 unfold cK; split
 ·exact h.next.next.next
 ·exact h.next.next
theorem bY.mB {n : Nat} {f : Nat → AV} {a : Int} (h : bY n f a) : bY n f (fy n f a) := h.number.number.number
theorem yQ {x y : Int} (h1 : -2 ^ 63 ≤ x) (h2 : x < 2 ^ 63) : Sz (x : Rat) 64 := BN.Hh (by
 have : aQ x.natAbs ≤ 64 := gh.2 (by omega)
 omega)
theorem Lr {k n : Nat} {z : Nat → Int} {a : Int} {o : aB} (ho : ∀ ρ, cy ρ o (ga n (fun i => .int .i64 (z i)) a)) (h : bY n (fun i => .int .i64 (z i)) a) (K : Nat) :
  aA P vm K [.ptr k 0 2 0 []] [(k, o)] ⟨.rat (dN n (fun i => .int .i64 (z i)) a) 64, [(k, ga n (fun i => .int .i64 (z i)) (cK n (fun i => .int .i64 (z i)) a))], []⟩ := by
 refine xO hT VI hm abn rfl rfl (of_decide_eq_true (by kernel_rfl)) ho 60 Oa (fun _ => ?_) K
 have a1 := gW (n := n) (f := fun i => .int .i64 (z i)) (a := a) (m := 13) (by omega)
 have a2 := gN (n := n) (f := fun i => .int .i64 (z i)) (a := a) (m := 13) (by omega)
 have b1 := gW (n := n) (f := fun i => .int .i64 (z i)) (a := bh n (bh n a)) (m := 4) (by omega)
 have b2 := gN (n := n) (f := fun i => .int .i64 (z i)) (a := bh n (bh n a)) (m := 4) (by omega)
 unfold dN cK
 generalize bO n (fun i => .int .i64 (z i)) a 13 = x at *
 generalize bO n (fun i => .int .i64 (z i)) (bh n (bh n a)) 4 = y at *
 generalize bO n (fun i => .int .i64 (z i)) (bh n a) 4 = w at *
 have e1 : IntKind.i64.wrap (x - 6) = x - 6 := wrap_i64 (by omega) (by omega)
 have e2 : IntKind.i64.wrap (1 + y) = 1 + y := wrap_i64 (by omega) (by omega)
 rw [e1, e2]
 simp only [aa.all, ax, beq_iff_eq, beq_eq_false_iff_ne, ne_eq]
 refine ⟨⟨h, by omega, by omega⟩, ⟨h.next, by omega, by omega⟩, fun hw => ⟨⟨h.next.next, by omega, by omega, by omega, by omega, by omega, by omega, by omega⟩, by omega, cW (by rw [if_pos hw]), _, rfl, rfl, kK rfl (by rw [if_pos hw])⟩, fun hw => ⟨⟨by omega, by omega, by omega⟩, by omega, ?_, _, rfl, rfl, kK rfl (by rw [if_neg hw])⟩⟩
 rw [if_neg hw]
 exact eu rfl (yQ (y := 0) (by omega) (by omega))
theorem L5 : ∀ K args pre r, fO AK K args pre = some r → aA P vm K args pre r := by
 refine pC fun {k n z a l v b q o} K hg ho hd hq => ?_
 unfold AK at hg
 split at hg
 ·simp only [Option.some.injEq, Prod.mk.injEq] at hg
  obtain ⟨rfl, rfl, rfl⟩ := hg
  exact Lr ho hd K
 ·simp at hg
theorem Y1 : aV P GP := aD L5 aU
theorem HW : ∀ K args pre r, fO yt K args pre = some r → aA P tL K args pre r := by
 refine pC fun {k n z a l v b q o} K hg ho hd hq => ?_
 unfold yt at hg
 split at hg
 ·simp only [Option.some.injEq, Prod.mk.injEq] at hg
  obtain ⟨rfl, rfl, rfl⟩ := hg
  refine xO hT Y1 hm Yv rfl rfl (of_decide_eq_true (by kernel_rfl)) ho 60 aaC (fun _ => ?_) K
  simp only [aa.all, ax]
  exact ⟨⟨hd, hd.number, hd.number.number, by omega⟩, by omega, .refl _, _, rfl, rfl, kK rfl rfl⟩
 ·simp at hg
def G6 : Spec := bp fun l => match l with
 | [.ag 1 n _] => some (aG (.bool (decide ((n : Int) ≤ 500))) [])
 | _ => none
theorem Yt : ∀ K args pre r, G6 K args pre = some r → aA P yC K args pre r := by
 refine bF fun K args r hk hs _ => ?_
 split at hs
 ·simp only [Option.some.injEq] at hs
  subst hs
  refine bD hT aU hm ZR rfl (of_decide_eq_true (by kernel_rfl)) rfl 60 V0 (fun _ => ?_) K []
  exact .refl _
 ·simp at hs
def Ir : Spec := p5 fun K l => match l with
 | [.ag 1 n f] => some ⟨.ptr K 0 2 0 [], [(K, ga n f 0)], []⟩
 | _ => none
theorem Sq : ∀ K args pre r, Ir K args pre = some r → aA P wO K args pre r := by
 refine wW fun K args r hk hs => ?_
 split at hs
 ·simp only [Option.some.injEq] at hs
  subst hs
  exact aaV hT aU hm aan hk rfl (of_decide_eq_true (by kernel_rfl)) (by kernel_rfl) (q := []) 60 aaj (.inr rfl) (fun ρ => kK rfl rfl) K
 ·simp at hs
end Go.Am.B
