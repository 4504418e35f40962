/- brepkernelmade: number, Point, Map, Light, Roll. -/
import Derived.Test.YtnocdkaonpdmjaaGreatB32
set_option linter.unusedVariables false
namespace Go.Am.B
open Go Go.Am.N AV
theorem XD : aO P rW rO (ax rO) := aP NW (by kernel_rfl) (by kernel_rfl) (by kernel_rfl)
theorem aaS : aO P tW vY (ax vY) := aP QO (by kernel_rfl) (by kernel_rfl) (by kernel_rfl)
def GN : aQ := [(mR, fD qq), (mw, xb), (lS, xG)]
def ek (n : Nat) (f : Nat → AV) (a : Int) : Rat := if b7 n f (bh n a) 4 = 3 then ((b7 n f a 13 - 6 : Int) : Rat) / ((1 + b7 n f (bh n (bh n a)) 4 : Int) : Rat) else ((b7 n f a 13 - 6 : Int) : Rat)
def cX (n : Nat) (f : Nat → AV) (a : Int) : Int := if b7 n f (bh n a) 4 = 3 then bh n (bh n (bh n a)) else bh n (bh n a)
def qN (n : Nat) (f : Nat → AV) (a : Int) (l : List AV) : Option (AV × Int × List Prop) := match l with
 | [] => some (.rat (ek n f a) 64, cX n f a, [])
 | _ => none
def GP : aQ := [(rW, fD qN)]
def gJ (n : Nat) (f : Nat → AV) (a : Int) : Int := cX n f (cX n f (cX n f a))
def zW (n : Nat) (f : Nat → AV) (a : Int) (l : List AV) : Option (AV × Int × List Prop) := match l with
 | [] => some (.agg [.rat (ek n f a) 64, .rat (ek n f (cX n f a)) 64, .rat (ek n f (cX n f (cX n f a))) 64], gJ n f a, [])
 | _ => none
theorem XJ : bg P GN := aH z5 (aH yP (aH Aa bn))
theorem L6 {n : Nat} {z : Nat → Int} {a : Int} : o4 T GN [8] 60 rO (ax rO) ⟨aL 0 [.ptr 0 0 2 0 []], [(0, gl n (fun i => .int .i64 (z i)) a)], 1⟩ =
  some (aa.ag [ct n (fun (i : Nat) ↦ int IntKind.i64 (z i)) a, (0 : Int) < (13 : Int), (13 : Int) < (2 : Int) ^ 62] (aa.ag [ct n (fun (i : Nat) ↦ int IntKind.i64 (z i)) (bh n a), (0 : Int) < (4 : Int), (4 : Int) < (2 : Int) ^ 62] (aa.fork (b7 n (fun (i : Nat) ↦ int IntKind.i64 (z i)) (bh n a) (4 : Int) == (3 : Int)) (aa.ag [ct n (fun (i : Nat) ↦ int IntKind.i64 (z i)) (bh n (bh n a)), (0 : Int) < (4 : Int), (4 : Int) < (2 : Int) ^ 62, -(2 : Int) ^ 63 ≤ IntKind.i64.wrap (b7 n (fun (i : Nat) ↦ int IntKind.i64 (z i)) a (13 : Int) - (6 : Int)), IntKind.i64.wrap (b7 n (fun (i : Nat) ↦ int IntKind.i64 (z i)) a (13 : Int) - (6 : Int)) < (2 : Int) ^ 63, -(2 : Int) ^ 63 ≤ IntKind.i64.wrap ((1 : Int) + b7 n (fun (i : Nat) ↦ int IntKind.i64 (z i)) (bh n (bh n a)) (4 : Int)), IntKind.i64.wrap ((1 : Int) + b7 n (fun (i : Nat) ↦ int IntKind.i64 (z i)) (bh n (bh n a)) (4 : Int)) < (2 : Int) ^ 63, (0 : Nat) < 1] (aa.ag [(0 : Nat) < 1] (aa.leaf aj.ret ([rat ((↑(IntKind.i64.wrap (b7 n (fun (i : Nat) ↦ int IntKind.i64 (z i)) a (13 : Int) - (6 : Int))) : Rat) / (↑(IntKind.i64.wrap ((1 : Int) + b7 n (fun (i : Nat) ↦ int IntKind.i64 (z i)) (bh n (bh n a)) (4 : Int))) : Rat)) 64], some ⟨false, true, 2, 1, fun (x : Nat) ↦ agg [ak 1 n fun (i : Nat) ↦ int IntKind.i64 (z i), int IntKind.i64 (bh n (bh n (bh n a)))]⟩)))) (aa.ag [-(2 : Int) ^ 63 ≤ IntKind.i64.wrap (b7 n (fun (i : Nat) ↦ int IntKind.i64 (z i)) a (13 : Int) - (6 : Int)), IntKind.i64.wrap (b7 n (fun (i : Nat) ↦ int IntKind.i64 (z i)) a (13 : Int) - (6 : Int)) < (2 : Int) ^ 63, (0 : Nat) < 1] (aa.ag [(0 : Nat) < 1] (aa.leaf aj.ret ([rat (↑(IntKind.i64.wrap (b7 n (fun (i : Nat) ↦ int IntKind.i64 (z i)) a (13 : Int) - (6 : Int))) : Rat) (max 1 (aZ (IntKind.i64.wrap (b7 n (fun (i : Nat) ↦ int IntKind.i64 (z i)) a (13 : Int) - (6 : Int))).natAbs))], some ⟨false, true, 2, 1, fun (x : Nat) ↦ agg [ak 1 n fun (i : Nat) ↦ int IntKind.i64 (z i), int IntKind.i64 (bh n (bh n a))]⟩))))))) := by kernel_rfl
theorem NU {n : Nat} {z : Nat → Int} {a : Int} : o4 T GP [] 60 vY (ax vY) ⟨aL 0 [.ptr 0 0 2 0 []], [(0, gl n (fun i => .int .i64 (z i)) a)], 1⟩ =
  some (aa.ag [ct n (fun (i : Nat) ↦ int IntKind.i64 (z i)) a, ct n (fun (i : Nat) ↦ int IntKind.i64 (z i)) (cX n (fun (i : Nat) ↦ int IntKind.i64 (z i)) a), ct n (fun (i : Nat) ↦ int IntKind.i64 (z i)) (cX n (fun (i : Nat) ↦ int IntKind.i64 (z i)) (cX n (fun (i : Nat) ↦ int IntKind.i64 (z i)) a)), (0 : Nat) < 1] (aa.ag [(0 : Nat) < 1] (aa.leaf aj.ret ([agg [rat (ek n (fun (i : Nat) ↦ int IntKind.i64 (z i)) a) 64, rat (ek n (fun (i : Nat) ↦ int IntKind.i64 (z i)) (cX n (fun (i : Nat) ↦ int IntKind.i64 (z i)) a)) 64, rat (ek n (fun (i : Nat) ↦ int IntKind.i64 (z i)) (cX n (fun (i : Nat) ↦ int IntKind.i64 (z i)) (cX n (fun (i : Nat) ↦ int IntKind.i64 (z i)) a))) 64]], some ⟨false, true, 2, 1, fun (x : Nat) ↦ agg [ak 1 n fun (i : Nat) ↦ int IntKind.i64 (z i), int IntKind.i64 (cX n (fun (i : Nat) ↦ int IntKind.i64 (z i)) (cX n (fun (i : Nat) ↦ int IntKind.i64 (z i)) (cX n (fun (i : Nat) ↦ int IntKind.i64 (z i)) a)))]⟩)))) := by kernel_rfl
theorem ct.number {n : Nat} {f : Nat → AV} {a : Int} (h : ct n f a) : ct n f (cX n f a) := by
 unfold cX; split
 ·exact h.next.next.next
 ·exact h.next.next
theorem ct.z3 {n : Nat} {f : Nat → AV} {a : Int} (h : ct n f a) : ct n f (gJ n f a) := h.number.number.number
theorem Is {x y : Int} (h1 : -2 ^ 63 ≤ x) (h2 : x < 2 ^ 63) : Sz (x : Rat) 64 := CB.more (by
 have : aZ x.natAbs ≤ 64 := gy.2 (by omega)
 omega)
theorem Lc {k n : Nat} {z : Nat → Int} {a : Int} {o : az} (ho : ∀ ρ, ck ρ o (gl n (fun i => .int .i64 (z i)) a)) (h : ct n (fun i => .int .i64 (z i)) a) (K : Nat) :
  aA P rW K [.ptr k 0 2 0 []] [(k, o)] ⟨.rat (ek n (fun i => .int .i64 (z i)) a) 64, [(k, gl n (fun i => .int .i64 (z i)) (cX n (fun i => .int .i64 (z i)) a))], []⟩ := by
 refine xD hT XJ hm XD rfl rfl (of_decide_eq_true (by kernel_rfl)) ho 60 L6 (fun _ => ?_) K
 have a1 := hU (n := n) (f := fun i => .int .i64 (z i)) (a := a) (m := 13) (by omega)
 have a2 := iA (n := n) (f := fun i => .int .i64 (z i)) (a := a) (m := 13) (by omega)
 have b1 := hU (n := n) (f := fun i => .int .i64 (z i)) (a := bh n (bh n a)) (m := 4) (by omega)
 have b2 := iA (n := n) (f := fun i => .int .i64 (z i)) (a := bh n (bh n a)) (m := 4) (by omega)
 unfold ek cX
 generalize b7 n (fun i => .int .i64 (z i)) a 13 = x at *
 generalize b7 n (fun i => .int .i64 (z i)) (bh n (bh n a)) 4 = y at *
 generalize b7 n (fun i => .int .i64 (z i)) (bh n a) 4 = w at *
 have e1 : IntKind.i64.wrap (x - 6) = x - 6 := wrap_i64 (by omega) (by omega)
 have e2 : IntKind.i64.wrap (1 + y) = 1 + y := wrap_i64 (by omega) (by omega)
 rw [e1, e2]
 simp only [aa.all, ay, beq_iff_eq, beq_eq_false_iff_ne, ne_eq]
 refine ⟨⟨h, by omega, by omega⟩, ⟨h.next, by omega, by omega⟩, fun hw => ⟨⟨h.next.next, by omega, by omega, by omega, by omega, by omega, by omega, by omega⟩, by omega, cI (by rw [if_pos hw]), _, rfl, rfl, kr rfl (by rw [if_pos hw])⟩, fun hw => ⟨⟨by omega, by omega, by omega⟩, by omega, ?_, _, rfl, rfl, kr rfl (by rw [if_neg hw])⟩⟩
 rw [if_neg hw]
 exact eU rfl (Is (y := 0) (by omega) (by omega))
theorem Tg : ∀ K args pre r, fD qN K args pre = some r → aA P rW K args pre r := by
 refine nF fun {k n z a l v b q o} K hg ho hd hq => ?_
 unfold qN at hg
 split at hg
 ·simp only [Option.some.injEq, Prod.mk.injEq] at hg
  obtain ⟨rfl, rfl, rfl⟩ := hg
  exact Lc ho hd K
 ·simp at hg
theorem EA : bg P GP := aH Tg bn
theorem I3 : ∀ K args pre r, fD zW K args pre = some r → aA P tW K args pre r := by
 refine nF fun {k n z a l v b q o} K hg ho hd hq => ?_
 unfold zW at hg
 split at hg
 ·simp only [Option.some.injEq, Prod.mk.injEq] at hg
  obtain ⟨rfl, rfl, rfl⟩ := hg
  refine xD hT EA hm aaS rfl rfl (of_decide_eq_true (by kernel_rfl)) ho 60 NU (fun _ => ?_) K
  simp only [aa.all, ay]
  exact ⟨⟨hd, hd.number, hd.number.number, by omega⟩, by omega, .refl _, _, rfl, rfl, kr rfl rfl⟩
 ·simp at hg
def IY : Spec := bu fun l => match l with
 | [.ak 1 n _] => some (aG (.bool (decide ((n : Int) ≤ 500))) [])
 | _ => none
theorem Zc : ∀ K args pre r, IY K args pre = some r → aA P yz K args pre r := by
 refine bN fun K args r hk hs _ => ?_
 split at hs
 ·simp only [Option.some.injEq] at hs
  subst hs
  refine bH hT bn hm TN rfl (of_decide_eq_true (by kernel_rfl)) rfl 60 Pr (fun _ => ?_) K []
  exact .refl _
 ·simp at hs
def Kb : Spec := pS fun K l => match l with
 | [.ak 1 n f] => some ⟨.ptr K 0 2 0 [], [(K, gl n f 0)], []⟩
 | _ => none
theorem QW : ∀ K args pre r, Kb K args pre = some r → aA P yV K args pre r := by
 refine yH fun K args r hk hs => ?_
 split at hs
 ·simp only [Option.some.injEq] at hs
  subst hs
  exact aap hT bn hm P1 hk rfl (of_decide_eq_true (by kernel_rfl)) (by kernel_rfl) (q := []) 60 W0 (.inr rfl) (fun ρ => kr rfl rfl) K
 ·simp at hs
end Go.Am.B
