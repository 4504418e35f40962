/- brepkernelmade: number, Point, Map, Light, Roll. -/
import Derived.Test.YtbghpkgbokbmlaaGreatB32
set_option linter.unusedVariables false
namespace Go.Am.B
open Go Go.Am.N AV
theorem Gc : aO P rH pA (au pA) := aL Rw (by kernel_rfl) (by kernel_rfl) (by kernel_rfl)
theorem Qo : aO P vj qW (au qW) := aL Oe (by kernel_rfl) (by kernel_rfl) (by kernel_rfl)
def GN : aP := [(sj, iP wm), (ng, wB), (gW, qp)]
def dB (n : Nat) (f : Nat → AV) (a : Int) : Rat := if dN n f (cq n a) 4 = 3 then ((dN n f a 13 - 6 : Int) : Rat) / ((1 + dN n f (cq n (cq n a)) 4 : Int) : Rat) else ((dN n f a 13 - 6 : Int) : Rat)
def cu (n : Nat) (f : Nat → AV) (a : Int) : Int := if dN n f (cq n a) 4 = 3 then cq n (cq n (cq n a)) else cq n (cq n a)
def oe (n : Nat) (f : Nat → AV) (a : Int) (l : List AV) : Option (AV × Int × List Prop) := match l with
 | [] => some (.rat (dB n f a) 64, cu n f a, [])
 | _ => none
def GP : aP := [(rH, iP oe)]
def gJ (n : Nat) (f : Nat → AV) (a : Int) : Int := cu n f (cu n f (cu n f a))
def xH (n : Nat) (f : Nat → AV) (a : Int) (l : List AV) : Option (AV × Int × List Prop) := match l with
 | [] => some (.agg [.rat (dB n f a) 64, .rat (dB n f (cu n f a)) 64, .rat (dB n f (cu n f (cu n f a))) 64], gJ n f a, [])
 | _ => none
theorem NF : aX P GN := aE Pe (aE BK (aE vt aZ))
theorem Jg {n : Nat} {z : Nat → Int} {a : Int} : nh T GN [8] 60 pA (au pA) ⟨aM 0 [.ptr 0 0 2 0 []], [(0, fF n (fun i => .int .i64 (z i)) a)], 1⟩ =
  some (aa.af [dg n (fun (i : Nat) ↦ int IntKind.i64 (z i)) a, (0 : Int) < (13 : Int), (13 : Int) < (2 : Int) ^ 62] (aa.af [dg n (fun (i : Nat) ↦ int IntKind.i64 (z i)) (cq n a), (0 : Int) < (4 : Int), (4 : Int) < (2 : Int) ^ 62] (aa.fork (dN n (fun (i : Nat) ↦ int IntKind.i64 (z i)) (cq n a) (4 : Int) == (3 : Int)) (aa.af [dg n (fun (i : Nat) ↦ int IntKind.i64 (z i)) (cq n (cq n a)), (0 : Int) < (4 : Int), (4 : Int) < (2 : Int) ^ 62, -(2 : Int) ^ 63 ≤ IntKind.i64.wrap (dN n (fun (i : Nat) ↦ int IntKind.i64 (z i)) a (13 : Int) - (6 : Int)), IntKind.i64.wrap (dN n (fun (i : Nat) ↦ int IntKind.i64 (z i)) a (13 : Int) - (6 : Int)) < (2 : Int) ^ 63, -(2 : Int) ^ 63 ≤ IntKind.i64.wrap ((1 : Int) + dN n (fun (i : Nat) ↦ int IntKind.i64 (z i)) (cq n (cq n a)) (4 : Int)), IntKind.i64.wrap ((1 : Int) + dN n (fun (i : Nat) ↦ int IntKind.i64 (z i)) (cq n (cq n a)) (4 : Int)) < (2 : Int) ^ 63, (0 : Nat) < 1] (aa.af [(0 : Nat) < 1] (aa.leaf ah.ret ([rat ((↑(IntKind.i64.wrap (dN n (fun (i : Nat) ↦ int IntKind.i64 (z i)) a (13 : Int) - (6 : Int))) : Rat) / (↑(IntKind.i64.wrap ((1 : Int) + dN n (fun (i : Nat) ↦ int IntKind.i64 (z i)) (cq n (cq n a)) (4 : Int))) : Rat)) 64], some ⟨false, true, 2, 1, fun (x : Nat) ↦ agg [ak 1 n fun (i : Nat) ↦ int IntKind.i64 (z i), int IntKind.i64 (cq n (cq n (cq n a)))]⟩)))) (aa.af [-(2 : Int) ^ 63 ≤ IntKind.i64.wrap (dN n (fun (i : Nat) ↦ int IntKind.i64 (z i)) a (13 : Int) - (6 : Int)), IntKind.i64.wrap (dN n (fun (i : Nat) ↦ int IntKind.i64 (z i)) a (13 : Int) - (6 : Int)) < (2 : Int) ^ 63, (0 : Nat) < 1] (aa.af [(0 : Nat) < 1] (aa.leaf ah.ret ([rat (↑(IntKind.i64.wrap (dN n (fun (i : Nat) ↦ int IntKind.i64 (z i)) a (13 : Int) - (6 : Int))) : Rat) (max 1 (aN (IntKind.i64.wrap (dN n (fun (i : Nat) ↦ int IntKind.i64 (z i)) a (13 : Int) - (6 : Int))).natAbs))], some ⟨false, true, 2, 1, fun (x : Nat) ↦ agg [ak 1 n fun (i : Nat) ↦ int IntKind.i64 (z i), int IntKind.i64 (cq n (cq n a))]⟩))))))) := by kernel_rfl
theorem ML {n : Nat} {z : Nat → Int} {a : Int} : nh T GP [] 60 qW (au qW) ⟨aM 0 [.ptr 0 0 2 0 []], [(0, fF n (fun i => .int .i64 (z i)) a)], 1⟩ =
  some (aa.af [dg n (fun (i : Nat) ↦ int IntKind.i64 (z i)) a, dg n (fun (i : Nat) ↦ int IntKind.i64 (z i)) (cu n (fun (i : Nat) ↦ int IntKind.i64 (z i)) a), dg n (fun (i : Nat) ↦ int IntKind.i64 (z i)) (cu n (fun (i : Nat) ↦ int IntKind.i64 (z i)) (cu n (fun (i : Nat) ↦ int IntKind.i64 (z i)) a)), (0 : Nat) < 1] (aa.af [(0 : Nat) < 1] (aa.leaf ah.ret ([agg [rat (dB n (fun (i : Nat) ↦ int IntKind.i64 (z i)) a) 64, rat (dB n (fun (i : Nat) ↦ int IntKind.i64 (z i)) (cu n (fun (i : Nat) ↦ int IntKind.i64 (z i)) a)) 64, rat (dB n (fun (i : Nat) ↦ int IntKind.i64 (z i)) (cu n (fun (i : Nat) ↦ int IntKind.i64 (z i)) (cu n (fun (i : Nat) ↦ int IntKind.i64 (z i)) a))) 64]], some ⟨false, true, 2, 1, fun (x : Nat) ↦ agg [ak 1 n fun (i : Nat) ↦ int IntKind.i64 (z i), int IntKind.i64 (cu n (fun (i : Nat) ↦ int IntKind.i64 (z i)) (cu n (fun (i : Nat) ↦ int IntKind.i64 (z i)) (cu n (fun (i : Nat) ↦ int IntKind.i64 (z i)) a)))]⟩)))) := by kernel_rfl
theorem dg.number {n : Nat} {f : Nat → AV} {a : Int} (h : dg n f a) : dg n f (cu n f a) := by
 unfold cu; split
 ·exact h.next.next.next
 ·exact h.next.next
theorem dg.m8 {n : Nat} {f : Nat → AV} {a : Int} (h : dg n f a) : dg n f (gJ n f a) := h.number.number.number
theorem x3 {x y : Int} (h1 : -2 ^ 63 ≤ x) (h2 : x < 2 ^ 63) : Sz (x : Rat) 64 := yH.E4 (by
 have : aN x.natAbs ≤ 64 := fH.2 (by omega)
 omega)
theorem Mv {k n : Nat} {z : Nat → Int} {a : Int} {o : aJ} (ho : ∀ ρ, cL ρ o (fF n (fun i => .int .i64 (z i)) a)) (h : dg n (fun i => .int .i64 (z i)) a) (K : Nat) :
  az P rH K [.ptr k 0 2 0 []] [(k, o)] ⟨.rat (dB n (fun i => .int .i64 (z i)) a) 64, [(k, fF n (fun i => .int .i64 (z i)) (cu n (fun i => .int .i64 (z i)) a))], []⟩ := by
 refine uh hT NF hm Gc rfl rfl (of_decide_eq_true (by kernel_rfl)) ho 60 Jg (fun _ => ?_) K
 have a1 := BJ (n := n) (f := fun i => .int .i64 (z i)) (a := a) (m := 13) (by omega)
 have a2 := zo (n := n) (f := fun i => .int .i64 (z i)) (a := a) (m := 13) (by omega)
 have b1 := BJ (n := n) (f := fun i => .int .i64 (z i)) (a := cq n (cq n a)) (m := 4) (by omega)
 have b2 := zo (n := n) (f := fun i => .int .i64 (z i)) (a := cq n (cq n a)) (m := 4) (by omega)
 unfold dB cu
 generalize dN n (fun i => .int .i64 (z i)) a 13 = x at *
 generalize dN n (fun i => .int .i64 (z i)) (cq n (cq n a)) 4 = y at *
 generalize dN n (fun i => .int .i64 (z i)) (cq n a) 4 = w at *
 have e1 : IntKind.i64.wrap (x - 6) = x - 6 := wrap_i64 (by omega) (by omega)
 have e2 : IntKind.i64.wrap (1 + y) = 1 + y := wrap_i64 (by omega) (by omega)
 rw [e1, e2]
 simp only [aa.all, ay, beq_iff_eq, beq_eq_false_iff_ne, ne_eq]
 refine ⟨⟨h, by omega, by omega⟩, ⟨h.next, by omega, by omega⟩, fun hw => ⟨⟨h.next.next, by omega, by omega, by omega, by omega, by omega, by omega, by omega⟩, by omega, cI (by rw [if_pos hw]), _, rfl, rfl, ou rfl (by rw [if_pos hw])⟩, fun hw => ⟨⟨by omega, by omega, by omega⟩, by omega, ?_, _, rfl, rfl, ou rfl (by rw [if_neg hw])⟩⟩
 rw [if_neg hw]
 exact eG rfl (x3 (y := 0) (by omega) (by omega))
theorem U0 : ∀ K args pre r, iP oe K args pre = some r → az P rH K args pre r := by
 refine sZ fun {k n z a l v b q o} K hg ho hd hq => ?_
 unfold oe at hg
 split at hg
 ·simp only [Option.some.injEq, Prod.mk.injEq] at hg
  obtain ⟨rfl, rfl, rfl⟩ := hg
  exact Mv ho hd K
 ·simp at hg
theorem CE : aX P GP := aE U0 aZ
theorem TS : ∀ K args pre r, iP xH K args pre = some r → az P vj K args pre r := by
 refine sZ fun {k n z a l v b q o} K hg ho hd hq => ?_
 unfold xH at hg
 split at hg
 ·simp only [Option.some.injEq, Prod.mk.injEq] at hg
  obtain ⟨rfl, rfl, rfl⟩ := hg
  refine uh hT CE hm Qo rfl rfl (of_decide_eq_true (by kernel_rfl)) ho 60 ML (fun _ => ?_) K
  simp only [aa.all, ay]
  exact ⟨⟨hd, hd.number, hd.number.number, by omega⟩, by omega, .refl _, _, rfl, rfl, ou rfl rfl⟩
 ·simp at hg
def Cw : Spec := bk fun l => match l with
 | [.ak 1 n _] => some (aG (.bool (decide ((n : Int) ≤ 500))) [])
 | _ => none
theorem US : ∀ K args pre r, Cw K args pre = some r → az P uP K args pre r := by
 refine bD fun K args r hk hs _ => ?_
 split at hs
 ·simp only [Option.some.injEq] at hs
  subst hs
  refine bC hT aZ hm R6 rfl (of_decide_eq_true (by kernel_rfl)) rfl 60 RM (fun _ => ?_) K []
  exact .refl _
 ·simp at hs
def Fb : Spec := nI fun K l => match l with
 | [.ak 1 n f] => some ⟨.ptr K 0 2 0 [], [(K, fF n f 0)], []⟩
 | _ => none
theorem NQ : ∀ K args pre r, Fb K args pre = some r → az P s6 K args pre r := by
 refine ue fun K args r hk hs => ?_
 split at hs
 ·simp only [Option.some.injEq] at hs
  subst hs
  exact P9 hT aZ hm KL hk rfl (of_decide_eq_true (by kernel_rfl)) (by kernel_rfl) (q := []) 60 P6 (.inr rfl) (fun ρ => ou rfl rfl) K
 ·simp at hs
end Go.Am.B
