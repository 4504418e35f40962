/- brepkernelmade: number, Point, Map, Light, Roll. -/
import Derived.Test.YtnocdkaonpdmjaaGreatB32
set_option linter.unusedVariables false
namespace Go.Am.B
open Go Go.Am.N AV
theorem N9 : aN P sD td (au td) := aP WA (by kernel_rfl) (by kernel_rfl) (by kernel_rfl)
theorem adq : aN P yK wL (au wL) := aP acp (by kernel_rfl) (by kernel_rfl) (by kernel_rfl)
def GN : aQ := [(mu, fY pR), (nj, tr), (jv, vL)]
def fV (n : Nat) (f : Nat → AV) (a : Int) : Rat := if b6 n f (bn n a) 4 = 3 then ((b6 n f a 13 - 6 : Int) : Rat) / ((1 + b6 n f (bn n (bn n a)) 4 : Int) : Rat) else ((b6 n f a 13 - 6 : Int) : Rat)
def ep (n : Nat) (f : Nat → AV) (a : Int) : Int := if b6 n f (bn n a) 4 = 3 then bn n (bn n (bn n a)) else bn n (bn n a)
def BL (n : Nat) (f : Nat → AV) (a : Int) (l : List AV) : Option (AV × Int × List Prop) := match l with
 | [] => some (.rat (fV n f a) 64, ep n f a, [])
 | _ => none
def GP : aQ := [(sD, fY BL)]
def jn (n : Nat) (f : Nat → AV) (a : Int) : Int := ep n f (ep n f (ep n f a))
def CP (n : Nat) (f : Nat → AV) (a : Int) (l : List AV) : Option (AV × Int × List Prop) := match l with
 | [] => some (.agg [.rat (fV n f a) 64, .rat (fV n f (ep n f a)) 64, .rat (fV n f (ep n f (ep n f a))) 64], jn n f a, [])
 | _ => none
theorem Zk : aY P GN := aF yJ (aF xx (aF z9 bk))
theorem T3 {n : Nat} {z : Nat → Int} {a : Int} : qv T GN [8] 60 td (au td) ⟨aL 0 [.ptr 0 0 2 0 []], [(0, gE n (fun i => .int .i64 (z i)) a)], 1⟩ =
  some (aa.ag [cz n (fun (i : Nat) ↦ int IntKind.i64 (z i)) a, (0 : Int) < (13 : Int), (13 : Int) < (2 : Int) ^ 62] (aa.ag [cz n (fun (i : Nat) ↦ int IntKind.i64 (z i)) (bn n a), (0 : Int) < (4 : Int), (4 : Int) < (2 : Int) ^ 62] (aa.fork (b6 n (fun (i : Nat) ↦ int IntKind.i64 (z i)) (bn n a) (4 : Int) == (3 : Int)) (aa.ag [cz n (fun (i : Nat) ↦ int IntKind.i64 (z i)) (bn n (bn n a)), (0 : Int) < (4 : Int), (4 : Int) < (2 : Int) ^ 62, -(2 : Int) ^ 63 ≤ IntKind.i64.wrap (b6 n (fun (i : Nat) ↦ int IntKind.i64 (z i)) a (13 : Int) - (6 : Int)), IntKind.i64.wrap (b6 n (fun (i : Nat) ↦ int IntKind.i64 (z i)) a (13 : Int) - (6 : Int)) < (2 : Int) ^ 63, -(2 : Int) ^ 63 ≤ IntKind.i64.wrap ((1 : Int) + b6 n (fun (i : Nat) ↦ int IntKind.i64 (z i)) (bn n (bn n a)) (4 : Int)), IntKind.i64.wrap ((1 : Int) + b6 n (fun (i : Nat) ↦ int IntKind.i64 (z i)) (bn n (bn n a)) (4 : Int)) < (2 : Int) ^ 63, (0 : Nat) < 1] (aa.ag [(0 : Nat) < 1] (aa.leaf ah.ret ([rat ((↑(IntKind.i64.wrap (b6 n (fun (i : Nat) ↦ int IntKind.i64 (z i)) a (13 : Int) - (6 : Int))) : Rat) / (↑(IntKind.i64.wrap ((1 : Int) + b6 n (fun (i : Nat) ↦ int IntKind.i64 (z i)) (bn n (bn n a)) (4 : Int))) : Rat)) 64], some ⟨false, true, 2, 1, fun (x : Nat) ↦ agg [ak 1 n fun (i : Nat) ↦ int IntKind.i64 (z i), int IntKind.i64 (bn n (bn n (bn n a)))]⟩)))) (aa.ag [-(2 : Int) ^ 63 ≤ IntKind.i64.wrap (b6 n (fun (i : Nat) ↦ int IntKind.i64 (z i)) a (13 : Int) - (6 : Int)), IntKind.i64.wrap (b6 n (fun (i : Nat) ↦ int IntKind.i64 (z i)) a (13 : Int) - (6 : Int)) < (2 : Int) ^ 63, (0 : Nat) < 1] (aa.ag [(0 : Nat) < 1] (aa.leaf ah.ret ([rat (↑(IntKind.i64.wrap (b6 n (fun (i : Nat) ↦ int IntKind.i64 (z i)) a (13 : Int) - (6 : Int))) : Rat) (max 1 (bg (IntKind.i64.wrap (b6 n (fun (i : Nat) ↦ int IntKind.i64 (z i)) a (13 : Int) - (6 : Int))).natAbs))], some ⟨false, true, 2, 1, fun (x : Nat) ↦ agg [ak 1 n fun (i : Nat) ↦ int IntKind.i64 (z i), int IntKind.i64 (bn n (bn n a))]⟩))))))) := by kernel_rfl
theorem RS {n : Nat} {z : Nat → Int} {a : Int} : qv T GP [] 60 wL (au wL) ⟨aL 0 [.ptr 0 0 2 0 []], [(0, gE n (fun i => .int .i64 (z i)) a)], 1⟩ =
  some (aa.ag [cz n (fun (i : Nat) ↦ int IntKind.i64 (z i)) a, cz n (fun (i : Nat) ↦ int IntKind.i64 (z i)) (ep n (fun (i : Nat) ↦ int IntKind.i64 (z i)) a), cz n (fun (i : Nat) ↦ int IntKind.i64 (z i)) (ep n (fun (i : Nat) ↦ int IntKind.i64 (z i)) (ep n (fun (i : Nat) ↦ int IntKind.i64 (z i)) a)), (0 : Nat) < 1] (aa.ag [(0 : Nat) < 1] (aa.leaf ah.ret ([agg [rat (fV n (fun (i : Nat) ↦ int IntKind.i64 (z i)) a) 64, rat (fV n (fun (i : Nat) ↦ int IntKind.i64 (z i)) (ep n (fun (i : Nat) ↦ int IntKind.i64 (z i)) a)) 64, rat (fV n (fun (i : Nat) ↦ int IntKind.i64 (z i)) (ep n (fun (i : Nat) ↦ int IntKind.i64 (z i)) (ep n (fun (i : Nat) ↦ int IntKind.i64 (z i)) a))) 64]], some ⟨false, true, 2, 1, fun (x : Nat) ↦ agg [ak 1 n fun (i : Nat) ↦ int IntKind.i64 (z i), int IntKind.i64 (ep n (fun (i : Nat) ↦ int IntKind.i64 (z i)) (ep n (fun (i : Nat) ↦ int IntKind.i64 (z i)) (ep n (fun (i : Nat) ↦ int IntKind.i64 (z i)) a)))]⟩)))) := by kernel_rfl
theorem cz.number {n : Nat} {f : Nat → AV} {a : Int} (h : cz n f a) : cz n f (ep n f a) := by
 unfold ep; split
 ·exact h.next.next.next
 ·exact h.next.next
theorem cz.B5 {n : Nat} {f : Nat → AV} {a : Int} (h : cz n f a) : cz n f (jn n f a) := h.number.number.number
theorem Ft {x y : Int} (h1 : -2 ^ 63 ≤ x) (h2 : x < 2 ^ 63) : Sz (x : Rat) 64 := Ce.more (by
 have : bg x.natAbs ≤ 64 := gN.2 (by omega)
 omega)
theorem Yo {k n : Nat} {z : Nat → Int} {a : Int} {o : az} (ho : ∀ ρ, cq ρ o (gE n (fun i => .int .i64 (z i)) a)) (h : cz n (fun i => .int .i64 (z i)) a) (K : Nat) :
  aA P sD K [.ptr k 0 2 0 []] [(k, o)] ⟨.rat (fV n (fun i => .int .i64 (z i)) a) 64, [(k, gE n (fun i => .int .i64 (z i)) (ep n (fun i => .int .i64 (z i)) a))], []⟩ := by
 refine As hT Zk hm N9 rfl rfl (of_decide_eq_true (by kernel_rfl)) ho 60 T3 (fun _ => ?_) K
 have a1 := ig (n := n) (f := fun i => .int .i64 (z i)) (a := a) (m := 13) (by omega)
 have a2 := iw (n := n) (f := fun i => .int .i64 (z i)) (a := a) (m := 13) (by omega)
 have b1 := ig (n := n) (f := fun i => .int .i64 (z i)) (a := bn n (bn n a)) (m := 4) (by omega)
 have b2 := iw (n := n) (f := fun i => .int .i64 (z i)) (a := bn n (bn n a)) (m := 4) (by omega)
 unfold fV ep
 generalize b6 n (fun i => .int .i64 (z i)) a 13 = x at *
 generalize b6 n (fun i => .int .i64 (z i)) (bn n (bn n a)) 4 = y at *
 generalize b6 n (fun i => .int .i64 (z i)) (bn n a) 4 = w at *
 have e1 : IntKind.i64.wrap (x - 6) = x - 6 := wrap_i64 (by omega) (by omega)
 have e2 : IntKind.i64.wrap (1 + y) = 1 + y := wrap_i64 (by omega) (by omega)
 rw [e1, e2]
 simp only [aa.all, ay, beq_iff_eq, beq_eq_false_iff_ne, ne_eq]
 refine ⟨⟨h, by omega, by omega⟩, ⟨h.next, by omega, by omega⟩, fun hw => ⟨⟨h.next.next, by omega, by omega, by omega, by omega, by omega, by omega, by omega⟩, by omega, cI (by rw [if_pos hw]), _, rfl, rfl, l5 rfl (by rw [if_pos hw])⟩, fun hw => ⟨⟨by omega, by omega, by omega⟩, by omega, ?_, _, rfl, rfl, l5 rfl (by rw [if_neg hw])⟩⟩
 rw [if_neg hw]
 exact eM rfl (Ft (y := 0) (by omega) (by omega))
theorem adn : ∀ K args pre r, fY BL K args pre = some r → aA P sD K args pre r := by
 refine rT fun {k n z a l v b q o} K hg ho hd hq => ?_
 unfold BL at hg
 split at hg
 ·simp only [Option.some.injEq, Prod.mk.injEq] at hg
  obtain ⟨rfl, rfl, rfl⟩ := hg
  exact Yo ho hd K
 ·simp at hg
theorem WQ : aY P GP := aF adn bk
theorem X1 : ∀ K args pre r, fY CP K args pre = some r → aA P yK K args pre r := by
 refine rT fun {k n z a l v b q o} K hg ho hd hq => ?_
 unfold CP at hg
 split at hg
 ·simp only [Option.some.injEq, Prod.mk.injEq] at hg
  obtain ⟨rfl, rfl, rfl⟩ := hg
  refine As hT WQ hm adq rfl rfl (of_decide_eq_true (by kernel_rfl)) ho 60 RS (fun _ => ?_) K
  simp only [aa.all, ay]
  exact ⟨⟨hd, hd.number, hd.number.number, by omega⟩, by omega, .refl _, _, rfl, rfl, l5 rfl rfl⟩
 ·simp at hg
def JJ : Spec := bw fun l => match l with
 | [.ak 1 n _] => some (aG (.bool (decide ((n : Int) ≤ 500))) [])
 | _ => none
theorem XU : ∀ K args pre r, JJ K args pre = some r → aA P Bk K args pre r := by
 refine bI fun K args r hk hs _ => ?_
 split at hs
 ·simp only [Option.some.injEq] at hs
  subst hs
  refine bC hT bk hm VO rfl (of_decide_eq_true (by kernel_rfl)) rfl 60 Ri (fun _ => ?_) K []
  exact .refl _
 ·simp at hs
def G5 : Spec := pT fun K l => match l with
 | [.ak 1 n f] => some ⟨.ptr K 0 2 0 [], [(K, gE n f 0)], []⟩
 | _ => none
theorem RF : ∀ K args pre r, G5 K args pre = some r → aA P yO K args pre r := by
 refine yG fun K args r hk hs => ?_
 split at hs
 ·simp only [Option.some.injEq] at hs
  subst hs
  exact XL hT bk hm OA hk rfl (of_decide_eq_true (by kernel_rfl)) (by kernel_rfl) (q := []) 60 acI (.inr rfl) (fun ρ => l5 rfl rfl) K
 ·simp at hs
end Go.Am.B
