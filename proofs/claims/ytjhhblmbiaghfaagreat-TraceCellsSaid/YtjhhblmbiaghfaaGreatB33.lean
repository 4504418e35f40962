/- brepkernelmade: number, Point, Map, Light, Roll. -/
import Derived.Test.YtjhhblmbiaghfaaGreatB32
set_option linter.unusedVariables false
namespace Go.Am.B
open Go Go.Am.N AV
theorem Pd : aO P r5 sI (ax sI) := aP JS (by kernel_rfl) (by kernel_rfl) (by kernel_rfl)
def GN : aW := [(k8, gB oP), (rI, Ek), (oB, xV)]
def fH (n : Nat) (f : Nat → AV) (a : Int) : Rat := if bC n f (aZ n a) 4 = 3 then ((bC n f a 13 - 6 : Int) : Rat) / ((1 + bC n f (aZ n (aZ n a)) 4 : Int) : Rat) else ((bC n f a 13 - 6 : Int) : Rat)
def gn (n : Nat) (f : Nat → AV) (a : Int) : Int := if bC n f (aZ n a) 4 = 3 then aZ n (aZ n (aZ n a)) else aZ n (aZ n a)
def By (n : Nat) (f : Nat → AV) (a : Int) (l : List AV) : Option (AV × Int × List Prop) := match l with
 | [] => some (.rat (fH n f a) 64, gn n f a, [])
 | _ => none
theorem QW : br P GN := aJ x3 (aJ QA (aJ zU aY))
theorem Wx {n : Nat} {z : Nat → Int} {a : Int} : vp T GN [8] 60 sI (ax sI) ⟨aN 0 [.ptr 0 0 2 0 []], [(0, gl n (fun i => .int .i64 (z i)) a)], 1⟩ =
  some (af.ag [bG n (fun (i : Nat) ↦ int IntKind.i64 (z i)) a, (0 : Int) < (13 : Int), (13 : Int) < (2 : Int) ^ 62] (af.ag [bG n (fun (i : Nat) ↦ int IntKind.i64 (z i)) (aZ n a), (0 : Int) < (4 : Int), (4 : Int) < (2 : Int) ^ 62] (af.fork (bC n (fun (i : Nat) ↦ int IntKind.i64 (z i)) (aZ n a) (4 : Int) == (3 : Int)) (af.ag [bG n (fun (i : Nat) ↦ int IntKind.i64 (z i)) (aZ n (aZ n a)), (0 : Int) < (4 : Int), (4 : Int) < (2 : Int) ^ 62, -(2 : Int) ^ 63 ≤ IntKind.i64.wrap (bC n (fun (i : Nat) ↦ int IntKind.i64 (z i)) a (13 : Int) - (6 : Int)), IntKind.i64.wrap (bC n (fun (i : Nat) ↦ int IntKind.i64 (z i)) a (13 : Int) - (6 : Int)) < (2 : Int) ^ 63, -(2 : Int) ^ 63 ≤ IntKind.i64.wrap ((1 : Int) + bC n (fun (i : Nat) ↦ int IntKind.i64 (z i)) (aZ n (aZ n a)) (4 : Int)), IntKind.i64.wrap ((1 : Int) + bC n (fun (i : Nat) ↦ int IntKind.i64 (z i)) (aZ n (aZ n a)) (4 : Int)) < (2 : Int) ^ 63, (0 : Nat) < 1] (af.ag [(0 : Nat) < 1] (af.leaf ak.ret ([rat ((↑(IntKind.i64.wrap (bC n (fun (i : Nat) ↦ int IntKind.i64 (z i)) a (13 : Int) - (6 : Int))) : Rat) / (↑(IntKind.i64.wrap ((1 : Int) + bC n (fun (i : Nat) ↦ int IntKind.i64 (z i)) (aZ n (aZ n a)) (4 : Int))) : Rat)) 64], some ⟨false, true, 2, 1, fun (x : Nat) ↦ agg [ah 1 n fun (i : Nat) ↦ int IntKind.i64 (z i), int IntKind.i64 (aZ n (aZ n (aZ n a)))]⟩)))) (af.ag [-(2 : Int) ^ 63 ≤ IntKind.i64.wrap (bC n (fun (i : Nat) ↦ int IntKind.i64 (z i)) a (13 : Int) - (6 : Int)), IntKind.i64.wrap (bC n (fun (i : Nat) ↦ int IntKind.i64 (z i)) a (13 : Int) - (6 : Int)) < (2 : Int) ^ 63, (0 : Nat) < 1] (af.ag [(0 : Nat) < 1] (af.leaf ak.ret ([rat (↑(IntKind.i64.wrap (bC n (fun (i : Nat) ↦ int IntKind.i64 (z i)) a (13 : Int) - (6 : Int))) : Rat) (max 1 (bf (IntKind.i64.wrap (bC n (fun (i : Nat) ↦ int IntKind.i64 (z i)) a (13 : Int) - (6 : Int))).natAbs))], some ⟨false, true, 2, 1, fun (x : Nat) ↦ agg [ah 1 n fun (i : Nat) ↦ int IntKind.i64 (z i), int IntKind.i64 (aZ n (aZ n a))]⟩))))))) := by kernel_rfl
theorem bG.number {n : Nat} {f : Nat → AV} {a : Int} (h : bG n f a) : bG n f (gn n f a) := by
 unfold gn; split
 ·exact h.next.next.next
 ·exact h.next.next
theorem MN {x y : Int} (h1 : -2 ^ 63 ≤ x) (h2 : x < 2 ^ 63) : Sz (x : Rat) 64 := zL.DJ (by
 have : bf x.natAbs ≤ 64 := fX.2 (by omega)
 omega)
theorem XW {k n : Nat} {z : Nat → Int} {a : Int} {o : aD} (ho : ∀ ρ, ct ρ o (gl n (fun i => .int .i64 (z i)) a)) (h : bG n (fun i => .int .i64 (z i)) a) (K : Nat) :
  aC P r5 K [.ptr k 0 2 0 []] [(k, o)] ⟨.rat (fH n (fun i => .int .i64 (z i)) a) 64, [(k, gl n (fun i => .int .i64 (z i)) (gn n (fun i => .int .i64 (z i)) a))], []⟩ := by
 refine zR hT QW hm Pd rfl rfl (of_decide_eq_true (by kernel_rfl)) ho 60 Wx (fun _ => ?_) K
 have a1 := kM (n := n) (f := fun i => .int .i64 (z i)) (a := a) (m := 13) (by omega)
 have a2 := ij (n := n) (f := fun i => .int .i64 (z i)) (a := a) (m := 13) (by omega)
 have b1 := kM (n := n) (f := fun i => .int .i64 (z i)) (a := aZ n (aZ n a)) (m := 4) (by omega)
 have b2 := ij (n := n) (f := fun i => .int .i64 (z i)) (a := aZ n (aZ n a)) (m := 4) (by omega)
 unfold fH gn
 generalize bC n (fun i => .int .i64 (z i)) a 13 = x at *
 generalize bC n (fun i => .int .i64 (z i)) (aZ n (aZ n a)) 4 = y at *
 generalize bC n (fun i => .int .i64 (z i)) (aZ n a) 4 = w at *
 have e1 : IntKind.i64.wrap (x - 6) = x - 6 := wrap_i64 (by omega) (by omega)
 have e2 : IntKind.i64.wrap (1 + y) = 1 + y := wrap_i64 (by omega) (by omega)
 rw [e1, e2]
 simp only [af.all, ay, beq_iff_eq, beq_eq_false_iff_ne, ne_eq]
 refine ⟨⟨h, by omega, by omega⟩, ⟨h.next, by omega, by omega⟩, fun hw => ⟨⟨h.next.next, by omega, by omega, by omega, by omega, by omega, by omega, by omega⟩, by omega, cV (by rw [if_pos hw]), _, rfl, rfl, ni rfl (by rw [if_pos hw])⟩, fun hw => ⟨⟨by omega, by omega, by omega⟩, by omega, ?_, _, rfl, rfl, ni rfl (by rw [if_neg hw])⟩⟩
 rw [if_neg hw]
 exact ga rfl (MN (y := 0) (by omega) (by omega))
theorem L4 : ∀ K args pre r, gB By K args pre = some r → aC P r5 K args pre r := by
 refine tB fun {k n z a l v b q o} K hg ho hd hq => ?_
 unfold By at hg
 split at hg
 ·simp only [Option.some.injEq, Prod.mk.injEq] at hg
  obtain ⟨rfl, rfl, rfl⟩ := hg
  exact XW ho hd K
 ·simp at hg
def Ip : Spec := bu fun l => match l with
 | [.ah 1 n _] => some (aK (.bool (decide ((n : Int) ≤ 500))) [])
 | _ => none
theorem YE : ∀ K args pre r, Ip K args pre = some r → aC P xF K args pre r := by
 refine bQ fun K args r hk hs _ => ?_
 split at hs
 ·simp only [Option.some.injEq] at hs
  subst hs
  refine bH hT aY hm JX rfl (of_decide_eq_true (by kernel_rfl)) rfl 60 Mr (fun _ => ?_) K []
  exact .refl _
 ·simp at hs
def Ir : Spec := qY fun K l => match l with
 | [.ah 1 n f] => some ⟨.ptr K 0 2 0 [], [(K, gl n f 0)], []⟩
 | _ => none
theorem YO : ∀ K args pre r, Ir K args pre = some r → aC P xZ K args pre r := by
 refine BP fun K args r hk hs => ?_
 split at hs
 ·simp only [Option.some.injEq] at hs
  subst hs
  exact KR hT aY hm LP hk rfl (of_decide_eq_true (by kernel_rfl)) (by kernel_rfl) (q := []) 60 Py (.inr rfl) (fun ρ => ni rfl rfl) K
 ·simp at hs
end Go.Am.B
