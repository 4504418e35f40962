/- brepkernelmade: number, Point, Map, Light, Roll. -/
import Derived.Test.YtbghpkgbokbmlaaGreatB32
set_option linter.unusedVariables false
namespace Go.Am.B
open Go Go.Am.N AV
theorem VG : aS P sk wg (au wg) := aN Qj (by kernel_rfl) (by kernel_rfl) (by kernel_rfl)
theorem Q0 : aS P w9 uG (au uG) := aN Vf (by kernel_rfl) (by kernel_rfl) (by kernel_rfl)
def GN : aT := [(mE, gd p9), (lC, qX), (iy, oI)]
def fN (n : Nat) (f : Nat → AV) (a : Int) : Rat := if bU n f (bn n a) 4 = 3 then ((bU n f a 13 - 6 : Int) : Rat) / ((1 + bU n f (bn n (bn n a)) 4 : Int) : Rat) else ((bU n f a 13 - 6 : Int) : Rat)
def ew (n : Nat) (f : Nat → AV) (a : Int) : Int := if bU n f (bn n a) 4 = 3 then bn n (bn n (bn n a)) else bn n (bn n a)
def zM (n : Nat) (f : Nat → AV) (a : Int) (l : List AV) : Option (AV × Int × List Prop) := match l with
 | [] => some (.rat (fN n f a) 64, ew n f a, [])
 | _ => none
def GP : aT := [(sk, gd zM)]
def iO (n : Nat) (f : Nat → AV) (a : Int) : Int := ew n f (ew n f (ew n f a))
def zF (n : Nat) (f : Nat → AV) (a : Int) (l : List AV) : Option (AV × Int × List Prop) := match l with
 | [] => some (.agg [.rat (fN n f a) 64, .rat (fN n f (ew n f a)) 64, .rat (fN n f (ew n f (ew n f a))) 64], iO n f a, [])
 | _ => none
theorem Rk : bh P GN := aE xK (aE yK (aE tY aY))
theorem ZB {n : Nat} {z : Nat → Int} {a : Int} : qw T GN [8] 60 wg (au wg) ⟨aO 0 [.ptr 0 0 2 0 []], [(0, gv n (fun i => .int .i64 (z i)) a)], 1⟩ =
  some (aa.af [cr n (fun (i : Nat) ↦ int IntKind.i64 (z i)) a, (0 : Int) < (13 : Int), (13 : Int) < (2 : Int) ^ 62] (aa.af [cr n (fun (i : Nat) ↦ int IntKind.i64 (z i)) (bn n a), (0 : Int) < (4 : Int), (4 : Int) < (2 : Int) ^ 62] (aa.fork (bU n (fun (i : Nat) ↦ int IntKind.i64 (z i)) (bn n a) (4 : Int) == (3 : Int)) (aa.af [cr n (fun (i : Nat) ↦ int IntKind.i64 (z i)) (bn n (bn n a)), (0 : Int) < (4 : Int), (4 : Int) < (2 : Int) ^ 62, -(2 : Int) ^ 63 ≤ IntKind.i64.wrap (bU n (fun (i : Nat) ↦ int IntKind.i64 (z i)) a (13 : Int) - (6 : Int)), IntKind.i64.wrap (bU n (fun (i : Nat) ↦ int IntKind.i64 (z i)) a (13 : Int) - (6 : Int)) < (2 : Int) ^ 63, -(2 : Int) ^ 63 ≤ IntKind.i64.wrap ((1 : Int) + bU n (fun (i : Nat) ↦ int IntKind.i64 (z i)) (bn n (bn n a)) (4 : Int)), IntKind.i64.wrap ((1 : Int) + bU n (fun (i : Nat) ↦ int IntKind.i64 (z i)) (bn n (bn n a)) (4 : Int)) < (2 : Int) ^ 63, (0 : Nat) < 1] (aa.af [(0 : Nat) < 1] (aa.leaf ah.ret ([rat ((↑(IntKind.i64.wrap (bU n (fun (i : Nat) ↦ int IntKind.i64 (z i)) a (13 : Int) - (6 : Int))) : Rat) / (↑(IntKind.i64.wrap ((1 : Int) + bU n (fun (i : Nat) ↦ int IntKind.i64 (z i)) (bn n (bn n a)) (4 : Int))) : Rat)) 64], some ⟨false, true, 2, 1, fun (x : Nat) ↦ agg [aj 1 n fun (i : Nat) ↦ int IntKind.i64 (z i), int IntKind.i64 (bn n (bn n (bn n a)))]⟩)))) (aa.af [-(2 : Int) ^ 63 ≤ IntKind.i64.wrap (bU n (fun (i : Nat) ↦ int IntKind.i64 (z i)) a (13 : Int) - (6 : Int)), IntKind.i64.wrap (bU n (fun (i : Nat) ↦ int IntKind.i64 (z i)) a (13 : Int) - (6 : Int)) < (2 : Int) ^ 63, (0 : Nat) < 1] (aa.af [(0 : Nat) < 1] (aa.leaf ah.ret ([rat (↑(IntKind.i64.wrap (bU n (fun (i : Nat) ↦ int IntKind.i64 (z i)) a (13 : Int) - (6 : Int))) : Rat) (max 1 (aV (IntKind.i64.wrap (bU n (fun (i : Nat) ↦ int IntKind.i64 (z i)) a (13 : Int) - (6 : Int))).natAbs))], some ⟨false, true, 2, 1, fun (x : Nat) ↦ agg [aj 1 n fun (i : Nat) ↦ int IntKind.i64 (z i), int IntKind.i64 (bn n (bn n a))]⟩))))))) := by kernel_rfl
theorem W2 {n : Nat} {z : Nat → Int} {a : Int} : qw T GP [] 60 uG (au uG) ⟨aO 0 [.ptr 0 0 2 0 []], [(0, gv n (fun i => .int .i64 (z i)) a)], 1⟩ =
  some (aa.af [cr n (fun (i : Nat) ↦ int IntKind.i64 (z i)) a, cr n (fun (i : Nat) ↦ int IntKind.i64 (z i)) (ew n (fun (i : Nat) ↦ int IntKind.i64 (z i)) a), cr n (fun (i : Nat) ↦ int IntKind.i64 (z i)) (ew n (fun (i : Nat) ↦ int IntKind.i64 (z i)) (ew n (fun (i : Nat) ↦ int IntKind.i64 (z i)) a)), (0 : Nat) < 1] (aa.af [(0 : Nat) < 1] (aa.leaf ah.ret ([agg [rat (fN n (fun (i : Nat) ↦ int IntKind.i64 (z i)) a) 64, rat (fN n (fun (i : Nat) ↦ int IntKind.i64 (z i)) (ew n (fun (i : Nat) ↦ int IntKind.i64 (z i)) a)) 64, rat (fN n (fun (i : Nat) ↦ int IntKind.i64 (z i)) (ew n (fun (i : Nat) ↦ int IntKind.i64 (z i)) (ew n (fun (i : Nat) ↦ int IntKind.i64 (z i)) a))) 64]], some ⟨false, true, 2, 1, fun (x : Nat) ↦ agg [aj 1 n fun (i : Nat) ↦ int IntKind.i64 (z i), int IntKind.i64 (ew n (fun (i : Nat) ↦ int IntKind.i64 (z i)) (ew n (fun (i : Nat) ↦ int IntKind.i64 (z i)) (ew n (fun (i : Nat) ↦ int IntKind.i64 (z i)) a)))]⟩)))) := by kernel_rfl
theorem cr.number {n : Nat} {f : Nat → AV} {a : Int} (h : cr n f a) : cr n f (ew n f a) := by
 unfold ew; split
 ·exact h.next.next.next
 ·exact h.next.next
theorem cr.Cr {n : Nat} {f : Nat → AV} {a : Int} (h : cr n f a) : cr n f (iO n f a) := h.number.number.number
theorem wB {x y : Int} (h1 : -2 ^ 63 ≤ x) (h2 : x < 2 ^ 63) : Sz (x : Rat) 64 := AO.Hu (by
 have : aV x.natAbs ≤ 64 := gj.2 (by omega)
 omega)
theorem Lv {k n : Nat} {z : Nat → Int} {a : Int} {o : ay} (ho : ∀ ρ, cC ρ o (gv n (fun i => .int .i64 (z i)) a)) (h : cr n (fun i => .int .i64 (z i)) a) (K : Nat) :
  aB P sk K [.ptr k 0 2 0 []] [(k, o)] ⟨.rat (fN n (fun i => .int .i64 (z i)) a) 64, [(k, gv n (fun i => .int .i64 (z i)) (ew n (fun i => .int .i64 (z i)) a))], []⟩ := by
 refine xV hT Rk hm VG rfl rfl (of_decide_eq_true (by kernel_rfl)) ho 60 ZB (fun _ => ?_) K
 have a1 := gO (n := n) (f := fun i => .int .i64 (z i)) (a := a) (m := 13) (by omega)
 have a2 := gT (n := n) (f := fun i => .int .i64 (z i)) (a := a) (m := 13) (by omega)
 have b1 := gO (n := n) (f := fun i => .int .i64 (z i)) (a := bn n (bn n a)) (m := 4) (by omega)
 have b2 := gT (n := n) (f := fun i => .int .i64 (z i)) (a := bn n (bn n a)) (m := 4) (by omega)
 unfold fN ew
 generalize bU n (fun i => .int .i64 (z i)) a 13 = x at *
 generalize bU n (fun i => .int .i64 (z i)) (bn n (bn n a)) 4 = y at *
 generalize bU n (fun i => .int .i64 (z i)) (bn n a) 4 = w at *
 have e1 : IntKind.i64.wrap (x - 6) = x - 6 := wrap_i64 (by omega) (by omega)
 have e2 : IntKind.i64.wrap (1 + y) = 1 + y := wrap_i64 (by omega) (by omega)
 rw [e1, e2]
 simp only [aa.all, ax, beq_iff_eq, beq_eq_false_iff_ne, ne_eq]
 refine ⟨⟨h, by omega, by omega⟩, ⟨h.next, by omega, by omega⟩, fun hw => ⟨⟨h.next.next, by omega, by omega, by omega, by omega, by omega, by omega, by omega⟩, by omega, cR (by rw [if_pos hw]), _, rfl, rfl, kM rfl (by rw [if_pos hw])⟩, fun hw => ⟨⟨by omega, by omega, by omega⟩, by omega, ?_, _, rfl, rfl, kM rfl (by rw [if_neg hw])⟩⟩
 rw [if_neg hw]
 exact eA rfl (wB (y := 0) (by omega) (by omega))
theorem RX : ∀ K args pre r, gd zM K args pre = some r → aB P sk K args pre r := by
 refine oJ fun {k n z a l v b q o} K hg ho hd hq => ?_
 unfold zM at hg
 split at hg
 ·simp only [Option.some.injEq, Prod.mk.injEq] at hg
  obtain ⟨rfl, rfl, rfl⟩ := hg
  exact Lv ho hd K
 ·simp at hg
theorem aaa : bh P GP := aE RX aY
theorem Kt : ∀ K args pre r, gd zF K args pre = some r → aB P w9 K args pre r := by
 refine oJ fun {k n z a l v b q o} K hg ho hd hq => ?_
 unfold zF at hg
 split at hg
 ·simp only [Option.some.injEq, Prod.mk.injEq] at hg
  obtain ⟨rfl, rfl, rfl⟩ := hg
  refine xV hT aaa hm Q0 rfl rfl (of_decide_eq_true (by kernel_rfl)) ho 60 W2 (fun _ => ?_) K
  simp only [aa.all, ax]
  exact ⟨⟨hd, hd.number, hd.number.number, by omega⟩, by omega, .refl _, _, rfl, rfl, kM rfl rfl⟩
 ·simp at hg
def Ju : Spec := bt fun l => match l with
 | [.aj 1 n _] => some (aH (.bool (decide ((n : Int) ≤ 500))) [])
 | _ => none
theorem VS : ∀ K args pre r, Ju K args pre = some r → aB P xu K args pre r := by
 refine bJ fun K args r hk hs _ => ?_
 split at hs
 ·simp only [Option.some.injEq] at hs
  subst hs
  refine bF hT aY hm PS rfl (of_decide_eq_true (by kernel_rfl)) rfl 60 WU (fun _ => ?_) K []
  exact .refl _
 ·simp at hs
def G5 : Spec := qc fun K l => match l with
 | [.aj 1 n f] => some ⟨.ptr K 0 2 0 [], [(K, gv n f 0)], []⟩
 | _ => none
theorem WD : ∀ K args pre r, G5 K args pre = some r → aB P yQ K args pre r := by
 refine y8 fun K args r hk hs => ?_
 split at hs
 ·simp only [Option.some.injEq] at hs
  subst hs
  exact TP hT aY hm ZZ hk rfl (of_decide_eq_true (by kernel_rfl)) (by kernel_rfl) (q := []) 60 Rf (.inr rfl) (fun ρ => kM rfl rfl) K
 ·simp at hs
end Go.Am.B
