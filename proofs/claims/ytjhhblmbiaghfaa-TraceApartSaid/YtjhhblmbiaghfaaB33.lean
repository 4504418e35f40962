/- brepkernelmade: number, Point, Map, Light, Roll. -/
import Derived.Test.YtjhhblmbiaghfaaB32
set_option linter.unusedVariables false
namespace Go.Am.B
open Go Go.Am.N AV
theorem ND : aO P tA qx (ax qx) := aS Ub (by kernel_rfl) (by kernel_rfl) (by kernel_rfl)
def GN : bf := [(nI, iQ uu), (tv, BO), (mW, vZ)]
def ff (n : Nat) (f : Nat → AV) (a : Int) : Rat := if bW n f (br n a) 4 = 3 then ((bW n f a 13 - 6 : Int) : Rat) / ((1 + bW n f (br n (br n a)) 4 : Int) : Rat) else ((bW n f a 13 - 6 : Int) : Rat)
def fT (n : Nat) (f : Nat → AV) (a : Int) : Int := if bW n f (br n a) 4 = 3 then br n (br n (br n a)) else br n (br n a)
def xL (n : Nat) (f : Nat → AV) (a : Int) (l : List AV) : Option (AV × Int × List Prop) := match l with
 | [] => some (.rat (ff n f a) 64, fT n f a, [])
 | _ => none
theorem L6 : bC P GN := aK AN (aK JT (aK xY aZ))
theorem Ow {n : Nat} {z : Nat → Int} {a : Int} : r7 T GN [8] 60 qx (ax qx) ⟨aM 0 [.ptr 0 0 2 0 []], [(0, fW n (fun i => .int .i64 (z i)) a)], 1⟩ =
  some (aa.af [cw n (fun (i : Nat) ↦ int IntKind.i64 (z i)) a, (0 : Int) < (13 : Int), (13 : Int) < (2 : Int) ^ 62] (aa.af [cw n (fun (i : Nat) ↦ int IntKind.i64 (z i)) (br n a), (0 : Int) < (4 : Int), (4 : Int) < (2 : Int) ^ 62] (aa.fork (bW n (fun (i : Nat) ↦ int IntKind.i64 (z i)) (br n a) (4 : Int) == (3 : Int)) (aa.af [cw n (fun (i : Nat) ↦ int IntKind.i64 (z i)) (br n (br n a)), (0 : Int) < (4 : Int), (4 : Int) < (2 : Int) ^ 62, -(2 : Int) ^ 63 ≤ IntKind.i64.wrap (bW n (fun (i : Nat) ↦ int IntKind.i64 (z i)) a (13 : Int) - (6 : Int)), IntKind.i64.wrap (bW n (fun (i : Nat) ↦ int IntKind.i64 (z i)) a (13 : Int) - (6 : Int)) < (2 : Int) ^ 63, -(2 : Int) ^ 63 ≤ IntKind.i64.wrap ((1 : Int) + bW n (fun (i : Nat) ↦ int IntKind.i64 (z i)) (br n (br n a)) (4 : Int)), IntKind.i64.wrap ((1 : Int) + bW n (fun (i : Nat) ↦ int IntKind.i64 (z i)) (br n (br n a)) (4 : Int)) < (2 : Int) ^ 63, (0 : Nat) < 1] (aa.af [(0 : Nat) < 1] (aa.leaf aj.ret ([rat ((↑(IntKind.i64.wrap (bW n (fun (i : Nat) ↦ int IntKind.i64 (z i)) a (13 : Int) - (6 : Int))) : Rat) / (↑(IntKind.i64.wrap ((1 : Int) + bW n (fun (i : Nat) ↦ int IntKind.i64 (z i)) (br n (br n a)) (4 : Int))) : Rat)) 64], some ⟨false, true, 2, 1, fun (x : Nat) ↦ agg [ah 1 n fun (i : Nat) ↦ int IntKind.i64 (z i), int IntKind.i64 (br n (br n (br n a)))]⟩)))) (aa.af [-(2 : Int) ^ 63 ≤ IntKind.i64.wrap (bW n (fun (i : Nat) ↦ int IntKind.i64 (z i)) a (13 : Int) - (6 : Int)), IntKind.i64.wrap (bW n (fun (i : Nat) ↦ int IntKind.i64 (z i)) a (13 : Int) - (6 : Int)) < (2 : Int) ^ 63, (0 : Nat) < 1] (aa.af [(0 : Nat) < 1] (aa.leaf aj.ret ([rat (↑(IntKind.i64.wrap (bW n (fun (i : Nat) ↦ int IntKind.i64 (z i)) a (13 : Int) - (6 : Int))) : Rat) (max 1 (aY (IntKind.i64.wrap (bW n (fun (i : Nat) ↦ int IntKind.i64 (z i)) a (13 : Int) - (6 : Int))).natAbs))], some ⟨false, true, 2, 1, fun (x : Nat) ↦ agg [ah 1 n fun (i : Nat) ↦ int IntKind.i64 (z i), int IntKind.i64 (br n (br n a))]⟩))))))) := by kernel_rfl
theorem cw.number {n : Nat} {f : Nat → AV} {a : Int} (h : cw n f a) : cw n f (fT n f a) := by
 unfold fT; split
 ·exact h.next.next.next
 ·exact h.next.next
theorem QM {x y : Int} (h1 : -2 ^ 63 ≤ x) (h2 : x < 2 ^ 63) : Sz (x : Rat) 64 := CW.Bd (by
 have : aY x.natAbs ≤ 64 := fJ.2 (by omega)
 omega)
theorem Jv {k n : Nat} {z : Nat → Int} {a : Int} {o : aH} (ho : ∀ ρ, ck ρ o (fW n (fun i => .int .i64 (z i)) a)) (h : cw n (fun i => .int .i64 (z i)) a) (K : Nat) :
  aC P tA K [.ptr k 0 2 0 []] [(k, o)] ⟨.rat (ff n (fun i => .int .i64 (z i)) a) 64, [(k, fW n (fun i => .int .i64 (z i)) (fT n (fun i => .int .i64 (z i)) a))], []⟩ := by
 refine z4 hT L6 hm ND rfl rfl (of_decide_eq_true (by kernel_rfl)) ho 60 Ow (fun _ => ?_) K
 have a1 := pN (n := n) (f := fun i => .int .i64 (z i)) (a := a) (m := 13) (by omega)
 have a2 := lE (n := n) (f := fun i => .int .i64 (z i)) (a := a) (m := 13) (by omega)
 have b1 := pN (n := n) (f := fun i => .int .i64 (z i)) (a := br n (br n a)) (m := 4) (by omega)
 have b2 := lE (n := n) (f := fun i => .int .i64 (z i)) (a := br n (br n a)) (m := 4) (by omega)
 unfold ff fT
 generalize bW n (fun i => .int .i64 (z i)) a 13 = x at *
 generalize bW n (fun i => .int .i64 (z i)) (br n (br n a)) 4 = y at *
 generalize bW n (fun i => .int .i64 (z i)) (br n a) 4 = w at *
 have e1 : IntKind.i64.wrap (x - 6) = x - 6 := wrap_i64 (by omega) (by omega)
 have e2 : IntKind.i64.wrap (1 + y) = 1 + y := wrap_i64 (by omega) (by omega)
 rw [e1, e2]
 simp only [aa.all, az, beq_iff_eq, beq_eq_false_iff_ne, ne_eq]
 refine ⟨⟨h, by omega, by omega⟩, ⟨h.next, by omega, by omega⟩, fun hw => ⟨⟨h.next.next, by omega, by omega, by omega, by omega, by omega, by omega, by omega⟩, by omega, cF (by rw [if_pos hw]), _, rfl, rfl, nj rfl (by rw [if_pos hw])⟩, fun hw => ⟨⟨by omega, by omega, by omega⟩, by omega, ?_, _, rfl, rfl, nj rfl (by rw [if_neg hw])⟩⟩
 rw [if_neg hw]
 exact fZ rfl (QM (y := 0) (by omega) (by omega))
theorem RT : ∀ K args pre r, iQ xL K args pre = some r → aC P tA K args pre r := by
 refine vu fun {k n z a l v b q o} K hg ho hd hq => ?_
 unfold xL at hg
 split at hg
 ·simp only [Option.some.injEq, Prod.mk.injEq] at hg
  obtain ⟨rfl, rfl, rfl⟩ := hg
  exact Jv ho hd K
 ·simp at hg
def EU : Spec := bp fun l => match l with
 | [.ah 1 n _] => some (aJ (.bool (decide ((n : Int) ≤ 500))) [])
 | _ => none
theorem GZ : ∀ K args pre r, EU K args pre = some r → aC P wP K args pre r := by
 refine bK fun K args r hk hs _ => ?_
 split at hs
 ·simp only [Option.some.injEq] at hs
  subst hs
  refine bE hT aZ hm JU rfl (of_decide_eq_true (by kernel_rfl)) rfl 60 Pz (fun _ => ?_) K []
  exact .refl _
 ·simp at hs
def Cf : Spec := sG fun K l => match l with
 | [.ah 1 n f] => some ⟨.ptr K 0 2 0 [], [(K, fW n f 0)], []⟩
 | _ => none
theorem Qc : ∀ K args pre r, Cf K args pre = some r → aC P tZ K args pre r := by
 refine y7 fun K args r hk hs => ?_
 split at hs
 ·simp only [Option.some.injEq] at hs
  subst hs
  exact Ot hT aZ hm IF hk rfl (of_decide_eq_true (by kernel_rfl)) (by kernel_rfl) (q := []) 60 MQ (.inr rfl) (fun ρ => nj rfl rfl) K
 ·simp at hs
end Go.Am.B
