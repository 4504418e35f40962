/- ref01: Trim, Of, small, Cmp, Bits. -/
import Derived.Test.YtbghpkgbokbmlaaGreatB21
set_option linter.unusedVariables false
namespace Go.Am.B
open Go Go.Am.N AV
theorem Po : aS P j9 jf (au jf) := aN YX (by kernel_rfl) (by kernel_rfl) (by kernel_rfl)
theorem abt : aS P lF q7 (au q7) := aN aar (by kernel_rfl) (by kernel_rfl) (by kernel_rfl)
theorem XJ : aS P oM vX (au vX) := aN aa8 (by kernel_rfl) (by kernel_rfl) (by kernel_rfl)
theorem XM : aS P mh mD (au mD) := aN VV (by kernel_rfl) (by kernel_rfl) (by kernel_rfl)
theorem NF : aS P pU mI (au mI) := aN St (by kernel_rfl) (by kernel_rfl) (by kernel_rfl)
theorem Yq {n : Nat} {z : Nat → Nat} : aI T [] [] 30 [0, 3] (before (au jf) [1,1,0]) ⟨aO 0 [.aj 1 n (ag z)], [], 0⟩ =
  some (aa.leaf ah.normal ([aj 1 n (ag z), int IntKind.i64 (↑n : Int)], [])) := by kernel_rfl
theorem QE {n k : Nat} {z : Nat → Nat} : aI T [] [8, 15] 30 [0, 3] [part (au jf) [1,1,0,0,0]] ⟨aA [0, 3] [.aj 1 n (ag z), .int .i64 k], [], 0⟩ =
  some (aa.fork (decide ((↑k : Int) > (0 : Int))) (aa.af [decide ((↑k : Int) > (0 : Int)) = true, (0 : Int) ≤ IntKind.i64.wrap ((↑k : Int) - (1 : Int)) ∧ (IntKind.i64.wrap ((↑k : Int) - (1 : Int))).toNat < n] (aa.fork (bif true then (↑(z (IntKind.i64.wrap ((↑k : Int) - (1 : Int))).toNat) : Int) == (0 : Int) else false) (aa.leaf ah.normal ([aj 1 n (ag z), int IntKind.i64 (IntKind.i64.wrap ((↑k : Int) - (1 : Int)))], [])) (aa.leaf (ah.exit 0) ([aj 1 n (ag z), int IntKind.i64 (↑k : Int)], [])))) (aa.af [decide ((↑k : Int) > (0 : Int)) = false] (aa.fork false (aa.leaf ah.normal ([aj 1 n (ag z), int IntKind.i64 (IntKind.i64.wrap ((↑k : Int) - (1 : Int)))], [])) (aa.leaf (ah.exit 0) ([aj 1 n (ag z), int IntKind.i64 (↑k : Int)], []))))) := by kernel_rfl
theorem NQ {n k : Nat} {z : Nat → Nat} : b9 T [] [] 30 jf (behind (au jf) [1,1,0]) ⟨aA [0, 3] [.aj 1 n (ag z), .int .i64 k], [], 0⟩ =
  some (aa.af [(0 : Nat) * 1 ≤ 2 ^ 24, (0 : Int) ≤ (0 : Int) ∧ (0 : Int) ≤ (↑k : Int) ∧ (↑k : Int) ≤ (↑k : Int) ∧ (↑k : Int) ≤ (↑n : Int), ((0 : Nat) + ((↑k : Int).toNat - Int.toNat (0 : Int))) * ((4 : Nat) + 1) * 2 ≤ 2 ^ 47] (aa.leaf ah.ret [aj 1 ((0 : Nat) + ((↑k : Int).toNat - Int.toNat (0 : Int))) fun (i : Nat) ↦ if i + 0 < 0 then nth [] (int IntKind.u32 (0 : Int)) (i + 0) else ag z (i + 0 - 0 + Int.toNat (0 : Int))])) := by kernel_rfl
def p7 : Spec := bt (jk fun N n => aH (.mag N) [n < 2 ^ 40])
def dy : aT := [(j9, p7)]
theorem Nz {n : Nat} : bB T dy [] 30 q7 (au q7) ⟨aO 0 [.int .u64 n], [], 0⟩ =
  some (aa.af [(0 : Int) ≤ (32 : Int), (2 : Nat) * 1 ≤ 2 ^ 24, cM 2 fun (i : Nat) ↦ nth [int IntKind.u32 (IntKind.u32.wrap (↑n : Int)), int IntKind.u32 (IntKind.u32.wrap ((↑n : Int).fdiv ((2 : Int) ^ min (Int.toNat (32 : Int)) IntKind.u64.bits)))] (int IntKind.u32 (0 : Int)) (i + 0), (2 : Nat) < 2 ^ 40] (aa.leaf ah.ret [mag (val 2 fun (i : Nat) ↦ numOf (nth [int IntKind.u32 (IntKind.u32.wrap (↑n : Int)), int IntKind.u32 (IntKind.u32.wrap ((↑n : Int).fdiv ((2 : Int) ^ min (Int.toNat (32 : Int)) IntKind.u64.bits)))] (int IntKind.u32 (0 : Int)) (i + 0)))])) := by kernel_rfl
theorem YM {A : Nat} : bB T dy [6, 8, 14] 30 vX (au vX) ⟨aO 0 [.mag A], [], 0⟩ =
  some (aa.fork ((↑(nl A) : Int) == (0 : Int)) (aa.leaf ah.ret [int IntKind.u64 (0 : Int), AV.bool true]) (aa.fork ((↑(nl A) : Int) == (1 : Int)) (aa.af [(0 : Int) ≤ (0 : Int) ∧ Int.toNat (0 : Int) < nl A] (aa.leaf ah.ret [int IntKind.u64 (IntKind.u64.wrap (↑(aq A (Int.toNat (0 : Int))) : Int)), AV.bool true])) (aa.fork ((↑(nl A) : Int) == (2 : Int)) (aa.af [(0 : Int) ≤ (0 : Int) ∧ Int.toNat (0 : Int) < nl A, (0 : Int) ≤ (1 : Int) ∧ Int.toNat (1 : Int) < nl A, (0 : Int) ≤ (32 : Int)] (aa.leaf ah.ret [int IntKind.u64 (IntKind.u64.wrap (↑(BitVec.ofInt IntKind.u64.bits (IntKind.u64.wrap (↑(aq A (Int.toNat (0 : Int))) : Int)) ||| BitVec.ofInt IntKind.u64.bits (IntKind.u64.wrap (IntKind.u64.wrap (↑(aq A (Int.toNat (1 : Int))) : Int) * (2 : Int) ^ min (Int.toNat (32 : Int)) IntKind.u64.bits))).toNat : Int)), AV.bool true])) (aa.leaf ah.ret [int IntKind.u64 (0 : Int), AV.bool false])))) := by kernel_rfl
theorem Tb {A B : Nat} : aI T [] [10, 15] 30 [0, 1, 5, 4] (before (au mD) [1,1,0,1]) ⟨aO 0 [.mag A, .mag B], [], 0⟩ =
  some (aa.fork ((↑(nl A) : Int) != (↑(nl B) : Int)) (aa.fork (decide ((↑(nl A) : Int) < (↑(nl B) : Int))) (aa.leaf ah.ret ([mag A, mag B, tuple [], int IntKind.i64 (-1 : Int)], [])) (aa.leaf ah.ret ([mag A, mag B, tuple [], int IntKind.i64 (1 : Int)], []))) (aa.leaf ah.normal ([mag A, mag B, int IntKind.i64 (IntKind.i64.wrap ((↑(nl A) : Int) - (1 : Int))), int IntKind.i64 (0 : Int)], []))) := by kernel_rfl
theorem YV {A B k : Nat} : aI T [] [20, 31, 40] 30 [0, 1, 5, 4] [part (au mD) [1,1,0,1,0,0]] ⟨aA [0, 1, 5, 4] [.mag A, .mag B, .int .i64 ((k : Int) - 1), .int .i64 0], [], 0⟩ =
  some (aa.fork (decide ((↑k : Int) - (1 : Int) ≥ (0 : Int))) (aa.af [(0 : Int) ≤ (↑k : Int) - (1 : Int) ∧ ((↑k : Int) - (1 : Int)).toNat < nl A, (0 : Int) ≤ (↑k : Int) - (1 : Int) ∧ ((↑k : Int) - (1 : Int)).toNat < nl B] (aa.fork (decide ((↑(aq A ((↑k : Int) - (1 : Int)).toNat) : Int) < (↑(aq B ((↑k : Int) - (1 : Int)).toNat) : Int))) (aa.leaf ah.ret ([mag A, mag B, int IntKind.i64 ((↑k : Int) - (1 : Int)), int IntKind.i64 (-1 : Int)], [])) (aa.af [(0 : Int) ≤ (↑k : Int) - (1 : Int) ∧ ((↑k : Int) - (1 : Int)).toNat < nl A, (0 : Int) ≤ (↑k : Int) - (1 : Int) ∧ ((↑k : Int) - (1 : Int)).toNat < nl B] (aa.fork (decide ((↑(aq A ((↑k : Int) - (1 : Int)).toNat) : Int) > (↑(aq B ((↑k : Int) - (1 : Int)).toNat) : Int))) (aa.leaf ah.ret ([mag A, mag B, int IntKind.i64 ((↑k : Int) - (1 : Int)), int IntKind.i64 (1 : Int)], [])) (aa.leaf ah.normal ([mag A, mag B, int IntKind.i64 (IntKind.i64.wrap ((↑k : Int) - (1 : Int) - (1 : Int))), int IntKind.i64 (0 : Int)], [])))))) (aa.leaf (ah.exit 0) ([mag A, mag B, int IntKind.i64 ((↑k : Int) - (1 : Int)), int IntKind.i64 (0 : Int)], []))) := by kernel_rfl
theorem Pu {A B k : Nat} : b9 T [] [] 30 mD (behind (au mD) [1,1,0,1]) ⟨aA [0, 1, 5, 4] [.mag A, .mag B, .int .i64 ((k : Int) - 1), .int .i64 0], [], 0⟩ =
  some (aa.leaf ah.ret [int IntKind.i64 (0 : Int)]) := by kernel_rfl
theorem M4 {n : Nat} {z : Nat → Nat} : aI T [] [7] 30 [3, 4, 2] (before (au mI) [1,1,1,0,1]) ⟨aO 0 [.aj 1 n (ag z)], [], 0⟩ =
  some (aa.fork ((↑n : Int) == (0 : Int)) (aa.leaf ah.ret ([tuple [], tuple [], int IntKind.i64 (0 : Int)], [])) (aa.af [(0 : Int) ≤ IntKind.i64.wrap ((↑n : Int) - (1 : Int)) ∧ (IntKind.i64.wrap ((↑n : Int) - (1 : Int))).toNat < n] (aa.leaf ah.normal ([int IntKind.i64 (IntKind.i64.wrap ((32 : Int) * IntKind.i64.wrap ((↑n : Int) - (1 : Int)))), int IntKind.u32 (↑(z (IntKind.i64.wrap ((↑n : Int) - (1 : Int))).toNat) : Int), int IntKind.i64 (0 : Int)], [])))) := by kernel_rfl
theorem aa3 {x y : Nat} : aI T [] [19] 30 [3, 4, 2] [part (au mI) [1,1,1,0,1,0,0]] ⟨aA [3, 4, 2] [.int .i64 x, .int .u32 y, .int .i64 0], [], 0⟩ =
  some (aa.fork ((↑y : Int) != (0 : Int)) (aa.af [(0 : Int) ≤ (1 : Int)] (aa.leaf ah.normal ([int IntKind.i64 (IntKind.i64.wrap ((↑x : Int) + (1 : Int))), int IntKind.u32 ((↑y : Int).fdiv ((2 : Int) ^ min (Int.toNat (1 : Int)) IntKind.u32.bits)), int IntKind.i64 (0 : Int)], []))) (aa.leaf (ah.exit 0) ([int IntKind.i64 (↑x : Int), int IntKind.u32 (↑y : Int), int IntKind.i64 (0 : Int)], []))) := by kernel_rfl
theorem abF {x y : Nat} : b9 T [] [] 30 mI (behind (au mI) [1,1,1,0,1]) ⟨aA [3, 4, 2] [.int .i64 x, .int .u32 y, .int .i64 0], [], 0⟩ =
  some (aa.leaf ah.ret [int IntKind.i64 (↑x : Int)]) := by kernel_rfl
theorem Me {n : Nat} {z : Nat → Nat} (hz : ∀ i, i < n → z i < 2 ^ 32) (hn : n < 2 ^ 40) (K : Nat) : aB P j9 K [.aj 1 n (ag z)] [] (aH (.mag (val n z)) []) := by
 refine fq hT Po rfl (of_decide_eq_true (by kernel_rfl)) rfl (fun _ c h0 => ?_) K []
 refine ak.hole [1,1,0] (by kernel_rfl) (az.bk hT aY hm 30 [0, 3] Yq (by kernel_rfl) fun s' hv => bL ?_)
 refine ak.fB (i := 0) (y := part (au jf) [1,1,0,0,0]) (by kernel_rfl) [0, 3] 0 (h0 _) (fun k : Nat => [.aj 1 n (ag z), .int .i64 k]) (fun _ => []) (fun _ => rfl) (fun _ => trivial)
  (fun k => k ≤ n ∧ ∀ i, k ≤ i → i < n → z i = 0) id n hv ⟨Nat.le_refl _, fun i h1 h2 => by omega⟩ ?_
 rintro j ⟨hj, hzj⟩
 refine ak.bk hT aY hm 30 [0, 3] QE (by kernel_rfl) ?_
 have fin : (j = 0 ∨ z (j - 1) ≠ 0) → ∀ s', aW [0, 3] s' = some ([.aj 1 n (ag z), .int .i64 j], []) → az P c jf.ntmps (behind (au jf) [1,1,0]) s' (dD c (Fin T jf (.mag (val n z)))) := by
  intro hj0 s' hv
  refine az.ig hT aY hm 30 hv (h0 0) rfl trivial NQ (by kernel_rfl) (by kernel_rfl) ?_
  simp only [aa.all, ax, Int.toNat_natCast, Int.toNat_zero, Nat.zero_add, Nat.sub_zero, Nat.add_zero]
  have e : val n z = val j z := jQ hj hzj
  refine ⟨⟨by omega, by omega, by omega⟩, iQ (by rw [e, xb (fun i hi => hz i (by omega)) hj0]) fun i hi => ?_⟩
  rw [if_neg (by omega), e, mz (fun j hj => hz j (by omega)) hi]
  rfl
 have hw : 0 < j → IntKind.i64.wrap ((j : Int) - 1) = ((j - 1 : Nat) : Int) := fun h => by rw [wrap_i64 (by omega) (by omega)]; omega
 refine ⟨fun hb => ?_, fun hb => ?_⟩
 ·have h1 : 0 < j := by simpa using hb
  rw [hw h1]
  have hj1 : j - 1 < n := by omega
  refine ⟨⟨hb, by omega, by rw [Int.toNat_natCast]; exact hj1⟩, fun hc s' hv => ?_, fun hc s' hv => ?_⟩
  ·refine ⟨j - 1, hv, ⟨by omega, fun i h1 h2 => ?_⟩, by simp; omega⟩
   by_cases hi : i = j - 1
   ·subst hi; simpa using hc
   ·exact hzj i (by omega) h2
  ·exact dQ (fin (.inr (by simpa using hc)) s' hv)
 ·have h1 : j = 0 := by simpa using hb
  refine ⟨hb, fun hc => by simp at hc, fun hc s' hv => dQ (fin (.inl h1) s' hv)⟩
theorem uJ : ∀ K args pre r, p7 K args pre = some r → aB P j9 K args pre r :=
 bJ (pZ fun _ _ K hz need => Me hz need K)
theorem dB : bh P dy := aE uJ aY
theorem Z4 {x : Nat} (hx : x < 2 ^ 64) (K : Nat) : aB P lF K [.int .u64 x] [] (aH (.mag x) []) := by
 refine bF hT dB hm abt rfl (of_decide_eq_true (by kernel_rfl)) rfl 30 Nz (fun _ => ?_) K []
 simp only [aa.all, ax, iU]
 refine ⟨⟨by omega, by omega, fun i hi => ?_, by omega⟩, cR (congrArg AV.mag ?_)⟩
 ·match i, hi with
  | 0, _ => exact ⟨x % 2 ^ 32, by omega, by simp [nth, gG]⟩
  | 1, _ => exact ⟨x / 4294967296, by omega, by simp [nth, iZ]; omega⟩
 ·rw [val_two]
  simp [nth, numOf, iZ]
  omega
def qS : Spec := bt fun l => match l with
 | [.int .u64 x] => some (aH (.mag x.toNat) [0 ≤ x ∧ x < 2 ^ 64])
 | _ => none
theorem xZ : ∀ K args pre r, qS K args pre = some r → aB P lF K args pre r := by
 refine bJ fun K args r hk hs _ => ?_
 split at hs
 ·simp only [Option.some.injEq] at hs
  subst hs
  intro need
  obtain ⟨h1, h2⟩ := need
  rename_i x
  obtain ⟨y, rfl⟩ := Int.eq_ofNat_of_zero_le h1
  exact Z4 (x := y) (by omega) K trivial
 ·simp at hs
def cJ (A : Nat) : Bool := decide (A < 18446744073709551616)
theorem Zv {A : Nat} (K : Nat) : aB P oM K [.mag A] [] (aH (.tuple [.int .u64 (if cJ A then A else 0 : Nat), .bool (cJ A)]) []) := by
 refine bF hT dB hm XJ rfl (of_decide_eq_true (by kernel_rfl)) rfl 30 YM (fun _ => ?_) K []
 simp only [aa.all, ax, beq_iff_eq, beq_eq_false_iff_ne, ne_eq, Int.toNat_zero, show Int.toNat 1 = 1 from rfl]
 have hv := eJ (N := A)
 have l0 := cG (N := A) (i := 0)
 have l1 := cG (N := A) (i := 1)
 have yes : ∀ {x : Int}, A < 2 ^ 64 → x = (A : Nat) → dL [.int .u64 x, .bool true] (.tuple [.int .u64 (if cJ A then A else 0 : Nat), .bool (cJ A)]) := fun h hx => by
  have : cJ A = true := by unfold cJ; simpa using h
  rw [this, if_pos rfl]
  exact ⟨br hx, .refl _, trivial⟩
 refine ⟨fun hb => yes ?_ ?_, fun hb => ⟨fun h1 => ⟨by omega, yes ?_ ?_⟩, fun h1 => ⟨fun h2 => ⟨⟨by omega, by omega, by omega⟩, yes ?_ ?_⟩, fun h2 => ?_⟩⟩⟩
 ·have : A = 0 := gU.1 (by omega)
  omega
 ·have : A = 0 := gU.1 (by omega)
  rw [this]; rfl
 ·exact mq (by omega)
 ·rw [show nl A = 1 by omega, val, val] at hv
  rw [bC (by omega) (by omega)]
  simp at hv; omega
 ·exact mq (by omega)
 ·rw [show nl A = 2 by omega, val, val, val] at hv
  have e1 : IntKind.u64.wrap (aq A 0 : Int) = ((aq A 0 : Nat) : Int) := bC (by omega) (by omega)
  have e2 : IntKind.u64.wrap (aq A 1 : Int) = ((aq A 1 : Nat) : Int) := bC (by omega) (by omega)
  have e3 : IntKind.u64.wrap ((aq A 1 : Int) * 2 ^ min (Int.toNat 32) IntKind.u64.bits) = ((aq A 1 * 4294967296 : Nat) : Int) := by
   rw [tq, bC (by omega) (by omega)]; omega
  rw [e1, e2, e3, oD (by omega) (by omega)]
  congr 1
  rw [Nat.or_comm, show 4294967296 = 2 ^ 32 from rfl, nZ l0]
  simp at hv; omega
 ·have : cJ A = false := by
   unfold cJ
   simp only [decide_eq_false_iff_not]
   intro h
   have : nl A ≤ 2 := cu.2 h
   omega
  rw [this]
  exact ⟨.refl _, .refl _, trivial⟩
def Ch : Spec := bt fun l => match l with
 | [a] => match fZ a with
  | some A => some (aH (.tuple [.int .u64 (if cJ A then A else 0 : Nat), .bool (cJ A)]) [])
  | none => none
 | _ => none
theorem Hp : ∀ K args pre r, Ch K args pre = some r → aB P oM K args pre r := by
 refine bJ fun K args r hk hs _ => ?_
 split at hs
 ·split at hs
  ·rename_i A hA
   simp only [Option.some.injEq] at hs
   subst hs
   exact fu (Zv K) hk ⟨iI hA, trivial⟩ []
  ·simp at hs
 ·simp at hs
theorem LK {A B : Nat} (hA : nl A < 2 ^ 40) (hB : nl B < 2 ^ 40) (K : Nat) : aB P mh K [.mag A, .mag B] [] (aH (.int .i64 (bO A B)) []) := by
 refine fq hT XM rfl (of_decide_eq_true (by kernel_rfl)) rfl (fun _ c h0 => ?_) K []
 refine ak.hole [1,1,0,1] (by kernel_rfl) (az.bk hT aY hm 30 [0, 1, 5, 4] Tb (by kernel_rfl) ?_)
 simp only [aa.all, ax, decide_eq_true_eq, decide_eq_false_iff_not, bne_iff_ne, ne_eq, Int.natCast_inj, bne_eq_false_iff_eq]
 refine ⟨fun hb => ⟨fun hb2 s' hv => dS (.inl ?_), fun hb2 s' hv => dS (.inl ?_)⟩, fun hb s' hv => bL ?_⟩
 ·have h1 : A < B := wD (by omega)
  exact eW (us := [.int .i64 (-1)]) (.inr rfl) hv (by kernel_rfl) (br (by simp [bO, h1]))
 ·have h1 : B < A := wD (by omega)
  exact eW (us := [.int .i64 1]) (.inr rfl) hv (by kernel_rfl) (br (by simp [bO, h1]; omega))
 refine ak.fB (i := 0) (y := part (au mD) [1,1,0,1,0,0]) (by kernel_rfl) [0, 1, 5, 4] 0 (h0 _) (fun k : Nat => [.mag A, .mag B, .int .i64 ((k : Int) - 1), .int .i64 0]) (fun _ => []) (fun _ => rfl) (fun _ => trivial)
  (fun k => k ≤ nl A ∧ ∀ j, k ≤ j → j < nl A → aq A j = aq B j) id (nl A) (cH hv (by rw [wrap_i64 (by omega) (by omega)]) rfl) ⟨by simp, fun j h1 h2 => by omega⟩ ?_
 rintro k ⟨hk, hlim⟩
 refine ak.bk hT aY hm 30 [0, 1, 5, 4] YV (by kernel_rfl) ?_
 simp only [aa.all, ax, decide_eq_true_eq, decide_eq_false_iff_not]
 refine ⟨fun hb2 => ?_, fun hb2 s' hv => dQ ?_⟩
 ·obtain ⟨j, rfl⟩ : ∃ j, k = j + 1 := ⟨k - 1, by omega⟩
  have e : (((j + 1 : Nat) : Int) - 1).toNat = j := by omega
  rw [e]
  refine ⟨⟨by omega, by omega⟩, fun hlt s' hv => Gh (dS (.inl ?_)), fun hlt => ⟨⟨by omega, by omega⟩, fun hgt s' hv => Gh (dS (.inl ?_)), fun hgt s' hv => ?_⟩⟩
  ·have h1 : A < B := yY hb (k := j) (by omega) (fun i h1 h2 => hlim i (by omega) h2) (by omega)
   exact eW (us := [.int .i64 (-1)]) (.inr rfl) hv (by kernel_rfl) (br (by simp [bO, h1]))
  ·have h1 : B < A := yY hb.symm (k := j) (by omega) (fun i h1 h2 => (hlim i (by omega) (by omega)).symm) (by omega)
   exact eW (us := [.int .i64 1]) (.inr rfl) hv (by kernel_rfl) (br (by simp [bO, h1]; omega))
  ·refine ⟨j, cH hv (by rw [wrap_i64 (by omega) (by omega)]; congr 4; omega) rfl, ⟨by omega, fun i h1 h2 => ?_⟩, by simp⟩
   by_cases hi : i = j
   ·subst hi; omega
   ·exact hlim i (by omega) h2
 ·have hk0 : k = 0 := by omega
  have hAB : A = B := AI hb fun i hi => hlim i (by omega) hi
  exact bL (az.ig hT aY hm 30 hv (h0 0) rfl trivial Pu (by kernel_rfl) (by kernel_rfl) (br (by simp [bO, hAB])))
def jH (g : Nat → Nat → AV) (l : Nat → Nat → List Prop) : Spec := bt fun a => match a with
 | [x, y] => match fZ x, fZ y with
  | some A, some B => some (aH (g A B) (l A B))
  | _, _ => none
 | _ => none
theorem mO {f : FuncId} {g : Nat → Nat → AV} {l : Nat → Nat → List Prop} (h : ∀ {A B : Nat}, ax (l A B) → ∀ K, aB P f K [.mag A, .mag B] [] (aH (g A B) [])) : ∀ K args pre r, jH g l K args pre = some r → aB P f K args pre r := by
 refine bJ fun K args r hk hs _ => ?_
 split at hs
 ·split at hs
  ·rename_i A B hA hB
   simp only [Option.some.injEq] at hs
   subst hs
   exact fun need => fu (h need K) hk ⟨iI hA, iI hB, trivial⟩ [] trivial
  ·simp at hs
 ·simp at hs
abbrev Bm (A B : Nat) : List Prop := [nl A < 2 ^ 40, nl B < 2 ^ 40]
def uy : Spec := jH (fun A B => .int .i64 (bO A B)) Bm
theorem yE : ∀ K args pre r, uy K args pre = some r → aB P mh K args pre r := mO fun h => LK h.1 h.2
theorem SP {n : Nat} {z : Nat → Nat} (hz : ∀ i, i < n → z i < 2 ^ 32) (hn : n < 2 ^ 40) (hnl : nl (val n z) = n) (K : Nat) : aB P pU K [.aj 1 n (ag z)] [] (aH (.int .i64 (aV (val n z) : Nat)) []) := by
 refine fq hT NF rfl (of_decide_eq_true (by kernel_rfl)) rfl (fun _ c h0 => ?_) K []
 refine ak.hole [1,1,1,0,1] (by kernel_rfl) (az.bk hT aY hm 30 [3, 4, 2] M4 (by kernel_rfl) ?_)
 simp only [aa.all, ax, beq_iff_eq, beq_eq_false_iff_ne, ne_eq]
 refine ⟨fun hb s' hv => dS (.inl ?_), fun hb => ?_⟩
 ·have h1 : n = 0 := by omega
  have h2 : val n z = 0 := by rw [h1]; rfl
  exact eW (us := [.int .i64 0]) (.inr rfl) hv (by kernel_rfl) (br (by rw [h2]; rfl))
 have w1 : IntKind.i64.wrap ((n : Int) - 1) = ((n - 1 : Nat) : Int) := dj (by omega) (by omega)
 have w2 : IntKind.i64.wrap (32 * ((n - 1 : Nat) : Int)) = ((32 * (n - 1) : Nat) : Int) := dj (by omega) (by omega)
 rw [w1, w2]
 simp only [Int.toNat_natCast]
 refine ⟨by omega, fun s' hv => bL ?_⟩
 have hzt := hz (n - 1) (by omega)
 have htot : aV (val n z) = 32 * (n - 1) + aV (z (n - 1)) := by
  have h0 : val n z ≠ 0 := eH.1 (by omega)
  rw [HJ h0, hnl, mz hz (by omega)]
 refine ak.fB (i := 0) (y := part (au mI) [1,1,1,0,1,0,0]) (by kernel_rfl) [3, 4, 2] 0 (h0 _) (fun p : Nat × Nat => [.int .i64 (p.1 : Nat), .int .u32 (p.2 : Nat), .int .i64 0]) (fun _ => []) (fun _ => rfl) (fun _ => trivial)
  (fun p => p.1 + aV p.2 = aV (val n z) ∧ p.2 < 2 ^ 32) (fun p => p.2) (32 * (n - 1), z (n - 1)) hv ⟨htot.symm, hzt⟩ ?_
 rintro ⟨x, y⟩ ⟨hxy, hy⟩
 simp only at hxy hy
 have hb32 : aV (z (n - 1)) ≤ 32 := gj.2 hzt
 refine ak.bk hT aY hm 30 [3, 4, 2] aa3 (by kernel_rfl) ?_
 rw [uv (by decide) (by decide)]
 simp only [aa.all, ax, bne_iff_ne, ne_eq, bne_eq_false_iff_eq, show Int.toNat 1 = 1 from rfl]
 refine ⟨fun hc => ⟨by omega, fun s' hv => ?_⟩, fun hc s' hv => dQ (bL ?_)⟩
 ·have hy0 : 0 < y := by omega
  have e : aV y = 1 + aV (y / 2) := by
   by_cases h1 : y = 1
   ·rw [h1]; decide
   ·exact qb (k := 1) (by omega)
  have hd : y / 2 < y := by omega
  exact ⟨(x + 1, y / 2), cH hv (by rw [dj (a := (x : Int) + 1) (n := x + 1) (by omega) (by omega)]) rfl, ⟨by simp only; omega, by simp only; omega⟩, by simp only; omega⟩
 ·have hy0 : y = 0 := by omega
  refine az.ig hT aY hm 30 hv (h0 0) rfl trivial abF (by kernel_rfl) (by kernel_rfl) (br ?_)
  rw [hy0] at hxy
  simp [aV] at hxy
  rw [hxy]; simp [aV]
def zD : Spec := bt (jk fun N n => aH (.int .i64 (aV N : Nat)) [n < 2 ^ 40, nl N = n])
theorem FX : ∀ K args pre r, zD K args pre = some r → aB P pU K args pre r :=
 bJ (pZ fun _ _ K hz need => SP hz need.1 need.2 K)
end Go.Am.B
