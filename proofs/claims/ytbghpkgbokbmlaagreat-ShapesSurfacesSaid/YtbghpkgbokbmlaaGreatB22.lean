/- ref01: Trim, Of, small, Cmp, Bits. -/
import Derived.Test.YtbghpkgbokbmlaaGreatB21
set_option linter.unusedVariables false
namespace Go.Am.B
open Go Go.Am.N AV
theorem WX : aP P k8 jo (au jo) := aL ZX (by kernel_rfl) (by kernel_rfl) (by kernel_rfl)
theorem L4 : aP P lN tV (au tV) := aL KQ (by kernel_rfl) (by kernel_rfl) (by kernel_rfl)
theorem XU : aP P qq uG (au uG) := aL Rf (by kernel_rfl) (by kernel_rfl) (by kernel_rfl)
theorem ZK : aP P lK mc (au mc) := aL KJ (by kernel_rfl) (by kernel_rfl) (by kernel_rfl)
theorem VH : aP P tr mu (au mu) := aL NA (by kernel_rfl) (by kernel_rfl) (by kernel_rfl)
theorem XA {n : Nat} {z : Nat → Nat} : aI T [] [] 30 [0, 3] (before (au jo) [1,1,0]) ⟨aK 0 [.aj 1 n (ag z)], [], 0⟩ =
  some (aa.leaf ah.normal ([aj 1 n (ag z), int IntKind.i64 (↑n : Int)], [])) := by kernel_rfl
theorem Ze {n k : Nat} {z : Nat → Nat} : aI T [] [8, 15] 30 [0, 3] [part (au jo) [1,1,0,0,0]] ⟨aB [0, 3] [.aj 1 n (ag z), .int .i64 k], [], 0⟩ =
  some (aa.fork (decide ((↑k : Int) > (0 : Int))) (aa.af [decide ((↑k : Int) > (0 : Int)) = true, (0 : Int) ≤ IntKind.i64.wrap ((↑k : Int) - (1 : Int)) ∧ (IntKind.i64.wrap ((↑k : Int) - (1 : Int))).toNat < n] (aa.fork (bif true then (↑(z (IntKind.i64.wrap ((↑k : Int) - (1 : Int))).toNat) : Int) == (0 : Int) else false) (aa.leaf ah.normal ([aj 1 n (ag z), int IntKind.i64 (IntKind.i64.wrap ((↑k : Int) - (1 : Int)))], [])) (aa.leaf (ah.exit 0) ([aj 1 n (ag z), int IntKind.i64 (↑k : Int)], [])))) (aa.af [decide ((↑k : Int) > (0 : Int)) = false] (aa.fork false (aa.leaf ah.normal ([aj 1 n (ag z), int IntKind.i64 (IntKind.i64.wrap ((↑k : Int) - (1 : Int)))], [])) (aa.leaf (ah.exit 0) ([aj 1 n (ag z), int IntKind.i64 (↑k : Int)], []))))) := by kernel_rfl
theorem Xj {n k : Nat} {z : Nat → Nat} : ct T [] [] 30 jo (behind (au jo) [1,1,0]) ⟨aB [0, 3] [.aj 1 n (ag z), .int .i64 k], [], 0⟩ =
  some (aa.af [(0 : Nat) * 1 ≤ 2 ^ 24, (0 : Int) ≤ (0 : Int) ∧ (0 : Int) ≤ (↑k : Int) ∧ (↑k : Int) ≤ (↑k : Int) ∧ (↑k : Int) ≤ (↑n : Int), ((0 : Nat) + ((↑k : Int).toNat - Int.toNat (0 : Int))) * ((4 : Nat) + 1) * 2 ≤ 2 ^ 47] (aa.leaf ah.ret [aj 1 ((0 : Nat) + ((↑k : Int).toNat - Int.toNat (0 : Int))) fun (i : Nat) ↦ if i + 0 < 0 then nth [] (int IntKind.u32 (0 : Int)) (i + 0) else ag z (i + 0 - 0 + Int.toNat (0 : Int))])) := by kernel_rfl
def qp : Spec := bA (ju fun N n => aF (.mag N) [n < 2 ^ 40])
def dx : aO := [(k8, qp)]
theorem T6 {n : Nat} : bq T dx [] 30 tV (au tV) ⟨aK 0 [.int .u64 n], [], 0⟩ =
  some (aa.af [(0 : Int) ≤ (32 : Int), (2 : Nat) * 1 ≤ 2 ^ 24, cO 2 fun (i : Nat) ↦ nth [int IntKind.u32 (IntKind.u32.wrap (↑n : Int)), int IntKind.u32 (IntKind.u32.wrap ((↑n : Int).fdiv ((2 : Int) ^ min (Int.toNat (32 : Int)) IntKind.u64.bits)))] (int IntKind.u32 (0 : Int)) (i + 0), (2 : Nat) < 2 ^ 40] (aa.leaf ah.ret [mag (val 2 fun (i : Nat) ↦ numOf (nth [int IntKind.u32 (IntKind.u32.wrap (↑n : Int)), int IntKind.u32 (IntKind.u32.wrap ((↑n : Int).fdiv ((2 : Int) ^ min (Int.toNat (32 : Int)) IntKind.u64.bits)))] (int IntKind.u32 (0 : Int)) (i + 0)))])) := by kernel_rfl
theorem Sc {A : Nat} : bq T dx [6, 8, 14] 30 uG (au uG) ⟨aK 0 [.mag A], [], 0⟩ =
  some (aa.fork ((↑(nl A) : Int) == (0 : Int)) (aa.leaf ah.ret [int IntKind.u64 (0 : Int), AV.bool true]) (aa.fork ((↑(nl A) : Int) == (1 : Int)) (aa.af [(0 : Int) ≤ (0 : Int) ∧ Int.toNat (0 : Int) < nl A] (aa.leaf ah.ret [int IntKind.u64 (IntKind.u64.wrap (↑(aq A (Int.toNat (0 : Int))) : Int)), AV.bool true])) (aa.fork ((↑(nl A) : Int) == (2 : Int)) (aa.af [(0 : Int) ≤ (0 : Int) ∧ Int.toNat (0 : Int) < nl A, (0 : Int) ≤ (1 : Int) ∧ Int.toNat (1 : Int) < nl A, (0 : Int) ≤ (32 : Int)] (aa.leaf ah.ret [int IntKind.u64 (IntKind.u64.wrap (↑(BitVec.ofInt IntKind.u64.bits (IntKind.u64.wrap (↑(aq A (Int.toNat (0 : Int))) : Int)) ||| BitVec.ofInt IntKind.u64.bits (IntKind.u64.wrap (IntKind.u64.wrap (↑(aq A (Int.toNat (1 : Int))) : Int) * (2 : Int) ^ min (Int.toNat (32 : Int)) IntKind.u64.bits))).toNat : Int)), AV.bool true])) (aa.leaf ah.ret [int IntKind.u64 (0 : Int), AV.bool false])))) := by kernel_rfl
theorem W8 {A B : Nat} : aI T [] [10, 15] 30 [0, 1, 5, 4] (before (au mc) [1,1,0,1]) ⟨aK 0 [.mag A, .mag B], [], 0⟩ =
  some (aa.fork ((↑(nl A) : Int) != (↑(nl B) : Int)) (aa.fork (decide ((↑(nl A) : Int) < (↑(nl B) : Int))) (aa.leaf ah.ret ([mag A, mag B, tuple [], int IntKind.i64 (-1 : Int)], [])) (aa.leaf ah.ret ([mag A, mag B, tuple [], int IntKind.i64 (1 : Int)], []))) (aa.leaf ah.normal ([mag A, mag B, int IntKind.i64 (IntKind.i64.wrap ((↑(nl A) : Int) - (1 : Int))), int IntKind.i64 (0 : Int)], []))) := by kernel_rfl
theorem Wj {A B k : Nat} : aI T [] [20, 31, 40] 30 [0, 1, 5, 4] [part (au mc) [1,1,0,1,0,0]] ⟨aB [0, 1, 5, 4] [.mag A, .mag B, .int .i64 ((k : Int) - 1), .int .i64 0], [], 0⟩ =
  some (aa.fork (decide ((↑k : Int) - (1 : Int) ≥ (0 : Int))) (aa.af [(0 : Int) ≤ (↑k : Int) - (1 : Int) ∧ ((↑k : Int) - (1 : Int)).toNat < nl A, (0 : Int) ≤ (↑k : Int) - (1 : Int) ∧ ((↑k : Int) - (1 : Int)).toNat < nl B] (aa.fork (decide ((↑(aq A ((↑k : Int) - (1 : Int)).toNat) : Int) < (↑(aq B ((↑k : Int) - (1 : Int)).toNat) : Int))) (aa.leaf ah.ret ([mag A, mag B, int IntKind.i64 ((↑k : Int) - (1 : Int)), int IntKind.i64 (-1 : Int)], [])) (aa.af [(0 : Int) ≤ (↑k : Int) - (1 : Int) ∧ ((↑k : Int) - (1 : Int)).toNat < nl A, (0 : Int) ≤ (↑k : Int) - (1 : Int) ∧ ((↑k : Int) - (1 : Int)).toNat < nl B] (aa.fork (decide ((↑(aq A ((↑k : Int) - (1 : Int)).toNat) : Int) > (↑(aq B ((↑k : Int) - (1 : Int)).toNat) : Int))) (aa.leaf ah.ret ([mag A, mag B, int IntKind.i64 ((↑k : Int) - (1 : Int)), int IntKind.i64 (1 : Int)], [])) (aa.leaf ah.normal ([mag A, mag B, int IntKind.i64 (IntKind.i64.wrap ((↑k : Int) - (1 : Int) - (1 : Int))), int IntKind.i64 (0 : Int)], [])))))) (aa.leaf (ah.exit 0) ([mag A, mag B, int IntKind.i64 ((↑k : Int) - (1 : Int)), int IntKind.i64 (0 : Int)], []))) := by kernel_rfl
theorem LC {A B k : Nat} : ct T [] [] 30 mc (behind (au mc) [1,1,0,1]) ⟨aB [0, 1, 5, 4] [.mag A, .mag B, .int .i64 ((k : Int) - 1), .int .i64 0], [], 0⟩ =
  some (aa.leaf ah.ret [int IntKind.i64 (0 : Int)]) := by kernel_rfl
theorem LP {n : Nat} {z : Nat → Nat} : aI T [] [7] 30 [3, 4, 2] (before (au mu) [1,1,1,0,1]) ⟨aK 0 [.aj 1 n (ag z)], [], 0⟩ =
  some (aa.fork ((↑n : Int) == (0 : Int)) (aa.leaf ah.ret ([tuple [], tuple [], int IntKind.i64 (0 : Int)], [])) (aa.af [(0 : Int) ≤ IntKind.i64.wrap ((↑n : Int) - (1 : Int)) ∧ (IntKind.i64.wrap ((↑n : Int) - (1 : Int))).toNat < n] (aa.leaf ah.normal ([int IntKind.i64 (IntKind.i64.wrap ((32 : Int) * IntKind.i64.wrap ((↑n : Int) - (1 : Int)))), int IntKind.u32 (↑(z (IntKind.i64.wrap ((↑n : Int) - (1 : Int))).toNat) : Int), int IntKind.i64 (0 : Int)], [])))) := by kernel_rfl
theorem SU {x y : Nat} : aI T [] [19] 30 [3, 4, 2] [part (au mu) [1,1,1,0,1,0,0]] ⟨aB [3, 4, 2] [.int .i64 x, .int .u32 y, .int .i64 0], [], 0⟩ =
  some (aa.fork ((↑y : Int) != (0 : Int)) (aa.af [(0 : Int) ≤ (1 : Int)] (aa.leaf ah.normal ([int IntKind.i64 (IntKind.i64.wrap ((↑x : Int) + (1 : Int))), int IntKind.u32 ((↑y : Int).fdiv ((2 : Int) ^ min (Int.toNat (1 : Int)) IntKind.u32.bits)), int IntKind.i64 (0 : Int)], []))) (aa.leaf (ah.exit 0) ([int IntKind.i64 (↑x : Int), int IntKind.u32 (↑y : Int), int IntKind.i64 (0 : Int)], []))) := by kernel_rfl
theorem QI {x y : Nat} : ct T [] [] 30 mu (behind (au mu) [1,1,1,0,1]) ⟨aB [3, 4, 2] [.int .i64 x, .int .u32 y, .int .i64 0], [], 0⟩ =
  some (aa.leaf ah.ret [int IntKind.i64 (↑x : Int)]) := by kernel_rfl
theorem WO {n : Nat} {z : Nat → Nat} (hz : ∀ i, i < n → z i < 2 ^ 32) (hn : n < 2 ^ 40) (K : Nat) : ay P k8 K [.aj 1 n (ag z)] [] (aF (.mag (val n z)) []) := by
 refine fX hT WX rfl (of_decide_eq_true (by kernel_rfl)) rfl (fun _ c h0 => ?_) K []
 refine ak.hole [1,1,0] (by kernel_rfl) (az.bk hT bg hm 30 [0, 3] XA (by kernel_rfl) fun s' hv => bM ?_)
 refine ak.fu (i := 0) (y := part (au jo) [1,1,0,0,0]) (by kernel_rfl) [0, 3] 0 (h0 _) (fun k : Nat => [.aj 1 n (ag z), .int .i64 k]) (fun _ => []) (fun _ => rfl) (fun _ => trivial)
  (fun k => k ≤ n ∧ ∀ i, k ≤ i → i < n → z i = 0) id n hv ⟨Nat.le_refl _, fun i h1 h2 => by omega⟩ ?_
 rintro j ⟨hj, hzj⟩
 refine ak.bk hT bg hm 30 [0, 3] Ze (by kernel_rfl) ?_
 have fin : (j = 0 ∨ z (j - 1) ≠ 0) → ∀ s', aT [0, 3] s' = some ([.aj 1 n (ag z), .int .i64 j], []) → az P c jo.ntmps (behind (au jo) [1,1,0]) s' (dI c (Fin T jo (.mag (val n z)))) := by
  intro hj0 s' hv
  refine az.gZ hT bg hm 30 hv (h0 0) rfl trivial Xj (by kernel_rfl) (by kernel_rfl) ?_
  simp only [aa.all, ax, Int.toNat_natCast, Int.toNat_zero, Nat.zero_add, Nat.sub_zero, Nat.add_zero]
  have e : val n z = val j z := jF hj hzj
  refine ⟨⟨by omega, by omega, by omega⟩, iW (by rw [e, xA (fun i hi => hz i (by omega)) hj0]) fun i hi => ?_⟩
  rw [if_neg (by omega), e, mB (fun j hj => hz j (by omega)) hi]
  rfl
 have hw : 0 < j → IntKind.i64.wrap ((j : Int) - 1) = ((j - 1 : Nat) : Int) := fun h => by rw [wrap_i64 (by omega) (by omega)]; omega
 refine ⟨fun hb => ?_, fun hb => ?_⟩
 ·have h1 : 0 < j := by simpa using hb
  rw [hw h1]
  have hj1 : j - 1 < n := by omega
  refine ⟨⟨hb, by omega, by rw [Int.toNat_natCast]; exact hj1⟩, fun hc s' hv => ?_, fun hc s' hv => ?_⟩
  ·refine ⟨j - 1, hv, ⟨by omega, fun i h1 h2 => ?_⟩, by simp; omega⟩
   by_cases hi : i = j - 1
   ·subst hi; simpa using hc
   ·exact hzj i (by omega) h2
  ·exact dX (fin (.inr (by simpa using hc)) s' hv)
 ·have h1 : j = 0 := by simpa using hb
  refine ⟨hb, fun hc => by simp at hc, fun hc s' hv => dX (fin (.inl h1) s' hv)⟩
theorem vP : ∀ K args pre r, qp K args pre = some r → ay P k8 K args pre r :=
 bQ (oF fun _ _ K hz need => WO hz need K)
theorem dD : aW P dx := aD vP bg
theorem Qn {x : Nat} (hx : x < 2 ^ 64) (K : Nat) : ay P lN K [.int .u64 x] [] (aF (.mag x) []) := by
 refine bt hT dD hm L4 rfl (of_decide_eq_true (by kernel_rfl)) rfl 30 T6 (fun _ => ?_) K []
 simp only [aa.all, ax, iK]
 refine ⟨⟨by omega, by omega, fun i hi => ?_, by omega⟩, de (congrArg AV.mag ?_)⟩
 ·match i, hi with
  | 0, _ => exact ⟨x % 2 ^ 32, by omega, by simp [nth, gz]⟩
  | 1, _ => exact ⟨x / 4294967296, by omega, by simp [nth, iO]; omega⟩
 ·rw [val_two]
  simp [nth, numOf, iO]
  omega
def tC : Spec := bA fun l => match l with
 | [.int .u64 x] => some (aF (.mag x.toNat) [0 ≤ x ∧ x < 2 ^ 64])
 | _ => none
theorem xD : ∀ K args pre r, tC K args pre = some r → ay P lN K args pre r := by
 refine bQ fun K args r hk hs _ => ?_
 split at hs
 ·simp only [Option.some.injEq] at hs
  subst hs
  intro need
  obtain ⟨h1, h2⟩ := need
  rename_i x
  obtain ⟨y, rfl⟩ := Int.eq_ofNat_of_zero_le h1
  exact Qn (x := y) (by omega) K trivial
 ·simp at hs
def cN (A : Nat) : Bool := decide (A < 18446744073709551616)
theorem Y8 {A : Nat} (K : Nat) : ay P qq K [.mag A] [] (aF (.tuple [.int .u64 (if cN A then A else 0 : Nat), .bool (cN A)]) []) := by
 refine bt hT dD hm XU rfl (of_decide_eq_true (by kernel_rfl)) rfl 30 Sc (fun _ => ?_) K []
 simp only [aa.all, ax, beq_iff_eq, beq_eq_false_iff_ne, ne_eq, Int.toNat_zero, show Int.toNat 1 = 1 from rfl]
 have hv := eI (N := A)
 have l0 := cK (N := A) (i := 0)
 have l1 := cK (N := A) (i := 1)
 have yes : ∀ {x : Int}, A < 2 ^ 64 → x = (A : Nat) → dN [.int .u64 x, .bool true] (.tuple [.int .u64 (if cN A then A else 0 : Nat), .bool (cN A)]) := fun h hx => by
  have : cN A = true := by unfold cN; simpa using h
  rw [this, if_pos rfl]
  exact ⟨bB hx, .refl _, trivial⟩
 refine ⟨fun hb => yes ?_ ?_, fun hb => ⟨fun h1 => ⟨by omega, yes ?_ ?_⟩, fun h1 => ⟨fun h2 => ⟨⟨by omega, by omega, by omega⟩, yes ?_ ?_⟩, fun h2 => ?_⟩⟩⟩
 ·have : A = 0 := gI.1 (by omega)
  omega
 ·have : A = 0 := gI.1 (by omega)
  rw [this]; rfl
 ·exact lU (by omega)
 ·rw [show nl A = 1 by omega, val, val] at hv
  rw [bE (by omega) (by omega)]
  simp at hv; omega
 ·exact lU (by omega)
 ·rw [show nl A = 2 by omega, val, val, val] at hv
  have e1 : IntKind.u64.wrap (aq A 0 : Int) = ((aq A 0 : Nat) : Int) := bE (by omega) (by omega)
  have e2 : IntKind.u64.wrap (aq A 1 : Int) = ((aq A 1 : Nat) : Int) := bE (by omega) (by omega)
  have e3 : IntKind.u64.wrap ((aq A 1 : Int) * 2 ^ min (Int.toNat 32) IntKind.u64.bits) = ((aq A 1 * 4294967296 : Nat) : Int) := by
   rw [vc, bE (by omega) (by omega)]; omega
  rw [e1, e2, e3, qe (by omega) (by omega)]
  congr 1
  rw [Nat.or_comm, show 4294967296 = 2 ^ 32 from rfl, mV l0]
  simp at hv; omega
 ·have : cN A = false := by
   unfold cN
   simp only [decide_eq_false_iff_not]
   intro h
   have : nl A ≤ 2 := cD.2 h
   omega
  rw [this]
  exact ⟨.refl _, .refl _, trivial⟩
def zy : Spec := bA fun l => match l with
 | [a] => match gi a with
  | some A => some (aF (.tuple [.int .u64 (if cN A then A else 0 : Nat), .bool (cN A)]) [])
  | none => none
 | _ => none
theorem Ga : ∀ K args pre r, zy K args pre = some r → ay P qq K args pre r := by
 refine bQ fun K args r hk hs _ => ?_
 split at hs
 ·split at hs
  ·rename_i A hA
   simp only [Option.some.injEq] at hs
   subst hs
   exact fk (Y8 K) hk ⟨iY hA, trivial⟩ []
  ·simp at hs
 ·simp at hs
theorem U9 {A B : Nat} (hA : nl A < 2 ^ 40) (hB : nl B < 2 ^ 40) (K : Nat) : ay P lK K [.mag A, .mag B] [] (aF (.int .i64 (bS A B)) []) := by
 refine fX hT ZK rfl (of_decide_eq_true (by kernel_rfl)) rfl (fun _ c h0 => ?_) K []
 refine ak.hole [1,1,0,1] (by kernel_rfl) (az.bk hT bg hm 30 [0, 1, 5, 4] W8 (by kernel_rfl) ?_)
 simp only [aa.all, ax, decide_eq_true_eq, decide_eq_false_iff_not, bne_iff_ne, ne_eq, Int.natCast_inj, bne_eq_false_iff_eq]
 refine ⟨fun hb => ⟨fun hb2 s' hv => dZ (.inl ?_), fun hb2 s' hv => dZ (.inl ?_)⟩, fun hb s' hv => bM ?_⟩
 ·have h1 : A < B := wI (by omega)
  exact eW (us := [.int .i64 (-1)]) (.inr rfl) hv (by kernel_rfl) (bB (by simp [bS, h1]))
 ·have h1 : B < A := wI (by omega)
  exact eW (us := [.int .i64 1]) (.inr rfl) hv (by kernel_rfl) (bB (by simp [bS, h1]; omega))
 refine ak.fu (i := 0) (y := part (au mc) [1,1,0,1,0,0]) (by kernel_rfl) [0, 1, 5, 4] 0 (h0 _) (fun k : Nat => [.mag A, .mag B, .int .i64 ((k : Int) - 1), .int .i64 0]) (fun _ => []) (fun _ => rfl) (fun _ => trivial)
  (fun k => k ≤ nl A ∧ ∀ j, k ≤ j → j < nl A → aq A j = aq B j) id (nl A) (cL hv (by rw [wrap_i64 (by omega) (by omega)]) rfl) ⟨by simp, fun j h1 h2 => by omega⟩ ?_
 rintro k ⟨hk, hlim⟩
 refine ak.bk hT bg hm 30 [0, 1, 5, 4] Wj (by kernel_rfl) ?_
 simp only [aa.all, ax, decide_eq_true_eq, decide_eq_false_iff_not]
 refine ⟨fun hb2 => ?_, fun hb2 s' hv => dX ?_⟩
 ·obtain ⟨j, rfl⟩ : ∃ j, k = j + 1 := ⟨k - 1, by omega⟩
  have e : (((j + 1 : Nat) : Int) - 1).toNat = j := by omega
  rw [e]
  refine ⟨⟨by omega, by omega⟩, fun hlt s' hv => Dv (dZ (.inl ?_)), fun hlt => ⟨⟨by omega, by omega⟩, fun hgt s' hv => Dv (dZ (.inl ?_)), fun hgt s' hv => ?_⟩⟩
  ·have h1 : A < B := yh hb (k := j) (by omega) (fun i h1 h2 => hlim i (by omega) h2) (by omega)
   exact eW (us := [.int .i64 (-1)]) (.inr rfl) hv (by kernel_rfl) (bB (by simp [bS, h1]))
  ·have h1 : B < A := yh hb.symm (k := j) (by omega) (fun i h1 h2 => (hlim i (by omega) (by omega)).symm) (by omega)
   exact eW (us := [.int .i64 1]) (.inr rfl) hv (by kernel_rfl) (bB (by simp [bS, h1]; omega))
  ·refine ⟨j, cL hv (by rw [wrap_i64 (by omega) (by omega)]; congr 4; omega) rfl, ⟨by omega, fun i h1 h2 => ?_⟩, by simp⟩
   by_cases hi : i = j
   ·subst hi; omega
   ·exact hlim i (by omega) h2
 ·have hk0 : k = 0 := by omega
  have hAB : A = B := BP hb fun i hi => hlim i (by omega) hi
  exact bM (az.gZ hT bg hm 30 hv (h0 0) rfl trivial LC (by kernel_rfl) (by kernel_rfl) (bB (by simp [bS, hAB])))
def jT (g : Nat → Nat → AV) (l : Nat → Nat → List Prop) : Spec := bA fun a => match a with
 | [x, y] => match gi x, gi y with
  | some A, some B => some (aF (g A B) (l A B))
  | _, _ => none
 | _ => none
theorem lP {f : FuncId} {g : Nat → Nat → AV} {l : Nat → Nat → List Prop} (h : ∀ {A B : Nat}, ax (l A B) → ∀ K, ay P f K [.mag A, .mag B] [] (aF (g A B) [])) : ∀ K args pre r, jT g l K args pre = some r → ay P f K args pre r := by
 refine bQ fun K args r hk hs _ => ?_
 split at hs
 ·split at hs
  ·rename_i A B hA hB
   simp only [Option.some.injEq] at hs
   subst hs
   exact fun need => fk (h need K) hk ⟨iY hA, iY hB, trivial⟩ [] trivial
  ·simp at hs
 ·simp at hs
abbrev BE (A B : Nat) : List Prop := [nl A < 2 ^ 40, nl B < 2 ^ 40]
def tg : Spec := jT (fun A B => .int .i64 (bS A B)) BE
theorem xu : ∀ K args pre r, tg K args pre = some r → ay P lK K args pre r := lP fun h => U9 h.1 h.2
theorem KV {n : Nat} {z : Nat → Nat} (hz : ∀ i, i < n → z i < 2 ^ 32) (hn : n < 2 ^ 40) (hnl : nl (val n z) = n) (K : Nat) : ay P tr K [.aj 1 n (ag z)] [] (aF (.int .i64 (aQ (val n z) : Nat)) []) := by
 refine fX hT VH rfl (of_decide_eq_true (by kernel_rfl)) rfl (fun _ c h0 => ?_) K []
 refine ak.hole [1,1,1,0,1] (by kernel_rfl) (az.bk hT bg hm 30 [3, 4, 2] LP (by kernel_rfl) ?_)
 simp only [aa.all, ax, beq_iff_eq, beq_eq_false_iff_ne, ne_eq]
 refine ⟨fun hb s' hv => dZ (.inl ?_), fun hb => ?_⟩
 ·have h1 : n = 0 := by omega
  have h2 : val n z = 0 := by rw [h1]; rfl
  exact eW (us := [.int .i64 0]) (.inr rfl) hv (by kernel_rfl) (bB (by rw [h2]; rfl))
 have w1 : IntKind.i64.wrap ((n : Int) - 1) = ((n - 1 : Nat) : Int) := dr (by omega) (by omega)
 have w2 : IntKind.i64.wrap (32 * ((n - 1 : Nat) : Int)) = ((32 * (n - 1) : Nat) : Int) := dr (by omega) (by omega)
 rw [w1, w2]
 simp only [Int.toNat_natCast]
 refine ⟨by omega, fun s' hv => bM ?_⟩
 have hzt := hz (n - 1) (by omega)
 have htot : aQ (val n z) = 32 * (n - 1) + aQ (z (n - 1)) := by
  have h0 : val n z ≠ 0 := eL.1 (by omega)
  rw [IG h0, hnl, mB hz (by omega)]
 refine ak.fu (i := 0) (y := part (au mu) [1,1,1,0,1,0,0]) (by kernel_rfl) [3, 4, 2] 0 (h0 _) (fun p : Nat × Nat => [.int .i64 (p.1 : Nat), .int .u32 (p.2 : Nat), .int .i64 0]) (fun _ => []) (fun _ => rfl) (fun _ => trivial)
  (fun p => p.1 + aQ p.2 = aQ (val n z) ∧ p.2 < 2 ^ 32) (fun p => p.2) (32 * (n - 1), z (n - 1)) hv ⟨htot.symm, hzt⟩ ?_
 rintro ⟨x, y⟩ ⟨hxy, hy⟩
 simp only at hxy hy
 have hb32 : aQ (z (n - 1)) ≤ 32 := gY.2 hzt
 refine ak.bk hT bg hm 30 [3, 4, 2] SU (by kernel_rfl) ?_
 rw [qO (by decide) (by decide)]
 simp only [aa.all, ax, bne_iff_ne, ne_eq, bne_eq_false_iff_eq, show Int.toNat 1 = 1 from rfl]
 refine ⟨fun hc => ⟨by omega, fun s' hv => ?_⟩, fun hc s' hv => dX (bM ?_)⟩
 ·have hy0 : 0 < y := by omega
  have e : aQ y = 1 + aQ (y / 2) := by
   by_cases h1 : y = 1
   ·rw [h1]; decide
   ·exact qA (k := 1) (by omega)
  have hd : y / 2 < y := by omega
  exact ⟨(x + 1, y / 2), cL hv (by rw [dr (a := (x : Int) + 1) (n := x + 1) (by omega) (by omega)]) rfl, ⟨by simp only; omega, by simp only; omega⟩, by simp only; omega⟩
 ·have hy0 : y = 0 := by omega
  refine az.gZ hT bg hm 30 hv (h0 0) rfl trivial QI (by kernel_rfl) (by kernel_rfl) (bB ?_)
  rw [hy0] at hxy
  simp [aQ] at hxy
  rw [hxy]; simp [aQ]
def DY : Spec := bA (ju fun N n => aF (.int .i64 (aQ N : Nat)) [n < 2 ^ 40, nl N = n])
theorem TD : ∀ K args pre r, DY K args pre = some r → ay P tr K args pre r :=
 bQ (oF fun _ _ K hz need => KV hz need.1 need.2 K)
end Go.Am.B
