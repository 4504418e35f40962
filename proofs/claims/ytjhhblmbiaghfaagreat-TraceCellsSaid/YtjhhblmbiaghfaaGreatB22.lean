/- ref01: Trim, Of, small, Cmp, Bits. -/
import Derived.Test.YtjhhblmbiaghfaaGreatB21
set_option linter.unusedVariables false
namespace Go.Am.B
open Go Go.Am.N AV
theorem TF : aO P kQ jq (ax jq) := aP My (by kernel_rfl) (by kernel_rfl) (by kernel_rfl)
theorem Mn : aO P mA rq (ax rq) := aP TO (by kernel_rfl) (by kernel_rfl) (by kernel_rfl)
theorem Vm : aO P qH wB (ax wB) := aP Sr (by kernel_rfl) (by kernel_rfl) (by kernel_rfl)
theorem Ve : aO P mK lE (ax lE) := aP JJ (by kernel_rfl) (by kernel_rfl) (by kernel_rfl)
theorem ZQ : aO P sP lN (ax lN) := aP Yu (by kernel_rfl) (by kernel_rfl) (by kernel_rfl)
theorem RJ {n : Nat} {z : Nat → Nat} : aF T [] [] 30 [0, 3] (before (ax jq) [1,1,0]) ⟨aN 0 [.ah 1 n (aj z)], [], 0⟩ =
  some (af.leaf ak.normal ([ah 1 n (aj z), int IntKind.i64 (↑n : Int)], [])) := by kernel_rfl
theorem Sg {n k : Nat} {z : Nat → Nat} : aF T [] [8, 15] 30 [0, 3] [part (ax jq) [1,1,0,0,0]] ⟨az [0, 3] [.ah 1 n (aj z), .int .i64 k], [], 0⟩ =
  some (af.fork (decide ((↑k : Int) > (0 : Int))) (af.ag [decide ((↑k : Int) > (0 : Int)) = true, (0 : Int) ≤ IntKind.i64.wrap ((↑k : Int) - (1 : Int)) ∧ (IntKind.i64.wrap ((↑k : Int) - (1 : Int))).toNat < n] (af.fork (bif true then (↑(z (IntKind.i64.wrap ((↑k : Int) - (1 : Int))).toNat) : Int) == (0 : Int) else false) (af.leaf ak.normal ([ah 1 n (aj z), int IntKind.i64 (IntKind.i64.wrap ((↑k : Int) - (1 : Int)))], [])) (af.leaf (ak.exit 0) ([ah 1 n (aj z), int IntKind.i64 (↑k : Int)], [])))) (af.ag [decide ((↑k : Int) > (0 : Int)) = false] (af.fork false (af.leaf ak.normal ([ah 1 n (aj z), int IntKind.i64 (IntKind.i64.wrap ((↑k : Int) - (1 : Int)))], [])) (af.leaf (ak.exit 0) ([ah 1 n (aj z), int IntKind.i64 (↑k : Int)], []))))) := by kernel_rfl
theorem Lf {n k : Nat} {z : Nat → Nat} : b9 T [] [] 30 jq (behind (ax jq) [1,1,0]) ⟨az [0, 3] [.ah 1 n (aj z), .int .i64 k], [], 0⟩ =
  some (af.ag [(0 : Nat) * 1 ≤ 2 ^ 24, (0 : Int) ≤ (0 : Int) ∧ (0 : Int) ≤ (↑k : Int) ∧ (↑k : Int) ≤ (↑k : Int) ∧ (↑k : Int) ≤ (↑n : Int), ((0 : Nat) + ((↑k : Int).toNat - Int.toNat (0 : Int))) * ((4 : Nat) + 1) * 2 ≤ 2 ^ 47] (af.leaf ak.ret [ah 1 ((0 : Nat) + ((↑k : Int).toNat - Int.toNat (0 : Int))) fun (i : Nat) ↦ if i + 0 < 0 then nth [] (int IntKind.u32 (0 : Int)) (i + 0) else aj z (i + 0 - 0 + Int.toNat (0 : Int))])) := by kernel_rfl
def pC : Spec := bu (jv fun N n => aK (.mag N) [n < 2 ^ 40])
def dw : aW := [(kQ, pC)]
theorem W7 {n : Nat} : bF T dw [] 30 rq (ax rq) ⟨aN 0 [.int .u64 n], [], 0⟩ =
  some (af.ag [(0 : Int) ≤ (32 : Int), (2 : Nat) * 1 ≤ 2 ^ 24, cN 2 fun (i : Nat) ↦ nth [int IntKind.u32 (IntKind.u32.wrap (↑n : Int)), int IntKind.u32 (IntKind.u32.wrap ((↑n : Int).fdiv ((2 : Int) ^ min (Int.toNat (32 : Int)) IntKind.u64.bits)))] (int IntKind.u32 (0 : Int)) (i + 0), (2 : Nat) < 2 ^ 40] (af.leaf ak.ret [mag (val 2 fun (i : Nat) ↦ numOf (nth [int IntKind.u32 (IntKind.u32.wrap (↑n : Int)), int IntKind.u32 (IntKind.u32.wrap ((↑n : Int).fdiv ((2 : Int) ^ min (Int.toNat (32 : Int)) IntKind.u64.bits)))] (int IntKind.u32 (0 : Int)) (i + 0)))])) := by kernel_rfl
theorem Vk {A : Nat} : bF T dw [6, 8, 14] 30 wB (ax wB) ⟨aN 0 [.mag A], [], 0⟩ =
  some (af.fork ((↑(nl A) : Int) == (0 : Int)) (af.leaf ak.ret [int IntKind.u64 (0 : Int), AV.bool true]) (af.fork ((↑(nl A) : Int) == (1 : Int)) (af.ag [(0 : Int) ≤ (0 : Int) ∧ Int.toNat (0 : Int) < nl A] (af.leaf ak.ret [int IntKind.u64 (IntKind.u64.wrap (↑(au A (Int.toNat (0 : Int))) : Int)), AV.bool true])) (af.fork ((↑(nl A) : Int) == (2 : Int)) (af.ag [(0 : Int) ≤ (0 : Int) ∧ Int.toNat (0 : Int) < nl A, (0 : Int) ≤ (1 : Int) ∧ Int.toNat (1 : Int) < nl A, (0 : Int) ≤ (32 : Int)] (af.leaf ak.ret [int IntKind.u64 (IntKind.u64.wrap (↑(BitVec.ofInt IntKind.u64.bits (IntKind.u64.wrap (↑(au A (Int.toNat (0 : Int))) : Int)) ||| BitVec.ofInt IntKind.u64.bits (IntKind.u64.wrap (IntKind.u64.wrap (↑(au A (Int.toNat (1 : Int))) : Int) * (2 : Int) ^ min (Int.toNat (32 : Int)) IntKind.u64.bits))).toNat : Int)), AV.bool true])) (af.leaf ak.ret [int IntKind.u64 (0 : Int), AV.bool false])))) := by kernel_rfl
theorem Qx {A B : Nat} : aF T [] [10, 15] 30 [0, 1, 5, 4] (before (ax lE) [1,1,0,1]) ⟨aN 0 [.mag A, .mag B], [], 0⟩ =
  some (af.fork ((↑(nl A) : Int) != (↑(nl B) : Int)) (af.fork (decide ((↑(nl A) : Int) < (↑(nl B) : Int))) (af.leaf ak.ret ([mag A, mag B, tuple [], int IntKind.i64 (-1 : Int)], [])) (af.leaf ak.ret ([mag A, mag B, tuple [], int IntKind.i64 (1 : Int)], []))) (af.leaf ak.normal ([mag A, mag B, int IntKind.i64 (IntKind.i64.wrap ((↑(nl A) : Int) - (1 : Int))), int IntKind.i64 (0 : Int)], []))) := by kernel_rfl
theorem Ud {A B k : Nat} : aF T [] [20, 31, 40] 30 [0, 1, 5, 4] [part (ax lE) [1,1,0,1,0,0]] ⟨az [0, 1, 5, 4] [.mag A, .mag B, .int .i64 ((k : Int) - 1), .int .i64 0], [], 0⟩ =
  some (af.fork (decide ((↑k : Int) - (1 : Int) ≥ (0 : Int))) (af.ag [(0 : Int) ≤ (↑k : Int) - (1 : Int) ∧ ((↑k : Int) - (1 : Int)).toNat < nl A, (0 : Int) ≤ (↑k : Int) - (1 : Int) ∧ ((↑k : Int) - (1 : Int)).toNat < nl B] (af.fork (decide ((↑(au A ((↑k : Int) - (1 : Int)).toNat) : Int) < (↑(au B ((↑k : Int) - (1 : Int)).toNat) : Int))) (af.leaf ak.ret ([mag A, mag B, int IntKind.i64 ((↑k : Int) - (1 : Int)), int IntKind.i64 (-1 : Int)], [])) (af.ag [(0 : Int) ≤ (↑k : Int) - (1 : Int) ∧ ((↑k : Int) - (1 : Int)).toNat < nl A, (0 : Int) ≤ (↑k : Int) - (1 : Int) ∧ ((↑k : Int) - (1 : Int)).toNat < nl B] (af.fork (decide ((↑(au A ((↑k : Int) - (1 : Int)).toNat) : Int) > (↑(au B ((↑k : Int) - (1 : Int)).toNat) : Int))) (af.leaf ak.ret ([mag A, mag B, int IntKind.i64 ((↑k : Int) - (1 : Int)), int IntKind.i64 (1 : Int)], [])) (af.leaf ak.normal ([mag A, mag B, int IntKind.i64 (IntKind.i64.wrap ((↑k : Int) - (1 : Int) - (1 : Int))), int IntKind.i64 (0 : Int)], [])))))) (af.leaf (ak.exit 0) ([mag A, mag B, int IntKind.i64 ((↑k : Int) - (1 : Int)), int IntKind.i64 (0 : Int)], []))) := by kernel_rfl
theorem Zo {A B k : Nat} : b9 T [] [] 30 lE (behind (ax lE) [1,1,0,1]) ⟨az [0, 1, 5, 4] [.mag A, .mag B, .int .i64 ((k : Int) - 1), .int .i64 0], [], 0⟩ =
  some (af.leaf ak.ret [int IntKind.i64 (0 : Int)]) := by kernel_rfl
theorem Mo {n : Nat} {z : Nat → Nat} : aF T [] [7] 30 [3, 4, 2] (before (ax lN) [1,1,1,0,1]) ⟨aN 0 [.ah 1 n (aj z)], [], 0⟩ =
  some (af.fork ((↑n : Int) == (0 : Int)) (af.leaf ak.ret ([tuple [], tuple [], int IntKind.i64 (0 : Int)], [])) (af.ag [(0 : Int) ≤ IntKind.i64.wrap ((↑n : Int) - (1 : Int)) ∧ (IntKind.i64.wrap ((↑n : Int) - (1 : Int))).toNat < n] (af.leaf ak.normal ([int IntKind.i64 (IntKind.i64.wrap ((32 : Int) * IntKind.i64.wrap ((↑n : Int) - (1 : Int)))), int IntKind.u32 (↑(z (IntKind.i64.wrap ((↑n : Int) - (1 : Int))).toNat) : Int), int IntKind.i64 (0 : Int)], [])))) := by kernel_rfl
theorem Xw {x y : Nat} : aF T [] [19] 30 [3, 4, 2] [part (ax lN) [1,1,1,0,1,0,0]] ⟨az [3, 4, 2] [.int .i64 x, .int .u32 y, .int .i64 0], [], 0⟩ =
  some (af.fork ((↑y : Int) != (0 : Int)) (af.ag [(0 : Int) ≤ (1 : Int)] (af.leaf ak.normal ([int IntKind.i64 (IntKind.i64.wrap ((↑x : Int) + (1 : Int))), int IntKind.u32 ((↑y : Int).fdiv ((2 : Int) ^ min (Int.toNat (1 : Int)) IntKind.u32.bits)), int IntKind.i64 (0 : Int)], []))) (af.leaf (ak.exit 0) ([int IntKind.i64 (↑x : Int), int IntKind.u32 (↑y : Int), int IntKind.i64 (0 : Int)], []))) := by kernel_rfl
theorem U2 {x y : Nat} : b9 T [] [] 30 lN (behind (ax lN) [1,1,1,0,1]) ⟨az [3, 4, 2] [.int .i64 x, .int .u32 y, .int .i64 0], [], 0⟩ =
  some (af.leaf ak.ret [int IntKind.i64 (↑x : Int)]) := by kernel_rfl
theorem Tc {n : Nat} {z : Nat → Nat} (hz : ∀ i, i < n → z i < 2 ^ 32) (hn : n < 2 ^ 40) (K : Nat) : aC P kQ K [.ah 1 n (aj z)] [] (aK (.mag (val n z)) []) := by
 refine eW hT TF rfl (of_decide_eq_true (by kernel_rfl)) rfl (fun _ c h0 => ?_) K []
 refine aq.hole [1,1,0] (by kernel_rfl) (aA.aS hT aY hm 30 [0, 3] RJ (by kernel_rfl) fun s' hv => bL ?_)
 refine aq.fl (i := 0) (y := part (ax jq) [1,1,0,0,0]) (by kernel_rfl) [0, 3] 0 (h0 _) (fun k : Nat => [.ah 1 n (aj z), .int .i64 k]) (fun _ => []) (fun _ => rfl) (fun _ => trivial)
  (fun k => k ≤ n ∧ ∀ i, k ≤ i → i < n → z i = 0) id n hv ⟨Nat.le_refl _, fun i h1 h2 => by omega⟩ ?_
 rintro j ⟨hj, hzj⟩
 refine aq.aS hT aY hm 30 [0, 3] Sg (by kernel_rfl) ?_
 have fin : (j = 0 ∨ z (j - 1) ≠ 0) → ∀ s', aQ [0, 3] s' = some ([.ah 1 n (aj z), .int .i64 j], []) → aA P c jq.ntmps (behind (ax jq) [1,1,0]) s' (dy c (Fin T jq (.mag (val n z)))) := by
  intro hj0 s' hv
  refine aA.gY hT aY hm 30 hv (h0 0) rfl trivial Lf (by kernel_rfl) (by kernel_rfl) ?_
  simp only [af.all, ay, Int.toNat_natCast, Int.toNat_zero, Nat.zero_add, Nat.sub_zero, Nat.add_zero]
  have e : val n z = val j z := jV hj hzj
  refine ⟨⟨by omega, by omega, by omega⟩, iM (by rw [e, yz (fun i hi => hz i (by omega)) hj0]) fun i hi => ?_⟩
  rw [if_neg (by omega), e, lV (fun j hj => hz j (by omega)) hi]
  rfl
 have hw : 0 < j → IntKind.i64.wrap ((j : Int) - 1) = ((j - 1 : Nat) : Int) := fun h => by rw [wrap_i64 (by omega) (by omega)]; omega
 refine ⟨fun hb => ?_, fun hb => ?_⟩
 ·have h1 : 0 < j := by simpa using hb
  rw [hw h1]
  have hj1 : j - 1 < n := by omega
  refine ⟨⟨hb, by omega, by rw [Int.toNat_natCast]; exact hj1⟩, fun hc s' hv => ?_, fun hc s' hv => ?_⟩
  ·refine ⟨j - 1, hv, ⟨by omega, fun i h1 h2 => ?_⟩, by simp; omega⟩
   by_cases hi : i = j - 1
   ·subst hi; simpa using hc
   ·exact hzj i (by omega) h2
  ·exact dI (fin (.inr (by simpa using hc)) s' hv)
 ·have h1 : j = 0 := by simpa using hb
  refine ⟨hb, fun hc => by simp at hc, fun hc s' hv => dI (fin (.inl h1) s' hv)⟩
theorem tZ : ∀ K args pre r, pC K args pre = some r → aC P kQ K args pre r :=
 bQ (p0 fun _ _ K hz need => Tc hz need K)
theorem dx : br P dw := aJ tZ aY
theorem X2 {x : Nat} (hx : x < 2 ^ 64) (K : Nat) : aC P mA K [.int .u64 x] [] (aK (.mag x) []) := by
 refine bH hT dx hm Mn rfl (of_decide_eq_true (by kernel_rfl)) rfl 30 W7 (fun _ => ?_) K []
 simp only [af.all, ay, iY]
 refine ⟨⟨by omega, by omega, fun i hi => ?_, by omega⟩, cV (congrArg AV.mag ?_)⟩
 ·match i, hi with
  | 0, _ => exact ⟨x % 2 ^ 32, by omega, by simp [nth, gC]⟩
  | 1, _ => exact ⟨x / 4294967296, by omega, by simp [nth, iU]; omega⟩
 ·rw [val_two]
  simp [nth, numOf, iU]
  omega
def qZ : Spec := bu fun l => match l with
 | [.int .u64 x] => some (aK (.mag x.toNat) [0 ≤ x ∧ x < 2 ^ 64])
 | _ => none
theorem yN : ∀ K args pre r, qZ K args pre = some r → aC P mA K args pre r := by
 refine bQ fun K args r hk hs _ => ?_
 split at hs
 ·simp only [Option.some.injEq] at hs
  subst hs
  intro need
  obtain ⟨h1, h2⟩ := need
  rename_i x
  obtain ⟨y, rfl⟩ := Int.eq_ofNat_of_zero_le h1
  exact X2 (x := y) (by omega) K trivial
 ·simp at hs
def cI (A : Nat) : Bool := decide (A < 18446744073709551616)
theorem JW {A : Nat} (K : Nat) : aC P qH K [.mag A] [] (aK (.tuple [.int .u64 (if cI A then A else 0 : Nat), .bool (cI A)]) []) := by
 refine bH hT dx hm Vm rfl (of_decide_eq_true (by kernel_rfl)) rfl 30 Vk (fun _ => ?_) K []
 simp only [af.all, ay, beq_iff_eq, beq_eq_false_iff_ne, ne_eq, Int.toNat_zero, show Int.toNat 1 = 1 from rfl]
 have hv := ew (N := A)
 have l0 := cE (N := A) (i := 0)
 have l1 := cE (N := A) (i := 1)
 have yes : ∀ {x : Int}, A < 2 ^ 64 → x = (A : Nat) → ef [.int .u64 x, .bool true] (.tuple [.int .u64 (if cI A then A else 0 : Nat), .bool (cI A)]) := fun h hx => by
  have : cI A = true := by unfold cI; simpa using h
  rw [this, if_pos rfl]
  exact ⟨bm hx, .refl _, trivial⟩
 refine ⟨fun hb => yes ?_ ?_, fun hb => ⟨fun h1 => ⟨by omega, yes ?_ ?_⟩, fun h1 => ⟨fun h2 => ⟨⟨by omega, by omega, by omega⟩, yes ?_ ?_⟩, fun h2 => ?_⟩⟩⟩
 ·have : A = 0 := gP.1 (by omega)
  omega
 ·have : A = 0 := gP.1 (by omega)
  rw [this]; rfl
 ·exact mB (by omega)
 ·rw [show nl A = 1 by omega, val, val] at hv
  rw [bA (by omega) (by omega)]
  simp at hv; omega
 ·exact mB (by omega)
 ·rw [show nl A = 2 by omega, val, val, val] at hv
  have e1 : IntKind.u64.wrap (au A 0 : Int) = ((au A 0 : Nat) : Int) := bA (by omega) (by omega)
  have e2 : IntKind.u64.wrap (au A 1 : Int) = ((au A 1 : Nat) : Int) := bA (by omega) (by omega)
  have e3 : IntKind.u64.wrap ((au A 1 : Int) * 2 ^ min (Int.toNat 32) IntKind.u64.bits) = ((au A 1 * 4294967296 : Nat) : Int) := by
   rw [s7, bA (by omega) (by omega)]; omega
  rw [e1, e2, e3, pM (by omega) (by omega)]
  congr 1
  rw [Nat.or_comm, show 4294967296 = 2 ^ 32 from rfl, oq l0]
  simp at hv; omega
 ·have : cI A = false := by
   unfold cI
   simp only [decide_eq_false_iff_not]
   intro h
   have : nl A ≤ 2 := cw.2 h
   omega
  rw [this]
  exact ⟨.refl _, .refl _, trivial⟩
def Au : Spec := bu fun l => match l with
 | [a] => match gh a with
  | some A => some (aK (.tuple [.int .u64 (if cI A then A else 0 : Nat), .bool (cI A)]) [])
  | none => none
 | _ => none
theorem CR : ∀ K args pre r, Au K args pre = some r → aC P qH K args pre r := by
 refine bQ fun K args r hk hs _ => ?_
 split at hs
 ·split at hs
  ·rename_i A hA
   simp only [Option.some.injEq] at hs
   subst hs
   exact fm (JW K) hk ⟨iZ hA, trivial⟩ []
  ·simp at hs
 ·simp at hs
theorem Mh {A B : Nat} (hA : nl A < 2 ^ 40) (hB : nl B < 2 ^ 40) (K : Nat) : aC P mK K [.mag A, .mag B] [] (aK (.int .i64 (bO A B)) []) := by
 refine eW hT Ve rfl (of_decide_eq_true (by kernel_rfl)) rfl (fun _ c h0 => ?_) K []
 refine aq.hole [1,1,0,1] (by kernel_rfl) (aA.aS hT aY hm 30 [0, 1, 5, 4] Qx (by kernel_rfl) ?_)
 simp only [af.all, ay, decide_eq_true_eq, decide_eq_false_iff_not, bne_iff_ne, ne_eq, Int.natCast_inj, bne_eq_false_iff_eq]
 refine ⟨fun hb => ⟨fun hb2 s' hv => dJ (.inl ?_), fun hb2 s' hv => dJ (.inl ?_)⟩, fun hb s' hv => bL ?_⟩
 ·have h1 : A < B := yA (by omega)
  exact eL (us := [.int .i64 (-1)]) (.inr rfl) hv (by kernel_rfl) (bm (by simp [bO, h1]))
 ·have h1 : B < A := yA (by omega)
  exact eL (us := [.int .i64 1]) (.inr rfl) hv (by kernel_rfl) (bm (by simp [bO, h1]; omega))
 refine aq.fl (i := 0) (y := part (ax lE) [1,1,0,1,0,0]) (by kernel_rfl) [0, 1, 5, 4] 0 (h0 _) (fun k : Nat => [.mag A, .mag B, .int .i64 ((k : Int) - 1), .int .i64 0]) (fun _ => []) (fun _ => rfl) (fun _ => trivial)
  (fun k => k ≤ nl A ∧ ∀ j, k ≤ j → j < nl A → au A j = au B j) id (nl A) (cG hv (by rw [wrap_i64 (by omega) (by omega)]) rfl) ⟨by simp, fun j h1 h2 => by omega⟩ ?_
 rintro k ⟨hk, hlim⟩
 refine aq.aS hT aY hm 30 [0, 1, 5, 4] Ud (by kernel_rfl) ?_
 simp only [af.all, ay, decide_eq_true_eq, decide_eq_false_iff_not]
 refine ⟨fun hb2 => ?_, fun hb2 s' hv => dI ?_⟩
 ·obtain ⟨j, rfl⟩ : ∃ j, k = j + 1 := ⟨k - 1, by omega⟩
  have e : (((j + 1 : Nat) : Int) - 1).toNat = j := by omega
  rw [e]
  refine ⟨⟨by omega, by omega⟩, fun hlt s' hv => Gt (dJ (.inl ?_)), fun hlt => ⟨⟨by omega, by omega⟩, fun hgt s' hv => Gt (dJ (.inl ?_)), fun hgt s' hv => ?_⟩⟩
  ·have h1 : A < B := zp hb (k := j) (by omega) (fun i h1 h2 => hlim i (by omega) h2) (by omega)
   exact eL (us := [.int .i64 (-1)]) (.inr rfl) hv (by kernel_rfl) (bm (by simp [bO, h1]))
  ·have h1 : B < A := zp hb.symm (k := j) (by omega) (fun i h1 h2 => (hlim i (by omega) (by omega)).symm) (by omega)
   exact eL (us := [.int .i64 1]) (.inr rfl) hv (by kernel_rfl) (bm (by simp [bO, h1]; omega))
  ·refine ⟨j, cG hv (by rw [wrap_i64 (by omega) (by omega)]; congr 4; omega) rfl, ⟨by omega, fun i h1 h2 => ?_⟩, by simp⟩
   by_cases hi : i = j
   ·subst hi; omega
   ·exact hlim i (by omega) h2
 ·have hk0 : k = 0 := by omega
  have hAB : A = B := zZ hb fun i hi => hlim i (by omega) hi
  exact bL (aA.gY hT aY hm 30 hv (h0 0) rfl trivial Zo (by kernel_rfl) (by kernel_rfl) (bm (by simp [bO, hAB])))
def jH (g : Nat → Nat → AV) (l : Nat → Nat → List Prop) : Spec := bu fun a => match a with
 | [x, y] => match gh x, gh y with
  | some A, some B => some (aK (g A B) (l A B))
  | _, _ => none
 | _ => none
theorem lQ {f : FuncId} {g : Nat → Nat → AV} {l : Nat → Nat → List Prop} (h : ∀ {A B : Nat}, ay (l A B) → ∀ K, aC P f K [.mag A, .mag B] [] (aK (g A B) [])) : ∀ K args pre r, jH g l K args pre = some r → aC P f K args pre r := by
 refine bQ fun K args r hk hs _ => ?_
 split at hs
 ·split at hs
  ·rename_i A B hA hB
   simp only [Option.some.injEq] at hs
   subst hs
   exact fun need => fm (h need K) hk ⟨iZ hA, iZ hB, trivial⟩ [] trivial
  ·simp at hs
 ·simp at hs
abbrev BN (A B : Nat) : List Prop := [nl A < 2 ^ 40, nl B < 2 ^ 40]
def vr : Spec := jH (fun A B => .int .i64 (bO A B)) BN
theorem xE : ∀ K args pre r, vr K args pre = some r → aC P mK K args pre r := lQ fun h => Mh h.1 h.2
theorem Q7 {n : Nat} {z : Nat → Nat} (hz : ∀ i, i < n → z i < 2 ^ 32) (hn : n < 2 ^ 40) (hnl : nl (val n z) = n) (K : Nat) : aC P sP K [.ah 1 n (aj z)] [] (aK (.int .i64 (bf (val n z) : Nat)) []) := by
 refine eW hT ZQ rfl (of_decide_eq_true (by kernel_rfl)) rfl (fun _ c h0 => ?_) K []
 refine aq.hole [1,1,1,0,1] (by kernel_rfl) (aA.aS hT aY hm 30 [3, 4, 2] Mo (by kernel_rfl) ?_)
 simp only [af.all, ay, beq_iff_eq, beq_eq_false_iff_ne, ne_eq]
 refine ⟨fun hb s' hv => dJ (.inl ?_), fun hb => ?_⟩
 ·have h1 : n = 0 := by omega
  have h2 : val n z = 0 := by rw [h1]; rfl
  exact eL (us := [.int .i64 0]) (.inr rfl) hv (by kernel_rfl) (bm (by rw [h2]; rfl))
 have w1 : IntKind.i64.wrap ((n : Int) - 1) = ((n - 1 : Nat) : Int) := dh (by omega) (by omega)
 have w2 : IntKind.i64.wrap (32 * ((n - 1 : Nat) : Int)) = ((32 * (n - 1) : Nat) : Int) := dh (by omega) (by omega)
 rw [w1, w2]
 simp only [Int.toNat_natCast]
 refine ⟨by omega, fun s' hv => bL ?_⟩
 have hzt := hz (n - 1) (by omega)
 have htot : bf (val n z) = 32 * (n - 1) + bf (z (n - 1)) := by
  have h0 : val n z ≠ 0 := eH.1 (by omega)
  rw [GU h0, hnl, lV hz (by omega)]
 refine aq.fl (i := 0) (y := part (ax lN) [1,1,1,0,1,0,0]) (by kernel_rfl) [3, 4, 2] 0 (h0 _) (fun p : Nat × Nat => [.int .i64 (p.1 : Nat), .int .u32 (p.2 : Nat), .int .i64 0]) (fun _ => []) (fun _ => rfl) (fun _ => trivial)
  (fun p => p.1 + bf p.2 = bf (val n z) ∧ p.2 < 2 ^ 32) (fun p => p.2) (32 * (n - 1), z (n - 1)) hv ⟨htot.symm, hzt⟩ ?_
 rintro ⟨x, y⟩ ⟨hxy, hy⟩
 simp only at hxy hy
 have hb32 : bf (z (n - 1)) ≤ 32 := fX.2 hzt
 refine aq.aS hT aY hm 30 [3, 4, 2] Xw (by kernel_rfl) ?_
 rw [uU (by decide) (by decide)]
 simp only [af.all, ay, bne_iff_ne, ne_eq, bne_eq_false_iff_eq, show Int.toNat 1 = 1 from rfl]
 refine ⟨fun hc => ⟨by omega, fun s' hv => ?_⟩, fun hc s' hv => dI (bL ?_)⟩
 ·have hy0 : 0 < y := by omega
  have e : bf y = 1 + bf (y / 2) := by
   by_cases h1 : y = 1
   ·rw [h1]; decide
   ·exact o9 (k := 1) (by omega)
  have hd : y / 2 < y := by omega
  exact ⟨(x + 1, y / 2), cG hv (by rw [dh (a := (x : Int) + 1) (n := x + 1) (by omega) (by omega)]) rfl, ⟨by simp only; omega, by simp only; omega⟩, by simp only; omega⟩
 ·have hy0 : y = 0 := by omega
  refine aA.gY hT aY hm 30 hv (h0 0) rfl trivial U2 (by kernel_rfl) (by kernel_rfl) (bm ?_)
  rw [hy0] at hxy
  simp [bf] at hxy
  rw [hxy]; simp [bf]
def Dt : Spec := bu (jv fun N n => aK (.int .i64 (bf N : Nat)) [n < 2 ^ 40, nl N = n])
theorem Nu : ∀ K args pre r, Dt K args pre = some r → aC P sP K args pre r :=
 bQ (p0 fun _ _ K hz need => Q7 hz need.1 need.2 K)
end Go.Am.B
