/- ref01: Trim, Of, small, Cmp, Bits. -/
import Derived.Test.YtnocdkaonpdmjaaGreatB21
set_option linter.unusedVariables false
namespace Go.Am.B
open Go Go.Am.N AV
theorem TH : aN P lp jJ (au jJ) := aP Rh (by kernel_rfl) (by kernel_rfl) (by kernel_rfl)
theorem aaS : aN P nr vt (au vt) := aP aeg (by kernel_rfl) (by kernel_rfl) (by kernel_rfl)
theorem Wh : aN P qa vq (au vq) := aP Mq (by kernel_rfl) (by kernel_rfl) (by kernel_rfl)
theorem Y4 : aN P mW mV (au mV) := aP aaQ (by kernel_rfl) (by kernel_rfl) (by kernel_rfl)
theorem Tp : aN P uy mL (au mL) := aP aai (by kernel_rfl) (by kernel_rfl) (by kernel_rfl)
theorem adf {n : Nat} {z : Nat → Nat} : aI T [] [] 30 [0, 3] (before (au jJ) [1,1,0]) ⟨aL 0 [.ak 1 n (aj z)], [], 0⟩ =
  some (aa.leaf ah.normal ([ak 1 n (aj z), int IntKind.i64 (↑n : Int)], [])) := by kernel_rfl
theorem SX {n k : Nat} {z : Nat → Nat} : aI T [] [8, 15] 30 [0, 3] [part (au jJ) [1,1,0,0,0]] ⟨aB [0, 3] [.ak 1 n (aj z), .int .i64 k], [], 0⟩ =
  some (aa.fork (decide ((↑k : Int) > (0 : Int))) (aa.ag [decide ((↑k : Int) > (0 : Int)) = true, (0 : Int) ≤ IntKind.i64.wrap ((↑k : Int) - (1 : Int)) ∧ (IntKind.i64.wrap ((↑k : Int) - (1 : Int))).toNat < n] (aa.fork (bif true then (↑(z (IntKind.i64.wrap ((↑k : Int) - (1 : Int))).toNat) : Int) == (0 : Int) else false) (aa.leaf ah.normal ([ak 1 n (aj z), int IntKind.i64 (IntKind.i64.wrap ((↑k : Int) - (1 : Int)))], [])) (aa.leaf (ah.exit 0) ([ak 1 n (aj z), int IntKind.i64 (↑k : Int)], [])))) (aa.ag [decide ((↑k : Int) > (0 : Int)) = false] (aa.fork false (aa.leaf ah.normal ([ak 1 n (aj z), int IntKind.i64 (IntKind.i64.wrap ((↑k : Int) - (1 : Int)))], [])) (aa.leaf (ah.exit 0) ([ak 1 n (aj z), int IntKind.i64 (↑k : Int)], []))))) := by kernel_rfl
theorem XQ {n k : Nat} {z : Nat → Nat} : b9 T [] [] 30 jJ (behind (au jJ) [1,1,0]) ⟨aB [0, 3] [.ak 1 n (aj z), .int .i64 k], [], 0⟩ =
  some (aa.ag [(0 : Nat) * 1 ≤ 2 ^ 24, (0 : Int) ≤ (0 : Int) ∧ (0 : Int) ≤ (↑k : Int) ∧ (↑k : Int) ≤ (↑k : Int) ∧ (↑k : Int) ≤ (↑n : Int), ((0 : Nat) + ((↑k : Int).toNat - Int.toNat (0 : Int))) * ((4 : Nat) + 1) * 2 ≤ 2 ^ 47] (aa.leaf ah.ret [ak 1 ((0 : Nat) + ((↑k : Int).toNat - Int.toNat (0 : Int))) fun (i : Nat) ↦ if i + 0 < 0 then nth [] (int IntKind.u32 (0 : Int)) (i + 0) else aj z (i + 0 - 0 + Int.toNat (0 : Int))])) := by kernel_rfl
def qd : Spec := bw (jD fun N n => aG (.mag N) [n < 2 ^ 40])
def dG : aQ := [(lp, qd)]
theorem VR {n : Nat} : bu T dG [] 30 vt (au vt) ⟨aL 0 [.int .u64 n], [], 0⟩ =
  some (aa.ag [(0 : Int) ≤ (32 : Int), (2 : Nat) * 1 ≤ 2 ^ 24, cV 2 fun (i : Nat) ↦ nth [int IntKind.u32 (IntKind.u32.wrap (↑n : Int)), int IntKind.u32 (IntKind.u32.wrap ((↑n : Int).fdiv ((2 : Int) ^ min (Int.toNat (32 : Int)) IntKind.u64.bits)))] (int IntKind.u32 (0 : Int)) (i + 0), (2 : Nat) < 2 ^ 40] (aa.leaf ah.ret [mag (val 2 fun (i : Nat) ↦ numOf (nth [int IntKind.u32 (IntKind.u32.wrap (↑n : Int)), int IntKind.u32 (IntKind.u32.wrap ((↑n : Int).fdiv ((2 : Int) ^ min (Int.toNat (32 : Int)) IntKind.u64.bits)))] (int IntKind.u32 (0 : Int)) (i + 0)))])) := by kernel_rfl
theorem Rc {A : Nat} : bu T dG [6, 8, 14] 30 vq (au vq) ⟨aL 0 [.mag A], [], 0⟩ =
  some (aa.fork ((↑(nl A) : Int) == (0 : Int)) (aa.leaf ah.ret [int IntKind.u64 (0 : Int), AV.bool true]) (aa.fork ((↑(nl A) : Int) == (1 : Int)) (aa.ag [(0 : Int) ≤ (0 : Int) ∧ Int.toNat (0 : Int) < nl A] (aa.leaf ah.ret [int IntKind.u64 (IntKind.u64.wrap (↑(ax A (Int.toNat (0 : Int))) : Int)), AV.bool true])) (aa.fork ((↑(nl A) : Int) == (2 : Int)) (aa.ag [(0 : Int) ≤ (0 : Int) ∧ Int.toNat (0 : Int) < nl A, (0 : Int) ≤ (1 : Int) ∧ Int.toNat (1 : Int) < nl A, (0 : Int) ≤ (32 : Int)] (aa.leaf ah.ret [int IntKind.u64 (IntKind.u64.wrap (↑(BitVec.ofInt IntKind.u64.bits (IntKind.u64.wrap (↑(ax A (Int.toNat (0 : Int))) : Int)) ||| BitVec.ofInt IntKind.u64.bits (IntKind.u64.wrap (IntKind.u64.wrap (↑(ax A (Int.toNat (1 : Int))) : Int) * (2 : Int) ^ min (Int.toNat (32 : Int)) IntKind.u64.bits))).toNat : Int)), AV.bool true])) (aa.leaf ah.ret [int IntKind.u64 (0 : Int), AV.bool false])))) := by kernel_rfl
theorem Ro {A B : Nat} : aI T [] [10, 15] 30 [0, 1, 5, 4] (before (au mV) [1,1,0,1]) ⟨aL 0 [.mag A, .mag B], [], 0⟩ =
  some (aa.fork ((↑(nl A) : Int) != (↑(nl B) : Int)) (aa.fork (decide ((↑(nl A) : Int) < (↑(nl B) : Int))) (aa.leaf ah.ret ([mag A, mag B, tuple [], int IntKind.i64 (-1 : Int)], [])) (aa.leaf ah.ret ([mag A, mag B, tuple [], int IntKind.i64 (1 : Int)], []))) (aa.leaf ah.normal ([mag A, mag B, int IntKind.i64 (IntKind.i64.wrap ((↑(nl A) : Int) - (1 : Int))), int IntKind.i64 (0 : Int)], []))) := by kernel_rfl
theorem Np {A B k : Nat} : aI T [] [20, 31, 40] 30 [0, 1, 5, 4] [part (au mV) [1,1,0,1,0,0]] ⟨aB [0, 1, 5, 4] [.mag A, .mag B, .int .i64 ((k : Int) - 1), .int .i64 0], [], 0⟩ =
  some (aa.fork (decide ((↑k : Int) - (1 : Int) ≥ (0 : Int))) (aa.ag [(0 : Int) ≤ (↑k : Int) - (1 : Int) ∧ ((↑k : Int) - (1 : Int)).toNat < nl A, (0 : Int) ≤ (↑k : Int) - (1 : Int) ∧ ((↑k : Int) - (1 : Int)).toNat < nl B] (aa.fork (decide ((↑(ax A ((↑k : Int) - (1 : Int)).toNat) : Int) < (↑(ax B ((↑k : Int) - (1 : Int)).toNat) : Int))) (aa.leaf ah.ret ([mag A, mag B, int IntKind.i64 ((↑k : Int) - (1 : Int)), int IntKind.i64 (-1 : Int)], [])) (aa.ag [(0 : Int) ≤ (↑k : Int) - (1 : Int) ∧ ((↑k : Int) - (1 : Int)).toNat < nl A, (0 : Int) ≤ (↑k : Int) - (1 : Int) ∧ ((↑k : Int) - (1 : Int)).toNat < nl B] (aa.fork (decide ((↑(ax A ((↑k : Int) - (1 : Int)).toNat) : Int) > (↑(ax B ((↑k : Int) - (1 : Int)).toNat) : Int))) (aa.leaf ah.ret ([mag A, mag B, int IntKind.i64 ((↑k : Int) - (1 : Int)), int IntKind.i64 (1 : Int)], [])) (aa.leaf ah.normal ([mag A, mag B, int IntKind.i64 (IntKind.i64.wrap ((↑k : Int) - (1 : Int) - (1 : Int))), int IntKind.i64 (0 : Int)], [])))))) (aa.leaf (ah.exit 0) ([mag A, mag B, int IntKind.i64 ((↑k : Int) - (1 : Int)), int IntKind.i64 (0 : Int)], []))) := by kernel_rfl
theorem Zm {A B k : Nat} : b9 T [] [] 30 mV (behind (au mV) [1,1,0,1]) ⟨aB [0, 1, 5, 4] [.mag A, .mag B, .int .i64 ((k : Int) - 1), .int .i64 0], [], 0⟩ =
  some (aa.leaf ah.ret [int IntKind.i64 (0 : Int)]) := by kernel_rfl
theorem Yh {n : Nat} {z : Nat → Nat} : aI T [] [7] 30 [3, 4, 2] (before (au mL) [1,1,1,0,1]) ⟨aL 0 [.ak 1 n (aj z)], [], 0⟩ =
  some (aa.fork ((↑n : Int) == (0 : Int)) (aa.leaf ah.ret ([tuple [], tuple [], int IntKind.i64 (0 : Int)], [])) (aa.ag [(0 : Int) ≤ IntKind.i64.wrap ((↑n : Int) - (1 : Int)) ∧ (IntKind.i64.wrap ((↑n : Int) - (1 : Int))).toNat < n] (aa.leaf ah.normal ([int IntKind.i64 (IntKind.i64.wrap ((32 : Int) * IntKind.i64.wrap ((↑n : Int) - (1 : Int)))), int IntKind.u32 (↑(z (IntKind.i64.wrap ((↑n : Int) - (1 : Int))).toNat) : Int), int IntKind.i64 (0 : Int)], [])))) := by kernel_rfl
theorem ZZ {x y : Nat} : aI T [] [19] 30 [3, 4, 2] [part (au mL) [1,1,1,0,1,0,0]] ⟨aB [3, 4, 2] [.int .i64 x, .int .u32 y, .int .i64 0], [], 0⟩ =
  some (aa.fork ((↑y : Int) != (0 : Int)) (aa.ag [(0 : Int) ≤ (1 : Int)] (aa.leaf ah.normal ([int IntKind.i64 (IntKind.i64.wrap ((↑x : Int) + (1 : Int))), int IntKind.u32 ((↑y : Int).fdiv ((2 : Int) ^ min (Int.toNat (1 : Int)) IntKind.u32.bits)), int IntKind.i64 (0 : Int)], []))) (aa.leaf (ah.exit 0) ([int IntKind.i64 (↑x : Int), int IntKind.u32 (↑y : Int), int IntKind.i64 (0 : Int)], []))) := by kernel_rfl
theorem WE {x y : Nat} : b9 T [] [] 30 mL (behind (au mL) [1,1,1,0,1]) ⟨aB [3, 4, 2] [.int .i64 x, .int .u32 y, .int .i64 0], [], 0⟩ =
  some (aa.leaf ah.ret [int IntKind.i64 (↑x : Int)]) := by kernel_rfl
theorem Yk {n : Nat} {z : Nat → Nat} (hz : ∀ i, i < n → z i < 2 ^ 32) (hn : n < 2 ^ 40) (K : Nat) : aA P lp K [.ak 1 n (aj z)] [] (aG (.mag (val n z)) []) := by
 refine fU hT TH rfl (of_decide_eq_true (by kernel_rfl)) rfl (fun _ c h0 => ?_) K []
 refine aq.hole [1,1,0] (by kernel_rfl) (aC.aZ hT bk hm 30 [0, 3] adf (by kernel_rfl) fun s' hv => bP ?_)
 refine aq.fo (i := 0) (y := part (au jJ) [1,1,0,0,0]) (by kernel_rfl) [0, 3] 0 (h0 _) (fun k : Nat => [.ak 1 n (aj z), .int .i64 k]) (fun _ => []) (fun _ => rfl) (fun _ => trivial)
  (fun k => k ≤ n ∧ ∀ i, k ≤ i → i < n → z i = 0) id n hv ⟨Nat.le_refl _, fun i h1 h2 => by omega⟩ ?_
 rintro j ⟨hj, hzj⟩
 refine aq.aZ hT bk hm 30 [0, 3] SX (by kernel_rfl) ?_
 have fin : (j = 0 ∨ z (j - 1) ≠ 0) → ∀ s', aV [0, 3] s' = some ([.ak 1 n (aj z), .int .i64 j], []) → aC P c jJ.ntmps (behind (au jJ) [1,1,0]) s' (dh c (Fin T jJ (.mag (val n z)))) := by
  intro hj0 s' hv
  refine aC.iE hT bk hm 30 hv (h0 0) rfl trivial XQ (by kernel_rfl) (by kernel_rfl) ?_
  simp only [aa.all, ay, Int.toNat_natCast, Int.toNat_zero, Nat.zero_add, Nat.sub_zero, Nat.add_zero]
  have e : val n z = val j z := kq hj hzj
  refine ⟨⟨by omega, by omega, by omega⟩, jh (by rw [e, A4 (fun i hi => hz i (by omega)) hj0]) fun i hi => ?_⟩
  rw [if_neg (by omega), e, mD (fun j hj => hz j (by omega)) hi]
  rfl
 have hw : 0 < j → IntKind.i64.wrap ((j : Int) - 1) = ((j - 1 : Nat) : Int) := fun h => by rw [wrap_i64 (by omega) (by omega)]; omega
 refine ⟨fun hb => ?_, fun hb => ?_⟩
 ·have h1 : 0 < j := by simpa using hb
  rw [hw h1]
  have hj1 : j - 1 < n := by omega
  refine ⟨⟨hb, by omega, by rw [Int.toNat_natCast]; exact hj1⟩, fun hc s' hv => ?_, fun hc s' hv => ?_⟩
  ·refine ⟨j - 1, hv, ⟨by omega, fun i h1 h2 => ?_⟩, by simp; omega⟩
   by_cases hi : i = j - 1
   ·subst hi; simpa using hc
   ·exact hzj i (by omega) h2
  ·exact dS (fin (.inr (by simpa using hc)) s' hv)
 ·have h1 : j = 0 := by simpa using hb
  refine ⟨hb, fun hc => by simp at hc, fun hc s' hv => dS (fin (.inl h1) s' hv)⟩
theorem xz : ∀ K args pre r, qd K args pre = some r → aA P lp K args pre r :=
 bI (qF fun _ _ K hz need => Yk hz need K)
theorem dM : aY P dG := aF xz bk
theorem adW {x : Nat} (hx : x < 2 ^ 64) (K : Nat) : aA P nr K [.int .u64 x] [] (aG (.mag x) []) := by
 refine bC hT dM hm aaS rfl (of_decide_eq_true (by kernel_rfl)) rfl 30 VR (fun _ => ?_) K []
 simp only [aa.all, ay, jq]
 refine ⟨⟨by omega, by omega, fun i hi => ?_, by omega⟩, cI (congrArg AV.mag ?_)⟩
 ·match i, hi with
  | 0, _ => exact ⟨x % 2 ^ 32, by omega, by simp [nth, gU]⟩
  | 1, _ => exact ⟨x / 4294967296, by omega, by simp [nth, jz]; omega⟩
 ·rw [val_two]
  simp [nth, numOf, jz]
  omega
def xO : Spec := bw fun l => match l with
 | [.int .u64 x] => some (aG (.mag x.toNat) [0 ≤ x ∧ x < 2 ^ 64])
 | _ => none
theorem Ay : ∀ K args pre r, xO K args pre = some r → aA P nr K args pre r := by
 refine bI fun K args r hk hs _ => ?_
 split at hs
 ·simp only [Option.some.injEq] at hs
  subst hs
  intro need
  obtain ⟨h1, h2⟩ := need
  rename_i x
  obtain ⟨y, rfl⟩ := Int.eq_ofNat_of_zero_le h1
  exact adW (x := y) (by omega) K trivial
 ·simp at hs
def cQ (A : Nat) : Bool := decide (A < 18446744073709551616)
theorem YC {A : Nat} (K : Nat) : aA P qa K [.mag A] [] (aG (.tuple [.int .u64 (if cQ A then A else 0 : Nat), .bool (cQ A)]) []) := by
 refine bC hT dM hm Wh rfl (of_decide_eq_true (by kernel_rfl)) rfl 30 Rc (fun _ => ?_) K []
 simp only [aa.all, ay, beq_iff_eq, beq_eq_false_iff_ne, ne_eq, Int.toNat_zero, show Int.toNat 1 = 1 from rfl]
 have hv := eB (N := A)
 have l0 := cJ (N := A) (i := 0)
 have l1 := cJ (N := A) (i := 1)
 have yes : ∀ {x : Int}, A < 2 ^ 64 → x = (A : Nat) → dn [.int .u64 x, .bool true] (.tuple [.int .u64 (if cQ A then A else 0 : Nat), .bool (cQ A)]) := fun h hx => by
  have : cQ A = true := by unfold cQ; simpa using h
  rw [this, if_pos rfl]
  exact ⟨bq hx, .refl _, trivial⟩
 refine ⟨fun hb => yes ?_ ?_, fun hb => ⟨fun h1 => ⟨by omega, yes ?_ ?_⟩, fun h1 => ⟨fun h2 => ⟨⟨by omega, by omega, by omega⟩, yes ?_ ?_⟩, fun h2 => ?_⟩⟩⟩
 ·have : A = 0 := gP.1 (by omega)
  omega
 ·have : A = 0 := gP.1 (by omega)
  rw [this]; rfl
 ·exact mz (by omega)
 ·rw [show nl A = 1 by omega, val, val] at hv
  rw [wrap_u64 (by omega) (by omega)]
  simp at hv; omega
 ·exact mz (by omega)
 ·rw [show nl A = 2 by omega, val, val, val] at hv
  have e1 : IntKind.u64.wrap (ax A 0 : Int) = ((ax A 0 : Nat) : Int) := wrap_u64 (by omega) (by omega)
  have e2 : IntKind.u64.wrap (ax A 1 : Int) = ((ax A 1 : Nat) : Int) := wrap_u64 (by omega) (by omega)
  have e3 : IntKind.u64.wrap ((ax A 1 : Int) * 2 ^ min (Int.toNat 32) IntKind.u64.bits) = ((ax A 1 * 4294967296 : Nat) : Int) := by
   rw [ye, wrap_u64 (by omega) (by omega)]; omega
  rw [e1, e2, e3, qn (by omega) (by omega)]
  congr 1
  rw [Nat.or_comm, show 4294967296 = 2 ^ 32 from rfl, oS l0]
  simp at hv; omega
 ·have : cQ A = false := by
   unfold cQ
   simp only [decide_eq_false_iff_not]
   intro h
   have : nl A ≤ 2 := cA.2 h
   omega
  rw [this]
  exact ⟨.refl _, .refl _, trivial⟩
def Dl : Spec := bw fun l => match l with
 | [a] => match fZ a with
  | some A => some (aG (.tuple [.int .u64 (if cQ A then A else 0 : Nat), .bool (cQ A)]) [])
  | none => none
 | _ => none
theorem G8 : ∀ K args pre r, Dl K args pre = some r → aA P qa K args pre r := by
 refine bI fun K args r hk hs _ => ?_
 split at hs
 ·split at hs
  ·rename_i A hA
   simp only [Option.some.injEq] at hs
   subst hs
   exact eR (YC K) hk ⟨jw hA, trivial⟩ []
  ·simp at hs
 ·simp at hs
theorem XV {A B : Nat} (hA : nl A < 2 ^ 40) (hB : nl B < 2 ^ 40) (K : Nat) : aA P mW K [.mag A, .mag B] [] (aG (.int .i64 (bT A B)) []) := by
 refine fU hT Y4 rfl (of_decide_eq_true (by kernel_rfl)) rfl (fun _ c h0 => ?_) K []
 refine aq.hole [1,1,0,1] (by kernel_rfl) (aC.aZ hT bk hm 30 [0, 1, 5, 4] Ro (by kernel_rfl) ?_)
 simp only [aa.all, ay, decide_eq_true_eq, decide_eq_false_iff_not, bne_iff_ne, ne_eq, Int.natCast_inj, bne_eq_false_iff_eq]
 refine ⟨fun hb => ⟨fun hb2 s' hv => dY (.inl ?_), fun hb2 s' hv => dY (.inl ?_)⟩, fun hb s' hv => bP ?_⟩
 ·have h1 : A < B := zN (by omega)
  exact eP (us := [.int .i64 (-1)]) (.inr rfl) hv (by kernel_rfl) (bq (by simp [bT, h1]))
 ·have h1 : B < A := zN (by omega)
  exact eP (us := [.int .i64 1]) (.inr rfl) hv (by kernel_rfl) (bq (by simp [bT, h1]; omega))
 refine aq.fo (i := 0) (y := part (au mV) [1,1,0,1,0,0]) (by kernel_rfl) [0, 1, 5, 4] 0 (h0 _) (fun k : Nat => [.mag A, .mag B, .int .i64 ((k : Int) - 1), .int .i64 0]) (fun _ => []) (fun _ => rfl) (fun _ => trivial)
  (fun k => k ≤ nl A ∧ ∀ j, k ≤ j → j < nl A → ax A j = ax B j) id (nl A) (cN hv (by rw [wrap_i64 (by omega) (by omega)]) rfl) ⟨by simp, fun j h1 h2 => by omega⟩ ?_
 rintro k ⟨hk, hlim⟩
 refine aq.aZ hT bk hm 30 [0, 1, 5, 4] Np (by kernel_rfl) ?_
 simp only [aa.all, ay, decide_eq_true_eq, decide_eq_false_iff_not]
 refine ⟨fun hb2 => ?_, fun hb2 s' hv => dS ?_⟩
 ·obtain ⟨j, rfl⟩ : ∃ j, k = j + 1 := ⟨k - 1, by omega⟩
  have e : (((j + 1 : Nat) : Int) - 1).toNat = j := by omega
  rw [e]
  refine ⟨⟨by omega, by omega⟩, fun hlt s' hv => Ir (dY (.inl ?_)), fun hlt => ⟨⟨by omega, by omega⟩, fun hgt s' hv => Ir (dY (.inl ?_)), fun hgt s' hv => ?_⟩⟩
  ·have h1 : A < B := Ax hb (k := j) (by omega) (fun i h1 h2 => hlim i (by omega) h2) (by omega)
   exact eP (us := [.int .i64 (-1)]) (.inr rfl) hv (by kernel_rfl) (bq (by simp [bT, h1]))
  ·have h1 : B < A := Ax hb.symm (k := j) (by omega) (fun i h1 h2 => (hlim i (by omega) (by omega)).symm) (by omega)
   exact eP (us := [.int .i64 1]) (.inr rfl) hv (by kernel_rfl) (bq (by simp [bT, h1]; omega))
  ·refine ⟨j, cN hv (by rw [wrap_i64 (by omega) (by omega)]; congr 4; omega) rfl, ⟨by omega, fun i h1 h2 => ?_⟩, by simp⟩
   by_cases hi : i = j
   ·subst hi; omega
   ·exact hlim i (by omega) h2
 ·have hk0 : k = 0 := by omega
  have hAB : A = B := DF hb fun i hi => hlim i (by omega) hi
  exact bP (aC.iE hT bk hm 30 hv (h0 0) rfl trivial Zm (by kernel_rfl) (by kernel_rfl) (bq (by simp [bT, hAB])))
def kO (g : Nat → Nat → AV) (l : Nat → Nat → List Prop) : Spec := bw fun a => match a with
 | [x, y] => match fZ x, fZ y with
  | some A, some B => some (aG (g A B) (l A B))
  | _, _ => none
 | _ => none
theorem nh {f : FuncId} {g : Nat → Nat → AV} {l : Nat → Nat → List Prop} (h : ∀ {A B : Nat}, ay (l A B) → ∀ K, aA P f K [.mag A, .mag B] [] (aG (g A B) [])) : ∀ K args pre r, kO g l K args pre = some r → aA P f K args pre r := by
 refine bI fun K args r hk hs _ => ?_
 split at hs
 ·split at hs
  ·rename_i A B hA hB
   simp only [Option.some.injEq] at hs
   subst hs
   exact fun need => eR (h need K) hk ⟨jw hA, jw hB, trivial⟩ [] trivial
  ·simp at hs
 ·simp at hs
abbrev Ez (A B : Nat) : List Prop := [nl A < 2 ^ 40, nl B < 2 ^ 40]
def um : Spec := kO (fun A B => .int .i64 (bT A B)) Ez
theorem z5 : ∀ K args pre r, um K args pre = some r → aA P mW K args pre r := nh fun h => XV h.1 h.2
theorem aeo {n : Nat} {z : Nat → Nat} (hz : ∀ i, i < n → z i < 2 ^ 32) (hn : n < 2 ^ 40) (hnl : nl (val n z) = n) (K : Nat) : aA P uy K [.ak 1 n (aj z)] [] (aG (.int .i64 (bg (val n z) : Nat)) []) := by
 refine fU hT Tp rfl (of_decide_eq_true (by kernel_rfl)) rfl (fun _ c h0 => ?_) K []
 refine aq.hole [1,1,1,0,1] (by kernel_rfl) (aC.aZ hT bk hm 30 [3, 4, 2] Yh (by kernel_rfl) ?_)
 simp only [aa.all, ay, beq_iff_eq, beq_eq_false_iff_ne, ne_eq]
 refine ⟨fun hb s' hv => dY (.inl ?_), fun hb => ?_⟩
 ·have h1 : n = 0 := by omega
  have h2 : val n z = 0 := by rw [h1]; rfl
  exact eP (us := [.int .i64 0]) (.inr rfl) hv (by kernel_rfl) (bq (by rw [h2]; rfl))
 have w1 : IntKind.i64.wrap ((n : Int) - 1) = ((n - 1 : Nat) : Int) := dr (by omega) (by omega)
 have w2 : IntKind.i64.wrap (32 * ((n - 1 : Nat) : Int)) = ((32 * (n - 1) : Nat) : Int) := dr (by omega) (by omega)
 rw [w1, w2]
 simp only [Int.toNat_natCast]
 refine ⟨by omega, fun s' hv => bP ?_⟩
 have hzt := hz (n - 1) (by omega)
 have htot : bg (val n z) = 32 * (n - 1) + bg (z (n - 1)) := by
  have h0 : val n z ≠ 0 := eE.1 (by omega)
  rw [Ks h0, hnl, mD hz (by omega)]
 refine aq.fo (i := 0) (y := part (au mL) [1,1,1,0,1,0,0]) (by kernel_rfl) [3, 4, 2] 0 (h0 _) (fun p : Nat × Nat => [.int .i64 (p.1 : Nat), .int .u32 (p.2 : Nat), .int .i64 0]) (fun _ => []) (fun _ => rfl) (fun _ => trivial)
  (fun p => p.1 + bg p.2 = bg (val n z) ∧ p.2 < 2 ^ 32) (fun p => p.2) (32 * (n - 1), z (n - 1)) hv ⟨htot.symm, hzt⟩ ?_
 rintro ⟨x, y⟩ ⟨hxy, hy⟩
 simp only at hxy hy
 have hb32 : bg (z (n - 1)) ≤ 32 := gN.2 hzt
 refine aq.aZ hT bk hm 30 [3, 4, 2] ZZ (by kernel_rfl) ?_
 rw [tv (by decide) (by decide)]
 simp only [aa.all, ay, bne_iff_ne, ne_eq, bne_eq_false_iff_eq, show Int.toNat 1 = 1 from rfl]
 refine ⟨fun hc => ⟨by omega, fun s' hv => ?_⟩, fun hc s' hv => dS (bP ?_)⟩
 ·have hy0 : 0 < y := by omega
  have e : bg y = 1 + bg (y / 2) := by
   by_cases h1 : y = 1
   ·rw [h1]; decide
   ·exact qU (k := 1) (by omega)
  have hd : y / 2 < y := by omega
  exact ⟨(x + 1, y / 2), cN hv (by rw [dr (a := (x : Int) + 1) (n := x + 1) (by omega) (by omega)]) rfl, ⟨by simp only; omega, by simp only; omega⟩, by simp only; omega⟩
 ·have hy0 : y = 0 := by omega
  refine aC.iE hT bk hm 30 hv (h0 0) rfl trivial WE (by kernel_rfl) (by kernel_rfl) (bq ?_)
  rw [hy0] at hxy
  simp [bg] at hxy
  rw [hxy]; simp [bg]
def JN : Spec := bw (jD fun N n => aG (.int .i64 (bg N : Nat)) [n < 2 ^ 40, nl N = n])
theorem T0 : ∀ K args pre r, JN K args pre = some r → aA P uy K args pre r :=
 bI (qF fun _ _ K hz need => aeo hz need.1 need.2 K)
end Go.Am.B
