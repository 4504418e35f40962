/- ref01: Trim, Of, small, Cmp, Bits. -/
import Derived.Test.YtbghpkgbokbmlaaGreatB21
set_option linter.unusedVariables false
namespace Go.Am.B
open Go Go.Am.N AV
theorem Pw : aO P jz iy (au iy) := aL PC (by kernel_rfl) (by kernel_rfl) (by kernel_rfl)
theorem ID : aO P kE sw (au sw) := aL Ts (by kernel_rfl) (by kernel_rfl) (by kernel_rfl)
theorem Sy : aO P mC oX (au oX) := aL Gd (by kernel_rfl) (by kernel_rfl) (by kernel_rfl)
theorem Iy : aO P kg kM (au kM) := aL NJ (by kernel_rfl) (by kernel_rfl) (by kernel_rfl)
theorem P4 : aO P o7 kz (au kz) := aL Sb (by kernel_rfl) (by kernel_rfl) (by kernel_rfl)
theorem NT {n : Nat} {z : Nat → Nat} : aI T [] [] 30 [0, 3] (before (au iy) [1,1,0]) ⟨aM 0 [.ak 1 n (ag z)], [], 0⟩ =
  some (aa.leaf ah.normal ([ak 1 n (ag z), int IntKind.i64 (↑n : Int)], [])) := by kernel_rfl
theorem Jn {n k : Nat} {z : Nat → Nat} : aI T [] [8, 15] 30 [0, 3] [part (au iy) [1,1,0,0,0]] ⟨aB [0, 3] [.ak 1 n (ag z), .int .i64 k], [], 0⟩ =
  some (aa.fork (decide ((↑k : Int) > (0 : Int))) (aa.af [decide ((↑k : Int) > (0 : Int)) = true, (0 : Int) ≤ IntKind.i64.wrap ((↑k : Int) - (1 : Int)) ∧ (IntKind.i64.wrap ((↑k : Int) - (1 : Int))).toNat < n] (aa.fork (bif true then (↑(z (IntKind.i64.wrap ((↑k : Int) - (1 : Int))).toNat) : Int) == (0 : Int) else false) (aa.leaf ah.normal ([ak 1 n (ag z), int IntKind.i64 (IntKind.i64.wrap ((↑k : Int) - (1 : Int)))], [])) (aa.leaf (ah.exit 0) ([ak 1 n (ag z), int IntKind.i64 (↑k : Int)], [])))) (aa.af [decide ((↑k : Int) > (0 : Int)) = false] (aa.fork false (aa.leaf ah.normal ([ak 1 n (ag z), int IntKind.i64 (IntKind.i64.wrap ((↑k : Int) - (1 : Int)))], [])) (aa.leaf (ah.exit 0) ([ak 1 n (ag z), int IntKind.i64 (↑k : Int)], []))))) := by kernel_rfl
theorem HQ {n k : Nat} {z : Nat → Nat} : cr T [] [] 30 iy (behind (au iy) [1,1,0]) ⟨aB [0, 3] [.ak 1 n (ag z), .int .i64 k], [], 0⟩ =
  some (aa.af [(0 : Nat) * 1 ≤ 2 ^ 24, (0 : Int) ≤ (0 : Int) ∧ (0 : Int) ≤ (↑k : Int) ∧ (↑k : Int) ≤ (↑k : Int) ∧ (↑k : Int) ≤ (↑n : Int), ((0 : Nat) + ((↑k : Int).toNat - Int.toNat (0 : Int))) * ((4 : Nat) + 1) * 2 ≤ 2 ^ 47] (aa.leaf ah.ret [ak 1 ((0 : Nat) + ((↑k : Int).toNat - Int.toNat (0 : Int))) fun (i : Nat) ↦ if i + 0 < 0 then nth [] (int IntKind.u32 (0 : Int)) (i + 0) else ag z (i + 0 - 0 + Int.toNat (0 : Int))])) := by kernel_rfl
def ov : Spec := bk (iw fun N n => aG (.mag N) [n < 2 ^ 40])
def cT : aP := [(jz, ov)]
theorem LK {n : Nat} : bw T cT [] 30 sw (au sw) ⟨aM 0 [.int .u64 n], [], 0⟩ =
  some (aa.af [(0 : Int) ≤ (32 : Int), (2 : Nat) * 1 ≤ 2 ^ 24, cB 2 fun (i : Nat) ↦ nth [int IntKind.u32 (IntKind.u32.wrap (↑n : Int)), int IntKind.u32 (IntKind.u32.wrap ((↑n : Int).fdiv ((2 : Int) ^ min (Int.toNat (32 : Int)) IntKind.u64.bits)))] (int IntKind.u32 (0 : Int)) (i + 0), (2 : Nat) < 2 ^ 40] (aa.leaf ah.ret [mag (val 2 fun (i : Nat) ↦ numOf (nth [int IntKind.u32 (IntKind.u32.wrap (↑n : Int)), int IntKind.u32 (IntKind.u32.wrap ((↑n : Int).fdiv ((2 : Int) ^ min (Int.toNat (32 : Int)) IntKind.u64.bits)))] (int IntKind.u32 (0 : Int)) (i + 0)))])) := by kernel_rfl
theorem Nr {A : Nat} : bw T cT [6, 8, 14] 30 oX (au oX) ⟨aM 0 [.mag A], [], 0⟩ =
  some (aa.fork ((↑(nl A) : Int) == (0 : Int)) (aa.leaf ah.ret [int IntKind.u64 (0 : Int), AV.bool true]) (aa.fork ((↑(nl A) : Int) == (1 : Int)) (aa.af [(0 : Int) ≤ (0 : Int) ∧ Int.toNat (0 : Int) < nl A] (aa.leaf ah.ret [int IntKind.u64 (IntKind.u64.wrap (↑(aj A (Int.toNat (0 : Int))) : Int)), AV.bool true])) (aa.fork ((↑(nl A) : Int) == (2 : Int)) (aa.af [(0 : Int) ≤ (0 : Int) ∧ Int.toNat (0 : Int) < nl A, (0 : Int) ≤ (1 : Int) ∧ Int.toNat (1 : Int) < nl A, (0 : Int) ≤ (32 : Int)] (aa.leaf ah.ret [int IntKind.u64 (IntKind.u64.wrap (↑(BitVec.ofInt IntKind.u64.bits (IntKind.u64.wrap (↑(aj A (Int.toNat (0 : Int))) : Int)) ||| BitVec.ofInt IntKind.u64.bits (IntKind.u64.wrap (IntKind.u64.wrap (↑(aj A (Int.toNat (1 : Int))) : Int) * (2 : Int) ^ min (Int.toNat (32 : Int)) IntKind.u64.bits))).toNat : Int)), AV.bool true])) (aa.leaf ah.ret [int IntKind.u64 (0 : Int), AV.bool false])))) := by kernel_rfl
theorem Lr {A B : Nat} : aI T [] [10, 15] 30 [0, 1, 5, 4] (before (au kM) [1,1,0,1]) ⟨aM 0 [.mag A, .mag B], [], 0⟩ =
  some (aa.fork ((↑(nl A) : Int) != (↑(nl B) : Int)) (aa.fork (decide ((↑(nl A) : Int) < (↑(nl B) : Int))) (aa.leaf ah.ret ([mag A, mag B, tuple [], int IntKind.i64 (-1 : Int)], [])) (aa.leaf ah.ret ([mag A, mag B, tuple [], int IntKind.i64 (1 : Int)], []))) (aa.leaf ah.normal ([mag A, mag B, int IntKind.i64 (IntKind.i64.wrap ((↑(nl A) : Int) - (1 : Int))), int IntKind.i64 (0 : Int)], []))) := by kernel_rfl
theorem L5 {A B k : Nat} : aI T [] [20, 31, 40] 30 [0, 1, 5, 4] [part (au kM) [1,1,0,1,0,0]] ⟨aB [0, 1, 5, 4] [.mag A, .mag B, .int .i64 ((k : Int) - 1), .int .i64 0], [], 0⟩ =
  some (aa.fork (decide ((↑k : Int) - (1 : Int) ≥ (0 : Int))) (aa.af [(0 : Int) ≤ (↑k : Int) - (1 : Int) ∧ ((↑k : Int) - (1 : Int)).toNat < nl A, (0 : Int) ≤ (↑k : Int) - (1 : Int) ∧ ((↑k : Int) - (1 : Int)).toNat < nl B] (aa.fork (decide ((↑(aj A ((↑k : Int) - (1 : Int)).toNat) : Int) < (↑(aj B ((↑k : Int) - (1 : Int)).toNat) : Int))) (aa.leaf ah.ret ([mag A, mag B, int IntKind.i64 ((↑k : Int) - (1 : Int)), int IntKind.i64 (-1 : Int)], [])) (aa.af [(0 : Int) ≤ (↑k : Int) - (1 : Int) ∧ ((↑k : Int) - (1 : Int)).toNat < nl A, (0 : Int) ≤ (↑k : Int) - (1 : Int) ∧ ((↑k : Int) - (1 : Int)).toNat < nl B] (aa.fork (decide ((↑(aj A ((↑k : Int) - (1 : Int)).toNat) : Int) > (↑(aj B ((↑k : Int) - (1 : Int)).toNat) : Int))) (aa.leaf ah.ret ([mag A, mag B, int IntKind.i64 ((↑k : Int) - (1 : Int)), int IntKind.i64 (1 : Int)], [])) (aa.leaf ah.normal ([mag A, mag B, int IntKind.i64 (IntKind.i64.wrap ((↑k : Int) - (1 : Int) - (1 : Int))), int IntKind.i64 (0 : Int)], [])))))) (aa.leaf (ah.exit 0) ([mag A, mag B, int IntKind.i64 ((↑k : Int) - (1 : Int)), int IntKind.i64 (0 : Int)], []))) := by kernel_rfl
theorem F7 {A B k : Nat} : cr T [] [] 30 kM (behind (au kM) [1,1,0,1]) ⟨aB [0, 1, 5, 4] [.mag A, .mag B, .int .i64 ((k : Int) - 1), .int .i64 0], [], 0⟩ =
  some (aa.leaf ah.ret [int IntKind.i64 (0 : Int)]) := by kernel_rfl
theorem Tc {n : Nat} {z : Nat → Nat} : aI T [] [7] 30 [3, 4, 2] (before (au kz) [1,1,1,0,1]) ⟨aM 0 [.ak 1 n (ag z)], [], 0⟩ =
  some (aa.fork ((↑n : Int) == (0 : Int)) (aa.leaf ah.ret ([tuple [], tuple [], int IntKind.i64 (0 : Int)], [])) (aa.af [(0 : Int) ≤ IntKind.i64.wrap ((↑n : Int) - (1 : Int)) ∧ (IntKind.i64.wrap ((↑n : Int) - (1 : Int))).toNat < n] (aa.leaf ah.normal ([int IntKind.i64 (IntKind.i64.wrap ((32 : Int) * IntKind.i64.wrap ((↑n : Int) - (1 : Int)))), int IntKind.u32 (↑(z (IntKind.i64.wrap ((↑n : Int) - (1 : Int))).toNat) : Int), int IntKind.i64 (0 : Int)], [])))) := by kernel_rfl
theorem Qa {x y : Nat} : aI T [] [19] 30 [3, 4, 2] [part (au kz) [1,1,1,0,1,0,0]] ⟨aB [3, 4, 2] [.int .i64 x, .int .u32 y, .int .i64 0], [], 0⟩ =
  some (aa.fork ((↑y : Int) != (0 : Int)) (aa.af [(0 : Int) ≤ (1 : Int)] (aa.leaf ah.normal ([int IntKind.i64 (IntKind.i64.wrap ((↑x : Int) + (1 : Int))), int IntKind.u32 ((↑y : Int).fdiv ((2 : Int) ^ min (Int.toNat (1 : Int)) IntKind.u32.bits)), int IntKind.i64 (0 : Int)], []))) (aa.leaf (ah.exit 0) ([int IntKind.i64 (↑x : Int), int IntKind.u32 (↑y : Int), int IntKind.i64 (0 : Int)], []))) := by kernel_rfl
theorem Vb {x y : Nat} : cr T [] [] 30 kz (behind (au kz) [1,1,1,0,1]) ⟨aB [3, 4, 2] [.int .i64 x, .int .u32 y, .int .i64 0], [], 0⟩ =
  some (aa.leaf ah.ret [int IntKind.i64 (↑x : Int)]) := by kernel_rfl
theorem Vk {n : Nat} {z : Nat → Nat} (hz : ∀ i, i < n → z i < 2 ^ 32) (hn : n < 2 ^ 40) (K : Nat) : az P jz K [.ak 1 n (ag z)] [] (aG (.mag (val n z)) []) := by
 refine fk hT Pw rfl (of_decide_eq_true (by kernel_rfl)) rfl (fun _ c h0 => ?_) K []
 refine aq.hole [1,1,0] (by kernel_rfl) (ax.aV hT aZ hm 30 [0, 3] NT (by kernel_rfl) fun s' hv => bu ?_)
 refine aq.eM (i := 0) (y := part (au iy) [1,1,0,0,0]) (by kernel_rfl) [0, 3] 0 (h0 _) (fun k : Nat => [.ak 1 n (ag z), .int .i64 k]) (fun _ => []) (fun _ => rfl) (fun _ => trivial)
  (fun k => k ≤ n ∧ ∀ i, k ≤ i → i < n → z i = 0) id n hv ⟨Nat.le_refl _, fun i h1 h2 => by omega⟩ ?_
 rintro j ⟨hj, hzj⟩
 refine aq.aV hT aZ hm 30 [0, 3] Jn (by kernel_rfl) ?_
 have fin : (j = 0 ∨ z (j - 1) ≠ 0) → ∀ s', aR [0, 3] s' = some ([.ak 1 n (ag z), .int .i64 j], []) → ax P c iy.ntmps (behind (au iy) [1,1,0]) s' (de c (Fin T iy (.mag (val n z)))) := by
  intro hj0 s' hv
  refine ax.gh hT aZ hm 30 hv (h0 0) rfl trivial HQ (by kernel_rfl) (by kernel_rfl) ?_
  simp only [aa.all, ay, Int.toNat_natCast, Int.toNat_zero, Nat.zero_add, Nat.sub_zero, Nat.add_zero]
  have e : val n z = val j z := iX hj hzj
  refine ⟨⟨by omega, by omega, by omega⟩, gQ (by rw [e, tr (fun i hi => hz i (by omega)) hj0]) fun i hi => ?_⟩
  rw [if_neg (by omega), e, j3 (fun j hj => hz j (by omega)) hi]
  rfl
 have hw : 0 < j → IntKind.i64.wrap ((j : Int) - 1) = ((j - 1 : Nat) : Int) := fun h => by rw [wrap_i64 (by omega) (by omega)]; omega
 refine ⟨fun hb => ?_, fun hb => ?_⟩
 ·have h1 : 0 < j := by simpa using hb
  rw [hw h1]
  have hj1 : j - 1 < n := by omega
  refine ⟨⟨hb, by omega, by rw [Int.toNat_natCast]; exact hj1⟩, fun hc s' hv => ?_, fun hc s' hv => ?_⟩
  ·refine ⟨j - 1, hv, ⟨by omega, fun i h1 h2 => ?_⟩, by simp; omega⟩
   by_cases hi : i = j - 1
   ·subst hi; simpa using hc
   ·exact hzj i (by omega) h2
  ·exact dr (fin (.inr (by simpa using hc)) s' hv)
 ·have h1 : j = 0 := by simpa using hb
  refine ⟨hb, fun hc => by simp at hc, fun hc s' hv => dr (fin (.inl h1) s' hv)⟩
theorem pT : ∀ K args pre r, ov K args pre = some r → az P jz K args pre r :=
 bD (mK fun _ _ K hz need => Vk hz need K)
theorem cZ : aX P cT := aE pT aZ
theorem NO {x : Nat} (hx : x < 2 ^ 64) (K : Nat) : az P kE K [.int .u64 x] [] (aG (.mag x) []) := by
 refine bC hT cZ hm ID rfl (of_decide_eq_true (by kernel_rfl)) rfl 30 LK (fun _ => ?_) K []
 simp only [aa.all, ay, gZ]
 refine ⟨⟨by omega, by omega, fun i hi => ?_, by omega⟩, cI (congrArg AV.mag ?_)⟩
 ·match i, hi with
  | 0, _ => exact ⟨x % 2 ^ 32, by omega, by simp [nth, fX]⟩
  | 1, _ => exact ⟨x / 4294967296, by omega, by simp [nth, gN]; omega⟩
 ·rw [val_two]
  simp [nth, numOf, gN]
  omega
def oM : Spec := bk fun l => match l with
 | [.int .u64 x] => some (aG (.mag x.toNat) [0 ≤ x ∧ x < 2 ^ 64])
 | _ => none
theorem ug : ∀ K args pre r, oM K args pre = some r → az P kE K args pre r := by
 refine bD fun K args r hk hs _ => ?_
 split at hs
 ·simp only [Option.some.injEq] at hs
  subst hs
  intro need
  obtain ⟨h1, h2⟩ := need
  rename_i x
  obtain ⟨y, rfl⟩ := Int.eq_ofNat_of_zero_le h1
  exact NO (x := y) (by omega) K trivial
 ·simp at hs
def ct (A : Nat) : Bool := decide (A < 18446744073709551616)
theorem OH {A : Nat} (K : Nat) : az P mC K [.mag A] [] (aG (.tuple [.int .u64 (if ct A then A else 0 : Nat), .bool (ct A)]) []) := by
 refine bC hT cZ hm Sy rfl (of_decide_eq_true (by kernel_rfl)) rfl 30 Nr (fun _ => ?_) K []
 simp only [aa.all, ay, beq_iff_eq, beq_eq_false_iff_ne, ne_eq, Int.toNat_zero, show Int.toNat 1 = 1 from rfl]
 have hv := dX (N := A)
 have l0 := b9 (N := A) (i := 0)
 have l1 := b9 (N := A) (i := 1)
 have yes : ∀ {x : Int}, A < 2 ^ 64 → x = (A : Nat) → dL [.int .u64 x, .bool true] (.tuple [.int .u64 (if ct A then A else 0 : Nat), .bool (ct A)]) := fun h hx => by
  have : ct A = true := by unfold ct; simpa using h
  rw [this, if_pos rfl]
  exact ⟨bf hx, .refl _, trivial⟩
 refine ⟨fun hb => yes ?_ ?_, fun hb => ⟨fun h1 => ⟨by omega, yes ?_ ?_⟩, fun h1 => ⟨fun h2 => ⟨⟨by omega, by omega, by omega⟩, yes ?_ ?_⟩, fun h2 => ?_⟩⟩⟩
 ·have : A = 0 := gf.1 (by omega)
  omega
 ·have : A = 0 := gf.1 (by omega)
  rw [this]; rfl
 ·exact kJ (by omega)
 ·rw [show nl A = 1 by omega, val, val] at hv
  rw [bn (by omega) (by omega)]
  simp at hv; omega
 ·exact kJ (by omega)
 ·rw [show nl A = 2 by omega, val, val, val] at hv
  have e1 : IntKind.u64.wrap (aj A 0 : Int) = ((aj A 0 : Nat) : Int) := bn (by omega) (by omega)
  have e2 : IntKind.u64.wrap (aj A 1 : Int) = ((aj A 1 : Nat) : Int) := bn (by omega) (by omega)
  have e3 : IntKind.u64.wrap ((aj A 1 : Int) * 2 ^ min (Int.toNat 32) IntKind.u64.bits) = ((aj A 1 * 4294967296 : Nat) : Int) := by
   rw [qJ, bn (by omega) (by omega)]; omega
  rw [e1, e2, e3, mR (by omega) (by omega)]
  congr 1
  rw [Nat.or_comm, show 4294967296 = 2 ^ 32 from rfl, lD l0]
  simp at hv; omega
 ·have : ct A = false := by
   unfold ct
   simp only [decide_eq_false_iff_not]
   intro h
   have : nl A ≤ 2 := bX.2 h
   omega
  rw [this]
  exact ⟨.refl _, .refl _, trivial⟩
def yL : Spec := bk fun l => match l with
 | [a] => match fB a with
  | some A => some (aG (.tuple [.int .u64 (if ct A then A else 0 : Nat), .bool (ct A)]) [])
  | none => none
 | _ => none
theorem BW : ∀ K args pre r, yL K args pre = some r → az P mC K args pre r := by
 refine bD fun K args r hk hs _ => ?_
 split at hs
 ·split at hs
  ·rename_i A hA
   simp only [Option.some.injEq] at hs
   subst hs
   exact eF (OH K) hk ⟨gV hA, trivial⟩ []
  ·simp at hs
 ·simp at hs
theorem Qx {A B : Nat} (hA : nl A < 2 ^ 40) (hB : nl B < 2 ^ 40) (K : Nat) : az P kg K [.mag A, .mag B] [] (aG (.int .i64 (bB A B)) []) := by
 refine fk hT Iy rfl (of_decide_eq_true (by kernel_rfl)) rfl (fun _ c h0 => ?_) K []
 refine aq.hole [1,1,0,1] (by kernel_rfl) (ax.aV hT aZ hm 30 [0, 1, 5, 4] Lr (by kernel_rfl) ?_)
 simp only [aa.all, ay, decide_eq_true_eq, decide_eq_false_iff_not, bne_iff_ne, ne_eq, Int.natCast_inj, bne_eq_false_iff_eq]
 refine ⟨fun hb => ⟨fun hb2 s' hv => dx (.inl ?_), fun hb2 s' hv => dx (.inl ?_)⟩, fun hb s' hv => bu ?_⟩
 ·have h1 : A < B := td (by omega)
  exact en (us := [.int .i64 (-1)]) (.inr rfl) hv (by kernel_rfl) (bf (by simp [bB, h1]))
 ·have h1 : B < A := td (by omega)
  exact en (us := [.int .i64 1]) (.inr rfl) hv (by kernel_rfl) (bf (by simp [bB, h1]; omega))
 refine aq.eM (i := 0) (y := part (au kM) [1,1,0,1,0,0]) (by kernel_rfl) [0, 1, 5, 4] 0 (h0 _) (fun k : Nat => [.mag A, .mag B, .int .i64 ((k : Int) - 1), .int .i64 0]) (fun _ => []) (fun _ => rfl) (fun _ => trivial)
  (fun k => k ≤ nl A ∧ ∀ j, k ≤ j → j < nl A → aj A j = aj B j) id (nl A) (cm hv (by rw [wrap_i64 (by omega) (by omega)]) rfl) ⟨by simp, fun j h1 h2 => by omega⟩ ?_
 rintro k ⟨hk, hlim⟩
 refine aq.aV hT aZ hm 30 [0, 1, 5, 4] L5 (by kernel_rfl) ?_
 simp only [aa.all, ay, decide_eq_true_eq, decide_eq_false_iff_not]
 refine ⟨fun hb2 => ?_, fun hb2 s' hv => dr ?_⟩
 ·obtain ⟨j, rfl⟩ : ∃ j, k = j + 1 := ⟨k - 1, by omega⟩
  have e : (((j + 1 : Nat) : Int) - 1).toNat = j := by omega
  rw [e]
  refine ⟨⟨by omega, by omega⟩, fun hlt s' hv => Au (dx (.inl ?_)), fun hlt => ⟨⟨by omega, by omega⟩, fun hgt s' hv => Au (dx (.inl ?_)), fun hgt s' hv => ?_⟩⟩
  ·have h1 : A < B := ur hb (k := j) (by omega) (fun i h1 h2 => hlim i (by omega) h2) (by omega)
   exact en (us := [.int .i64 (-1)]) (.inr rfl) hv (by kernel_rfl) (bf (by simp [bB, h1]))
  ·have h1 : B < A := ur hb.symm (k := j) (by omega) (fun i h1 h2 => (hlim i (by omega) (by omega)).symm) (by omega)
   exact en (us := [.int .i64 1]) (.inr rfl) hv (by kernel_rfl) (bf (by simp [bB, h1]; omega))
  ·refine ⟨j, cm hv (by rw [wrap_i64 (by omega) (by omega)]; congr 4; omega) rfl, ⟨by omega, fun i h1 h2 => ?_⟩, by simp⟩
   by_cases hi : i = j
   ·subst hi; omega
   ·exact hlim i (by omega) h2
 ·have hk0 : k = 0 := by omega
  have hAB : A = B := xK hb fun i hi => hlim i (by omega) hi
  exact bu (ax.gh hT aZ hm 30 hv (h0 0) rfl trivial F7 (by kernel_rfl) (by kernel_rfl) (bf (by simp [bB, hAB])))
def iI (g : Nat → Nat → AV) (l : Nat → Nat → List Prop) : Spec := bk fun a => match a with
 | [x, y] => match fB x, fB y with
  | some A, some B => some (aG (g A B) (l A B))
  | _, _ => none
 | _ => none
theorem kA {f : FuncId} {g : Nat → Nat → AV} {l : Nat → Nat → List Prop} (h : ∀ {A B : Nat}, ay (l A B) → ∀ K, az P f K [.mag A, .mag B] [] (aG (g A B) [])) : ∀ K args pre r, iI g l K args pre = some r → az P f K args pre r := by
 refine bD fun K args r hk hs _ => ?_
 split at hs
 ·split at hs
  ·rename_i A B hA hB
   simp only [Option.some.injEq] at hs
   subst hs
   exact fun need => eF (h need K) hk ⟨gV hA, gV hB, trivial⟩ [] trivial
  ·simp at hs
 ·simp at hs
abbrev wY (A B : Nat) : List Prop := [nl A < 2 ^ 40, nl B < 2 ^ 40]
def pR : Spec := iI (fun A B => .int .i64 (bB A B)) wY
theorem vp : ∀ K args pre r, pR K args pre = some r → az P kg K args pre r := kA fun h => Qx h.1 h.2
theorem Sn {n : Nat} {z : Nat → Nat} (hz : ∀ i, i < n → z i < 2 ^ 32) (hn : n < 2 ^ 40) (hnl : nl (val n z) = n) (K : Nat) : az P o7 K [.ak 1 n (ag z)] [] (aG (.int .i64 (aN (val n z) : Nat)) []) := by
 refine fk hT P4 rfl (of_decide_eq_true (by kernel_rfl)) rfl (fun _ c h0 => ?_) K []
 refine aq.hole [1,1,1,0,1] (by kernel_rfl) (ax.aV hT aZ hm 30 [3, 4, 2] Tc (by kernel_rfl) ?_)
 simp only [aa.all, ay, beq_iff_eq, beq_eq_false_iff_ne, ne_eq]
 refine ⟨fun hb s' hv => dx (.inl ?_), fun hb => ?_⟩
 ·have h1 : n = 0 := by omega
  have h2 : val n z = 0 := by rw [h1]; rfl
  exact en (us := [.int .i64 0]) (.inr rfl) hv (by kernel_rfl) (bf (by rw [h2]; rfl))
 have w1 : IntKind.i64.wrap ((n : Int) - 1) = ((n - 1 : Nat) : Int) := cP (by omega) (by omega)
 have w2 : IntKind.i64.wrap (32 * ((n - 1 : Nat) : Int)) = ((32 * (n - 1) : Nat) : Int) := cP (by omega) (by omega)
 rw [w1, w2]
 simp only [Int.toNat_natCast]
 refine ⟨by omega, fun s' hv => bu ?_⟩
 have hzt := hz (n - 1) (by omega)
 have htot : aN (val n z) = 32 * (n - 1) + aN (z (n - 1)) := by
  have h0 : val n z ≠ 0 := dS.1 (by omega)
  rw [B5 h0, hnl, j3 hz (by omega)]
 refine aq.eM (i := 0) (y := part (au kz) [1,1,1,0,1,0,0]) (by kernel_rfl) [3, 4, 2] 0 (h0 _) (fun p : Nat × Nat => [.int .i64 (p.1 : Nat), .int .u32 (p.2 : Nat), .int .i64 0]) (fun _ => []) (fun _ => rfl) (fun _ => trivial)
  (fun p => p.1 + aN p.2 = aN (val n z) ∧ p.2 < 2 ^ 32) (fun p => p.2) (32 * (n - 1), z (n - 1)) hv ⟨htot.symm, hzt⟩ ?_
 rintro ⟨x, y⟩ ⟨hxy, hy⟩
 simp only at hxy hy
 have hb32 : aN (z (n - 1)) ≤ 32 := fH.2 hzt
 refine aq.aV hT aZ hm 30 [3, 4, 2] Qa (by kernel_rfl) ?_
 rw [qx (by decide) (by decide)]
 simp only [aa.all, ay, bne_iff_ne, ne_eq, bne_eq_false_iff_eq, show Int.toNat 1 = 1 from rfl]
 refine ⟨fun hc => ⟨by omega, fun s' hv => ?_⟩, fun hc s' hv => dr (bu ?_)⟩
 ·have hy0 : 0 < y := by omega
  have e : aN y = 1 + aN (y / 2) := by
   by_cases h1 : y = 1
   ·rw [h1]; decide
   ·exact oC (k := 1) (by omega)
  have hd : y / 2 < y := by omega
  exact ⟨(x + 1, y / 2), cm hv (by rw [cP (a := (x : Int) + 1) (n := x + 1) (by omega) (by omega)]) rfl, ⟨by simp only; omega, by simp only; omega⟩, by simp only; omega⟩
 ·have hy0 : y = 0 := by omega
  refine ax.gh hT aZ hm 30 hv (h0 0) rfl trivial Vb (by kernel_rfl) (by kernel_rfl) (bf ?_)
  rw [hy0] at hxy
  simp [aN] at hxy
  rw [hxy]; simp [aN]
def Bk : Spec := bk (iw fun N n => aG (.int .i64 (aN N : Nat)) [n < 2 ^ 40, nl N = n])
theorem GV : ∀ K args pre r, Bk K args pre = some r → az P o7 K args pre r :=
 bD (mK fun _ _ K hz need => Sn hz need.1 need.2 K)
end Go.Am.B
