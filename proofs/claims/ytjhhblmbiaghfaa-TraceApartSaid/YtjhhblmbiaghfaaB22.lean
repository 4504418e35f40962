/- ref01: Trim, Of, small, Cmp, Bits. -/
import Derived.Test.YtjhhblmbiaghfaaB21
set_option linter.unusedVariables false
namespace Go.Am.B
open Go Go.Am.N AV
theorem SO : aO P jU iN (ax iN) := aS G6 (by kernel_rfl) (by kernel_rfl) (by kernel_rfl)
theorem HE : aO P kA rF (ax rF) := aS H6 (by kernel_rfl) (by kernel_rfl) (by kernel_rfl)
theorem Ju : aO P oM pV (ax pV) := aS ML (by kernel_rfl) (by kernel_rfl) (by kernel_rfl)
theorem Pe : aO P kV kP (ax kP) := aS J7 (by kernel_rfl) (by kernel_rfl) (by kernel_rfl)
theorem M4 : aO P pY lg (ax lg) := aS Sw (by kernel_rfl) (by kernel_rfl) (by kernel_rfl)
theorem I6 {n : Nat} {z : Nat → Nat} : aG T [] [] 30 [0, 3] (before (ax iN) [1,1,0]) ⟨aM 0 [.ah 1 n (ag z)], [], 0⟩ =
  some (aa.leaf aj.normal ([ah 1 n (ag z), int IntKind.i64 (↑n : Int)], [])) := by kernel_rfl
theorem MA {n k : Nat} {z : Nat → Nat} : aG T [] [8, 15] 30 [0, 3] [part (ax iN) [1,1,0,0,0]] ⟨aB [0, 3] [.ah 1 n (ag z), .int .i64 k], [], 0⟩ =
  some (aa.fork (decide ((↑k : Int) > (0 : Int))) (aa.af [decide ((↑k : Int) > (0 : Int)) = true, (0 : Int) ≤ IntKind.i64.wrap ((↑k : Int) - (1 : Int)) ∧ (IntKind.i64.wrap ((↑k : Int) - (1 : Int))).toNat < n] (aa.fork (bif true then (↑(z (IntKind.i64.wrap ((↑k : Int) - (1 : Int))).toNat) : Int) == (0 : Int) else false) (aa.leaf aj.normal ([ah 1 n (ag z), int IntKind.i64 (IntKind.i64.wrap ((↑k : Int) - (1 : Int)))], [])) (aa.leaf (aj.exit 0) ([ah 1 n (ag z), int IntKind.i64 (↑k : Int)], [])))) (aa.af [decide ((↑k : Int) > (0 : Int)) = false] (aa.fork false (aa.leaf aj.normal ([ah 1 n (ag z), int IntKind.i64 (IntKind.i64.wrap ((↑k : Int) - (1 : Int)))], [])) (aa.leaf (aj.exit 0) ([ah 1 n (ag z), int IntKind.i64 (↑k : Int)], []))))) := by kernel_rfl
theorem QV {n k : Nat} {z : Nat → Nat} : cJ T [] [] 30 iN (behind (ax iN) [1,1,0]) ⟨aB [0, 3] [.ah 1 n (ag z), .int .i64 k], [], 0⟩ =
  some (aa.af [(0 : Nat) * 1 ≤ 2 ^ 24, (0 : Int) ≤ (0 : Int) ∧ (0 : Int) ≤ (↑k : Int) ∧ (↑k : Int) ≤ (↑k : Int) ∧ (↑k : Int) ≤ (↑n : Int), ((0 : Nat) + ((↑k : Int).toNat - Int.toNat (0 : Int))) * ((4 : Nat) + 1) * 2 ≤ 2 ^ 47] (aa.leaf aj.ret [ah 1 ((0 : Nat) + ((↑k : Int).toNat - Int.toNat (0 : Int))) fun (i : Nat) ↦ if i + 0 < 0 then nth [] (int IntKind.u32 (0 : Int)) (i + 0) else ag z (i + 0 - 0 + Int.toNat (0 : Int))])) := by kernel_rfl
def oX : Spec := bp (iR fun N n => aJ (.mag N) [n < 2 ^ 40])
def cW : bf := [(jU, oX)]
theorem Jg {n : Nat} : bA T cW [] 30 rF (ax rF) ⟨aM 0 [.int .u64 n], [], 0⟩ =
  some (aa.af [(0 : Int) ≤ (32 : Int), (2 : Nat) * 1 ≤ 2 ^ 24, cD 2 fun (i : Nat) ↦ nth [int IntKind.u32 (IntKind.u32.wrap (↑n : Int)), int IntKind.u32 (IntKind.u32.wrap ((↑n : Int).fdiv ((2 : Int) ^ min (Int.toNat (32 : Int)) IntKind.u64.bits)))] (int IntKind.u32 (0 : Int)) (i + 0), (2 : Nat) < 2 ^ 40] (aa.leaf aj.ret [mag (val 2 fun (i : Nat) ↦ numOf (nth [int IntKind.u32 (IntKind.u32.wrap (↑n : Int)), int IntKind.u32 (IntKind.u32.wrap ((↑n : Int).fdiv ((2 : Int) ^ min (Int.toNat (32 : Int)) IntKind.u64.bits)))] (int IntKind.u32 (0 : Int)) (i + 0)))])) := by kernel_rfl
theorem Gt {A : Nat} : bA T cW [6, 8, 14] 30 pV (ax pV) ⟨aM 0 [.mag A], [], 0⟩ =
  some (aa.fork ((↑(nl A) : Int) == (0 : Int)) (aa.leaf aj.ret [int IntKind.u64 (0 : Int), AV.bool true]) (aa.fork ((↑(nl A) : Int) == (1 : Int)) (aa.af [(0 : Int) ≤ (0 : Int) ∧ Int.toNat (0 : Int) < nl A] (aa.leaf aj.ret [int IntKind.u64 (IntKind.u64.wrap (↑(au A (Int.toNat (0 : Int))) : Int)), AV.bool true])) (aa.fork ((↑(nl A) : Int) == (2 : Int)) (aa.af [(0 : Int) ≤ (0 : Int) ∧ Int.toNat (0 : Int) < nl A, (0 : Int) ≤ (1 : Int) ∧ Int.toNat (1 : Int) < nl A, (0 : Int) ≤ (32 : Int)] (aa.leaf aj.ret [int IntKind.u64 (IntKind.u64.wrap (↑(BitVec.ofInt IntKind.u64.bits (IntKind.u64.wrap (↑(au A (Int.toNat (0 : Int))) : Int)) ||| BitVec.ofInt IntKind.u64.bits (IntKind.u64.wrap (IntKind.u64.wrap (↑(au A (Int.toNat (1 : Int))) : Int) * (2 : Int) ^ min (Int.toNat (32 : Int)) IntKind.u64.bits))).toNat : Int)), AV.bool true])) (aa.leaf aj.ret [int IntKind.u64 (0 : Int), AV.bool false])))) := by kernel_rfl
theorem UL {A B : Nat} : aG T [] [10, 15] 30 [0, 1, 5, 4] (before (ax kP) [1,1,0,1]) ⟨aM 0 [.mag A, .mag B], [], 0⟩ =
  some (aa.fork ((↑(nl A) : Int) != (↑(nl B) : Int)) (aa.fork (decide ((↑(nl A) : Int) < (↑(nl B) : Int))) (aa.leaf aj.ret ([mag A, mag B, tuple [], int IntKind.i64 (-1 : Int)], [])) (aa.leaf aj.ret ([mag A, mag B, tuple [], int IntKind.i64 (1 : Int)], []))) (aa.leaf aj.normal ([mag A, mag B, int IntKind.i64 (IntKind.i64.wrap ((↑(nl A) : Int) - (1 : Int))), int IntKind.i64 (0 : Int)], []))) := by kernel_rfl
theorem PY {A B k : Nat} : aG T [] [20, 31, 40] 30 [0, 1, 5, 4] [part (ax kP) [1,1,0,1,0,0]] ⟨aB [0, 1, 5, 4] [.mag A, .mag B, .int .i64 ((k : Int) - 1), .int .i64 0], [], 0⟩ =
  some (aa.fork (decide ((↑k : Int) - (1 : Int) ≥ (0 : Int))) (aa.af [(0 : Int) ≤ (↑k : Int) - (1 : Int) ∧ ((↑k : Int) - (1 : Int)).toNat < nl A, (0 : Int) ≤ (↑k : Int) - (1 : Int) ∧ ((↑k : Int) - (1 : Int)).toNat < nl B] (aa.fork (decide ((↑(au A ((↑k : Int) - (1 : Int)).toNat) : Int) < (↑(au B ((↑k : Int) - (1 : Int)).toNat) : Int))) (aa.leaf aj.ret ([mag A, mag B, int IntKind.i64 ((↑k : Int) - (1 : Int)), int IntKind.i64 (-1 : Int)], [])) (aa.af [(0 : Int) ≤ (↑k : Int) - (1 : Int) ∧ ((↑k : Int) - (1 : Int)).toNat < nl A, (0 : Int) ≤ (↑k : Int) - (1 : Int) ∧ ((↑k : Int) - (1 : Int)).toNat < nl B] (aa.fork (decide ((↑(au A ((↑k : Int) - (1 : Int)).toNat) : Int) > (↑(au B ((↑k : Int) - (1 : Int)).toNat) : Int))) (aa.leaf aj.ret ([mag A, mag B, int IntKind.i64 ((↑k : Int) - (1 : Int)), int IntKind.i64 (1 : Int)], [])) (aa.leaf aj.normal ([mag A, mag B, int IntKind.i64 (IntKind.i64.wrap ((↑k : Int) - (1 : Int) - (1 : Int))), int IntKind.i64 (0 : Int)], [])))))) (aa.leaf (aj.exit 0) ([mag A, mag B, int IntKind.i64 ((↑k : Int) - (1 : Int)), int IntKind.i64 (0 : Int)], []))) := by kernel_rfl
theorem T8 {A B k : Nat} : cJ T [] [] 30 kP (behind (ax kP) [1,1,0,1]) ⟨aB [0, 1, 5, 4] [.mag A, .mag B, .int .i64 ((k : Int) - 1), .int .i64 0], [], 0⟩ =
  some (aa.leaf aj.ret [int IntKind.i64 (0 : Int)]) := by kernel_rfl
theorem Pn {n : Nat} {z : Nat → Nat} : aG T [] [7] 30 [3, 4, 2] (before (ax lg) [1,1,1,0,1]) ⟨aM 0 [.ah 1 n (ag z)], [], 0⟩ =
  some (aa.fork ((↑n : Int) == (0 : Int)) (aa.leaf aj.ret ([tuple [], tuple [], int IntKind.i64 (0 : Int)], [])) (aa.af [(0 : Int) ≤ IntKind.i64.wrap ((↑n : Int) - (1 : Int)) ∧ (IntKind.i64.wrap ((↑n : Int) - (1 : Int))).toNat < n] (aa.leaf aj.normal ([int IntKind.i64 (IntKind.i64.wrap ((32 : Int) * IntKind.i64.wrap ((↑n : Int) - (1 : Int)))), int IntKind.u32 (↑(z (IntKind.i64.wrap ((↑n : Int) - (1 : Int))).toNat) : Int), int IntKind.i64 (0 : Int)], [])))) := by kernel_rfl
theorem GX {x y : Nat} : aG T [] [19] 30 [3, 4, 2] [part (ax lg) [1,1,1,0,1,0,0]] ⟨aB [3, 4, 2] [.int .i64 x, .int .u32 y, .int .i64 0], [], 0⟩ =
  some (aa.fork ((↑y : Int) != (0 : Int)) (aa.af [(0 : Int) ≤ (1 : Int)] (aa.leaf aj.normal ([int IntKind.i64 (IntKind.i64.wrap ((↑x : Int) + (1 : Int))), int IntKind.u32 ((↑y : Int).fdiv ((2 : Int) ^ min (Int.toNat (1 : Int)) IntKind.u32.bits)), int IntKind.i64 (0 : Int)], []))) (aa.leaf (aj.exit 0) ([int IntKind.i64 (↑x : Int), int IntKind.u32 (↑y : Int), int IntKind.i64 (0 : Int)], []))) := by kernel_rfl
theorem M7 {x y : Nat} : cJ T [] [] 30 lg (behind (ax lg) [1,1,1,0,1]) ⟨aB [3, 4, 2] [.int .i64 x, .int .u32 y, .int .i64 0], [], 0⟩ =
  some (aa.leaf aj.ret [int IntKind.i64 (↑x : Int)]) := by kernel_rfl
theorem KY {n : Nat} {z : Nat → Nat} (hz : ∀ i, i < n → z i < 2 ^ 32) (hn : n < 2 ^ 40) (K : Nat) : aC P jU K [.ah 1 n (ag z)] [] (aJ (.mag (val n z)) []) := by
 refine fX hT SO rfl (of_decide_eq_true (by kernel_rfl)) rfl (fun _ c h0 => ?_) K []
 refine aq.hole [1,1,0] (by kernel_rfl) (ay.aR hT aZ hm 30 [0, 3] I6 (by kernel_rfl) fun s' hv => bD ?_)
 refine aq.eV (i := 0) (y := part (ax iN) [1,1,0,0,0]) (by kernel_rfl) [0, 3] 0 (h0 _) (fun k : Nat => [.ah 1 n (ag z), .int .i64 k]) (fun _ => []) (fun _ => rfl) (fun _ => trivial)
  (fun k => k ≤ n ∧ ∀ i, k ≤ i → i < n → z i = 0) id n hv ⟨Nat.le_refl _, fun i h1 h2 => by omega⟩ ?_
 rintro j ⟨hj, hzj⟩
 refine aq.aR hT aZ hm 30 [0, 3] MA (by kernel_rfl) ?_
 have fin : (j = 0 ∨ z (j - 1) ≠ 0) → ∀ s', aN [0, 3] s' = some ([.ah 1 n (ag z), .int .i64 j], []) → ay P c iN.ntmps (behind (ax iN) [1,1,0]) s' (dh c (Fin T iN (.mag (val n z)))) := by
  intro hj0 s' hv
  refine ay.gu hT aZ hm 30 hv (h0 0) rfl trivial QV (by kernel_rfl) (by kernel_rfl) ?_
  simp only [aa.all, az, Int.toNat_natCast, Int.toNat_zero, Nat.zero_add, Nat.sub_zero, Nat.add_zero]
  have e : val n z = val j z := jy hj hzj
  refine ⟨⟨by omega, by omega, by omega⟩, g9 (by rw [e, uQ (fun i hi => hz i (by omega)) hj0]) fun i hi => ?_⟩
  rw [if_neg (by omega), e, kH (fun j hj => hz j (by omega)) hi]
  rfl
 have hw : 0 < j → IntKind.i64.wrap ((j : Int) - 1) = ((j - 1 : Nat) : Int) := fun h => by rw [wrap_i64 (by omega) (by omega)]; omega
 refine ⟨fun hb => ?_, fun hb => ?_⟩
 ·have h1 : 0 < j := by simpa using hb
  rw [hw h1]
  have hj1 : j - 1 < n := by omega
  refine ⟨⟨hb, by omega, by rw [Int.toNat_natCast]; exact hj1⟩, fun hc s' hv => ?_, fun hc s' hv => ?_⟩
  ·refine ⟨j - 1, hv, ⟨by omega, fun i h1 h2 => ?_⟩, by simp; omega⟩
   by_cases hi : i = j - 1
   ·subst hi; simpa using hc
   ·exact hzj i (by omega) h2
  ·exact dz (fin (.inr (by simpa using hc)) s' hv)
 ·have h1 : j = 0 := by simpa using hb
  refine ⟨hb, fun hc => by simp at hc, fun hc s' hv => dz (fin (.inl h1) s' hv)⟩
theorem p0 : ∀ K args pre r, oX K args pre = some r → aC P jU K args pre r :=
 bK (oL fun _ _ K hz need => KY hz need K)
theorem cX : bC P cW := aK p0 aZ
theorem Si {x : Nat} (hx : x < 2 ^ 64) (K : Nat) : aC P kA K [.int .u64 x] [] (aJ (.mag x) []) := by
 refine bE hT cX hm HE rfl (of_decide_eq_true (by kernel_rfl)) rfl 30 Jg (fun _ => ?_) K []
 simp only [aa.all, az, hH]
 refine ⟨⟨by omega, by omega, fun i hi => ?_, by omega⟩, cF (congrArg AV.mag ?_)⟩
 ·match i, hi with
  | 0, _ => exact ⟨x % 2 ^ 32, by omega, by simp [nth, gl]⟩
  | 1, _ => exact ⟨x / 4294967296, by omega, by simp [nth, iD]; omega⟩
 ·rw [val_two]
  simp [nth, numOf, iD]
  omega
def p7 : Spec := bp fun l => match l with
 | [.int .u64 x] => some (aJ (.mag x.toNat) [0 ≤ x ∧ x < 2 ^ 64])
 | _ => none
theorem vN : ∀ K args pre r, p7 K args pre = some r → aC P kA K args pre r := by
 refine bK fun K args r hk hs _ => ?_
 split at hs
 ·simp only [Option.some.injEq] at hs
  subst hs
  intro need
  obtain ⟨h1, h2⟩ := need
  rename_i x
  obtain ⟨y, rfl⟩ := Int.eq_ofNat_of_zero_le h1
  exact Si (x := y) (by omega) K trivial
 ·simp at hs
def cA (A : Nat) : Bool := decide (A < 18446744073709551616)
theorem Se {A : Nat} (K : Nat) : aC P oM K [.mag A] [] (aJ (.tuple [.int .u64 (if cA A then A else 0 : Nat), .bool (cA A)]) []) := by
 refine bE hT cX hm Ju rfl (of_decide_eq_true (by kernel_rfl)) rfl 30 Gt (fun _ => ?_) K []
 simp only [aa.all, az, beq_iff_eq, beq_eq_false_iff_ne, ne_eq, Int.toNat_zero, show Int.toNat 1 = 1 from rfl]
 have hv := ec (N := A)
 have l0 := ct (N := A) (i := 0)
 have l1 := ct (N := A) (i := 1)
 have yes : ∀ {x : Int}, A < 2 ^ 64 → x = (A : Nat) → dQ [.int .u64 x, .bool true] (.tuple [.int .u64 (if cA A then A else 0 : Nat), .bool (cA A)]) := fun h hx => by
  have : cA A = true := by unfold cA; simpa using h
  rw [this, if_pos rfl]
  exact ⟨bm hx, .refl _, trivial⟩
 refine ⟨fun hb => yes ?_ ?_, fun hb => ⟨fun h1 => ⟨by omega, yes ?_ ?_⟩, fun h1 => ⟨fun h2 => ⟨⟨by omega, by omega, by omega⟩, yes ?_ ?_⟩, fun h2 => ?_⟩⟩⟩
 ·have : A = 0 := gz.1 (by omega)
  omega
 ·have : A = 0 := gz.1 (by omega)
  rw [this]; rfl
 ·exact k8 (by omega)
 ·rw [show nl A = 1 by omega, val, val] at hv
  rw [bt (by omega) (by omega)]
  simp at hv; omega
 ·exact k8 (by omega)
 ·rw [show nl A = 2 by omega, val, val, val] at hv
  have e1 : IntKind.u64.wrap (au A 0 : Int) = ((au A 0 : Nat) : Int) := bt (by omega) (by omega)
  have e2 : IntKind.u64.wrap (au A 1 : Int) = ((au A 1 : Nat) : Int) := bt (by omega) (by omega)
  have e3 : IntKind.u64.wrap ((au A 1 : Int) * 2 ^ min (Int.toNat 32) IntKind.u64.bits) = ((au A 1 * 4294967296 : Nat) : Int) := by
   rw [rG, bt (by omega) (by omega)]; omega
  rw [e1, e2, e3, oY (by omega) (by omega)]
  congr 1
  rw [Nat.or_comm, show 4294967296 = 2 ^ 32 from rfl, mH l0]
  simp at hv; omega
 ·have : cA A = false := by
   unfold cA
   simp only [decide_eq_false_iff_not]
   intro h
   have : nl A ≤ 2 := cm.2 h
   omega
  rw [this]
  exact ⟨.refl _, .refl _, trivial⟩
def zj : Spec := bp fun l => match l with
 | [a] => match fL a with
  | some A => some (aJ (.tuple [.int .u64 (if cA A then A else 0 : Nat), .bool (cA A)]) [])
  | none => none
 | _ => none
theorem BU : ∀ K args pre r, zj K args pre = some r → aC P oM K args pre r := by
 refine bK fun K args r hk hs _ => ?_
 split at hs
 ·split at hs
  ·rename_i A hA
   simp only [Option.some.injEq] at hs
   subst hs
   exact eJ (Se K) hk ⟨iG hA, trivial⟩ []
  ·simp at hs
 ·simp at hs
theorem K1 {A B : Nat} (hA : nl A < 2 ^ 40) (hB : nl B < 2 ^ 40) (K : Nat) : aC P kV K [.mag A, .mag B] [] (aJ (.int .i64 (bI A B)) []) := by
 refine fX hT Pe rfl (of_decide_eq_true (by kernel_rfl)) rfl (fun _ c h0 => ?_) K []
 refine aq.hole [1,1,0,1] (by kernel_rfl) (ay.aR hT aZ hm 30 [0, 1, 5, 4] UL (by kernel_rfl) ?_)
 simp only [aa.all, az, decide_eq_true_eq, decide_eq_false_iff_not, bne_iff_ne, ne_eq, Int.natCast_inj, bne_eq_false_iff_eq]
 refine ⟨fun hb => ⟨fun hb2 s' hv => dj (.inl ?_), fun hb2 s' hv => dj (.inl ?_)⟩, fun hb s' hv => bD ?_⟩
 ·have h1 : A < B := uH (by omega)
  exact ey (us := [.int .i64 (-1)]) (.inr rfl) hv (by kernel_rfl) (bm (by simp [bI, h1]))
 ·have h1 : B < A := uH (by omega)
  exact ey (us := [.int .i64 1]) (.inr rfl) hv (by kernel_rfl) (bm (by simp [bI, h1]; omega))
 refine aq.eV (i := 0) (y := part (ax kP) [1,1,0,1,0,0]) (by kernel_rfl) [0, 1, 5, 4] 0 (h0 _) (fun k : Nat => [.mag A, .mag B, .int .i64 ((k : Int) - 1), .int .i64 0]) (fun _ => []) (fun _ => rfl) (fun _ => trivial)
  (fun k => k ≤ nl A ∧ ∀ j, k ≤ j → j < nl A → au A j = au B j) id (nl A) (cy hv (by rw [wrap_i64 (by omega) (by omega)]) rfl) ⟨by simp, fun j h1 h2 => by omega⟩ ?_
 rintro k ⟨hk, hlim⟩
 refine aq.aR hT aZ hm 30 [0, 1, 5, 4] PY (by kernel_rfl) ?_
 simp only [aa.all, az, decide_eq_true_eq, decide_eq_false_iff_not]
 refine ⟨fun hb2 => ?_, fun hb2 s' hv => dz ?_⟩
 ·obtain ⟨j, rfl⟩ : ∃ j, k = j + 1 := ⟨k - 1, by omega⟩
  have e : (((j + 1 : Nat) : Int) - 1).toNat = j := by omega
  rw [e]
  refine ⟨⟨by omega, by omega⟩, fun hlt s' hv => CP (dj (.inl ?_)), fun hlt => ⟨⟨by omega, by omega⟩, fun hgt s' hv => CP (dj (.inl ?_)), fun hgt s' hv => ?_⟩⟩
  ·have h1 : A < B := uw hb (k := j) (by omega) (fun i h1 h2 => hlim i (by omega) h2) (by omega)
   exact ey (us := [.int .i64 (-1)]) (.inr rfl) hv (by kernel_rfl) (bm (by simp [bI, h1]))
  ·have h1 : B < A := uw hb.symm (k := j) (by omega) (fun i h1 h2 => (hlim i (by omega) (by omega)).symm) (by omega)
   exact ey (us := [.int .i64 1]) (.inr rfl) hv (by kernel_rfl) (bm (by simp [bI, h1]; omega))
  ·refine ⟨j, cy hv (by rw [wrap_i64 (by omega) (by omega)]; congr 4; omega) rfl, ⟨by omega, fun i h1 h2 => ?_⟩, by simp⟩
   by_cases hi : i = j
   ·subst hi; omega
   ·exact hlim i (by omega) h2
 ·have hk0 : k = 0 := by omega
  have hAB : A = B := xT hb fun i hi => hlim i (by omega) hi
  exact bD (ay.gu hT aZ hm 30 hv (h0 0) rfl trivial T8 (by kernel_rfl) (by kernel_rfl) (bm (by simp [bI, hAB])))
def jw (g : Nat → Nat → AV) (l : Nat → Nat → List Prop) : Spec := bp fun a => match a with
 | [x, y] => match fL x, fL y with
  | some A, some B => some (aJ (g A B) (l A B))
  | _, _ => none
 | _ => none
theorem lI {f : FuncId} {g : Nat → Nat → AV} {l : Nat → Nat → List Prop} (h : ∀ {A B : Nat}, az (l A B) → ∀ K, aC P f K [.mag A, .mag B] [] (aJ (g A B) [])) : ∀ K args pre r, jw g l K args pre = some r → aC P f K args pre r := by
 refine bK fun K args r hk hs _ => ?_
 split at hs
 ·split at hs
  ·rename_i A B hA hB
   simp only [Option.some.injEq] at hs
   subst hs
   exact fun need => eJ (h need K) hk ⟨iG hA, iG hB, trivial⟩ [] trivial
  ·simp at hs
 ·simp at hs
abbrev yU (A B : Nat) : List Prop := [nl A < 2 ^ 40, nl B < 2 ^ 40]
def qf : Spec := jw (fun A B => .int .i64 (bI A B)) yU
theorem uT : ∀ K args pre r, qf K args pre = some r → aC P kV K args pre r := lI fun h => K1 h.1 h.2
theorem SX {n : Nat} {z : Nat → Nat} (hz : ∀ i, i < n → z i < 2 ^ 32) (hn : n < 2 ^ 40) (hnl : nl (val n z) = n) (K : Nat) : aC P pY K [.ah 1 n (ag z)] [] (aJ (.int .i64 (aY (val n z) : Nat)) []) := by
 refine fX hT M4 rfl (of_decide_eq_true (by kernel_rfl)) rfl (fun _ c h0 => ?_) K []
 refine aq.hole [1,1,1,0,1] (by kernel_rfl) (ay.aR hT aZ hm 30 [3, 4, 2] Pn (by kernel_rfl) ?_)
 simp only [aa.all, az, beq_iff_eq, beq_eq_false_iff_ne, ne_eq]
 refine ⟨fun hb s' hv => dj (.inl ?_), fun hb => ?_⟩
 ·have h1 : n = 0 := by omega
  have h2 : val n z = 0 := by rw [h1]; rfl
  exact ey (us := [.int .i64 0]) (.inr rfl) hv (by kernel_rfl) (bm (by rw [h2]; rfl))
 have w1 : IntKind.i64.wrap ((n : Int) - 1) = ((n - 1 : Nat) : Int) := cS (by omega) (by omega)
 have w2 : IntKind.i64.wrap (32 * ((n - 1 : Nat) : Int)) = ((32 * (n - 1) : Nat) : Int) := cS (by omega) (by omega)
 rw [w1, w2]
 simp only [Int.toNat_natCast]
 refine ⟨by omega, fun s' hv => bD ?_⟩
 have hzt := hz (n - 1) (by omega)
 have htot : aY (val n z) = 32 * (n - 1) + aY (z (n - 1)) := by
  have h0 : val n z ≠ 0 := ew.1 (by omega)
  rw [Ac h0, hnl, kH hz (by omega)]
 refine aq.eV (i := 0) (y := part (ax lg) [1,1,1,0,1,0,0]) (by kernel_rfl) [3, 4, 2] 0 (h0 _) (fun p : Nat × Nat => [.int .i64 (p.1 : Nat), .int .u32 (p.2 : Nat), .int .i64 0]) (fun _ => []) (fun _ => rfl) (fun _ => trivial)
  (fun p => p.1 + aY p.2 = aY (val n z) ∧ p.2 < 2 ^ 32) (fun p => p.2) (32 * (n - 1), z (n - 1)) hv ⟨htot.symm, hzt⟩ ?_
 rintro ⟨x, y⟩ ⟨hxy, hy⟩
 simp only at hxy hy
 have hb32 : aY (z (n - 1)) ≤ 32 := fJ.2 hzt
 refine aq.aR hT aZ hm 30 [3, 4, 2] GX (by kernel_rfl) ?_
 rw [qF (by decide) (by decide)]
 simp only [aa.all, az, bne_iff_ne, ne_eq, bne_eq_false_iff_eq, show Int.toNat 1 = 1 from rfl]
 refine ⟨fun hc => ⟨by omega, fun s' hv => ?_⟩, fun hc s' hv => dz (bD ?_)⟩
 ·have hy0 : 0 < y := by omega
  have e : aY y = 1 + aY (y / 2) := by
   by_cases h1 : y = 1
   ·rw [h1]; decide
   ·exact ni (k := 1) (by omega)
  have hd : y / 2 < y := by omega
  exact ⟨(x + 1, y / 2), cy hv (by rw [cS (a := (x : Int) + 1) (n := x + 1) (by omega) (by omega)]) rfl, ⟨by simp only; omega, by simp only; omega⟩, by simp only; omega⟩
 ·have hy0 : y = 0 := by omega
  refine ay.gu hT aZ hm 30 hv (h0 0) rfl trivial M7 (by kernel_rfl) (by kernel_rfl) (bm ?_)
  rw [hy0] at hxy
  simp [aY] at hxy
  rw [hxy]; simp [aY]
def CQ : Spec := bp (iR fun N n => aJ (.int .i64 (aY N : Nat)) [n < 2 ^ 40, nl N = n])
theorem LV : ∀ K args pre r, CQ K args pre = some r → aC P pY K args pre r :=
 bK (oL fun _ _ K hz need => SX hz need.1 need.2 K)
end Go.Am.B
