/- ref01: Trim, Of, small, Cmp, Bits. -/
import Derived.Test.YtbghpkgbokbmlaaGreatB21
set_option linter.unusedVariables false
namespace Go.Am.B
open Go Go.Am.N AV
theorem Pa : aN P j9 ja (au ja) := aK VJ (by kernel_rfl) (by kernel_rfl) (by kernel_rfl)
theorem MT : aN P lH ry (au ry) := aK Rb (by kernel_rfl) (by kernel_rfl) (by kernel_rfl)
theorem VQ : aN P pD sC (au sC) := aK LL (by kernel_rfl) (by kernel_rfl) (by kernel_rfl)
theorem MY : aN P lS lM (au lM) := aK Ll (by kernel_rfl) (by kernel_rfl) (by kernel_rfl)
theorem P7 : aN P oO mA (au mA) := aK SH (by kernel_rfl) (by kernel_rfl) (by kernel_rfl)
theorem QY {n : Nat} {z : Nat → Nat} : aH T [] [] 30 [0, 3] (before (au ja) [1,1,0]) ⟨aL 0 [.ag 1 n (ah z)], [], 0⟩ =
  some (aa.leaf aj.normal ([ag 1 n (ah z), int IntKind.i64 (↑n : Int)], [])) := by kernel_rfl
theorem RN {n k : Nat} {z : Nat → Nat} : aH T [] [8, 15] 30 [0, 3] [part (au ja) [1,1,0,0,0]] ⟨az [0, 3] [.ag 1 n (ah z), .int .i64 k], [], 0⟩ =
  some (aa.fork (decide ((↑k : Int) > (0 : Int))) (aa.af [decide ((↑k : Int) > (0 : Int)) = true, (0 : Int) ≤ IntKind.i64.wrap ((↑k : Int) - (1 : Int)) ∧ (IntKind.i64.wrap ((↑k : Int) - (1 : Int))).toNat < n] (aa.fork (bif true then (↑(z (IntKind.i64.wrap ((↑k : Int) - (1 : Int))).toNat) : Int) == (0 : Int) else false) (aa.leaf aj.normal ([ag 1 n (ah z), int IntKind.i64 (IntKind.i64.wrap ((↑k : Int) - (1 : Int)))], [])) (aa.leaf (aj.exit 0) ([ag 1 n (ah z), int IntKind.i64 (↑k : Int)], [])))) (aa.af [decide ((↑k : Int) > (0 : Int)) = false] (aa.fork false (aa.leaf aj.normal ([ag 1 n (ah z), int IntKind.i64 (IntKind.i64.wrap ((↑k : Int) - (1 : Int)))], [])) (aa.leaf (aj.exit 0) ([ag 1 n (ah z), int IntKind.i64 (↑k : Int)], []))))) := by kernel_rfl
theorem aaL {n k : Nat} {z : Nat → Nat} : bR T [] [] 30 ja (behind (au ja) [1,1,0]) ⟨az [0, 3] [.ag 1 n (ah z), .int .i64 k], [], 0⟩ =
  some (aa.af [(0 : Nat) * 1 ≤ 2 ^ 24, (0 : Int) ≤ (0 : Int) ∧ (0 : Int) ≤ (↑k : Int) ∧ (↑k : Int) ≤ (↑k : Int) ∧ (↑k : Int) ≤ (↑n : Int), ((0 : Nat) + ((↑k : Int).toNat - Int.toNat (0 : Int))) * ((4 : Nat) + 1) * 2 ≤ 2 ^ 47] (aa.leaf aj.ret [ag 1 ((0 : Nat) + ((↑k : Int).toNat - Int.toNat (0 : Int))) fun (i : Nat) ↦ if i + 0 < 0 then nth [] (int IntKind.u32 (0 : Int)) (i + 0) else ah z (i + 0 - 0 + Int.toNat (0 : Int))])) := by kernel_rfl
def pS : Spec := bp (jk fun N n => aG (.mag N) [n < 2 ^ 40])
def dw : aO := [(j9, pS)]
theorem PY {n : Nat} : bA T dw [] 30 ry (au ry) ⟨aL 0 [.int .u64 n], [], 0⟩ =
  some (aa.af [(0 : Int) ≤ (32 : Int), (2 : Nat) * 1 ≤ 2 ^ 24, cH 2 fun (i : Nat) ↦ nth [int IntKind.u32 (IntKind.u32.wrap (↑n : Int)), int IntKind.u32 (IntKind.u32.wrap ((↑n : Int).fdiv ((2 : Int) ^ min (Int.toNat (32 : Int)) IntKind.u64.bits)))] (int IntKind.u32 (0 : Int)) (i + 0), (2 : Nat) < 2 ^ 40] (aa.leaf aj.ret [mag (val 2 fun (i : Nat) ↦ numOf (nth [int IntKind.u32 (IntKind.u32.wrap (↑n : Int)), int IntKind.u32 (IntKind.u32.wrap ((↑n : Int).fdiv ((2 : Int) ^ min (Int.toNat (32 : Int)) IntKind.u64.bits)))] (int IntKind.u32 (0 : Int)) (i + 0)))])) := by kernel_rfl
theorem KU {A : Nat} : bA T dw [6, 8, 14] 30 sC (au sC) ⟨aL 0 [.mag A], [], 0⟩ =
  some (aa.fork ((↑(nl A) : Int) == (0 : Int)) (aa.leaf aj.ret [int IntKind.u64 (0 : Int), AV.bool true]) (aa.fork ((↑(nl A) : Int) == (1 : Int)) (aa.af [(0 : Int) ≤ (0 : Int) ∧ Int.toNat (0 : Int) < nl A] (aa.leaf aj.ret [int IntKind.u64 (IntKind.u64.wrap (↑(aq A (Int.toNat (0 : Int))) : Int)), AV.bool true])) (aa.fork ((↑(nl A) : Int) == (2 : Int)) (aa.af [(0 : Int) ≤ (0 : Int) ∧ Int.toNat (0 : Int) < nl A, (0 : Int) ≤ (1 : Int) ∧ Int.toNat (1 : Int) < nl A, (0 : Int) ≤ (32 : Int)] (aa.leaf aj.ret [int IntKind.u64 (IntKind.u64.wrap (↑(BitVec.ofInt IntKind.u64.bits (IntKind.u64.wrap (↑(aq A (Int.toNat (0 : Int))) : Int)) ||| BitVec.ofInt IntKind.u64.bits (IntKind.u64.wrap (IntKind.u64.wrap (↑(aq A (Int.toNat (1 : Int))) : Int) * (2 : Int) ^ min (Int.toNat (32 : Int)) IntKind.u64.bits))).toNat : Int)), AV.bool true])) (aa.leaf aj.ret [int IntKind.u64 (0 : Int), AV.bool false])))) := by kernel_rfl
theorem SR {A B : Nat} : aH T [] [10, 15] 30 [0, 1, 5, 4] (before (au lM) [1,1,0,1]) ⟨aL 0 [.mag A, .mag B], [], 0⟩ =
  some (aa.fork ((↑(nl A) : Int) != (↑(nl B) : Int)) (aa.fork (decide ((↑(nl A) : Int) < (↑(nl B) : Int))) (aa.leaf aj.ret ([mag A, mag B, tuple [], int IntKind.i64 (-1 : Int)], [])) (aa.leaf aj.ret ([mag A, mag B, tuple [], int IntKind.i64 (1 : Int)], []))) (aa.leaf aj.normal ([mag A, mag B, int IntKind.i64 (IntKind.i64.wrap ((↑(nl A) : Int) - (1 : Int))), int IntKind.i64 (0 : Int)], []))) := by kernel_rfl
theorem Qk {A B k : Nat} : aH T [] [20, 31, 40] 30 [0, 1, 5, 4] [part (au lM) [1,1,0,1,0,0]] ⟨az [0, 1, 5, 4] [.mag A, .mag B, .int .i64 ((k : Int) - 1), .int .i64 0], [], 0⟩ =
  some (aa.fork (decide ((↑k : Int) - (1 : Int) ≥ (0 : Int))) (aa.af [(0 : Int) ≤ (↑k : Int) - (1 : Int) ∧ ((↑k : Int) - (1 : Int)).toNat < nl A, (0 : Int) ≤ (↑k : Int) - (1 : Int) ∧ ((↑k : Int) - (1 : Int)).toNat < nl B] (aa.fork (decide ((↑(aq A ((↑k : Int) - (1 : Int)).toNat) : Int) < (↑(aq B ((↑k : Int) - (1 : Int)).toNat) : Int))) (aa.leaf aj.ret ([mag A, mag B, int IntKind.i64 ((↑k : Int) - (1 : Int)), int IntKind.i64 (-1 : Int)], [])) (aa.af [(0 : Int) ≤ (↑k : Int) - (1 : Int) ∧ ((↑k : Int) - (1 : Int)).toNat < nl A, (0 : Int) ≤ (↑k : Int) - (1 : Int) ∧ ((↑k : Int) - (1 : Int)).toNat < nl B] (aa.fork (decide ((↑(aq A ((↑k : Int) - (1 : Int)).toNat) : Int) > (↑(aq B ((↑k : Int) - (1 : Int)).toNat) : Int))) (aa.leaf aj.ret ([mag A, mag B, int IntKind.i64 ((↑k : Int) - (1 : Int)), int IntKind.i64 (1 : Int)], [])) (aa.leaf aj.normal ([mag A, mag B, int IntKind.i64 (IntKind.i64.wrap ((↑k : Int) - (1 : Int) - (1 : Int))), int IntKind.i64 (0 : Int)], [])))))) (aa.leaf (aj.exit 0) ([mag A, mag B, int IntKind.i64 ((↑k : Int) - (1 : Int)), int IntKind.i64 (0 : Int)], []))) := by kernel_rfl
theorem M5 {A B k : Nat} : bR T [] [] 30 lM (behind (au lM) [1,1,0,1]) ⟨az [0, 1, 5, 4] [.mag A, .mag B, .int .i64 ((k : Int) - 1), .int .i64 0], [], 0⟩ =
  some (aa.leaf aj.ret [int IntKind.i64 (0 : Int)]) := by kernel_rfl
theorem NO {n : Nat} {z : Nat → Nat} : aH T [] [7] 30 [3, 4, 2] (before (au mA) [1,1,1,0,1]) ⟨aL 0 [.ag 1 n (ah z)], [], 0⟩ =
  some (aa.fork ((↑n : Int) == (0 : Int)) (aa.leaf aj.ret ([tuple [], tuple [], int IntKind.i64 (0 : Int)], [])) (aa.af [(0 : Int) ≤ IntKind.i64.wrap ((↑n : Int) - (1 : Int)) ∧ (IntKind.i64.wrap ((↑n : Int) - (1 : Int))).toNat < n] (aa.leaf aj.normal ([int IntKind.i64 (IntKind.i64.wrap ((32 : Int) * IntKind.i64.wrap ((↑n : Int) - (1 : Int)))), int IntKind.u32 (↑(z (IntKind.i64.wrap ((↑n : Int) - (1 : Int))).toNat) : Int), int IntKind.i64 (0 : Int)], [])))) := by kernel_rfl
theorem Za {x y : Nat} : aH T [] [19] 30 [3, 4, 2] [part (au mA) [1,1,1,0,1,0,0]] ⟨az [3, 4, 2] [.int .i64 x, .int .u32 y, .int .i64 0], [], 0⟩ =
  some (aa.fork ((↑y : Int) != (0 : Int)) (aa.af [(0 : Int) ≤ (1 : Int)] (aa.leaf aj.normal ([int IntKind.i64 (IntKind.i64.wrap ((↑x : Int) + (1 : Int))), int IntKind.u32 ((↑y : Int).fdiv ((2 : Int) ^ min (Int.toNat (1 : Int)) IntKind.u32.bits)), int IntKind.i64 (0 : Int)], []))) (aa.leaf (aj.exit 0) ([int IntKind.i64 (↑x : Int), int IntKind.u32 (↑y : Int), int IntKind.i64 (0 : Int)], []))) := by kernel_rfl
theorem UA {x y : Nat} : bR T [] [] 30 mA (behind (au mA) [1,1,1,0,1]) ⟨az [3, 4, 2] [.int .i64 x, .int .u32 y, .int .i64 0], [], 0⟩ =
  some (aa.leaf aj.ret [int IntKind.i64 (↑x : Int)]) := by kernel_rfl
theorem ZW {n : Nat} {z : Nat → Nat} (hz : ∀ i, i < n → z i < 2 ^ 32) (hn : n < 2 ^ 40) (K : Nat) : aA P j9 K [.ag 1 n (ah z)] [] (aG (.mag (val n z)) []) := by
 refine eZ hT Pa rfl (of_decide_eq_true (by kernel_rfl)) rfl (fun _ c h0 => ?_) K []
 refine ak.hole [1,1,0] (by kernel_rfl) (ay.aY hT aU hm 30 [0, 3] QY (by kernel_rfl) fun s' hv => bG ?_)
 refine ak.fu (i := 0) (y := part (au ja) [1,1,0,0,0]) (by kernel_rfl) [0, 3] 0 (h0 _) (fun k : Nat => [.ag 1 n (ah z), .int .i64 k]) (fun _ => []) (fun _ => rfl) (fun _ => trivial)
  (fun k => k ≤ n ∧ ∀ i, k ≤ i → i < n → z i = 0) id n hv ⟨Nat.le_refl _, fun i h1 h2 => by omega⟩ ?_
 rintro j ⟨hj, hzj⟩
 refine ak.aY hT aU hm 30 [0, 3] RN (by kernel_rfl) ?_
 have fin : (j = 0 ∨ z (j - 1) ≠ 0) → ∀ s', aR [0, 3] s' = some ([.ag 1 n (ah z), .int .i64 j], []) → ay P c ja.ntmps (behind (au ja) [1,1,0]) s' (dD c (Fin T ja (.mag (val n z)))) := by
  intro hj0 s' hv
  refine ay.gQ hT aU hm 30 hv (h0 0) rfl trivial aaL (by kernel_rfl) (by kernel_rfl) ?_
  simp only [aa.all, ax, Int.toNat_natCast, Int.toNat_zero, Nat.zero_add, Nat.sub_zero, Nat.add_zero]
  have e : val n z = val j z := jw hj hzj
  refine ⟨⟨by omega, by omega, by omega⟩, iU (by rw [e, yY (fun i hi => hz i (by omega)) hj0]) fun i hi => ?_⟩
  rw [if_neg (by omega), e, kY (fun j hj => hz j (by omega)) hi]
  rfl
 have hw : 0 < j → IntKind.i64.wrap ((j : Int) - 1) = ((j - 1 : Nat) : Int) := fun h => by rw [wrap_i64 (by omega) (by omega)]; omega
 refine ⟨fun hb => ?_, fun hb => ?_⟩
 ·have h1 : 0 < j := by simpa using hb
  rw [hw h1]
  have hj1 : j - 1 < n := by omega
  refine ⟨⟨hb, by omega, by rw [Int.toNat_natCast]; exact hj1⟩, fun hc s' hv => ?_, fun hc s' hv => ?_⟩
  ·refine ⟨j - 1, hv, ⟨by omega, fun i h1 h2 => ?_⟩, by simp; omega⟩
   by_cases hi : i = j - 1
   ·subst hi; simpa using hc
   ·exact hzj i (by omega) h2
  ·exact dK (fin (.inr (by simpa using hc)) s' hv)
 ·have h1 : j = 0 := by simpa using hb
  refine ⟨hb, fun hc => by simp at hc, fun hc s' hv => dK (fin (.inl h1) s' hv)⟩
theorem sR : ∀ K args pre r, pS K args pre = some r → aA P j9 K args pre r :=
 bF (qo fun _ _ K hz need => ZW hz need K)
theorem dF : aV P dw := aD sR aU
theorem KH {x : Nat} (hx : x < 2 ^ 64) (K : Nat) : aA P lH K [.int .u64 x] [] (aG (.mag x) []) := by
 refine bD hT dF hm MT rfl (of_decide_eq_true (by kernel_rfl)) rfl 30 PY (fun _ => ?_) K []
 simp only [aa.all, ax, iV]
 refine ⟨⟨by omega, by omega, fun i hi => ?_, by omega⟩, cW (congrArg AV.mag ?_)⟩
 ·match i, hi with
  | 0, _ => exact ⟨x % 2 ^ 32, by omega, by simp [nth, gx]⟩
  | 1, _ => exact ⟨x / 4294967296, by omega, by simp [nth, iO]; omega⟩
 ·rw [val_two]
  simp [nth, numOf, iO]
  omega
def tZ : Spec := bp fun l => match l with
 | [.int .u64 x] => some (aG (.mag x.toNat) [0 ≤ x ∧ x < 2 ^ 64])
 | _ => none
theorem yH : ∀ K args pre r, tZ K args pre = some r → aA P lH K args pre r := by
 refine bF fun K args r hk hs _ => ?_
 split at hs
 ·simp only [Option.some.injEq] at hs
  subst hs
  intro need
  obtain ⟨h1, h2⟩ := need
  rename_i x
  obtain ⟨y, rfl⟩ := Int.eq_ofNat_of_zero_le h1
  exact KH (x := y) (by omega) K trivial
 ·simp at hs
def cF (A : Nat) : Bool := decide (A < 18446744073709551616)
theorem Rn {A : Nat} (K : Nat) : aA P pD K [.mag A] [] (aG (.tuple [.int .u64 (if cF A then A else 0 : Nat), .bool (cF A)]) []) := by
 refine bD hT dF hm VQ rfl (of_decide_eq_true (by kernel_rfl)) rfl 30 KU (fun _ => ?_) K []
 simp only [aa.all, ax, beq_iff_eq, beq_eq_false_iff_ne, ne_eq, Int.toNat_zero, show Int.toNat 1 = 1 from rfl]
 have hv := eB (N := A)
 have l0 := cA (N := A) (i := 0)
 have l1 := cA (N := A) (i := 1)
 have yes : ∀ {x : Int}, A < 2 ^ 64 → x = (A : Nat) → dG [.int .u64 x, .bool true] (.tuple [.int .u64 (if cF A then A else 0 : Nat), .bool (cF A)]) := fun h hx => by
  have : cF A = true := by unfold cF; simpa using h
  rw [this, if_pos rfl]
  exact ⟨bn hx, .refl _, trivial⟩
 refine ⟨fun hb => yes ?_ ?_, fun hb => ⟨fun h1 => ⟨by omega, yes ?_ ?_⟩, fun h1 => ⟨fun h2 => ⟨⟨by omega, by omega, by omega⟩, yes ?_ ?_⟩, fun h2 => ?_⟩⟩⟩
 ·have : A = 0 := gG.1 (by omega)
  omega
 ·have : A = 0 := gG.1 (by omega)
  rw [this]; rfl
 ·exact lp (by omega)
 ·rw [show nl A = 1 by omega, val, val] at hv
  rw [bz (by omega) (by omega)]
  simp at hv; omega
 ·exact lp (by omega)
 ·rw [show nl A = 2 by omega, val, val, val] at hv
  have e1 : IntKind.u64.wrap (aq A 0 : Int) = ((aq A 0 : Nat) : Int) := bz (by omega) (by omega)
  have e2 : IntKind.u64.wrap (aq A 1 : Int) = ((aq A 1 : Nat) : Int) := bz (by omega) (by omega)
  have e3 : IntKind.u64.wrap ((aq A 1 : Int) * 2 ^ min (Int.toNat 32) IntKind.u64.bits) = ((aq A 1 * 4294967296 : Nat) : Int) := by
   rw [r9, bz (by omega) (by omega)]; omega
  rw [e1, e2, e3, oX (by omega) (by omega)]
  congr 1
  rw [Nat.or_comm, show 4294967296 = 2 ^ 32 from rfl, nH l0]
  simp at hv; omega
 ·have : cF A = false := by
   unfold cF
   simp only [decide_eq_false_iff_not]
   intro h
   have : nl A ≤ 2 := cj.2 h
   omega
  rw [this]
  exact ⟨.refl _, .refl _, trivial⟩
def BL : Spec := bp fun l => match l with
 | [a] => match fW a with
  | some A => some (aG (.tuple [.int .u64 (if cF A then A else 0 : Nat), .bool (cF A)]) [])
  | none => none
 | _ => none
theorem Jt : ∀ K args pre r, BL K args pre = some r → aA P pD K args pre r := by
 refine bF fun K args r hk hs _ => ?_
 split at hs
 ·split at hs
  ·rename_i A hA
   simp only [Option.some.injEq] at hs
   subst hs
   exact fk (Rn K) hk ⟨iF hA, trivial⟩ []
  ·simp at hs
 ·simp at hs
theorem NM {A B : Nat} (hA : nl A < 2 ^ 40) (hB : nl B < 2 ^ 40) (K : Nat) : aA P lS K [.mag A, .mag B] [] (aG (.int .i64 (bK A B)) []) := by
 refine eZ hT MY rfl (of_decide_eq_true (by kernel_rfl)) rfl (fun _ c h0 => ?_) K []
 refine ak.hole [1,1,0,1] (by kernel_rfl) (ay.aY hT aU hm 30 [0, 1, 5, 4] SR (by kernel_rfl) ?_)
 simp only [aa.all, ax, decide_eq_true_eq, decide_eq_false_iff_not, bne_iff_ne, ne_eq, Int.natCast_inj, bne_eq_false_iff_eq]
 refine ⟨fun hb => ⟨fun hb2 s' hv => dO (.inl ?_), fun hb2 s' hv => dO (.inl ?_)⟩, fun hb s' hv => bG ?_⟩
 ·have h1 : A < B := we (by omega)
  exact eO (us := [.int .i64 (-1)]) (.inr rfl) hv (by kernel_rfl) (bn (by simp [bK, h1]))
 ·have h1 : B < A := we (by omega)
  exact eO (us := [.int .i64 1]) (.inr rfl) hv (by kernel_rfl) (bn (by simp [bK, h1]; omega))
 refine ak.fu (i := 0) (y := part (au lM) [1,1,0,1,0,0]) (by kernel_rfl) [0, 1, 5, 4] 0 (h0 _) (fun k : Nat => [.mag A, .mag B, .int .i64 ((k : Int) - 1), .int .i64 0]) (fun _ => []) (fun _ => rfl) (fun _ => trivial)
  (fun k => k ≤ nl A ∧ ∀ j, k ≤ j → j < nl A → aq A j = aq B j) id (nl A) (cD hv (by rw [wrap_i64 (by omega) (by omega)]) rfl) ⟨by simp, fun j h1 h2 => by omega⟩ ?_
 rintro k ⟨hk, hlim⟩
 refine ak.aY hT aU hm 30 [0, 1, 5, 4] Qk (by kernel_rfl) ?_
 simp only [aa.all, ax, decide_eq_true_eq, decide_eq_false_iff_not]
 refine ⟨fun hb2 => ?_, fun hb2 s' hv => dK ?_⟩
 ·obtain ⟨j, rfl⟩ : ∃ j, k = j + 1 := ⟨k - 1, by omega⟩
  have e : (((j + 1 : Nat) : Int) - 1).toNat = j := by omega
  rw [e]
  refine ⟨⟨by omega, by omega⟩, fun hlt s' hv => Hl (dO (.inl ?_)), fun hlt => ⟨⟨by omega, by omega⟩, fun hgt s' hv => Hl (dO (.inl ?_)), fun hgt s' hv => ?_⟩⟩
  ·have h1 : A < B := xk hb (k := j) (by omega) (fun i h1 h2 => hlim i (by omega) h2) (by omega)
   exact eO (us := [.int .i64 (-1)]) (.inr rfl) hv (by kernel_rfl) (bn (by simp [bK, h1]))
  ·have h1 : B < A := xk hb.symm (k := j) (by omega) (fun i h1 h2 => (hlim i (by omega) (by omega)).symm) (by omega)
   exact eO (us := [.int .i64 1]) (.inr rfl) hv (by kernel_rfl) (bn (by simp [bK, h1]; omega))
  ·refine ⟨j, cD hv (by rw [wrap_i64 (by omega) (by omega)]; congr 4; omega) rfl, ⟨by omega, fun i h1 h2 => ?_⟩, by simp⟩
   by_cases hi : i = j
   ·subst hi; omega
   ·exact hlim i (by omega) h2
 ·have hk0 : k = 0 := by omega
  have hAB : A = B := Bx hb fun i hi => hlim i (by omega) hi
  exact bG (ay.gQ hT aU hm 30 hv (h0 0) rfl trivial M5 (by kernel_rfl) (by kernel_rfl) (bn (by simp [bK, hAB])))
def jD (g : Nat → Nat → AV) (l : Nat → Nat → List Prop) : Spec := bp fun a => match a with
 | [x, y] => match fW x, fW y with
  | some A, some B => some (aG (g A B) (l A B))
  | _, _ => none
 | _ => none
theorem mb {f : FuncId} {g : Nat → Nat → AV} {l : Nat → Nat → List Prop} (h : ∀ {A B : Nat}, ax (l A B) → ∀ K, aA P f K [.mag A, .mag B] [] (aG (g A B) [])) : ∀ K args pre r, jD g l K args pre = some r → aA P f K args pre r := by
 refine bF fun K args r hk hs _ => ?_
 split at hs
 ·split at hs
  ·rename_i A B hA hB
   simp only [Option.some.injEq] at hs
   subst hs
   exact fun need => fk (h need K) hk ⟨iF hA, iF hB, trivial⟩ [] trivial
  ·simp at hs
 ·simp at hs
abbrev Bh (A B : Nat) : List Prop := [nl A < 2 ^ 40, nl B < 2 ^ 40]
def sY : Spec := jD (fun A B => .int .i64 (bK A B)) Bh
theorem yw : ∀ K args pre r, sY K args pre = some r → aA P lS K args pre r := mb fun h => NM h.1 h.2
theorem Qy {n : Nat} {z : Nat → Nat} (hz : ∀ i, i < n → z i < 2 ^ 32) (hn : n < 2 ^ 40) (hnl : nl (val n z) = n) (K : Nat) : aA P oO K [.ag 1 n (ah z)] [] (aG (.int .i64 (aQ (val n z) : Nat)) []) := by
 refine eZ hT P7 rfl (of_decide_eq_true (by kernel_rfl)) rfl (fun _ c h0 => ?_) K []
 refine ak.hole [1,1,1,0,1] (by kernel_rfl) (ay.aY hT aU hm 30 [3, 4, 2] NO (by kernel_rfl) ?_)
 simp only [aa.all, ax, beq_iff_eq, beq_eq_false_iff_ne, ne_eq]
 refine ⟨fun hb s' hv => dO (.inl ?_), fun hb => ?_⟩
 ·have h1 : n = 0 := by omega
  have h2 : val n z = 0 := by rw [h1]; rfl
  exact eO (us := [.int .i64 0]) (.inr rfl) hv (by kernel_rfl) (bn (by rw [h2]; rfl))
 have w1 : IntKind.i64.wrap ((n : Int) - 1) = ((n - 1 : Nat) : Int) := dh (by omega) (by omega)
 have w2 : IntKind.i64.wrap (32 * ((n - 1 : Nat) : Int)) = ((32 * (n - 1) : Nat) : Int) := dh (by omega) (by omega)
 rw [w1, w2]
 simp only [Int.toNat_natCast]
 refine ⟨by omega, fun s' hv => bG ?_⟩
 have hzt := hz (n - 1) (by omega)
 have htot : aQ (val n z) = 32 * (n - 1) + aQ (z (n - 1)) := by
  have h0 : val n z ≠ 0 := eE.1 (by omega)
  rw [D9 h0, hnl, kY hz (by omega)]
 refine ak.fu (i := 0) (y := part (au mA) [1,1,1,0,1,0,0]) (by kernel_rfl) [3, 4, 2] 0 (h0 _) (fun p : Nat × Nat => [.int .i64 (p.1 : Nat), .int .u32 (p.2 : Nat), .int .i64 0]) (fun _ => []) (fun _ => rfl) (fun _ => trivial)
  (fun p => p.1 + aQ p.2 = aQ (val n z) ∧ p.2 < 2 ^ 32) (fun p => p.2) (32 * (n - 1), z (n - 1)) hv ⟨htot.symm, hzt⟩ ?_
 rintro ⟨x, y⟩ ⟨hxy, hy⟩
 simp only at hxy hy
 have hb32 : aQ (z (n - 1)) ≤ 32 := gh.2 hzt
 refine ak.aY hT aU hm 30 [3, 4, 2] Za (by kernel_rfl) ?_
 rw [uA (by decide) (by decide)]
 simp only [aa.all, ax, bne_iff_ne, ne_eq, bne_eq_false_iff_eq, show Int.toNat 1 = 1 from rfl]
 refine ⟨fun hc => ⟨by omega, fun s' hv => ?_⟩, fun hc s' hv => dK (bG ?_)⟩
 ·have hy0 : 0 < y := by omega
  have e : aQ y = 1 + aQ (y / 2) := by
   by_cases h1 : y = 1
   ·rw [h1]; decide
   ·exact oU (k := 1) (by omega)
  have hd : y / 2 < y := by omega
  exact ⟨(x + 1, y / 2), cD hv (by rw [dh (a := (x : Int) + 1) (n := x + 1) (by omega) (by omega)]) rfl, ⟨by simp only; omega, by simp only; omega⟩, by simp only; omega⟩
 ·have hy0 : y = 0 := by omega
  refine ay.gQ hT aU hm 30 hv (h0 0) rfl trivial UA (by kernel_rfl) (by kernel_rfl) (bn ?_)
  rw [hy0] at hxy
  simp [aQ] at hxy
  rw [hxy]; simp [aQ]
def Ci : Spec := bp (jk fun N n => aG (.int .i64 (aQ N : Nat)) [n < 2 ^ 40, nl N = n])
theorem JG : ∀ K args pre r, Ci K args pre = some r → aA P oO K args pre r :=
 bF (qo fun _ _ K hz need => Qy hz need.1 need.2 K)
end Go.Am.B
