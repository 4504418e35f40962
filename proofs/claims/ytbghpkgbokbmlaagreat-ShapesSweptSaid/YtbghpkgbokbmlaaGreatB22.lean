/- ref01: Trim, Of, small, Cmp, Bits. -/
import Derived.Test.YtbghpkgbokbmlaaGreatB21
set_option linter.unusedVariables false
namespace Go.Am.B
open Go Go.Am.N AV
theorem Yh : aP P lF js (au js) := aL MT (by kernel_rfl) (by kernel_rfl) (by kernel_rfl)
theorem XG : aP P mh wk (au wk) := aL Sh (by kernel_rfl) (by kernel_rfl) (by kernel_rfl)
theorem UR : aP P qD wA (au wA) := aL VH (by kernel_rfl) (by kernel_rfl) (by kernel_rfl)
theorem ZY : aP P lW mO (au mO) := aL abf (by kernel_rfl) (by kernel_rfl) (by kernel_rfl)
theorem W9 : aP P qb lP (au lP) := aL adH (by kernel_rfl) (by kernel_rfl) (by kernel_rfl)
theorem aa6 {n : Nat} {z : Nat → Nat} : aH T [] [] 30 [0, 3] (before (au js) [1,1,0]) ⟨aM 0 [.aj 1 n (ah z)], [], 0⟩ =
  some (aa.leaf ag.normal ([aj 1 n (ah z), int IntKind.i64 (↑n : Int)], [])) := by kernel_rfl
theorem acg {n k : Nat} {z : Nat → Nat} : aH T [] [8, 15] 30 [0, 3] [part (au js) [1,1,0,0,0]] ⟨aB [0, 3] [.aj 1 n (ah z), .int .i64 k], [], 0⟩ =
  some (aa.fork (decide ((↑k : Int) > (0 : Int))) (aa.af [decide ((↑k : Int) > (0 : Int)) = true, (0 : Int) ≤ IntKind.i64.wrap ((↑k : Int) - (1 : Int)) ∧ (IntKind.i64.wrap ((↑k : Int) - (1 : Int))).toNat < n] (aa.fork (bif true then (↑(z (IntKind.i64.wrap ((↑k : Int) - (1 : Int))).toNat) : Int) == (0 : Int) else false) (aa.leaf ag.normal ([aj 1 n (ah z), int IntKind.i64 (IntKind.i64.wrap ((↑k : Int) - (1 : Int)))], [])) (aa.leaf (ag.exit 0) ([aj 1 n (ah z), int IntKind.i64 (↑k : Int)], [])))) (aa.af [decide ((↑k : Int) > (0 : Int)) = false] (aa.fork false (aa.leaf ag.normal ([aj 1 n (ah z), int IntKind.i64 (IntKind.i64.wrap ((↑k : Int) - (1 : Int)))], [])) (aa.leaf (ag.exit 0) ([aj 1 n (ah z), int IntKind.i64 (↑k : Int)], []))))) := by kernel_rfl
theorem XY {n k : Nat} {z : Nat → Nat} : bW T [] [] 30 js (behind (au js) [1,1,0]) ⟨aB [0, 3] [.aj 1 n (ah z), .int .i64 k], [], 0⟩ =
  some (aa.af [(0 : Nat) * 1 ≤ 2 ^ 24, (0 : Int) ≤ (0 : Int) ∧ (0 : Int) ≤ (↑k : Int) ∧ (↑k : Int) ≤ (↑k : Int) ∧ (↑k : Int) ≤ (↑n : Int), ((0 : Nat) + ((↑k : Int).toNat - Int.toNat (0 : Int))) * ((4 : Nat) + 1) * 2 ≤ 2 ^ 47] (aa.leaf ag.ret [aj 1 ((0 : Nat) + ((↑k : Int).toNat - Int.toNat (0 : Int))) fun (i : Nat) ↦ if i + 0 < 0 then nth [] (int IntKind.u32 (0 : Int)) (i + 0) else ah z (i + 0 - 0 + Int.toNat (0 : Int))])) := by kernel_rfl
def pM : Spec := bt (jJ fun N n => aF (.mag N) [n < 2 ^ 40])
def dK : aQ := [(lF, pM)]
theorem acN {n : Nat} : bA T dK [] 30 wk (au wk) ⟨aM 0 [.int .u64 n], [], 0⟩ =
  some (aa.af [(0 : Int) ≤ (32 : Int), (2 : Nat) * 1 ≤ 2 ^ 24, cR 2 fun (i : Nat) ↦ nth [int IntKind.u32 (IntKind.u32.wrap (↑n : Int)), int IntKind.u32 (IntKind.u32.wrap ((↑n : Int).fdiv ((2 : Int) ^ min (Int.toNat (32 : Int)) IntKind.u64.bits)))] (int IntKind.u32 (0 : Int)) (i + 0), (2 : Nat) < 2 ^ 40] (aa.leaf ag.ret [mag (val 2 fun (i : Nat) ↦ numOf (nth [int IntKind.u32 (IntKind.u32.wrap (↑n : Int)), int IntKind.u32 (IntKind.u32.wrap ((↑n : Int).fdiv ((2 : Int) ^ min (Int.toNat (32 : Int)) IntKind.u64.bits)))] (int IntKind.u32 (0 : Int)) (i + 0)))])) := by kernel_rfl
theorem W8 {A : Nat} : bA T dK [6, 8, 14] 30 wA (au wA) ⟨aM 0 [.mag A], [], 0⟩ =
  some (aa.fork ((↑(nl A) : Int) == (0 : Int)) (aa.leaf ag.ret [int IntKind.u64 (0 : Int), AV.bool true]) (aa.fork ((↑(nl A) : Int) == (1 : Int)) (aa.af [(0 : Int) ≤ (0 : Int) ∧ Int.toNat (0 : Int) < nl A] (aa.leaf ag.ret [int IntKind.u64 (IntKind.u64.wrap (↑(ak A (Int.toNat (0 : Int))) : Int)), AV.bool true])) (aa.fork ((↑(nl A) : Int) == (2 : Int)) (aa.af [(0 : Int) ≤ (0 : Int) ∧ Int.toNat (0 : Int) < nl A, (0 : Int) ≤ (1 : Int) ∧ Int.toNat (1 : Int) < nl A, (0 : Int) ≤ (32 : Int)] (aa.leaf ag.ret [int IntKind.u64 (IntKind.u64.wrap (↑(BitVec.ofInt IntKind.u64.bits (IntKind.u64.wrap (↑(ak A (Int.toNat (0 : Int))) : Int)) ||| BitVec.ofInt IntKind.u64.bits (IntKind.u64.wrap (IntKind.u64.wrap (↑(ak A (Int.toNat (1 : Int))) : Int) * (2 : Int) ^ min (Int.toNat (32 : Int)) IntKind.u64.bits))).toNat : Int)), AV.bool true])) (aa.leaf ag.ret [int IntKind.u64 (0 : Int), AV.bool false])))) := by kernel_rfl
theorem OW {A B : Nat} : aH T [] [10, 15] 30 [0, 1, 5, 4] (before (au mO) [1,1,0,1]) ⟨aM 0 [.mag A, .mag B], [], 0⟩ =
  some (aa.fork ((↑(nl A) : Int) != (↑(nl B) : Int)) (aa.fork (decide ((↑(nl A) : Int) < (↑(nl B) : Int))) (aa.leaf ag.ret ([mag A, mag B, tuple [], int IntKind.i64 (-1 : Int)], [])) (aa.leaf ag.ret ([mag A, mag B, tuple [], int IntKind.i64 (1 : Int)], []))) (aa.leaf ag.normal ([mag A, mag B, int IntKind.i64 (IntKind.i64.wrap ((↑(nl A) : Int) - (1 : Int))), int IntKind.i64 (0 : Int)], []))) := by kernel_rfl
theorem Zk {A B k : Nat} : aH T [] [20, 31, 40] 30 [0, 1, 5, 4] [part (au mO) [1,1,0,1,0,0]] ⟨aB [0, 1, 5, 4] [.mag A, .mag B, .int .i64 ((k : Int) - 1), .int .i64 0], [], 0⟩ =
  some (aa.fork (decide ((↑k : Int) - (1 : Int) ≥ (0 : Int))) (aa.af [(0 : Int) ≤ (↑k : Int) - (1 : Int) ∧ ((↑k : Int) - (1 : Int)).toNat < nl A, (0 : Int) ≤ (↑k : Int) - (1 : Int) ∧ ((↑k : Int) - (1 : Int)).toNat < nl B] (aa.fork (decide ((↑(ak A ((↑k : Int) - (1 : Int)).toNat) : Int) < (↑(ak B ((↑k : Int) - (1 : Int)).toNat) : Int))) (aa.leaf ag.ret ([mag A, mag B, int IntKind.i64 ((↑k : Int) - (1 : Int)), int IntKind.i64 (-1 : Int)], [])) (aa.af [(0 : Int) ≤ (↑k : Int) - (1 : Int) ∧ ((↑k : Int) - (1 : Int)).toNat < nl A, (0 : Int) ≤ (↑k : Int) - (1 : Int) ∧ ((↑k : Int) - (1 : Int)).toNat < nl B] (aa.fork (decide ((↑(ak A ((↑k : Int) - (1 : Int)).toNat) : Int) > (↑(ak B ((↑k : Int) - (1 : Int)).toNat) : Int))) (aa.leaf ag.ret ([mag A, mag B, int IntKind.i64 ((↑k : Int) - (1 : Int)), int IntKind.i64 (1 : Int)], [])) (aa.leaf ag.normal ([mag A, mag B, int IntKind.i64 (IntKind.i64.wrap ((↑k : Int) - (1 : Int) - (1 : Int))), int IntKind.i64 (0 : Int)], [])))))) (aa.leaf (ag.exit 0) ([mag A, mag B, int IntKind.i64 ((↑k : Int) - (1 : Int)), int IntKind.i64 (0 : Int)], []))) := by kernel_rfl
theorem PO {A B k : Nat} : bW T [] [] 30 mO (behind (au mO) [1,1,0,1]) ⟨aB [0, 1, 5, 4] [.mag A, .mag B, .int .i64 ((k : Int) - 1), .int .i64 0], [], 0⟩ =
  some (aa.leaf ag.ret [int IntKind.i64 (0 : Int)]) := by kernel_rfl
theorem OO {n : Nat} {z : Nat → Nat} : aH T [] [7] 30 [3, 4, 2] (before (au lP) [1,1,1,0,1]) ⟨aM 0 [.aj 1 n (ah z)], [], 0⟩ =
  some (aa.fork ((↑n : Int) == (0 : Int)) (aa.leaf ag.ret ([tuple [], tuple [], int IntKind.i64 (0 : Int)], [])) (aa.af [(0 : Int) ≤ IntKind.i64.wrap ((↑n : Int) - (1 : Int)) ∧ (IntKind.i64.wrap ((↑n : Int) - (1 : Int))).toNat < n] (aa.leaf ag.normal ([int IntKind.i64 (IntKind.i64.wrap ((32 : Int) * IntKind.i64.wrap ((↑n : Int) - (1 : Int)))), int IntKind.u32 (↑(z (IntKind.i64.wrap ((↑n : Int) - (1 : Int))).toNat) : Int), int IntKind.i64 (0 : Int)], [])))) := by kernel_rfl
theorem aal {x y : Nat} : aH T [] [19] 30 [3, 4, 2] [part (au lP) [1,1,1,0,1,0,0]] ⟨aB [3, 4, 2] [.int .i64 x, .int .u32 y, .int .i64 0], [], 0⟩ =
  some (aa.fork ((↑y : Int) != (0 : Int)) (aa.af [(0 : Int) ≤ (1 : Int)] (aa.leaf ag.normal ([int IntKind.i64 (IntKind.i64.wrap ((↑x : Int) + (1 : Int))), int IntKind.u32 ((↑y : Int).fdiv ((2 : Int) ^ min (Int.toNat (1 : Int)) IntKind.u32.bits)), int IntKind.i64 (0 : Int)], []))) (aa.leaf (ag.exit 0) ([int IntKind.i64 (↑x : Int), int IntKind.u32 (↑y : Int), int IntKind.i64 (0 : Int)], []))) := by kernel_rfl
theorem aag {x y : Nat} : bW T [] [] 30 lP (behind (au lP) [1,1,1,0,1]) ⟨aB [3, 4, 2] [.int .i64 x, .int .u32 y, .int .i64 0], [], 0⟩ =
  some (aa.leaf ag.ret [int IntKind.i64 (↑x : Int)]) := by kernel_rfl
theorem acX {n : Nat} {z : Nat → Nat} (hz : ∀ i, i < n → z i < 2 ^ 32) (hn : n < 2 ^ 40) (K : Nat) : az P lF K [.aj 1 n (ah z)] [] (aF (.mag (val n z)) []) := by
 refine fe hT Yh rfl (of_decide_eq_true (by kernel_rfl)) rfl (fun _ c h0 => ?_) K []
 refine aq.hole [1,1,0] (by kernel_rfl) (aA.aZ hT aT hm 30 [0, 3] aa6 (by kernel_rfl) fun s' hv => bI ?_)
 refine aq.fF (i := 0) (y := part (au js) [1,1,0,0,0]) (by kernel_rfl) [0, 3] 0 (h0 _) (fun k : Nat => [.aj 1 n (ah z), .int .i64 k]) (fun _ => []) (fun _ => rfl) (fun _ => trivial)
  (fun k => k ≤ n ∧ ∀ i, k ≤ i → i < n → z i = 0) id n hv ⟨Nat.le_refl _, fun i h1 h2 => by omega⟩ ?_
 rintro j ⟨hj, hzj⟩
 refine aq.aZ hT aT hm 30 [0, 3] acg (by kernel_rfl) ?_
 have fin : (j = 0 ∨ z (j - 1) ≠ 0) → ∀ s', aU [0, 3] s' = some ([.aj 1 n (ah z), .int .i64 j], []) → aA P c js.ntmps (behind (au js) [1,1,0]) s' (dz c (Fin T js (.mag (val n z)))) := by
  intro hj0 s' hv
  refine aA.ij hT aT hm 30 hv (h0 0) rfl trivial XY (by kernel_rfl) (by kernel_rfl) ?_
  simp only [aa.all, ax, Int.toNat_natCast, Int.toNat_zero, Nat.zero_add, Nat.sub_zero, Nat.add_zero]
  have e : val n z = val j z := jV hj hzj
  refine ⟨⟨by omega, by omega, by omega⟩, jj (by rw [e, z9 (fun i hi => hz i (by omega)) hj0]) fun i hi => ?_⟩
  rw [if_neg (by omega), e, mH (fun j hj => hz j (by omega)) hi]
  rfl
 have hw : 0 < j → IntKind.i64.wrap ((j : Int) - 1) = ((j - 1 : Nat) : Int) := fun h => by rw [wrap_i64 (by omega) (by omega)]; omega
 refine ⟨fun hb => ?_, fun hb => ?_⟩
 ·have h1 : 0 < j := by simpa using hb
  rw [hw h1]
  have hj1 : j - 1 < n := by omega
  refine ⟨⟨hb, by omega, by rw [Int.toNat_natCast]; exact hj1⟩, fun hc s' hv => ?_, fun hc s' hv => ?_⟩
  ·refine ⟨j - 1, hv, ⟨by omega, fun i h1 h2 => ?_⟩, by simp; omega⟩
   by_cases hi : i = j - 1
   ·subst hi; simpa using hc
   ·exact hzj i (by omega) h2
  ·exact ek (fin (.inr (by simpa using hc)) s' hv)
 ·have h1 : j = 0 := by simpa using hb
  refine ⟨hb, fun hc => by simp at hc, fun hc s' hv => ek (fin (.inl h1) s' hv)⟩
theorem vO : ∀ K args pre r, pM K args pre = some r → az P lF K args pre r :=
 bH (oZ fun _ _ K hz need => acX hz need K)
theorem dL : aW P dK := aC vO aT
theorem Sk {x : Nat} (hx : x < 2 ^ 64) (K : Nat) : az P mh K [.int .u64 x] [] (aF (.mag x) []) := by
 refine bD hT dL hm XG rfl (of_decide_eq_true (by kernel_rfl)) rfl 30 acN (fun _ => ?_) K []
 simp only [aa.all, ax, jb]
 refine ⟨⟨by omega, by omega, fun i hi => ?_, by omega⟩, cZ (congrArg AV.mag ?_)⟩
 ·match i, hi with
  | 0, _ => exact ⟨x % 2 ^ 32, by omega, by simp [nth, gU]⟩
  | 1, _ => exact ⟨x / 4294967296, by omega, by simp [nth, iU]; omega⟩
 ·rw [val_two]
  simp [nth, numOf, iU]
  omega
def uB : Spec := bt fun l => match l with
 | [.int .u64 x] => some (aF (.mag x.toNat) [0 ≤ x ∧ x < 2 ^ 64])
 | _ => none
theorem yH : ∀ K args pre r, uB K args pre = some r → az P mh K args pre r := by
 refine bH fun K args r hk hs _ => ?_
 split at hs
 ·simp only [Option.some.injEq] at hs
  subst hs
  intro need
  obtain ⟨h1, h2⟩ := need
  rename_i x
  obtain ⟨y, rfl⟩ := Int.eq_ofNat_of_zero_le h1
  exact Sk (x := y) (by omega) K trivial
 ·simp at hs
def cO (A : Nat) : Bool := decide (A < 18446744073709551616)
theorem M5 {A : Nat} (K : Nat) : az P qD K [.mag A] [] (aF (.tuple [.int .u64 (if cO A then A else 0 : Nat), .bool (cO A)]) []) := by
 refine bD hT dL hm UR rfl (of_decide_eq_true (by kernel_rfl)) rfl 30 W8 (fun _ => ?_) K []
 simp only [aa.all, ax, beq_iff_eq, beq_eq_false_iff_ne, ne_eq, Int.toNat_zero, show Int.toNat 1 = 1 from rfl]
 have hv := eM (N := A)
 have l0 := cJ (N := A) (i := 0)
 have l1 := cJ (N := A) (i := 1)
 have yes : ∀ {x : Int}, A < 2 ^ 64 → x = (A : Nat) → ec [.int .u64 x, .bool true] (.tuple [.int .u64 (if cO A then A else 0 : Nat), .bool (cO A)]) := fun h hx => by
  have : cO A = true := by unfold cO; simpa using h
  rw [this, if_pos rfl]
  exact ⟨bq hx, .refl _, trivial⟩
 refine ⟨fun hb => yes ?_ ?_, fun hb => ⟨fun h1 => ⟨by omega, yes ?_ ?_⟩, fun h1 => ⟨fun h2 => ⟨⟨by omega, by omega, by omega⟩, yes ?_ ?_⟩, fun h2 => ?_⟩⟩⟩
 ·have : A = 0 := iC.1 (by omega)
  omega
 ·have : A = 0 := iC.1 (by omega)
  rw [this]; rfl
 ·exact mR (by omega)
 ·rw [show nl A = 1 by omega, val, val] at hv
  rw [bC (by omega) (by omega)]
  simp at hv; omega
 ·exact mR (by omega)
 ·rw [show nl A = 2 by omega, val, val, val] at hv
  have e1 : IntKind.u64.wrap (ak A 0 : Int) = ((ak A 0 : Nat) : Int) := bC (by omega) (by omega)
  have e2 : IntKind.u64.wrap (ak A 1 : Int) = ((ak A 1 : Nat) : Int) := bC (by omega) (by omega)
  have e3 : IntKind.u64.wrap ((ak A 1 : Int) * 2 ^ min (Int.toNat 32) IntKind.u64.bits) = ((ak A 1 * 4294967296 : Nat) : Int) := by
   rw [v9, bC (by omega) (by omega)]; omega
  rw [e1, e2, e3, qS (by omega) (by omega)]
  congr 1
  rw [Nat.or_comm, show 4294967296 = 2 ^ 32 from rfl, oV l0]
  simp at hv; omega
 ·have : cO A = false := by
   unfold cO
   simp only [decide_eq_false_iff_not]
   intro h
   have : nl A ≤ 2 := cw.2 h
   omega
  rw [this]
  exact ⟨.refl _, .refl _, trivial⟩
def Aj : Spec := bt fun l => match l with
 | [a] => match gm a with
  | some A => some (aF (.tuple [.int .u64 (if cO A then A else 0 : Nat), .bool (cO A)]) [])
  | none => none
 | _ => none
theorem Iu : ∀ K args pre r, Aj K args pre = some r → az P qD K args pre r := by
 refine bH fun K args r hk hs _ => ?_
 split at hs
 ·split at hs
  ·rename_i A hA
   simp only [Option.some.injEq] at hs
   subst hs
   exact fk (M5 K) hk ⟨jd hA, trivial⟩ []
  ·simp at hs
 ·simp at hs
theorem Qe {A B : Nat} (hA : nl A < 2 ^ 40) (hB : nl B < 2 ^ 40) (K : Nat) : az P lW K [.mag A, .mag B] [] (aF (.int .i64 (bN A B)) []) := by
 refine fe hT ZY rfl (of_decide_eq_true (by kernel_rfl)) rfl (fun _ c h0 => ?_) K []
 refine aq.hole [1,1,0,1] (by kernel_rfl) (aA.aZ hT aT hm 30 [0, 1, 5, 4] OW (by kernel_rfl) ?_)
 simp only [aa.all, ax, decide_eq_true_eq, decide_eq_false_iff_not, bne_iff_ne, ne_eq, Int.natCast_inj, bne_eq_false_iff_eq]
 refine ⟨fun hb => ⟨fun hb2 s' hv => ef (.inl ?_), fun hb2 s' hv => ef (.inl ?_)⟩, fun hb s' hv => bI ?_⟩
 ·have h1 : A < B := xM (by omega)
  exact e9 (us := [.int .i64 (-1)]) (.inr rfl) hv (by kernel_rfl) (bq (by simp [bN, h1]))
 ·have h1 : B < A := xM (by omega)
  exact e9 (us := [.int .i64 1]) (.inr rfl) hv (by kernel_rfl) (bq (by simp [bN, h1]; omega))
 refine aq.fF (i := 0) (y := part (au mO) [1,1,0,1,0,0]) (by kernel_rfl) [0, 1, 5, 4] 0 (h0 _) (fun k : Nat => [.mag A, .mag B, .int .i64 ((k : Int) - 1), .int .i64 0]) (fun _ => []) (fun _ => rfl) (fun _ => trivial)
  (fun k => k ≤ nl A ∧ ∀ j, k ≤ j → j < nl A → ak A j = ak B j) id (nl A) (cM hv (by rw [wrap_i64 (by omega) (by omega)]) rfl) ⟨by simp, fun j h1 h2 => by omega⟩ ?_
 rintro k ⟨hk, hlim⟩
 refine aq.aZ hT aT hm 30 [0, 1, 5, 4] Zk (by kernel_rfl) ?_
 simp only [aa.all, ax, decide_eq_true_eq, decide_eq_false_iff_not]
 refine ⟨fun hb2 => ?_, fun hb2 s' hv => ek ?_⟩
 ·obtain ⟨j, rfl⟩ : ∃ j, k = j + 1 := ⟨k - 1, by omega⟩
  have e : (((j + 1 : Nat) : Int) - 1).toNat = j := by omega
  rw [e]
  refine ⟨⟨by omega, by omega⟩, fun hlt s' hv => J6 (ef (.inl ?_)), fun hlt => ⟨⟨by omega, by omega⟩, fun hgt s' hv => J6 (ef (.inl ?_)), fun hgt s' hv => ?_⟩⟩
  ·have h1 : A < B := yp hb (k := j) (by omega) (fun i h1 h2 => hlim i (by omega) h2) (by omega)
   exact e9 (us := [.int .i64 (-1)]) (.inr rfl) hv (by kernel_rfl) (bq (by simp [bN, h1]))
  ·have h1 : B < A := yp hb.symm (k := j) (by omega) (fun i h1 h2 => (hlim i (by omega) (by omega)).symm) (by omega)
   exact e9 (us := [.int .i64 1]) (.inr rfl) hv (by kernel_rfl) (bq (by simp [bN, h1]; omega))
  ·refine ⟨j, cM hv (by rw [wrap_i64 (by omega) (by omega)]; congr 4; omega) rfl, ⟨by omega, fun i h1 h2 => ?_⟩, by simp⟩
   by_cases hi : i = j
   ·subst hi; omega
   ·exact hlim i (by omega) h2
 ·have hk0 : k = 0 := by omega
  have hAB : A = B := BT hb fun i hi => hlim i (by omega) hi
  exact bI (aA.ij hT aT hm 30 hv (h0 0) rfl trivial PO (by kernel_rfl) (by kernel_rfl) (bq (by simp [bN, hAB])))
def jT (g : Nat → Nat → AV) (l : Nat → Nat → List Prop) : Spec := bt fun a => match a with
 | [x, y] => match gm x, gm y with
  | some A, some B => some (aF (g A B) (l A B))
  | _, _ => none
 | _ => none
theorem lT {f : FuncId} {g : Nat → Nat → AV} {l : Nat → Nat → List Prop} (h : ∀ {A B : Nat}, ax (l A B) → ∀ K, az P f K [.mag A, .mag B] [] (aF (g A B) [])) : ∀ K args pre r, jT g l K args pre = some r → az P f K args pre r := by
 refine bH fun K args r hk hs _ => ?_
 split at hs
 ·split at hs
  ·rename_i A B hA hB
   simp only [Option.some.injEq] at hs
   subst hs
   exact fun need => fk (h need K) hk ⟨jd hA, jd hB, trivial⟩ [] trivial
  ·simp at hs
 ·simp at hs
abbrev Dy (A B : Nat) : List Prop := [nl A < 2 ^ 40, nl B < 2 ^ 40]
def w7 : Spec := jT (fun A B => .int .i64 (bN A B)) Dy
theorem xX : ∀ K args pre r, w7 K args pre = some r → az P lW K args pre r := lT fun h => Qe h.1 h.2
theorem X5 {n : Nat} {z : Nat → Nat} (hz : ∀ i, i < n → z i < 2 ^ 32) (hn : n < 2 ^ 40) (hnl : nl (val n z) = n) (K : Nat) : az P qb K [.aj 1 n (ah z)] [] (aF (.int .i64 (aS (val n z) : Nat)) []) := by
 refine fe hT W9 rfl (of_decide_eq_true (by kernel_rfl)) rfl (fun _ c h0 => ?_) K []
 refine aq.hole [1,1,1,0,1] (by kernel_rfl) (aA.aZ hT aT hm 30 [3, 4, 2] OO (by kernel_rfl) ?_)
 simp only [aa.all, ax, beq_iff_eq, beq_eq_false_iff_ne, ne_eq]
 refine ⟨fun hb s' hv => ef (.inl ?_), fun hb => ?_⟩
 ·have h1 : n = 0 := by omega
  have h2 : val n z = 0 := by rw [h1]; rfl
  exact e9 (us := [.int .i64 0]) (.inr rfl) hv (by kernel_rfl) (bq (by rw [h2]; rfl))
 have w1 : IntKind.i64.wrap ((n : Int) - 1) = ((n - 1 : Nat) : Int) := dy (by omega) (by omega)
 have w2 : IntKind.i64.wrap (32 * ((n - 1 : Nat) : Int)) = ((32 * (n - 1) : Nat) : Int) := dy (by omega) (by omega)
 rw [w1, w2]
 simp only [Int.toNat_natCast]
 refine ⟨by omega, fun s' hv => bI ?_⟩
 have hzt := hz (n - 1) (by omega)
 have htot : aS (val n z) = 32 * (n - 1) + aS (z (n - 1)) := by
  have h0 : val n z ≠ 0 := eO.1 (by omega)
  rw [IU h0, hnl, mH hz (by omega)]
 refine aq.fF (i := 0) (y := part (au lP) [1,1,1,0,1,0,0]) (by kernel_rfl) [3, 4, 2] 0 (h0 _) (fun p : Nat × Nat => [.int .i64 (p.1 : Nat), .int .u32 (p.2 : Nat), .int .i64 0]) (fun _ => []) (fun _ => rfl) (fun _ => trivial)
  (fun p => p.1 + aS p.2 = aS (val n z) ∧ p.2 < 2 ^ 32) (fun p => p.2) (32 * (n - 1), z (n - 1)) hv ⟨htot.symm, hzt⟩ ?_
 rintro ⟨x, y⟩ ⟨hxy, hy⟩
 simp only at hxy hy
 have hb32 : aS (z (n - 1)) ≤ 32 := fR.2 hzt
 refine aq.aZ hT aT hm 30 [3, 4, 2] aal (by kernel_rfl) ?_
 rw [uW (by decide) (by decide)]
 simp only [aa.all, ax, bne_iff_ne, ne_eq, bne_eq_false_iff_eq, show Int.toNat 1 = 1 from rfl]
 refine ⟨fun hc => ⟨by omega, fun s' hv => ?_⟩, fun hc s' hv => ek (bI ?_)⟩
 ·have hy0 : 0 < y := by omega
  have e : aS y = 1 + aS (y / 2) := by
   by_cases h1 : y = 1
   ·rw [h1]; decide
   ·exact qy (k := 1) (by omega)
  have hd : y / 2 < y := by omega
  exact ⟨(x + 1, y / 2), cM hv (by rw [dy (a := (x : Int) + 1) (n := x + 1) (by omega) (by omega)]) rfl, ⟨by simp only; omega, by simp only; omega⟩, by simp only; omega⟩
 ·have hy0 : y = 0 := by omega
  refine aA.ij hT aT hm 30 hv (h0 0) rfl trivial aag (by kernel_rfl) (by kernel_rfl) (bq ?_)
  rw [hy0] at hxy
  simp [aS] at hxy
  rw [hxy]; simp [aS]
def B2 : Spec := bt (jJ fun N n => aF (.int .i64 (aS N : Nat)) [n < 2 ^ 40, nl N = n])
theorem H7 : ∀ K args pre r, B2 K args pre = some r → az P qb K args pre r :=
 bH (oZ fun _ _ K hz need => X5 hz need.1 need.2 K)
end Go.Am.B
