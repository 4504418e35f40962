/- natural.Of, natural.word, natural.Cmp. -/
import Derived.Test.YtjhhblmbiaghfaaGreatB2
set_option linter.unusedVariables false
namespace Go.Am.B
open Go Go.Am.N AV
theorem Ly : aO P pg wq (ax wq) := aP XS (by kernel_rfl) (by kernel_rfl) (by kernel_rfl)
theorem Jv : aO P uJ mJ (ax mJ) := aP QU (by kernel_rfl) (by kernel_rfl) (by kernel_rfl)
theorem J8 : aO P nh mz (ax mz) := aP PD (by kernel_rfl) (by kernel_rfl) (by kernel_rfl)
theorem val_two {z : Nat → Nat} : val 2 z = z 0 + z 1 * 4294967296 := by simp [val]
theorem K2 {x : Nat} : bF T G1 [] 30 wq (ax wq) ⟨aN 0 [.int .u64 x], [], 0⟩ =
  some (af.ag [(0 : Int) ≤ (32 : Int), (2 : Nat) * 1 ≤ 2 ^ 24, cN 2 fun (i : Nat) ↦ nth [int IntKind.u32 (IntKind.u32.wrap (↑x : Int)), int IntKind.u32 (IntKind.u32.wrap ((↑x : Int).fdiv ((2 : Int) ^ min (Int.toNat (32 : Int)) IntKind.u64.bits)))] (int IntKind.u32 (0 : Int)) (i + 0), (2 : Nat) < 2 ^ 62] (af.leaf ak.ret [mag (val 2 fun (i : Nat) ↦ numOf (nth [int IntKind.u32 (IntKind.u32.wrap (↑x : Int)), int IntKind.u32 (IntKind.u32.wrap ((↑x : Int).fdiv ((2 : Int) ^ min (Int.toNat (32 : Int)) IntKind.u64.bits)))] (int IntKind.u32 (0 : Int)) (i + 0)))])) := by kernel_rfl
theorem Nl {x : Nat} (hx : x < 2 ^ 64) (K : Nat) (pre : aB) : aC P pg K [.int .u64 x] pre (aK (.mag x) []) := by
 refine bH hT eM hm Ly rfl (of_decide_eq_true (by kernel_rfl)) rfl 30 K2 (fun _ => ?_) K pre
 simp only [af.all, ay, iY]
 refine ⟨⟨by omega, by omega, fun i hi => ?_, by omega⟩, cV (congrArg AV.mag ?_)⟩
 ·match i, hi with
  | 0, _ => exact ⟨x % 2 ^ 32, by omega, by simp [nth, gC]⟩
  | 1, _ => exact ⟨x / 4294967296, by omega, by simp [nth, iU]; omega⟩
 ·rw [val_two]
  simp [nth, numOf, iU]
  omega
theorem ZX {n : Nat} {z : Nat → Nat} : aF T [] [] 30 [0, 3, 4] (before (ax mJ) [1,1,0,1]) ⟨aN 0 [.ah 1 n (aj z)], [], 0⟩ =
  some (af.leaf ak.normal ([ah 1 n (aj z), int IntKind.u64 (0 : Int), int IntKind.i64 (IntKind.i64.wrap ((↑n : Int) - (1 : Int)))], [])) := by kernel_rfl
theorem WW {n k v : Nat} {z : Nat → Nat} : aF T [] [9] 30 [0, 3, 4] [part (ax mJ) [1,1,0,1,0,0]] ⟨az [0, 3, 4] [.ah 1 n (aj z), .int .u64 v, .int .i64 ((k : Int) - 1)], [], 0⟩ =
  some (af.fork (decide ((↑k : Int) - (1 : Int) ≥ (0 : Int))) (af.ag [(0 : Int) ≤ (32 : Int), (0 : Int) ≤ (↑k : Int) - (1 : Int) ∧ ((↑k : Int) - (1 : Int)).toNat < n] (af.leaf ak.normal ([ah 1 n (aj z), int IntKind.u64 (IntKind.u64.wrap (↑(BitVec.ofInt IntKind.u64.bits (IntKind.u64.wrap ((↑v : Int) * (2 : Int) ^ min (Int.toNat (32 : Int)) IntKind.u64.bits)) ||| BitVec.ofInt IntKind.u64.bits (IntKind.u64.wrap (↑(z ((↑k : Int) - (1 : Int)).toNat) : Int))).toNat : Int)), int IntKind.i64 (IntKind.i64.wrap ((↑k : Int) - (1 : Int) - (1 : Int)))], []))) (af.leaf (ak.exit 0) ([ah 1 n (aj z), int IntKind.u64 (↑v : Int), int IntKind.i64 ((↑k : Int) - (1 : Int))], []))) := by kernel_rfl
theorem SH {n k v : Nat} {z : Nat → Nat} : b9 T [] [] 30 mJ (behind (ax mJ) [1,1,0,1]) ⟨az [0, 3, 4] [.ah 1 n (aj z), .int .u64 v, .int .i64 ((k : Int) - 1)], [], 0⟩ =
  some (af.leaf ak.ret [int IntKind.u64 (↑v : Int)]) := by kernel_rfl
theorem Ez {z : Nat → Nat} {n k v : Nat} (h : v * 2 ^ (32 * (k + 1)) + val (k + 1) z = val n z) : (v * 4294967296 + z k) * 2 ^ (32 * k) + val k z = val n z := by
 rw [← h, val, fq, Nat.add_mul]
 rw [Nat.mul_assoc]
 omega
theorem P9 {n : Nat} {z : Nat → Nat} (hz : ∀ i, i < n → z i < 2 ^ 32) (hn : n ≤ 2) (K : Nat) (pre : aB) : aC P uJ K [.ah 1 n (aj z)] pre (aK (.int .u64 (val n z : Nat)) []) := by
 refine gA hT Jv rfl (of_decide_eq_true (by kernel_rfl)) rfl (fun _ c h0 => ?_) K pre
 refine aq.hole [1,1,0,1] (by kernel_rfl) (aA.aS hT aY hm 30 [0, 3, 4] ZX (by kernel_rfl) ?_)
 intro s' hv
 have hv64 : val n z < 2 ^ 64 := by
  have h1 := ec hz
  have h2 : 2 ^ (32 * n) ≤ 2 ^ (32 * 2) := Nat.pow_le_pow_right (by omega) (by omega)
  omega
 refine aq.fz (i := 0) (y := part (ax mJ) [1,1,0,1,0,0]) (by kernel_rfl)
  (fun p : Nat × Nat => ⟨az [0, 3, 4] [.ah 1 n (aj z), .int .u64 (p.2 : Nat), .int .i64 ((p.1 : Nat) - 1 : Int)], [], 0⟩)
  (fun p => p.1 ≤ n ∧ p.2 * 2 ^ (32 * p.1) + val p.1 z = val n z) (fun p => p.1) (n, 0)
  (cz [] hv h0 rfl ⟨⟨rfl, aG rfl⟩, ⟨rfl, aG rfl⟩, ⟨rfl, eB (wrap_i64 (by omega) (by omega))⟩, trivial⟩ trivial) ⟨by simp, by simp⟩ ?_
 rintro ⟨k, v⟩ ⟨hk, hval⟩
 simp only at hk hval
 refine aq.aS hT aY hm 30 [0, 3, 4] WW (by kernel_rfl) ?_
 simp only [af.all, ay, decide_eq_true_eq, decide_eq_false_iff_not]
 refine ⟨fun hb => ?_, fun hb s' hv => ?_⟩
 ·obtain ⟨j, rfl⟩ : ∃ j, k = j + 1 := ⟨k - 1, by omega⟩
  have e : (((j + 1 : Nat) : Int) - 1).toNat = j := by omega
  have hzj := hz j (by omega)
  have hv32 : v < 2 ^ 32 := by
   rcases Nat.lt_or_ge v (2 ^ 32) with h | h
   ·exact h
   ·have h1 : 2 ^ 32 * 2 ^ (32 * (j + 1)) ≤ v * 2 ^ (32 * (j + 1)) := Nat.mul_le_mul_right _ h
    have h2 : 2 ^ 32 ≤ 2 ^ (32 * (j + 1)) := Nat.pow_le_pow_right (by omega) (by omega)
    have h3 : 2 ^ 32 * 2 ^ 32 ≤ 2 ^ 32 * 2 ^ (32 * (j + 1)) := Nat.mul_le_mul_left _ h2
    omega
  rw [e]
  have hor : IntKind.u64.wrap ((BitVec.ofInt IntKind.u64.bits (IntKind.u64.wrap ((v : Int) * 2 ^ min (Int.toNat 32) IntKind.u64.bits)) ||| BitVec.ofInt IntKind.u64.bits (IntKind.u64.wrap (z j : Int))).toNat : Int) =
    ((v * 4294967296 + z j : Nat) : Int) := by
   rw [s7, bA (x := (z j : Int)) (by omega) (by omega), bA (x := (v : Int) * 4294967296) (by omega) (by omega)]
   rw [show (v : Int) * 4294967296 = ((v * 2 ^ 32 : Nat) : Int) by omega, pM (by omega) (by omega), oq hzj]
  refine ⟨⟨by omega, by omega, by omega⟩, fun s' hv => ⟨(j, v * 4294967296 + z j), cz [] hv h0 rfl ⟨⟨rfl, aG rfl⟩, ⟨rfl, eB hor⟩, ⟨rfl, eB (by rw [wrap_i64 (by omega) (by omega)]; simp only; omega)⟩, trivial⟩ trivial,
   ⟨by simp only; omega, Ez hval⟩, by simp⟩⟩
 ·have hk0 : k = 0 := by omega
  subst hk0
  have hval : v = val n z := by simpa [val] using hval
  subst hval
  exact aA.weak (by kernel_rfl) (cz (vs := [.ah 1 n (aj z), .int .u64 (val n z : Nat), .int .i64 (((0 : Nat) : Int) - 1)]) (ps := []) (nx := 0) [] hv h0 rfl ⟨⟨rfl, aG rfl⟩, ⟨rfl, aG rfl⟩, ⟨rfl, aG rfl⟩, trivial⟩ trivial)
   (aA.fin hT aY hm 30 SH (by kernel_rfl) (bq.refl _))
theorem OJ {n m : Nat} {z y : Nat → Nat} : aF T G1 [14, 19] 30 [0, 1, 5, 4] (before (ax mz) [1,1,1,0,1]) ⟨aN 0 [.ah 1 n (aj z), .ah 1 m (aj y)], [], 0⟩ =
  some (af.ag [cN n (aj z), n < 2 ^ 62, cN m (aj y), m < 2 ^ 62] (af.fork ((↑(nl (val n fun (i : Nat) ↦ numOf (aj z i))) : Int) != (↑(nl (val m fun (i : Nat) ↦ numOf (aj y i))) : Int)) (af.fork (decide ((↑(nl (val n fun (i : Nat) ↦ numOf (aj z i))) : Int) < (↑(nl (val m fun (i : Nat) ↦ numOf (aj y i))) : Int))) (af.leaf ak.ret ([mag (val n fun (i : Nat) ↦ numOf (aj z i)), mag (val m fun (i : Nat) ↦ numOf (aj y i)), tuple [], int IntKind.i64 (-1 : Int)], [])) (af.leaf ak.ret ([mag (val n fun (i : Nat) ↦ numOf (aj z i)), mag (val m fun (i : Nat) ↦ numOf (aj y i)), tuple [], int IntKind.i64 (1 : Int)], []))) (af.leaf ak.normal ([mag (val n fun (i : Nat) ↦ numOf (aj z i)), mag (val m fun (i : Nat) ↦ numOf (aj y i)), int IntKind.i64 (IntKind.i64.wrap ((↑(nl (val n fun (i : Nat) ↦ numOf (aj z i))) : Int) - (1 : Int))), int IntKind.i64 (0 : Int)], [])))) := by kernel_rfl
theorem Xt {A B k : Nat} : aF T [] [24, 35, 44] 30 [0, 1, 5, 4] [part (ax mz) [1,1,1,0,1,0,0]] ⟨az [0, 1, 5, 4] [.mag A, .mag B, .int .i64 ((k : Int) - 1), .int .i64 0], [], 0⟩ =
  some (af.fork (decide ((↑k : Int) - (1 : Int) ≥ (0 : Int))) (af.ag [(0 : Int) ≤ (↑k : Int) - (1 : Int) ∧ ((↑k : Int) - (1 : Int)).toNat < nl A, (0 : Int) ≤ (↑k : Int) - (1 : Int) ∧ ((↑k : Int) - (1 : Int)).toNat < nl B] (af.fork ((↑(au A ((↑k : Int) - (1 : Int)).toNat) : Int) != (↑(au B ((↑k : Int) - (1 : Int)).toNat) : Int)) (af.ag [(0 : Int) ≤ (↑k : Int) - (1 : Int) ∧ ((↑k : Int) - (1 : Int)).toNat < nl A, (0 : Int) ≤ (↑k : Int) - (1 : Int) ∧ ((↑k : Int) - (1 : Int)).toNat < nl B] (af.fork (decide ((↑(au A ((↑k : Int) - (1 : Int)).toNat) : Int) < (↑(au B ((↑k : Int) - (1 : Int)).toNat) : Int))) (af.leaf ak.ret ([mag A, mag B, int IntKind.i64 ((↑k : Int) - (1 : Int)), int IntKind.i64 (-1 : Int)], [])) (af.leaf ak.ret ([mag A, mag B, int IntKind.i64 ((↑k : Int) - (1 : Int)), int IntKind.i64 (1 : Int)], [])))) (af.leaf ak.normal ([mag A, mag B, int IntKind.i64 (IntKind.i64.wrap ((↑k : Int) - (1 : Int) - (1 : Int))), int IntKind.i64 (0 : Int)], [])))) (af.leaf (ak.exit 0) ([mag A, mag B, int IntKind.i64 ((↑k : Int) - (1 : Int)), int IntKind.i64 (0 : Int)], []))) := by kernel_rfl
theorem Rj {A B k : Nat} : b9 T [] [] 30 mz (behind (ax mz) [1,1,1,0,1]) ⟨az [0, 1, 5, 4] [.mag A, .mag B, .int .i64 ((k : Int) - 1), .int .i64 0], [], 0⟩ =
  some (af.leaf ak.ret [int IntKind.i64 (0 : Int)]) := by kernel_rfl
theorem SB {n m : Nat} {z y : Nat → Nat} (hz : ∀ i, i < n → z i < 2 ^ 32) (hy : ∀ i, i < m → y i < 2 ^ 32) (hn : n < 2 ^ 40) (hm' : m < 2 ^ 40) (K : Nat) (pre : aB) :
  aC P nh K [.ah 1 n (aj z), .ah 1 m (aj y)] pre (aK (.int .i64 (bO (val n z) (val m y))) []) := by
 refine gA hT J8 rfl (of_decide_eq_true (by kernel_rfl)) rfl (fun _ c h0 => ?_) K pre
 refine aq.hole [1,1,1,0,1] (by kernel_rfl) (aA.aS hT eM hm 30 [0, 1, 5, 4] OJ (by kernel_rfl) ?_)
 have hnl : nl (val n z) ≤ n := cw.2 (ec hz)
 generalize hA : val n z = A at *
 generalize hB : val m y = B at *
 simp only [af.all, ay, decide_eq_true_eq, decide_eq_false_iff_not, Bs, hA, hB, bne_iff_ne, ne_eq, Int.natCast_inj, bne_eq_false_iff_eq]
 refine ⟨⟨eG hz, by omega, eG hy, by omega⟩, fun hb => ⟨fun hb2 s' hv => ?_, fun hb2 s' hv => ?_⟩, fun hb s' hv => ?_⟩
 ·have h1 : A < B := yA (by omega)
  exact eL (us := [.int .i64 (-1)]) (.inr rfl) hv (by kernel_rfl) (bm (by simp [bO, h1]))
 ·have h1 : B < A := yA (by omega)
  exact eL (us := [.int .i64 1]) (.inr rfl) hv (by kernel_rfl) (bm (by simp [bO, h1]; omega))
 refine aq.fz (i := 0) (y := part (ax mz) [1,1,1,0,1,0,0]) (by kernel_rfl)
  (fun k : Nat => ⟨az [0, 1, 5, 4] [.mag A, .mag B, .int .i64 ((k : Int) - 1), .int .i64 0], [], 0⟩)
  (fun k => k ≤ nl A ∧ ∀ j, k ≤ j → j < nl A → au A j = au B j) id (nl A)
  (cz [] hv h0 rfl ⟨⟨rfl, aG rfl⟩, ⟨rfl, aG rfl⟩, ⟨rfl, eB (wrap_i64 (by omega) (by omega))⟩, ⟨rfl, aG rfl⟩, trivial⟩ trivial) ⟨by simp, fun j h1 h2 => by omega⟩ ?_
 rintro k ⟨hk, hlim⟩
 refine aq.aS hT aY hm 30 [0, 1, 5, 4] Xt (by kernel_rfl) ?_
 simp only [af.all, ay, decide_eq_true_eq, decide_eq_false_iff_not, bne_iff_ne, ne_eq, Int.natCast_inj, bne_eq_false_iff_eq]
 refine ⟨fun hb2 => ?_, fun hb2 s' hv => ?_⟩
 ·obtain ⟨j, rfl⟩ : ∃ j, k = j + 1 := ⟨k - 1, by omega⟩
  have e : (((j + 1 : Nat) : Int) - 1).toNat = j := by omega
  rw [e]
  refine ⟨⟨by omega, by omega⟩, fun hne => ⟨⟨by omega, by omega⟩, fun hlt s' hv => ?_, fun hlt s' hv => ?_⟩, fun heq s' hv => ?_⟩
  ·have h1 : A < B := zp hb (k := j) (by omega) (fun i h1 h2 => hlim i (by omega) h2) (by omega)
   exact eL (us := [.int .i64 (-1)]) (.inr rfl) hv (by kernel_rfl) (bm (by simp [bO, h1]))
  ·have h1 : B < A := zp hb.symm (k := j) (by omega) (fun i h1 h2 => (hlim i (by omega) (by omega)).symm) (by omega)
   exact eL (us := [.int .i64 1]) (.inr rfl) hv (by kernel_rfl) (bm (by simp [bO, h1]; omega))
  ·refine ⟨j, cz [] hv h0 rfl ⟨⟨rfl, aG rfl⟩, ⟨rfl, aG rfl⟩, ⟨rfl, eB (by rw [wrap_i64 (by omega) (by omega)]; omega)⟩, ⟨rfl, aG rfl⟩, trivial⟩ trivial, ⟨by omega, fun i h1 h2 => ?_⟩, by simp⟩
   by_cases hi : i = j
   ·subst hi; exact heq
   ·exact hlim i (by omega) h2
 ·have hk0 : k = 0 := by omega
  subst hk0
  have hAB : A = B := zZ hb fun i hi => hlim i (by omega) hi
  exact aA.weak (by kernel_rfl) (cz (vs := [.mag A, .mag B, .int .i64 (((0 : Nat) : Int) - 1), .int .i64 0]) (ps := []) (nx := 0) [] hv h0 rfl ⟨⟨rfl, aG rfl⟩, ⟨rfl, aG rfl⟩, ⟨rfl, aG rfl⟩, ⟨rfl, aG rfl⟩, trivial⟩ trivial)
   (aA.fin hT aY hm 30 Rj (by kernel_rfl) (bm (by simp [bO, hAB])))
def z9 : Spec := bu fun l => match l with
 | [.int .u64 x] => some (aK (.mag x.toNat) [0 ≤ x ∧ x < 2 ^ 64])
 | _ => none
theorem Gb : ∀ K args pre r, z9 K args pre = some r → aC P pg K args pre r := by
 refine bQ fun K args r hk hs _ => ?_
 split at hs
 ·rename_i x
  simp only [Option.some.injEq] at hs
  subst hs
  intro need
  obtain ⟨h1, h2⟩ : 0 ≤ x ∧ x < 2 ^ 64 := need
  obtain ⟨y, rfl⟩ := Int.eq_ofNat_of_zero_le h1
  exact Nl (x := y) (by omega) K [] trivial
 ·simp at hs
def wK (N n : Nat) : cC := aK (.int .u64 (N : Nat)) [n ≤ 2]
theorem Wn : ∀ K args pre r, bu (jv wK) K args pre = some r → aC P uJ K args pre r :=
 bQ (p0 fun _ _ K hz need => P9 hz need K [])
def zK (A n B m : Nat) : cC := aK (.int .i64 (bO A B)) [n < 2 ^ 40, m < 2 ^ 40]
theorem zM : ∀ K args pre r, bu (fP zK) K args pre = some r → aC P nh K args pre r :=
 bQ (pJ fun _ _ _ _ K hz hy need => SB hz hy need.1 need.2 K [])
end Go.Am.B
