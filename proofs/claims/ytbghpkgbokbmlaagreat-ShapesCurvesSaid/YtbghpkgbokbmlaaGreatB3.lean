/- natural.Of, natural.word, natural.Cmp. -/
import Derived.Test.YtbghpkgbokbmlaaGreatB2
set_option linter.unusedVariables false
namespace Go.Am.B
open Go Go.Am.N AV
theorem Uh : aO P mO rE (au rE) := aL Qw (by kernel_rfl) (by kernel_rfl) (by kernel_rfl)
theorem GZ : aO P qY jU (au jU) := aL IT (by kernel_rfl) (by kernel_rfl) (by kernel_rfl)
theorem OO : aO P k8 j4 (au j4) := aL PY (by kernel_rfl) (by kernel_rfl) (by kernel_rfl)
theorem val_two {z : Nat → Nat} : val 2 z = z 0 + z 1 * 4294967296 := by simp [val]
theorem Kg {x : Nat} : bw T G1 [] 30 rE (au rE) ⟨aM 0 [.int .u64 x], [], 0⟩ =
  some (aa.af [(0 : Int) ≤ (32 : Int), (2 : Nat) * 1 ≤ 2 ^ 24, cB 2 fun (i : Nat) ↦ nth [int IntKind.u32 (IntKind.u32.wrap (↑x : Int)), int IntKind.u32 (IntKind.u32.wrap ((↑x : Int).fdiv ((2 : Int) ^ min (Int.toNat (32 : Int)) IntKind.u64.bits)))] (int IntKind.u32 (0 : Int)) (i + 0), (2 : Nat) < 2 ^ 62] (aa.leaf ah.ret [mag (val 2 fun (i : Nat) ↦ numOf (nth [int IntKind.u32 (IntKind.u32.wrap (↑x : Int)), int IntKind.u32 (IntKind.u32.wrap ((↑x : Int).fdiv ((2 : Int) ^ min (Int.toNat (32 : Int)) IntKind.u64.bits)))] (int IntKind.u32 (0 : Int)) (i + 0)))])) := by kernel_rfl
theorem NI {x : Nat} (hx : x < 2 ^ 64) (K : Nat) (pre : aC) : az P mO K [.int .u64 x] pre (aG (.mag x) []) := by
 refine bC hT er hm Uh rfl (of_decide_eq_true (by kernel_rfl)) rfl 30 Kg (fun _ => ?_) K pre
 simp only [aa.all, ay, gZ]
 refine ⟨⟨by omega, by omega, fun i hi => ?_, by omega⟩, cI (congrArg AV.mag ?_)⟩
 ·match i, hi with
  | 0, _ => exact ⟨x % 2 ^ 32, by omega, by simp [nth, fX]⟩
  | 1, _ => exact ⟨x / 4294967296, by omega, by simp [nth, gN]; omega⟩
 ·rw [val_two]
  simp [nth, numOf, gN]
  omega
theorem Qj {n : Nat} {z : Nat → Nat} : aI T [] [] 30 [0, 3, 4] (before (au jU) [1,1,0,1]) ⟨aM 0 [.ak 1 n (ag z)], [], 0⟩ =
  some (aa.leaf ah.normal ([ak 1 n (ag z), int IntKind.u64 (0 : Int), int IntKind.i64 (IntKind.i64.wrap ((↑n : Int) - (1 : Int)))], [])) := by kernel_rfl
theorem SQ {n k v : Nat} {z : Nat → Nat} : aI T [] [9] 30 [0, 3, 4] [part (au jU) [1,1,0,1,0,0]] ⟨aB [0, 3, 4] [.ak 1 n (ag z), .int .u64 v, .int .i64 ((k : Int) - 1)], [], 0⟩ =
  some (aa.fork (decide ((↑k : Int) - (1 : Int) ≥ (0 : Int))) (aa.af [(0 : Int) ≤ (32 : Int), (0 : Int) ≤ (↑k : Int) - (1 : Int) ∧ ((↑k : Int) - (1 : Int)).toNat < n] (aa.leaf ah.normal ([ak 1 n (ag z), int IntKind.u64 (IntKind.u64.wrap (↑(BitVec.ofInt IntKind.u64.bits (IntKind.u64.wrap ((↑v : Int) * (2 : Int) ^ min (Int.toNat (32 : Int)) IntKind.u64.bits)) ||| BitVec.ofInt IntKind.u64.bits (IntKind.u64.wrap (↑(z ((↑k : Int) - (1 : Int)).toNat) : Int))).toNat : Int)), int IntKind.i64 (IntKind.i64.wrap ((↑k : Int) - (1 : Int) - (1 : Int)))], []))) (aa.leaf (ah.exit 0) ([ak 1 n (ag z), int IntKind.u64 (↑v : Int), int IntKind.i64 ((↑k : Int) - (1 : Int))], []))) := by kernel_rfl
theorem Gr {n k v : Nat} {z : Nat → Nat} : cr T [] [] 30 jU (behind (au jU) [1,1,0,1]) ⟨aB [0, 3, 4] [.ak 1 n (ag z), .int .u64 v, .int .i64 ((k : Int) - 1)], [], 0⟩ =
  some (aa.leaf ah.ret [int IntKind.u64 (↑v : Int)]) := by kernel_rfl
theorem EN {z : Nat → Nat} {n k v : Nat} (h : v * 2 ^ (32 * (k + 1)) + val (k + 1) z = val n z) : (v * 4294967296 + z k) * 2 ^ (32 * k) + val k z = val n z := by
 rw [← h, val, eI, Nat.add_mul]
 rw [Nat.mul_assoc]
 omega
theorem LN {n : Nat} {z : Nat → Nat} (hz : ∀ i, i < n → z i < 2 ^ 32) (hn : n ≤ 2) (K : Nat) (pre : aC) : az P qY K [.ak 1 n (ag z)] pre (aG (.int .u64 (val n z : Nat)) []) := by
 refine fY hT GZ rfl (of_decide_eq_true (by kernel_rfl)) rfl (fun _ c h0 => ?_) K pre
 refine aq.hole [1,1,0,1] (by kernel_rfl) (ax.aV hT aZ hm 30 [0, 3, 4] Qj (by kernel_rfl) ?_)
 intro s' hv
 have hv64 : val n z < 2 ^ 64 := by
  have h1 := dO hz
  have h2 : 2 ^ (32 * n) ≤ 2 ^ (32 * 2) := Nat.pow_le_pow_right (by omega) (by omega)
  omega
 refine aq.fN (i := 0) (y := part (au jU) [1,1,0,1,0,0]) (by kernel_rfl)
  (fun p : Nat × Nat => ⟨aB [0, 3, 4] [.ak 1 n (ag z), .int .u64 (p.2 : Nat), .int .i64 ((p.1 : Nat) - 1 : Int)], [], 0⟩)
  (fun p => p.1 ≤ n ∧ p.2 * 2 ^ (32 * p.1) + val p.1 z = val n z) (fun p => p.1) (n, 0)
  (bY [] hv h0 rfl ⟨⟨rfl, aD rfl⟩, ⟨rfl, aD rfl⟩, ⟨rfl, dY (wrap_i64 (by omega) (by omega))⟩, trivial⟩ trivial) ⟨by simp, by simp⟩ ?_
 rintro ⟨k, v⟩ ⟨hk, hval⟩
 simp only at hk hval
 refine aq.aV hT aZ hm 30 [0, 3, 4] SQ (by kernel_rfl) ?_
 simp only [aa.all, ay, decide_eq_true_eq, decide_eq_false_iff_not]
 refine ⟨fun hb => ?_, fun hb s' hv => ?_⟩
 ·obtain ⟨j, rfl⟩ : ∃ j, k = j + 1 := ⟨k - 1, by omega⟩
  have e : (((j + 1 : Nat) : Int) - 1).toNat = j := by omega
  have hzj := hz j (by omega)
  have hv32 : v < 2 ^ 32 := by
   rcases Nat.lt_or_ge v (2 ^ 32) with h | h
   ·exact h
   ·have h1 : 2 ^ 32 * 2 ^ (32 * (j + 1)) ≤ v * 2 ^ (32 * (j + 1)) := Nat.mul_le_mul_right _ h
    have h2 : 2 ^ 32 ≤ 2 ^ (32 * (j + 1)) := Nat.pow_le_pow_right (by omega) (by omega)
    have h3 : 2 ^ 32 * 2 ^ 32 ≤ 2 ^ 32 * 2 ^ (32 * (j + 1)) := Nat.mul_le_mul_left _ h2
    omega
  rw [e]
  have hor : IntKind.u64.wrap ((BitVec.ofInt IntKind.u64.bits (IntKind.u64.wrap ((v : Int) * 2 ^ min (Int.toNat 32) IntKind.u64.bits)) ||| BitVec.ofInt IntKind.u64.bits (IntKind.u64.wrap (z j : Int))).toNat : Int) =
    ((v * 4294967296 + z j : Nat) : Int) := by
   rw [qJ, bn (x := (z j : Int)) (by omega) (by omega), bn (x := (v : Int) * 4294967296) (by omega) (by omega)]
   rw [show (v : Int) * 4294967296 = ((v * 2 ^ 32 : Nat) : Int) by omega, mR (by omega) (by omega), lD hzj]
  refine ⟨⟨by omega, by omega, by omega⟩, fun s' hv => ⟨(j, v * 4294967296 + z j), bY [] hv h0 rfl ⟨⟨rfl, aD rfl⟩, ⟨rfl, dY hor⟩, ⟨rfl, dY (by rw [wrap_i64 (by omega) (by omega)]; simp only; omega)⟩, trivial⟩ trivial,
   ⟨by simp only; omega, EN hval⟩, by simp⟩⟩
 ·have hk0 : k = 0 := by omega
  subst hk0
  have hval : v = val n z := by simpa [val] using hval
  subst hval
  exact ax.weak (by kernel_rfl) (bY (vs := [.ak 1 n (ag z), .int .u64 (val n z : Nat), .int .i64 (((0 : Nat) : Int) - 1)]) (ps := []) (nx := 0) [] hv h0 rfl ⟨⟨rfl, aD rfl⟩, ⟨rfl, aD rfl⟩, ⟨rfl, aD rfl⟩, trivial⟩ trivial)
   (ax.fin hT aZ hm 30 Gr (by kernel_rfl) (bp.refl _))
theorem Sq {n m : Nat} {z y : Nat → Nat} : aI T G1 [14, 19] 30 [0, 1, 5, 4] (before (au j4) [1,1,1,0,1]) ⟨aM 0 [.ak 1 n (ag z), .ak 1 m (ag y)], [], 0⟩ =
  some (aa.af [cB n (ag z), n < 2 ^ 62, cB m (ag y), m < 2 ^ 62] (aa.fork ((↑(nl (val n fun (i : Nat) ↦ numOf (ag z i))) : Int) != (↑(nl (val m fun (i : Nat) ↦ numOf (ag y i))) : Int)) (aa.fork (decide ((↑(nl (val n fun (i : Nat) ↦ numOf (ag z i))) : Int) < (↑(nl (val m fun (i : Nat) ↦ numOf (ag y i))) : Int))) (aa.leaf ah.ret ([mag (val n fun (i : Nat) ↦ numOf (ag z i)), mag (val m fun (i : Nat) ↦ numOf (ag y i)), tuple [], int IntKind.i64 (-1 : Int)], [])) (aa.leaf ah.ret ([mag (val n fun (i : Nat) ↦ numOf (ag z i)), mag (val m fun (i : Nat) ↦ numOf (ag y i)), tuple [], int IntKind.i64 (1 : Int)], []))) (aa.leaf ah.normal ([mag (val n fun (i : Nat) ↦ numOf (ag z i)), mag (val m fun (i : Nat) ↦ numOf (ag y i)), int IntKind.i64 (IntKind.i64.wrap ((↑(nl (val n fun (i : Nat) ↦ numOf (ag z i))) : Int) - (1 : Int))), int IntKind.i64 (0 : Int)], [])))) := by kernel_rfl
theorem HE {A B k : Nat} : aI T [] [24, 35, 44] 30 [0, 1, 5, 4] [part (au j4) [1,1,1,0,1,0,0]] ⟨aB [0, 1, 5, 4] [.mag A, .mag B, .int .i64 ((k : Int) - 1), .int .i64 0], [], 0⟩ =
  some (aa.fork (decide ((↑k : Int) - (1 : Int) ≥ (0 : Int))) (aa.af [(0 : Int) ≤ (↑k : Int) - (1 : Int) ∧ ((↑k : Int) - (1 : Int)).toNat < nl A, (0 : Int) ≤ (↑k : Int) - (1 : Int) ∧ ((↑k : Int) - (1 : Int)).toNat < nl B] (aa.fork ((↑(aj A ((↑k : Int) - (1 : Int)).toNat) : Int) != (↑(aj B ((↑k : Int) - (1 : Int)).toNat) : Int)) (aa.af [(0 : Int) ≤ (↑k : Int) - (1 : Int) ∧ ((↑k : Int) - (1 : Int)).toNat < nl A, (0 : Int) ≤ (↑k : Int) - (1 : Int) ∧ ((↑k : Int) - (1 : Int)).toNat < nl B] (aa.fork (decide ((↑(aj A ((↑k : Int) - (1 : Int)).toNat) : Int) < (↑(aj B ((↑k : Int) - (1 : Int)).toNat) : Int))) (aa.leaf ah.ret ([mag A, mag B, int IntKind.i64 ((↑k : Int) - (1 : Int)), int IntKind.i64 (-1 : Int)], [])) (aa.leaf ah.ret ([mag A, mag B, int IntKind.i64 ((↑k : Int) - (1 : Int)), int IntKind.i64 (1 : Int)], [])))) (aa.leaf ah.normal ([mag A, mag B, int IntKind.i64 (IntKind.i64.wrap ((↑k : Int) - (1 : Int) - (1 : Int))), int IntKind.i64 (0 : Int)], [])))) (aa.leaf (ah.exit 0) ([mag A, mag B, int IntKind.i64 ((↑k : Int) - (1 : Int)), int IntKind.i64 (0 : Int)], []))) := by kernel_rfl
theorem U1 {A B k : Nat} : cr T [] [] 30 j4 (behind (au j4) [1,1,1,0,1]) ⟨aB [0, 1, 5, 4] [.mag A, .mag B, .int .i64 ((k : Int) - 1), .int .i64 0], [], 0⟩ =
  some (aa.leaf ah.ret [int IntKind.i64 (0 : Int)]) := by kernel_rfl
theorem LV {n m : Nat} {z y : Nat → Nat} (hz : ∀ i, i < n → z i < 2 ^ 32) (hy : ∀ i, i < m → y i < 2 ^ 32) (hn : n < 2 ^ 40) (hm' : m < 2 ^ 40) (K : Nat) (pre : aC) :
  az P k8 K [.ak 1 n (ag z), .ak 1 m (ag y)] pre (aG (.int .i64 (bB (val n z) (val m y))) []) := by
 refine fY hT OO rfl (of_decide_eq_true (by kernel_rfl)) rfl (fun _ c h0 => ?_) K pre
 refine aq.hole [1,1,1,0,1] (by kernel_rfl) (ax.aV hT er hm 30 [0, 1, 5, 4] Sq (by kernel_rfl) ?_)
 have hnl : nl (val n z) ≤ n := bX.2 (dO hz)
 generalize hA : val n z = A at *
 generalize hB : val m y = B at *
 simp only [aa.all, ay, decide_eq_true_eq, decide_eq_false_iff_not, wK, hA, hB, bne_iff_ne, ne_eq, Int.natCast_inj, bne_eq_false_iff_eq]
 refine ⟨⟨ef hz, by omega, ef hy, by omega⟩, fun hb => ⟨fun hb2 s' hv => ?_, fun hb2 s' hv => ?_⟩, fun hb s' hv => ?_⟩
 ·have h1 : A < B := td (by omega)
  exact en (us := [.int .i64 (-1)]) (.inr rfl) hv (by kernel_rfl) (bf (by simp [bB, h1]))
 ·have h1 : B < A := td (by omega)
  exact en (us := [.int .i64 1]) (.inr rfl) hv (by kernel_rfl) (bf (by simp [bB, h1]; omega))
 refine aq.fN (i := 0) (y := part (au j4) [1,1,1,0,1,0,0]) (by kernel_rfl)
  (fun k : Nat => ⟨aB [0, 1, 5, 4] [.mag A, .mag B, .int .i64 ((k : Int) - 1), .int .i64 0], [], 0⟩)
  (fun k => k ≤ nl A ∧ ∀ j, k ≤ j → j < nl A → aj A j = aj B j) id (nl A)
  (bY [] hv h0 rfl ⟨⟨rfl, aD rfl⟩, ⟨rfl, aD rfl⟩, ⟨rfl, dY (wrap_i64 (by omega) (by omega))⟩, ⟨rfl, aD rfl⟩, trivial⟩ trivial) ⟨by simp, fun j h1 h2 => by omega⟩ ?_
 rintro k ⟨hk, hlim⟩
 refine aq.aV hT aZ hm 30 [0, 1, 5, 4] HE (by kernel_rfl) ?_
 simp only [aa.all, ay, decide_eq_true_eq, decide_eq_false_iff_not, bne_iff_ne, ne_eq, Int.natCast_inj, bne_eq_false_iff_eq]
 refine ⟨fun hb2 => ?_, fun hb2 s' hv => ?_⟩
 ·obtain ⟨j, rfl⟩ : ∃ j, k = j + 1 := ⟨k - 1, by omega⟩
  have e : (((j + 1 : Nat) : Int) - 1).toNat = j := by omega
  rw [e]
  refine ⟨⟨by omega, by omega⟩, fun hne => ⟨⟨by omega, by omega⟩, fun hlt s' hv => ?_, fun hlt s' hv => ?_⟩, fun heq s' hv => ?_⟩
  ·have h1 : A < B := ur hb (k := j) (by omega) (fun i h1 h2 => hlim i (by omega) h2) (by omega)
   exact en (us := [.int .i64 (-1)]) (.inr rfl) hv (by kernel_rfl) (bf (by simp [bB, h1]))
  ·have h1 : B < A := ur hb.symm (k := j) (by omega) (fun i h1 h2 => (hlim i (by omega) (by omega)).symm) (by omega)
   exact en (us := [.int .i64 1]) (.inr rfl) hv (by kernel_rfl) (bf (by simp [bB, h1]; omega))
  ·refine ⟨j, bY [] hv h0 rfl ⟨⟨rfl, aD rfl⟩, ⟨rfl, aD rfl⟩, ⟨rfl, dY (by rw [wrap_i64 (by omega) (by omega)]; omega)⟩, ⟨rfl, aD rfl⟩, trivial⟩ trivial, ⟨by omega, fun i h1 h2 => ?_⟩, by simp⟩
   by_cases hi : i = j
   ·subst hi; exact heq
   ·exact hlim i (by omega) h2
 ·have hk0 : k = 0 := by omega
  subst hk0
  have hAB : A = B := xK hb fun i hi => hlim i (by omega) hi
  exact ax.weak (by kernel_rfl) (bY (vs := [.mag A, .mag B, .int .i64 (((0 : Nat) : Int) - 1), .int .i64 0]) (ps := []) (nx := 0) [] hv h0 rfl ⟨⟨rfl, aD rfl⟩, ⟨rfl, aD rfl⟩, ⟨rfl, aD rfl⟩, ⟨rfl, aD rfl⟩, trivial⟩ trivial)
   (ax.fin hT aZ hm 30 U1 (by kernel_rfl) (bf (by simp [bB, hAB])))
def yy : Spec := bk fun l => match l with
 | [.int .u64 x] => some (aG (.mag x.toNat) [0 ≤ x ∧ x < 2 ^ 64])
 | _ => none
theorem BY : ∀ K args pre r, yy K args pre = some r → az P mO K args pre r := by
 refine bD fun K args r hk hs _ => ?_
 split at hs
 ·rename_i x
  simp only [Option.some.injEq] at hs
  subst hs
  intro need
  obtain ⟨h1, h2⟩ : 0 ≤ x ∧ x < 2 ^ 64 := need
  obtain ⟨y, rfl⟩ := Int.eq_ofNat_of_zero_le h1
  exact NI (x := y) (by omega) K [] trivial
 ·simp at hs
def uF (N n : Nat) : b7 := aG (.int .u64 (N : Nat)) [n ≤ 2]
theorem HA : ∀ K args pre r, bk (iw uF) K args pre = some r → az P qY K args pre r :=
 bD (mK fun _ _ K hz need => LN hz need K [])
def tL (A n B m : Nat) : b7 := aG (.int .i64 (bB A B)) [n < 2 ^ 40, m < 2 ^ 40]
theorem xh : ∀ K args pre r, bk (fe tL) K args pre = some r → az P k8 K args pre r :=
 bD (nK fun _ _ _ _ K hz hy need => LV hz hy need.1 need.2 K [])
end Go.Am.B
