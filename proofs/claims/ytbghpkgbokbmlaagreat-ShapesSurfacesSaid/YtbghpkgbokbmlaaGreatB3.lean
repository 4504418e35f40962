/- natural.Of, natural.word, natural.Cmp. -/
import Derived.Test.YtbghpkgbokbmlaaGreatB2
set_option linter.unusedVariables false
namespace Go.Am.B
open Go Go.Am.N AV
theorem RW : aP P oK qM (au qM) := aL Z0 (by kernel_rfl) (by kernel_rfl) (by kernel_rfl)
theorem KH : aP P rI mD (au mD) := aL Lz (by kernel_rfl) (by kernel_rfl) (by kernel_rfl)
theorem ZI : aP P nu lC (au lC) := aL MH (by kernel_rfl) (by kernel_rfl) (by kernel_rfl)
theorem val_two {z : Nat → Nat} : val 2 z = z 0 + z 1 * 4294967296 := by simp [val]
theorem RV {x : Nat} : bq T G1 [] 30 qM (au qM) ⟨aK 0 [.int .u64 x], [], 0⟩ =
  some (aa.af [(0 : Int) ≤ (32 : Int), (2 : Nat) * 1 ≤ 2 ^ 24, cO 2 fun (i : Nat) ↦ nth [int IntKind.u32 (IntKind.u32.wrap (↑x : Int)), int IntKind.u32 (IntKind.u32.wrap ((↑x : Int).fdiv ((2 : Int) ^ min (Int.toNat (32 : Int)) IntKind.u64.bits)))] (int IntKind.u32 (0 : Int)) (i + 0), (2 : Nat) < 2 ^ 62] (aa.leaf ah.ret [mag (val 2 fun (i : Nat) ↦ numOf (nth [int IntKind.u32 (IntKind.u32.wrap (↑x : Int)), int IntKind.u32 (IntKind.u32.wrap ((↑x : Int).fdiv ((2 : Int) ^ min (Int.toNat (32 : Int)) IntKind.u64.bits)))] (int IntKind.u32 (0 : Int)) (i + 0)))])) := by kernel_rfl
theorem Wd {x : Nat} (hx : x < 2 ^ 64) (K : Nat) (pre : aC) : ay P oK K [.int .u64 x] pre (aF (.mag x) []) := by
 refine bt hT e9 hm RW rfl (of_decide_eq_true (by kernel_rfl)) rfl 30 RV (fun _ => ?_) K pre
 simp only [aa.all, ax, iK]
 refine ⟨⟨by omega, by omega, fun i hi => ?_, by omega⟩, de (congrArg AV.mag ?_)⟩
 ·match i, hi with
  | 0, _ => exact ⟨x % 2 ^ 32, by omega, by simp [nth, gz]⟩
  | 1, _ => exact ⟨x / 4294967296, by omega, by simp [nth, iO]; omega⟩
 ·rw [val_two]
  simp [nth, numOf, iO]
  omega
theorem K2 {n : Nat} {z : Nat → Nat} : aI T [] [] 30 [0, 3, 4] (before (au mD) [1,1,0,1]) ⟨aK 0 [.aj 1 n (ag z)], [], 0⟩ =
  some (aa.leaf ah.normal ([aj 1 n (ag z), int IntKind.u64 (0 : Int), int IntKind.i64 (IntKind.i64.wrap ((↑n : Int) - (1 : Int)))], [])) := by kernel_rfl
theorem aaE {n k v : Nat} {z : Nat → Nat} : aI T [] [9] 30 [0, 3, 4] [part (au mD) [1,1,0,1,0,0]] ⟨aB [0, 3, 4] [.aj 1 n (ag z), .int .u64 v, .int .i64 ((k : Int) - 1)], [], 0⟩ =
  some (aa.fork (decide ((↑k : Int) - (1 : Int) ≥ (0 : Int))) (aa.af [(0 : Int) ≤ (32 : Int), (0 : Int) ≤ (↑k : Int) - (1 : Int) ∧ ((↑k : Int) - (1 : Int)).toNat < n] (aa.leaf ah.normal ([aj 1 n (ag z), int IntKind.u64 (IntKind.u64.wrap (↑(BitVec.ofInt IntKind.u64.bits (IntKind.u64.wrap ((↑v : Int) * (2 : Int) ^ min (Int.toNat (32 : Int)) IntKind.u64.bits)) ||| BitVec.ofInt IntKind.u64.bits (IntKind.u64.wrap (↑(z ((↑k : Int) - (1 : Int)).toNat) : Int))).toNat : Int)), int IntKind.i64 (IntKind.i64.wrap ((↑k : Int) - (1 : Int) - (1 : Int)))], []))) (aa.leaf (ah.exit 0) ([aj 1 n (ag z), int IntKind.u64 (↑v : Int), int IntKind.i64 ((↑k : Int) - (1 : Int))], []))) := by kernel_rfl
theorem WW {n k v : Nat} {z : Nat → Nat} : ct T [] [] 30 mD (behind (au mD) [1,1,0,1]) ⟨aB [0, 3, 4] [.aj 1 n (ag z), .int .u64 v, .int .i64 ((k : Int) - 1)], [], 0⟩ =
  some (aa.leaf ah.ret [int IntKind.u64 (↑v : Int)]) := by kernel_rfl
theorem D0 {z : Nat → Nat} {n k v : Nat} (h : v * 2 ^ (32 * (k + 1)) + val (k + 1) z = val n z) : (v * 4294967296 + z k) * 2 ^ (32 * k) + val k z = val n z := by
 rw [← h, val, fE, Nat.add_mul]
 rw [Nat.mul_assoc]
 omega
theorem aaz {n : Nat} {z : Nat → Nat} (hz : ∀ i, i < n → z i < 2 ^ 32) (hn : n ≤ 2) (K : Nat) (pre : aC) : ay P rI K [.aj 1 n (ag z)] pre (aF (.int .u64 (val n z : Nat)) []) := by
 refine gF hT KH rfl (of_decide_eq_true (by kernel_rfl)) rfl (fun _ c h0 => ?_) K pre
 refine ak.hole [1,1,0,1] (by kernel_rfl) (az.bk hT bg hm 30 [0, 3, 4] K2 (by kernel_rfl) ?_)
 intro s' hv
 have hv64 : val n z < 2 ^ 64 := by
  have h1 := eA hz
  have h2 : 2 ^ (32 * n) ≤ 2 ^ (32 * 2) := Nat.pow_le_pow_right (by omega) (by omega)
  omega
 refine ak.fR (i := 0) (y := part (au mD) [1,1,0,1,0,0]) (by kernel_rfl)
  (fun p : Nat × Nat => ⟨aB [0, 3, 4] [.aj 1 n (ag z), .int .u64 (p.2 : Nat), .int .i64 ((p.1 : Nat) - 1 : Int)], [], 0⟩)
  (fun p => p.1 ≤ n ∧ p.2 * 2 ^ (32 * p.1) + val p.1 z = val n z) (fun p => p.1) (n, 0)
  (cB [] hv h0 rfl ⟨⟨rfl, aG rfl⟩, ⟨rfl, aG rfl⟩, ⟨rfl, eO (wrap_i64 (by omega) (by omega))⟩, trivial⟩ trivial) ⟨by simp, by simp⟩ ?_
 rintro ⟨k, v⟩ ⟨hk, hval⟩
 simp only at hk hval
 refine ak.bk hT bg hm 30 [0, 3, 4] aaE (by kernel_rfl) ?_
 simp only [aa.all, ax, decide_eq_true_eq, decide_eq_false_iff_not]
 refine ⟨fun hb => ?_, fun hb s' hv => ?_⟩
 ·obtain ⟨j, rfl⟩ : ∃ j, k = j + 1 := ⟨k - 1, by omega⟩
  have e : (((j + 1 : Nat) : Int) - 1).toNat = j := by omega
  have hzj := hz j (by omega)
  have hv32 : v < 2 ^ 32 := by
   rcases Nat.lt_or_ge v (2 ^ 32) with h | h
   ·exact h
   ·have h1 : 2 ^ 32 * 2 ^ (32 * (j + 1)) ≤ v * 2 ^ (32 * (j + 1)) := Nat.mul_le_mul_right _ h
    have h2 : 2 ^ 32 ≤ 2 ^ (32 * (j + 1)) := Nat.pow_le_pow_right (by omega) (by omega)
    have h3 : 2 ^ 32 * 2 ^ 32 ≤ 2 ^ 32 * 2 ^ (32 * (j + 1)) := Nat.mul_le_mul_left _ h2
    omega
  rw [e]
  have hor : IntKind.u64.wrap ((BitVec.ofInt IntKind.u64.bits (IntKind.u64.wrap ((v : Int) * 2 ^ min (Int.toNat 32) IntKind.u64.bits)) ||| BitVec.ofInt IntKind.u64.bits (IntKind.u64.wrap (z j : Int))).toNat : Int) =
    ((v * 4294967296 + z j : Nat) : Int) := by
   rw [vc, bE (x := (z j : Int)) (by omega) (by omega), bE (x := (v : Int) * 4294967296) (by omega) (by omega)]
   rw [show (v : Int) * 4294967296 = ((v * 2 ^ 32 : Nat) : Int) by omega, qe (by omega) (by omega), mV hzj]
  refine ⟨⟨by omega, by omega, by omega⟩, fun s' hv => ⟨(j, v * 4294967296 + z j), cB [] hv h0 rfl ⟨⟨rfl, aG rfl⟩, ⟨rfl, eO hor⟩, ⟨rfl, eO (by rw [wrap_i64 (by omega) (by omega)]; simp only; omega)⟩, trivial⟩ trivial,
   ⟨by simp only; omega, D0 hval⟩, by simp⟩⟩
 ·have hk0 : k = 0 := by omega
  subst hk0
  have hval : v = val n z := by simpa [val] using hval
  subst hval
  exact az.weak (by kernel_rfl) (cB (vs := [.aj 1 n (ag z), .int .u64 (val n z : Nat), .int .i64 (((0 : Nat) : Int) - 1)]) (ps := []) (nx := 0) [] hv h0 rfl ⟨⟨rfl, aG rfl⟩, ⟨rfl, aG rfl⟩, ⟨rfl, aG rfl⟩, trivial⟩ trivial)
   (az.fin hT bg hm 30 WW (by kernel_rfl) (bu.refl _))
theorem YQ {n m : Nat} {z y : Nat → Nat} : aI T G1 [14, 19] 30 [0, 1, 5, 4] (before (au lC) [1,1,1,0,1]) ⟨aK 0 [.aj 1 n (ag z), .aj 1 m (ag y)], [], 0⟩ =
  some (aa.af [cO n (ag z), n < 2 ^ 62, cO m (ag y), m < 2 ^ 62] (aa.fork ((↑(nl (val n fun (i : Nat) ↦ numOf (ag z i))) : Int) != (↑(nl (val m fun (i : Nat) ↦ numOf (ag y i))) : Int)) (aa.fork (decide ((↑(nl (val n fun (i : Nat) ↦ numOf (ag z i))) : Int) < (↑(nl (val m fun (i : Nat) ↦ numOf (ag y i))) : Int))) (aa.leaf ah.ret ([mag (val n fun (i : Nat) ↦ numOf (ag z i)), mag (val m fun (i : Nat) ↦ numOf (ag y i)), tuple [], int IntKind.i64 (-1 : Int)], [])) (aa.leaf ah.ret ([mag (val n fun (i : Nat) ↦ numOf (ag z i)), mag (val m fun (i : Nat) ↦ numOf (ag y i)), tuple [], int IntKind.i64 (1 : Int)], []))) (aa.leaf ah.normal ([mag (val n fun (i : Nat) ↦ numOf (ag z i)), mag (val m fun (i : Nat) ↦ numOf (ag y i)), int IntKind.i64 (IntKind.i64.wrap ((↑(nl (val n fun (i : Nat) ↦ numOf (ag z i))) : Int) - (1 : Int))), int IntKind.i64 (0 : Int)], [])))) := by kernel_rfl
theorem WH {A B k : Nat} : aI T [] [24, 35, 44] 30 [0, 1, 5, 4] [part (au lC) [1,1,1,0,1,0,0]] ⟨aB [0, 1, 5, 4] [.mag A, .mag B, .int .i64 ((k : Int) - 1), .int .i64 0], [], 0⟩ =
  some (aa.fork (decide ((↑k : Int) - (1 : Int) ≥ (0 : Int))) (aa.af [(0 : Int) ≤ (↑k : Int) - (1 : Int) ∧ ((↑k : Int) - (1 : Int)).toNat < nl A, (0 : Int) ≤ (↑k : Int) - (1 : Int) ∧ ((↑k : Int) - (1 : Int)).toNat < nl B] (aa.fork ((↑(aq A ((↑k : Int) - (1 : Int)).toNat) : Int) != (↑(aq B ((↑k : Int) - (1 : Int)).toNat) : Int)) (aa.af [(0 : Int) ≤ (↑k : Int) - (1 : Int) ∧ ((↑k : Int) - (1 : Int)).toNat < nl A, (0 : Int) ≤ (↑k : Int) - (1 : Int) ∧ ((↑k : Int) - (1 : Int)).toNat < nl B] (aa.fork (decide ((↑(aq A ((↑k : Int) - (1 : Int)).toNat) : Int) < (↑(aq B ((↑k : Int) - (1 : Int)).toNat) : Int))) (aa.leaf ah.ret ([mag A, mag B, int IntKind.i64 ((↑k : Int) - (1 : Int)), int IntKind.i64 (-1 : Int)], [])) (aa.leaf ah.ret ([mag A, mag B, int IntKind.i64 ((↑k : Int) - (1 : Int)), int IntKind.i64 (1 : Int)], [])))) (aa.leaf ah.normal ([mag A, mag B, int IntKind.i64 (IntKind.i64.wrap ((↑k : Int) - (1 : Int) - (1 : Int))), int IntKind.i64 (0 : Int)], [])))) (aa.leaf (ah.exit 0) ([mag A, mag B, int IntKind.i64 ((↑k : Int) - (1 : Int)), int IntKind.i64 (0 : Int)], []))) := by kernel_rfl
theorem Zh {A B k : Nat} : ct T [] [] 30 lC (behind (au lC) [1,1,1,0,1]) ⟨aB [0, 1, 5, 4] [.mag A, .mag B, .int .i64 ((k : Int) - 1), .int .i64 0], [], 0⟩ =
  some (aa.leaf ah.ret [int IntKind.i64 (0 : Int)]) := by kernel_rfl
theorem ND {n m : Nat} {z y : Nat → Nat} (hz : ∀ i, i < n → z i < 2 ^ 32) (hy : ∀ i, i < m → y i < 2 ^ 32) (hn : n < 2 ^ 40) (hm' : m < 2 ^ 40) (K : Nat) (pre : aC) :
  ay P nu K [.aj 1 n (ag z), .aj 1 m (ag y)] pre (aF (.int .i64 (bS (val n z) (val m y))) []) := by
 refine gF hT ZI rfl (of_decide_eq_true (by kernel_rfl)) rfl (fun _ c h0 => ?_) K pre
 refine ak.hole [1,1,1,0,1] (by kernel_rfl) (az.bk hT e9 hm 30 [0, 1, 5, 4] YQ (by kernel_rfl) ?_)
 have hnl : nl (val n z) ≤ n := cD.2 (eA hz)
 generalize hA : val n z = A at *
 generalize hB : val m y = B at *
 simp only [aa.all, ax, decide_eq_true_eq, decide_eq_false_iff_not, Cd, hA, hB, bne_iff_ne, ne_eq, Int.natCast_inj, bne_eq_false_iff_eq]
 refine ⟨⟨eM hz, by omega, eM hy, by omega⟩, fun hb => ⟨fun hb2 s' hv => ?_, fun hb2 s' hv => ?_⟩, fun hb s' hv => ?_⟩
 ·have h1 : A < B := wI (by omega)
  exact eW (us := [.int .i64 (-1)]) (.inr rfl) hv (by kernel_rfl) (bB (by simp [bS, h1]))
 ·have h1 : B < A := wI (by omega)
  exact eW (us := [.int .i64 1]) (.inr rfl) hv (by kernel_rfl) (bB (by simp [bS, h1]; omega))
 refine ak.fR (i := 0) (y := part (au lC) [1,1,1,0,1,0,0]) (by kernel_rfl)
  (fun k : Nat => ⟨aB [0, 1, 5, 4] [.mag A, .mag B, .int .i64 ((k : Int) - 1), .int .i64 0], [], 0⟩)
  (fun k => k ≤ nl A ∧ ∀ j, k ≤ j → j < nl A → aq A j = aq B j) id (nl A)
  (cB [] hv h0 rfl ⟨⟨rfl, aG rfl⟩, ⟨rfl, aG rfl⟩, ⟨rfl, eO (wrap_i64 (by omega) (by omega))⟩, ⟨rfl, aG rfl⟩, trivial⟩ trivial) ⟨by simp, fun j h1 h2 => by omega⟩ ?_
 rintro k ⟨hk, hlim⟩
 refine ak.bk hT bg hm 30 [0, 1, 5, 4] WH (by kernel_rfl) ?_
 simp only [aa.all, ax, decide_eq_true_eq, decide_eq_false_iff_not, bne_iff_ne, ne_eq, Int.natCast_inj, bne_eq_false_iff_eq]
 refine ⟨fun hb2 => ?_, fun hb2 s' hv => ?_⟩
 ·obtain ⟨j, rfl⟩ : ∃ j, k = j + 1 := ⟨k - 1, by omega⟩
  have e : (((j + 1 : Nat) : Int) - 1).toNat = j := by omega
  rw [e]
  refine ⟨⟨by omega, by omega⟩, fun hne => ⟨⟨by omega, by omega⟩, fun hlt s' hv => ?_, fun hlt s' hv => ?_⟩, fun heq s' hv => ?_⟩
  ·have h1 : A < B := yh hb (k := j) (by omega) (fun i h1 h2 => hlim i (by omega) h2) (by omega)
   exact eW (us := [.int .i64 (-1)]) (.inr rfl) hv (by kernel_rfl) (bB (by simp [bS, h1]))
  ·have h1 : B < A := yh hb.symm (k := j) (by omega) (fun i h1 h2 => (hlim i (by omega) (by omega)).symm) (by omega)
   exact eW (us := [.int .i64 1]) (.inr rfl) hv (by kernel_rfl) (bB (by simp [bS, h1]; omega))
  ·refine ⟨j, cB [] hv h0 rfl ⟨⟨rfl, aG rfl⟩, ⟨rfl, aG rfl⟩, ⟨rfl, eO (by rw [wrap_i64 (by omega) (by omega)]; omega)⟩, ⟨rfl, aG rfl⟩, trivial⟩ trivial, ⟨by omega, fun i h1 h2 => ?_⟩, by simp⟩
   by_cases hi : i = j
   ·subst hi; exact heq
   ·exact hlim i (by omega) h2
 ·have hk0 : k = 0 := by omega
  subst hk0
  have hAB : A = B := BP hb fun i hi => hlim i (by omega) hi
  exact az.weak (by kernel_rfl) (cB (vs := [.mag A, .mag B, .int .i64 (((0 : Nat) : Int) - 1), .int .i64 0]) (ps := []) (nx := 0) [] hv h0 rfl ⟨⟨rfl, aG rfl⟩, ⟨rfl, aG rfl⟩, ⟨rfl, aG rfl⟩, ⟨rfl, aG rfl⟩, trivial⟩ trivial)
   (az.fin hT bg hm 30 Zh (by kernel_rfl) (bB (by simp [bS, hAB])))
def Af : Spec := bA fun l => match l with
 | [.int .u64 x] => some (aF (.mag x.toNat) [0 ≤ x ∧ x < 2 ^ 64])
 | _ => none
theorem Jp : ∀ K args pre r, Af K args pre = some r → ay P oK K args pre r := by
 refine bQ fun K args r hk hs _ => ?_
 split at hs
 ·rename_i x
  simp only [Option.some.injEq] at hs
  subst hs
  intro need
  obtain ⟨h1, h2⟩ : 0 ≤ x ∧ x < 2 ^ 64 := need
  obtain ⟨y, rfl⟩ := Int.eq_ofNat_of_zero_le h1
  exact Wd (x := y) (by omega) K [] trivial
 ·simp at hs
def yG (N n : Nat) : cF := aF (.int .u64 (N : Nat)) [n ≤ 2]
theorem Y1 : ∀ K args pre r, bA (ju yG) K args pre = some r → ay P rI K args pre r :=
 bQ (oF fun _ _ K hz need => aaz hz need K [])
def xU (A n B m : Nat) : cF := aF (.int .i64 (bS A B)) [n < 2 ^ 40, m < 2 ^ 40]
theorem BX : ∀ K args pre r, bA (fS xU) K args pre = some r → ay P nu K args pre r :=
 bQ (oU fun _ _ _ _ K hz hy need => ND hz hy need.1 need.2 K [])
end Go.Am.B
