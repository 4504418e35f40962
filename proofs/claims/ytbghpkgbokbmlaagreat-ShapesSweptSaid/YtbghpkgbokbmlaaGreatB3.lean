/- natural.Of, natural.word, natural.Cmp. -/
import Derived.Test.YtbghpkgbokbmlaaGreatB2
set_option linter.unusedVariables false
namespace Go.Am.B
open Go Go.Am.N AV
theorem Rb : aP P qQ s9 (au s9) := aL Rv (by kernel_rfl) (by kernel_rfl) (by kernel_rfl)
theorem Yr : aP P uS mL (au mL) := aL MF (by kernel_rfl) (by kernel_rfl) (by kernel_rfl)
theorem abX : aP P n6 mC (au mC) := aL VS (by kernel_rfl) (by kernel_rfl) (by kernel_rfl)
theorem val_two {z : Nat → Nat} : val 2 z = z 0 + z 1 * 4294967296 := by simp [val]
theorem Y8 {x : Nat} : bA T G1 [] 30 s9 (au s9) ⟨aM 0 [.int .u64 x], [], 0⟩ =
  some (aa.af [(0 : Int) ≤ (32 : Int), (2 : Nat) * 1 ≤ 2 ^ 24, cR 2 fun (i : Nat) ↦ nth [int IntKind.u32 (IntKind.u32.wrap (↑x : Int)), int IntKind.u32 (IntKind.u32.wrap ((↑x : Int).fdiv ((2 : Int) ^ min (Int.toNat (32 : Int)) IntKind.u64.bits)))] (int IntKind.u32 (0 : Int)) (i + 0), (2 : Nat) < 2 ^ 62] (aa.leaf ag.ret [mag (val 2 fun (i : Nat) ↦ numOf (nth [int IntKind.u32 (IntKind.u32.wrap (↑x : Int)), int IntKind.u32 (IntKind.u32.wrap ((↑x : Int).fdiv ((2 : Int) ^ min (Int.toNat (32 : Int)) IntKind.u64.bits)))] (int IntKind.u32 (0 : Int)) (i + 0)))])) := by kernel_rfl
theorem Pb {x : Nat} (hx : x < 2 ^ 64) (K : Nat) (pre : aD) : az P qQ K [.int .u64 x] pre (aF (.mag x) []) := by
 refine bD hT fj hm Rb rfl (of_decide_eq_true (by kernel_rfl)) rfl 30 Y8 (fun _ => ?_) K pre
 simp only [aa.all, ax, jb]
 refine ⟨⟨by omega, by omega, fun i hi => ?_, by omega⟩, cZ (congrArg AV.mag ?_)⟩
 ·match i, hi with
  | 0, _ => exact ⟨x % 2 ^ 32, by omega, by simp [nth, gU]⟩
  | 1, _ => exact ⟨x / 4294967296, by omega, by simp [nth, iU]; omega⟩
 ·rw [val_two]
  simp [nth, numOf, iU]
  omega
theorem RN {n : Nat} {z : Nat → Nat} : aH T [] [] 30 [0, 3, 4] (before (au mL) [1,1,0,1]) ⟨aM 0 [.aj 1 n (ah z)], [], 0⟩ =
  some (aa.leaf ag.normal ([aj 1 n (ah z), int IntKind.u64 (0 : Int), int IntKind.i64 (IntKind.i64.wrap ((↑n : Int) - (1 : Int)))], [])) := by kernel_rfl
theorem acJ {n k v : Nat} {z : Nat → Nat} : aH T [] [9] 30 [0, 3, 4] [part (au mL) [1,1,0,1,0,0]] ⟨aB [0, 3, 4] [.aj 1 n (ah z), .int .u64 v, .int .i64 ((k : Int) - 1)], [], 0⟩ =
  some (aa.fork (decide ((↑k : Int) - (1 : Int) ≥ (0 : Int))) (aa.af [(0 : Int) ≤ (32 : Int), (0 : Int) ≤ (↑k : Int) - (1 : Int) ∧ ((↑k : Int) - (1 : Int)).toNat < n] (aa.leaf ag.normal ([aj 1 n (ah z), int IntKind.u64 (IntKind.u64.wrap (↑(BitVec.ofInt IntKind.u64.bits (IntKind.u64.wrap ((↑v : Int) * (2 : Int) ^ min (Int.toNat (32 : Int)) IntKind.u64.bits)) ||| BitVec.ofInt IntKind.u64.bits (IntKind.u64.wrap (↑(z ((↑k : Int) - (1 : Int)).toNat) : Int))).toNat : Int)), int IntKind.i64 (IntKind.i64.wrap ((↑k : Int) - (1 : Int) - (1 : Int)))], []))) (aa.leaf (ag.exit 0) ([aj 1 n (ah z), int IntKind.u64 (↑v : Int), int IntKind.i64 ((↑k : Int) - (1 : Int))], []))) := by kernel_rfl
theorem Y3 {n k v : Nat} {z : Nat → Nat} : bW T [] [] 30 mL (behind (au mL) [1,1,0,1]) ⟨aB [0, 3, 4] [.aj 1 n (ah z), .int .u64 v, .int .i64 ((k : Int) - 1)], [], 0⟩ =
  some (aa.leaf ag.ret [int IntKind.u64 (↑v : Int)]) := by kernel_rfl
theorem HZ {z : Nat → Nat} {n k v : Nat} (h : v * 2 ^ (32 * (k + 1)) + val (k + 1) z = val n z) : (v * 4294967296 + z k) * 2 ^ (32 * k) + val k z = val n z := by
 rw [← h, val, fB, Nat.add_mul]
 rw [Nat.mul_assoc]
 omega
theorem Wd {n : Nat} {z : Nat → Nat} (hz : ∀ i, i < n → z i < 2 ^ 32) (hn : n ≤ 2) (K : Nat) (pre : aD) : az P uS K [.aj 1 n (ah z)] pre (aF (.int .u64 (val n z : Nat)) []) := by
 refine gX hT Yr rfl (of_decide_eq_true (by kernel_rfl)) rfl (fun _ c h0 => ?_) K pre
 refine aq.hole [1,1,0,1] (by kernel_rfl) (aA.aZ hT aT hm 30 [0, 3, 4] RN (by kernel_rfl) ?_)
 intro s' hv
 have hv64 : val n z < 2 ^ 64 := by
  have h1 := eE hz
  have h2 : 2 ^ (32 * n) ≤ 2 ^ (32 * 2) := Nat.pow_le_pow_right (by omega) (by omega)
  omega
 refine aq.gk (i := 0) (y := part (au mL) [1,1,0,1,0,0]) (by kernel_rfl)
  (fun p : Nat × Nat => ⟨aB [0, 3, 4] [.aj 1 n (ah z), .int .u64 (p.2 : Nat), .int .i64 ((p.1 : Nat) - 1 : Int)], [], 0⟩)
  (fun p => p.1 ≤ n ∧ p.2 * 2 ^ (32 * p.1) + val p.1 z = val n z) (fun p => p.1) (n, 0)
  (cA [] hv h0 rfl ⟨⟨rfl, aG rfl⟩, ⟨rfl, aG rfl⟩, ⟨rfl, eU (wrap_i64 (by omega) (by omega))⟩, trivial⟩ trivial) ⟨by simp, by simp⟩ ?_
 rintro ⟨k, v⟩ ⟨hk, hval⟩
 simp only at hk hval
 refine aq.aZ hT aT hm 30 [0, 3, 4] acJ (by kernel_rfl) ?_
 simp only [aa.all, ax, decide_eq_true_eq, decide_eq_false_iff_not]
 refine ⟨fun hb => ?_, fun hb s' hv => ?_⟩
 ·obtain ⟨j, rfl⟩ : ∃ j, k = j + 1 := ⟨k - 1, by omega⟩
  have e : (((j + 1 : Nat) : Int) - 1).toNat = j := by omega
  have hzj := hz j (by omega)
  have hv32 : v < 2 ^ 32 := by
   rcases Nat.lt_or_ge v (2 ^ 32) with h | h
   ·exact h
   ·have h1 : 2 ^ 32 * 2 ^ (32 * (j + 1)) ≤ v * 2 ^ (32 * (j + 1)) := Nat.mul_le_mul_right _ h
    have h2 : 2 ^ 32 ≤ 2 ^ (32 * (j + 1)) := Nat.pow_le_pow_right (by omega) (by omega)
    have h3 : 2 ^ 32 * 2 ^ 32 ≤ 2 ^ 32 * 2 ^ (32 * (j + 1)) := Nat.mul_le_mul_left _ h2
    omega
  rw [e]
  have hor : IntKind.u64.wrap ((BitVec.ofInt IntKind.u64.bits (IntKind.u64.wrap ((v : Int) * 2 ^ min (Int.toNat 32) IntKind.u64.bits)) ||| BitVec.ofInt IntKind.u64.bits (IntKind.u64.wrap (z j : Int))).toNat : Int) =
    ((v * 4294967296 + z j : Nat) : Int) := by
   rw [v9, bC (x := (z j : Int)) (by omega) (by omega), bC (x := (v : Int) * 4294967296) (by omega) (by omega)]
   rw [show (v : Int) * 4294967296 = ((v * 2 ^ 32 : Nat) : Int) by omega, qS (by omega) (by omega), oV hzj]
  refine ⟨⟨by omega, by omega, by omega⟩, fun s' hv => ⟨(j, v * 4294967296 + z j), cA [] hv h0 rfl ⟨⟨rfl, aG rfl⟩, ⟨rfl, eU hor⟩, ⟨rfl, eU (by rw [wrap_i64 (by omega) (by omega)]; simp only; omega)⟩, trivial⟩ trivial,
   ⟨by simp only; omega, HZ hval⟩, by simp⟩⟩
 ·have hk0 : k = 0 := by omega
  subst hk0
  have hval : v = val n z := by simpa [val] using hval
  subst hval
  exact aA.weak (by kernel_rfl) (cA (vs := [.aj 1 n (ah z), .int .u64 (val n z : Nat), .int .i64 (((0 : Nat) : Int) - 1)]) (ps := []) (nx := 0) [] hv h0 rfl ⟨⟨rfl, aG rfl⟩, ⟨rfl, aG rfl⟩, ⟨rfl, aG rfl⟩, trivial⟩ trivial)
   (aA.fin hT aT hm 30 Y3 (by kernel_rfl) (bn.refl _))
theorem PT {n m : Nat} {z y : Nat → Nat} : aH T G1 [14, 19] 30 [0, 1, 5, 4] (before (au mC) [1,1,1,0,1]) ⟨aM 0 [.aj 1 n (ah z), .aj 1 m (ah y)], [], 0⟩ =
  some (aa.af [cR n (ah z), n < 2 ^ 62, cR m (ah y), m < 2 ^ 62] (aa.fork ((↑(nl (val n fun (i : Nat) ↦ numOf (ah z i))) : Int) != (↑(nl (val m fun (i : Nat) ↦ numOf (ah y i))) : Int)) (aa.fork (decide ((↑(nl (val n fun (i : Nat) ↦ numOf (ah z i))) : Int) < (↑(nl (val m fun (i : Nat) ↦ numOf (ah y i))) : Int))) (aa.leaf ag.ret ([mag (val n fun (i : Nat) ↦ numOf (ah z i)), mag (val m fun (i : Nat) ↦ numOf (ah y i)), tuple [], int IntKind.i64 (-1 : Int)], [])) (aa.leaf ag.ret ([mag (val n fun (i : Nat) ↦ numOf (ah z i)), mag (val m fun (i : Nat) ↦ numOf (ah y i)), tuple [], int IntKind.i64 (1 : Int)], []))) (aa.leaf ag.normal ([mag (val n fun (i : Nat) ↦ numOf (ah z i)), mag (val m fun (i : Nat) ↦ numOf (ah y i)), int IntKind.i64 (IntKind.i64.wrap ((↑(nl (val n fun (i : Nat) ↦ numOf (ah z i))) : Int) - (1 : Int))), int IntKind.i64 (0 : Int)], [])))) := by kernel_rfl
theorem Y4 {A B k : Nat} : aH T [] [24, 35, 44] 30 [0, 1, 5, 4] [part (au mC) [1,1,1,0,1,0,0]] ⟨aB [0, 1, 5, 4] [.mag A, .mag B, .int .i64 ((k : Int) - 1), .int .i64 0], [], 0⟩ =
  some (aa.fork (decide ((↑k : Int) - (1 : Int) ≥ (0 : Int))) (aa.af [(0 : Int) ≤ (↑k : Int) - (1 : Int) ∧ ((↑k : Int) - (1 : Int)).toNat < nl A, (0 : Int) ≤ (↑k : Int) - (1 : Int) ∧ ((↑k : Int) - (1 : Int)).toNat < nl B] (aa.fork ((↑(ak A ((↑k : Int) - (1 : Int)).toNat) : Int) != (↑(ak B ((↑k : Int) - (1 : Int)).toNat) : Int)) (aa.af [(0 : Int) ≤ (↑k : Int) - (1 : Int) ∧ ((↑k : Int) - (1 : Int)).toNat < nl A, (0 : Int) ≤ (↑k : Int) - (1 : Int) ∧ ((↑k : Int) - (1 : Int)).toNat < nl B] (aa.fork (decide ((↑(ak A ((↑k : Int) - (1 : Int)).toNat) : Int) < (↑(ak B ((↑k : Int) - (1 : Int)).toNat) : Int))) (aa.leaf ag.ret ([mag A, mag B, int IntKind.i64 ((↑k : Int) - (1 : Int)), int IntKind.i64 (-1 : Int)], [])) (aa.leaf ag.ret ([mag A, mag B, int IntKind.i64 ((↑k : Int) - (1 : Int)), int IntKind.i64 (1 : Int)], [])))) (aa.leaf ag.normal ([mag A, mag B, int IntKind.i64 (IntKind.i64.wrap ((↑k : Int) - (1 : Int) - (1 : Int))), int IntKind.i64 (0 : Int)], [])))) (aa.leaf (ag.exit 0) ([mag A, mag B, int IntKind.i64 ((↑k : Int) - (1 : Int)), int IntKind.i64 (0 : Int)], []))) := by kernel_rfl
theorem acj {A B k : Nat} : bW T [] [] 30 mC (behind (au mC) [1,1,1,0,1]) ⟨aB [0, 1, 5, 4] [.mag A, .mag B, .int .i64 ((k : Int) - 1), .int .i64 0], [], 0⟩ =
  some (aa.leaf ag.ret [int IntKind.i64 (0 : Int)]) := by kernel_rfl
theorem NS {n m : Nat} {z y : Nat → Nat} (hz : ∀ i, i < n → z i < 2 ^ 32) (hy : ∀ i, i < m → y i < 2 ^ 32) (hn : n < 2 ^ 40) (hm' : m < 2 ^ 40) (K : Nat) (pre : aD) :
  az P n6 K [.aj 1 n (ah z), .aj 1 m (ah y)] pre (aF (.int .i64 (bN (val n z) (val m y))) []) := by
 refine gX hT abX rfl (of_decide_eq_true (by kernel_rfl)) rfl (fun _ c h0 => ?_) K pre
 refine aq.hole [1,1,1,0,1] (by kernel_rfl) (aA.aZ hT fj hm 30 [0, 1, 5, 4] PT (by kernel_rfl) ?_)
 have hnl : nl (val n z) ≤ n := cw.2 (eE hz)
 generalize hA : val n z = A at *
 generalize hB : val m y = B at *
 simp only [aa.all, ax, decide_eq_true_eq, decide_eq_false_iff_not, AF, hA, hB, bne_iff_ne, ne_eq, Int.natCast_inj, bne_eq_false_iff_eq]
 refine ⟨⟨eW hz, by omega, eW hy, by omega⟩, fun hb => ⟨fun hb2 s' hv => ?_, fun hb2 s' hv => ?_⟩, fun hb s' hv => ?_⟩
 ·have h1 : A < B := xM (by omega)
  exact e9 (us := [.int .i64 (-1)]) (.inr rfl) hv (by kernel_rfl) (bq (by simp [bN, h1]))
 ·have h1 : B < A := xM (by omega)
  exact e9 (us := [.int .i64 1]) (.inr rfl) hv (by kernel_rfl) (bq (by simp [bN, h1]; omega))
 refine aq.gk (i := 0) (y := part (au mC) [1,1,1,0,1,0,0]) (by kernel_rfl)
  (fun k : Nat => ⟨aB [0, 1, 5, 4] [.mag A, .mag B, .int .i64 ((k : Int) - 1), .int .i64 0], [], 0⟩)
  (fun k => k ≤ nl A ∧ ∀ j, k ≤ j → j < nl A → ak A j = ak B j) id (nl A)
  (cA [] hv h0 rfl ⟨⟨rfl, aG rfl⟩, ⟨rfl, aG rfl⟩, ⟨rfl, eU (wrap_i64 (by omega) (by omega))⟩, ⟨rfl, aG rfl⟩, trivial⟩ trivial) ⟨by simp, fun j h1 h2 => by omega⟩ ?_
 rintro k ⟨hk, hlim⟩
 refine aq.aZ hT aT hm 30 [0, 1, 5, 4] Y4 (by kernel_rfl) ?_
 simp only [aa.all, ax, decide_eq_true_eq, decide_eq_false_iff_not, bne_iff_ne, ne_eq, Int.natCast_inj, bne_eq_false_iff_eq]
 refine ⟨fun hb2 => ?_, fun hb2 s' hv => ?_⟩
 ·obtain ⟨j, rfl⟩ : ∃ j, k = j + 1 := ⟨k - 1, by omega⟩
  have e : (((j + 1 : Nat) : Int) - 1).toNat = j := by omega
  rw [e]
  refine ⟨⟨by omega, by omega⟩, fun hne => ⟨⟨by omega, by omega⟩, fun hlt s' hv => ?_, fun hlt s' hv => ?_⟩, fun heq s' hv => ?_⟩
  ·have h1 : A < B := yp hb (k := j) (by omega) (fun i h1 h2 => hlim i (by omega) h2) (by omega)
   exact e9 (us := [.int .i64 (-1)]) (.inr rfl) hv (by kernel_rfl) (bq (by simp [bN, h1]))
  ·have h1 : B < A := yp hb.symm (k := j) (by omega) (fun i h1 h2 => (hlim i (by omega) (by omega)).symm) (by omega)
   exact e9 (us := [.int .i64 1]) (.inr rfl) hv (by kernel_rfl) (bq (by simp [bN, h1]; omega))
  ·refine ⟨j, cA [] hv h0 rfl ⟨⟨rfl, aG rfl⟩, ⟨rfl, aG rfl⟩, ⟨rfl, eU (by rw [wrap_i64 (by omega) (by omega)]; omega)⟩, ⟨rfl, aG rfl⟩, trivial⟩ trivial, ⟨by omega, fun i h1 h2 => ?_⟩, by simp⟩
   by_cases hi : i = j
   ·subst hi; exact heq
   ·exact hlim i (by omega) h2
 ·have hk0 : k = 0 := by omega
  subst hk0
  have hAB : A = B := BT hb fun i hi => hlim i (by omega) hi
  exact aA.weak (by kernel_rfl) (cA (vs := [.mag A, .mag B, .int .i64 (((0 : Nat) : Int) - 1), .int .i64 0]) (ps := []) (nx := 0) [] hv h0 rfl ⟨⟨rfl, aG rfl⟩, ⟨rfl, aG rfl⟩, ⟨rfl, aG rfl⟩, ⟨rfl, aG rfl⟩, trivial⟩ trivial)
   (aA.fin hT aT hm 30 acj (by kernel_rfl) (bq (by simp [bN, hAB])))
def BY : Spec := bt fun l => match l with
 | [.int .u64 x] => some (aF (.mag x.toNat) [0 ≤ x ∧ x < 2 ^ 64])
 | _ => none
theorem Fm : ∀ K args pre r, BY K args pre = some r → az P qQ K args pre r := by
 refine bH fun K args r hk hs _ => ?_
 split at hs
 ·rename_i x
  simp only [Option.some.injEq] at hs
  subst hs
  intro need
  obtain ⟨h1, h2⟩ : 0 ≤ x ∧ x < 2 ^ 64 := need
  obtain ⟨y, rfl⟩ := Int.eq_ofNat_of_zero_le h1
  exact Pb (x := y) (by omega) K [] trivial
 ·simp at hs
def xH (N n : Nat) : cB := aF (.int .u64 (N : Nat)) [n ≤ 2]
theorem aaA : ∀ K args pre r, bt (jJ xH) K args pre = some r → az P uS K args pre r :=
 bH (oZ fun _ _ K hz need => Wd hz need K [])
def zA (A n B m : Nat) : cB := aF (.int .i64 (bN A B)) [n < 2 ^ 40, m < 2 ^ 40]
theorem Aq : ∀ K args pre r, bt (fZ zA) K args pre = some r → az P n6 K args pre r :=
 bH (o4 fun _ _ _ _ K hz hy need => NS hz hy need.1 need.2 K [])
end Go.Am.B
