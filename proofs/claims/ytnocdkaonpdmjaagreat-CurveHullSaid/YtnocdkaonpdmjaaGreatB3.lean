/- natural.Of, natural.word, natural.Cmp. -/
import Derived.Test.YtnocdkaonpdmjaaGreatB2
set_option linter.unusedVariables false
namespace Go.Am.B
open Go Go.Am.N AV
theorem abC : aO P p8 we (ax we) := aP Yq (by kernel_rfl) (by kernel_rfl) (by kernel_rfl)
theorem Od : aO P ue nw (ax nw) := aP Oa (by kernel_rfl) (by kernel_rfl) (by kernel_rfl)
theorem Qb : aO P oP mY (ax mY) := aP YA (by kernel_rfl) (by kernel_rfl) (by kernel_rfl)
theorem val_two {z : Nat → Nat} : val 2 z = z 0 + z 1 * 4294967296 := by simp [val]
theorem Uv {x : Nat} : bB T G1 [] 30 we (ax we) ⟨aL 0 [.int .u64 x], [], 0⟩ =
  some (aa.ag [(0 : Int) ≤ (32 : Int), (2 : Nat) * 1 ≤ 2 ^ 24, cO 2 fun (i : Nat) ↦ nth [int IntKind.u32 (IntKind.u32.wrap (↑x : Int)), int IntKind.u32 (IntKind.u32.wrap ((↑x : Int).fdiv ((2 : Int) ^ min (Int.toNat (32 : Int)) IntKind.u64.bits)))] (int IntKind.u32 (0 : Int)) (i + 0), (2 : Nat) < 2 ^ 62] (aa.leaf aj.ret [mag (val 2 fun (i : Nat) ↦ numOf (nth [int IntKind.u32 (IntKind.u32.wrap (↑x : Int)), int IntKind.u32 (IntKind.u32.wrap ((↑x : Int).fdiv ((2 : Int) ^ min (Int.toNat (32 : Int)) IntKind.u64.bits)))] (int IntKind.u32 (0 : Int)) (i + 0)))])) := by kernel_rfl
theorem Lu {x : Nat} (hx : x < 2 ^ 64) (K : Nat) (pre : aD) : aA P p8 K [.int .u64 x] pre (aG (.mag x) []) := by
 refine bH hT e9 hm abC rfl (of_decide_eq_true (by kernel_rfl)) rfl 30 Uv (fun _ => ?_) K pre
 simp only [aa.all, ay, jo]
 refine ⟨⟨by omega, by omega, fun i hi => ?_, by omega⟩, cI (congrArg AV.mag ?_)⟩
 ·match i, hi with
  | 0, _ => exact ⟨x % 2 ^ 32, by omega, by simp [nth, gZ]⟩
  | 1, _ => exact ⟨x / 4294967296, by omega, by simp [nth, jj]; omega⟩
 ·rw [val_two]
  simp [nth, numOf, jj]
  omega
theorem Si {n : Nat} {z : Nat → Nat} : aI T [] [] 30 [0, 3, 4] (before (ax nw) [1,1,0,1]) ⟨aL 0 [.ak 1 n (ah z)], [], 0⟩ =
  some (aa.leaf aj.normal ([ak 1 n (ah z), int IntKind.u64 (0 : Int), int IntKind.i64 (IntKind.i64.wrap ((↑n : Int) - (1 : Int)))], [])) := by kernel_rfl
theorem VX {n k v : Nat} {z : Nat → Nat} : aI T [] [9] 30 [0, 3, 4] [part (ax nw) [1,1,0,1,0,0]] ⟨aC [0, 3, 4] [.ak 1 n (ah z), .int .u64 v, .int .i64 ((k : Int) - 1)], [], 0⟩ =
  some (aa.fork (decide ((↑k : Int) - (1 : Int) ≥ (0 : Int))) (aa.ag [(0 : Int) ≤ (32 : Int), (0 : Int) ≤ (↑k : Int) - (1 : Int) ∧ ((↑k : Int) - (1 : Int)).toNat < n] (aa.leaf aj.normal ([ak 1 n (ah z), int IntKind.u64 (IntKind.u64.wrap (↑(BitVec.ofInt IntKind.u64.bits (IntKind.u64.wrap ((↑v : Int) * (2 : Int) ^ min (Int.toNat (32 : Int)) IntKind.u64.bits)) ||| BitVec.ofInt IntKind.u64.bits (IntKind.u64.wrap (↑(z ((↑k : Int) - (1 : Int)).toNat) : Int))).toNat : Int)), int IntKind.i64 (IntKind.i64.wrap ((↑k : Int) - (1 : Int) - (1 : Int)))], []))) (aa.leaf (aj.exit 0) ([ak 1 n (ah z), int IntKind.u64 (↑v : Int), int IntKind.i64 ((↑k : Int) - (1 : Int))], []))) := by kernel_rfl
theorem Lw {n k v : Nat} {z : Nat → Nat} : cq T [] [] 30 nw (behind (ax nw) [1,1,0,1]) ⟨aC [0, 3, 4] [.ak 1 n (ah z), .int .u64 v, .int .i64 ((k : Int) - 1)], [], 0⟩ =
  some (aa.leaf aj.ret [int IntKind.u64 (↑v : Int)]) := by kernel_rfl
theorem EP {z : Nat → Nat} {n k v : Nat} (h : v * 2 ^ (32 * (k + 1)) + val (k + 1) z = val n z) : (v * 4294967296 + z k) * 2 ^ (32 * k) + val k z = val n z := by
 rw [← h, val, fB, Nat.add_mul]
 rw [Nat.mul_assoc]
 omega
theorem Nm {n : Nat} {z : Nat → Nat} (hz : ∀ i, i < n → z i < 2 ^ 32) (hn : n ≤ 2) (K : Nat) (pre : aD) : aA P ue K [.ak 1 n (ah z)] pre (aG (.int .u64 (val n z : Nat)) []) := by
 refine gQ hT Od rfl (of_decide_eq_true (by kernel_rfl)) rfl (fun _ c h0 => ?_) K pre
 refine aq.hole [1,1,0,1] (by kernel_rfl) (aB.aX hT bn hm 30 [0, 3, 4] Si (by kernel_rfl) ?_)
 intro s' hv
 have hv64 : val n z < 2 ^ 64 := by
  have h1 := eo hz
  have h2 : 2 ^ (32 * n) ≤ 2 ^ (32 * 2) := Nat.pow_le_pow_right (by omega) (by omega)
  omega
 refine aq.gp (i := 0) (y := part (ax nw) [1,1,0,1,0,0]) (by kernel_rfl)
  (fun p : Nat × Nat => ⟨aC [0, 3, 4] [.ak 1 n (ah z), .int .u64 (p.2 : Nat), .int .i64 ((p.1 : Nat) - 1 : Int)], [], 0⟩)
  (fun p => p.1 ≤ n ∧ p.2 * 2 ^ (32 * p.1) + val p.1 z = val n z) (fun p => p.1) (n, 0)
  (cC [] hv h0 rfl ⟨⟨rfl, aF rfl⟩, ⟨rfl, aF rfl⟩, ⟨rfl, eG (wrap_i64 (by omega) (by omega))⟩, trivial⟩ trivial) ⟨by simp, by simp⟩ ?_
 rintro ⟨k, v⟩ ⟨hk, hval⟩
 simp only at hk hval
 refine aq.aX hT bn hm 30 [0, 3, 4] VX (by kernel_rfl) ?_
 simp only [aa.all, ay, decide_eq_true_eq, decide_eq_false_iff_not]
 refine ⟨fun hb => ?_, fun hb s' hv => ?_⟩
 ·obtain ⟨j, rfl⟩ : ∃ j, k = j + 1 := ⟨k - 1, by omega⟩
  have e : (((j + 1 : Nat) : Int) - 1).toNat = j := by omega
  have hzj := hz j (by omega)
  have hv32 : v < 2 ^ 32 := by
   rcases Nat.lt_or_ge v (2 ^ 32) with h | h
   ·exact h
   ·have h1 : 2 ^ 32 * 2 ^ (32 * (j + 1)) ≤ v * 2 ^ (32 * (j + 1)) := Nat.mul_le_mul_right _ h
    have h2 : 2 ^ 32 ≤ 2 ^ (32 * (j + 1)) := Nat.pow_le_pow_right (by omega) (by omega)
    have h3 : 2 ^ 32 * 2 ^ 32 ≤ 2 ^ 32 * 2 ^ (32 * (j + 1)) := Nat.mul_le_mul_left _ h2
    omega
  rw [e]
  have hor : IntKind.u64.wrap ((BitVec.ofInt IntKind.u64.bits (IntKind.u64.wrap ((v : Int) * 2 ^ min (Int.toNat 32) IntKind.u64.bits)) ||| BitVec.ofInt IntKind.u64.bits (IntKind.u64.wrap (z j : Int))).toNat : Int) =
    ((v * 4294967296 + z j : Nat) : Int) := by
   rw [xp, wrap_u64 (x := (z j : Int)) (by omega) (by omega), wrap_u64 (x := (v : Int) * 4294967296) (by omega) (by omega)]
   rw [show (v : Int) * 4294967296 = ((v * 2 ^ 32 : Nat) : Int) by omega, pJ (by omega) (by omega), o6 hzj]
  refine ⟨⟨by omega, by omega, by omega⟩, fun s' hv => ⟨(j, v * 4294967296 + z j), cC [] hv h0 rfl ⟨⟨rfl, aF rfl⟩, ⟨rfl, eG hor⟩, ⟨rfl, eG (by rw [wrap_i64 (by omega) (by omega)]; simp only; omega)⟩, trivial⟩ trivial,
   ⟨by simp only; omega, EP hval⟩, by simp⟩⟩
 ·have hk0 : k = 0 := by omega
  subst hk0
  have hval : v = val n z := by simpa [val] using hval
  subst hval
  exact aB.weak (by kernel_rfl) (cC (vs := [.ak 1 n (ah z), .int .u64 (val n z : Nat), .int .i64 (((0 : Nat) : Int) - 1)]) (ps := []) (nx := 0) [] hv h0 rfl ⟨⟨rfl, aF rfl⟩, ⟨rfl, aF rfl⟩, ⟨rfl, aF rfl⟩, trivial⟩ trivial)
   (aB.fin hT bn hm 30 Lw (by kernel_rfl) (bA.refl _))
theorem Sb {n m : Nat} {z y : Nat → Nat} : aI T G1 [14, 19] 30 [0, 1, 5, 4] (before (ax mY) [1,1,1,0,1]) ⟨aL 0 [.ak 1 n (ah z), .ak 1 m (ah y)], [], 0⟩ =
  some (aa.ag [cO n (ah z), n < 2 ^ 62, cO m (ah y), m < 2 ^ 62] (aa.fork ((↑(nl (val n fun (i : Nat) ↦ numOf (ah z i))) : Int) != (↑(nl (val m fun (i : Nat) ↦ numOf (ah y i))) : Int)) (aa.fork (decide ((↑(nl (val n fun (i : Nat) ↦ numOf (ah z i))) : Int) < (↑(nl (val m fun (i : Nat) ↦ numOf (ah y i))) : Int))) (aa.leaf aj.ret ([mag (val n fun (i : Nat) ↦ numOf (ah z i)), mag (val m fun (i : Nat) ↦ numOf (ah y i)), tuple [], int IntKind.i64 (-1 : Int)], [])) (aa.leaf aj.ret ([mag (val n fun (i : Nat) ↦ numOf (ah z i)), mag (val m fun (i : Nat) ↦ numOf (ah y i)), tuple [], int IntKind.i64 (1 : Int)], []))) (aa.leaf aj.normal ([mag (val n fun (i : Nat) ↦ numOf (ah z i)), mag (val m fun (i : Nat) ↦ numOf (ah y i)), int IntKind.i64 (IntKind.i64.wrap ((↑(nl (val n fun (i : Nat) ↦ numOf (ah z i))) : Int) - (1 : Int))), int IntKind.i64 (0 : Int)], [])))) := by kernel_rfl
theorem Mu {A B k : Nat} : aI T [] [24, 35, 44] 30 [0, 1, 5, 4] [part (ax mY) [1,1,1,0,1,0,0]] ⟨aC [0, 1, 5, 4] [.mag A, .mag B, .int .i64 ((k : Int) - 1), .int .i64 0], [], 0⟩ =
  some (aa.fork (decide ((↑k : Int) - (1 : Int) ≥ (0 : Int))) (aa.ag [(0 : Int) ≤ (↑k : Int) - (1 : Int) ∧ ((↑k : Int) - (1 : Int)).toNat < nl A, (0 : Int) ≤ (↑k : Int) - (1 : Int) ∧ ((↑k : Int) - (1 : Int)).toNat < nl B] (aa.fork ((↑(au A ((↑k : Int) - (1 : Int)).toNat) : Int) != (↑(au B ((↑k : Int) - (1 : Int)).toNat) : Int)) (aa.ag [(0 : Int) ≤ (↑k : Int) - (1 : Int) ∧ ((↑k : Int) - (1 : Int)).toNat < nl A, (0 : Int) ≤ (↑k : Int) - (1 : Int) ∧ ((↑k : Int) - (1 : Int)).toNat < nl B] (aa.fork (decide ((↑(au A ((↑k : Int) - (1 : Int)).toNat) : Int) < (↑(au B ((↑k : Int) - (1 : Int)).toNat) : Int))) (aa.leaf aj.ret ([mag A, mag B, int IntKind.i64 ((↑k : Int) - (1 : Int)), int IntKind.i64 (-1 : Int)], [])) (aa.leaf aj.ret ([mag A, mag B, int IntKind.i64 ((↑k : Int) - (1 : Int)), int IntKind.i64 (1 : Int)], [])))) (aa.leaf aj.normal ([mag A, mag B, int IntKind.i64 (IntKind.i64.wrap ((↑k : Int) - (1 : Int) - (1 : Int))), int IntKind.i64 (0 : Int)], [])))) (aa.leaf (aj.exit 0) ([mag A, mag B, int IntKind.i64 ((↑k : Int) - (1 : Int)), int IntKind.i64 (0 : Int)], []))) := by kernel_rfl
theorem Ld {A B k : Nat} : cq T [] [] 30 mY (behind (ax mY) [1,1,1,0,1]) ⟨aC [0, 1, 5, 4] [.mag A, .mag B, .int .i64 ((k : Int) - 1), .int .i64 0], [], 0⟩ =
  some (aa.leaf aj.ret [int IntKind.i64 (0 : Int)]) := by kernel_rfl
theorem NP {n m : Nat} {z y : Nat → Nat} (hz : ∀ i, i < n → z i < 2 ^ 32) (hy : ∀ i, i < m → y i < 2 ^ 32) (hn : n < 2 ^ 40) (hm' : m < 2 ^ 40) (K : Nat) (pre : aD) :
  aA P oP K [.ak 1 n (ah z), .ak 1 m (ah y)] pre (aG (.int .i64 (bT (val n z) (val m y))) []) := by
 refine gQ hT Qb rfl (of_decide_eq_true (by kernel_rfl)) rfl (fun _ c h0 => ?_) K pre
 refine aq.hole [1,1,1,0,1] (by kernel_rfl) (aB.aX hT e9 hm 30 [0, 1, 5, 4] Sb (by kernel_rfl) ?_)
 have hnl : nl (val n z) ≤ n := cB.2 (eo hz)
 generalize hA : val n z = A at *
 generalize hB : val m y = B at *
 simp only [aa.all, ay, decide_eq_true_eq, decide_eq_false_iff_not, BO, hA, hB, bne_iff_ne, ne_eq, Int.natCast_inj, bne_eq_false_iff_eq]
 refine ⟨⟨eI hz, by omega, eI hy, by omega⟩, fun hb => ⟨fun hb2 s' hv => ?_, fun hb2 s' hv => ?_⟩, fun hb s' hv => ?_⟩
 ·have h1 : A < B := yb (by omega)
  exact eM (us := [.int .i64 (-1)]) (.inr rfl) hv (by kernel_rfl) (bq (by simp [bT, h1]))
 ·have h1 : B < A := yb (by omega)
  exact eM (us := [.int .i64 1]) (.inr rfl) hv (by kernel_rfl) (bq (by simp [bT, h1]; omega))
 refine aq.gp (i := 0) (y := part (ax mY) [1,1,1,0,1,0,0]) (by kernel_rfl)
  (fun k : Nat => ⟨aC [0, 1, 5, 4] [.mag A, .mag B, .int .i64 ((k : Int) - 1), .int .i64 0], [], 0⟩)
  (fun k => k ≤ nl A ∧ ∀ j, k ≤ j → j < nl A → au A j = au B j) id (nl A)
  (cC [] hv h0 rfl ⟨⟨rfl, aF rfl⟩, ⟨rfl, aF rfl⟩, ⟨rfl, eG (wrap_i64 (by omega) (by omega))⟩, ⟨rfl, aF rfl⟩, trivial⟩ trivial) ⟨by simp, fun j h1 h2 => by omega⟩ ?_
 rintro k ⟨hk, hlim⟩
 refine aq.aX hT bn hm 30 [0, 1, 5, 4] Mu (by kernel_rfl) ?_
 simp only [aa.all, ay, decide_eq_true_eq, decide_eq_false_iff_not, bne_iff_ne, ne_eq, Int.natCast_inj, bne_eq_false_iff_eq]
 refine ⟨fun hb2 => ?_, fun hb2 s' hv => ?_⟩
 ·obtain ⟨j, rfl⟩ : ∃ j, k = j + 1 := ⟨k - 1, by omega⟩
  have e : (((j + 1 : Nat) : Int) - 1).toNat = j := by omega
  rw [e]
  refine ⟨⟨by omega, by omega⟩, fun hne => ⟨⟨by omega, by omega⟩, fun hlt s' hv => ?_, fun hlt s' hv => ?_⟩, fun heq s' hv => ?_⟩
  ·have h1 : A < B := yR hb (k := j) (by omega) (fun i h1 h2 => hlim i (by omega) h2) (by omega)
   exact eM (us := [.int .i64 (-1)]) (.inr rfl) hv (by kernel_rfl) (bq (by simp [bT, h1]))
  ·have h1 : B < A := yR hb.symm (k := j) (by omega) (fun i h1 h2 => (hlim i (by omega) (by omega)).symm) (by omega)
   exact eM (us := [.int .i64 1]) (.inr rfl) hv (by kernel_rfl) (bq (by simp [bT, h1]; omega))
  ·refine ⟨j, cC [] hv h0 rfl ⟨⟨rfl, aF rfl⟩, ⟨rfl, aF rfl⟩, ⟨rfl, eG (by rw [wrap_i64 (by omega) (by omega)]; omega)⟩, ⟨rfl, aF rfl⟩, trivial⟩ trivial, ⟨by omega, fun i h1 h2 => ?_⟩, by simp⟩
   by_cases hi : i = j
   ·subst hi; exact heq
   ·exact hlim i (by omega) h2
 ·have hk0 : k = 0 := by omega
  subst hk0
  have hAB : A = B := CV hb fun i hi => hlim i (by omega) hi
  exact aB.weak (by kernel_rfl) (cC (vs := [.mag A, .mag B, .int .i64 (((0 : Nat) : Int) - 1), .int .i64 0]) (ps := []) (nx := 0) [] hv h0 rfl ⟨⟨rfl, aF rfl⟩, ⟨rfl, aF rfl⟩, ⟨rfl, aF rfl⟩, ⟨rfl, aF rfl⟩, trivial⟩ trivial)
   (aB.fin hT bn hm 30 Ld (by kernel_rfl) (bq (by simp [bT, hAB])))
def Cj : Spec := bu fun l => match l with
 | [.int .u64 x] => some (aG (.mag x.toNat) [0 ≤ x ∧ x < 2 ^ 64])
 | _ => none
theorem Es : ∀ K args pre r, Cj K args pre = some r → aA P p8 K args pre r := by
 refine bN fun K args r hk hs _ => ?_
 split at hs
 ·rename_i x
  simp only [Option.some.injEq] at hs
  subst hs
  intro need
  obtain ⟨h1, h2⟩ : 0 ≤ x ∧ x < 2 ^ 64 := need
  obtain ⟨y, rfl⟩ := Int.eq_ofNat_of_zero_le h1
  exact Lu (x := y) (by omega) K [] trivial
 ·simp at hs
def zR (N n : Nat) : cA := aG (.int .u64 (N : Nat)) [n ≤ 2]
theorem abm : ∀ K args pre r, bu (jr zR) K args pre = some r → aA P ue K args pre r :=
 bN (qu fun _ _ K hz need => Nm hz need K [])
def zX (A n B m : Nat) : cA := aG (.int .i64 (bT A B)) [n < 2 ^ 40, m < 2 ^ 40]
theorem B8 : ∀ K args pre r, bu (fM zX) K args pre = some r → aA P oP K args pre r :=
 bN (qo fun _ _ _ _ K hz hy need => NP hz hy need.1 need.2 K [])
end Go.Am.B
