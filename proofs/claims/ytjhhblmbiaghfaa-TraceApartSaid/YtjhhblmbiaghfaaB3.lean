/- natural.Of, natural.word, natural.Cmp. -/
import Derived.Test.YtjhhblmbiaghfaaB2
set_option linter.unusedVariables false
namespace Go.Am.B
open Go Go.Am.N AV
theorem RO : aO P oI rD (ax rD) := aS Gh (by kernel_rfl) (by kernel_rfl) (by kernel_rfl)
theorem Tl : aO P sB k7 (ax k7) := aS Gu (by kernel_rfl) (by kernel_rfl) (by kernel_rfl)
theorem H7 : aO P me kz (ax kz) := aS Q3 (by kernel_rfl) (by kernel_rfl) (by kernel_rfl)
theorem val_two {z : Nat → Nat} : val 2 z = z 0 + z 1 * 4294967296 := by simp [val]
theorem Mt {x : Nat} : bA T G1 [] 30 rD (ax rD) ⟨aM 0 [.int .u64 x], [], 0⟩ =
  some (aa.af [(0 : Int) ≤ (32 : Int), (2 : Nat) * 1 ≤ 2 ^ 24, cD 2 fun (i : Nat) ↦ nth [int IntKind.u32 (IntKind.u32.wrap (↑x : Int)), int IntKind.u32 (IntKind.u32.wrap ((↑x : Int).fdiv ((2 : Int) ^ min (Int.toNat (32 : Int)) IntKind.u64.bits)))] (int IntKind.u32 (0 : Int)) (i + 0), (2 : Nat) < 2 ^ 62] (aa.leaf aj.ret [mag (val 2 fun (i : Nat) ↦ numOf (nth [int IntKind.u32 (IntKind.u32.wrap (↑x : Int)), int IntKind.u32 (IntKind.u32.wrap ((↑x : Int).fdiv ((2 : Int) ^ min (Int.toNat (32 : Int)) IntKind.u64.bits)))] (int IntKind.u32 (0 : Int)) (i + 0)))])) := by kernel_rfl
theorem Od {x : Nat} (hx : x < 2 ^ 64) (K : Nat) (pre : aA) : aC P oI K [.int .u64 x] pre (aJ (.mag x) []) := by
 refine bE hT eA hm RO rfl (of_decide_eq_true (by kernel_rfl)) rfl 30 Mt (fun _ => ?_) K pre
 simp only [aa.all, az, hH]
 refine ⟨⟨by omega, by omega, fun i hi => ?_, by omega⟩, cF (congrArg AV.mag ?_)⟩
 ·match i, hi with
  | 0, _ => exact ⟨x % 2 ^ 32, by omega, by simp [nth, gl]⟩
  | 1, _ => exact ⟨x / 4294967296, by omega, by simp [nth, iD]; omega⟩
 ·rw [val_two]
  simp [nth, numOf, iD]
  omega
theorem LP {n : Nat} {z : Nat → Nat} : aG T [] [] 30 [0, 3, 4] (before (ax k7) [1,1,0,1]) ⟨aM 0 [.ah 1 n (ag z)], [], 0⟩ =
  some (aa.leaf aj.normal ([ah 1 n (ag z), int IntKind.u64 (0 : Int), int IntKind.i64 (IntKind.i64.wrap ((↑n : Int) - (1 : Int)))], [])) := by kernel_rfl
theorem Q6 {n k v : Nat} {z : Nat → Nat} : aG T [] [9] 30 [0, 3, 4] [part (ax k7) [1,1,0,1,0,0]] ⟨aB [0, 3, 4] [.ah 1 n (ag z), .int .u64 v, .int .i64 ((k : Int) - 1)], [], 0⟩ =
  some (aa.fork (decide ((↑k : Int) - (1 : Int) ≥ (0 : Int))) (aa.af [(0 : Int) ≤ (32 : Int), (0 : Int) ≤ (↑k : Int) - (1 : Int) ∧ ((↑k : Int) - (1 : Int)).toNat < n] (aa.leaf aj.normal ([ah 1 n (ag z), int IntKind.u64 (IntKind.u64.wrap (↑(BitVec.ofInt IntKind.u64.bits (IntKind.u64.wrap ((↑v : Int) * (2 : Int) ^ min (Int.toNat (32 : Int)) IntKind.u64.bits)) ||| BitVec.ofInt IntKind.u64.bits (IntKind.u64.wrap (↑(z ((↑k : Int) - (1 : Int)).toNat) : Int))).toNat : Int)), int IntKind.i64 (IntKind.i64.wrap ((↑k : Int) - (1 : Int) - (1 : Int)))], []))) (aa.leaf (aj.exit 0) ([ah 1 n (ag z), int IntKind.u64 (↑v : Int), int IntKind.i64 ((↑k : Int) - (1 : Int))], []))) := by kernel_rfl
theorem OS {n k v : Nat} {z : Nat → Nat} : cJ T [] [] 30 k7 (behind (ax k7) [1,1,0,1]) ⟨aB [0, 3, 4] [.ah 1 n (ag z), .int .u64 v, .int .i64 ((k : Int) - 1)], [], 0⟩ =
  some (aa.leaf aj.ret [int IntKind.u64 (↑v : Int)]) := by kernel_rfl
theorem BJ {z : Nat → Nat} {n k v : Nat} (h : v * 2 ^ (32 * (k + 1)) + val (k + 1) z = val n z) : (v * 4294967296 + z k) * 2 ^ (32 * k) + val k z = val n z := by
 rw [← h, val, eU, Nat.add_mul]
 rw [Nat.mul_assoc]
 omega
theorem JQ {n : Nat} {z : Nat → Nat} (hz : ∀ i, i < n → z i < 2 ^ 32) (hn : n ≤ 2) (K : Nat) (pre : aA) : aC P sB K [.ah 1 n (ag z)] pre (aJ (.int .u64 (val n z : Nat)) []) := by
 refine gn hT Tl rfl (of_decide_eq_true (by kernel_rfl)) rfl (fun _ c h0 => ?_) K pre
 refine aq.hole [1,1,0,1] (by kernel_rfl) (ay.aR hT aZ hm 30 [0, 3, 4] LP (by kernel_rfl) ?_)
 intro s' hv
 have hv64 : val n z < 2 ^ 64 := by
  have h1 := dN hz
  have h2 : 2 ^ (32 * n) ≤ 2 ^ (32 * 2) := Nat.pow_le_pow_right (by omega) (by omega)
  omega
 refine aq.fh (i := 0) (y := part (ax k7) [1,1,0,1,0,0]) (by kernel_rfl)
  (fun p : Nat × Nat => ⟨aB [0, 3, 4] [.ah 1 n (ag z), .int .u64 (p.2 : Nat), .int .i64 ((p.1 : Nat) - 1 : Int)], [], 0⟩)
  (fun p => p.1 ≤ n ∧ p.2 * 2 ^ (32 * p.1) + val p.1 z = val n z) (fun p => p.1) (n, 0)
  (b9 [] hv h0 rfl ⟨⟨rfl, aE rfl⟩, ⟨rfl, aE rfl⟩, ⟨rfl, ee (wrap_i64 (by omega) (by omega))⟩, trivial⟩ trivial) ⟨by simp, by simp⟩ ?_
 rintro ⟨k, v⟩ ⟨hk, hval⟩
 simp only at hk hval
 refine aq.aR hT aZ hm 30 [0, 3, 4] Q6 (by kernel_rfl) ?_
 simp only [aa.all, az, decide_eq_true_eq, decide_eq_false_iff_not]
 refine ⟨fun hb => ?_, fun hb s' hv => ?_⟩
 ·obtain ⟨j, rfl⟩ : ∃ j, k = j + 1 := ⟨k - 1, by omega⟩
  have e : (((j + 1 : Nat) : Int) - 1).toNat = j := by omega
  have hzj := hz j (by omega)
  have hv32 : v < 2 ^ 32 := by
   rcases Nat.lt_or_ge v (2 ^ 32) with h | h
   ·exact h
   ·have h1 : 2 ^ 32 * 2 ^ (32 * (j + 1)) ≤ v * 2 ^ (32 * (j + 1)) := Nat.mul_le_mul_right _ h
    have h2 : 2 ^ 32 ≤ 2 ^ (32 * (j + 1)) := Nat.pow_le_pow_right (by omega) (by omega)
    have h3 : 2 ^ 32 * 2 ^ 32 ≤ 2 ^ 32 * 2 ^ (32 * (j + 1)) := Nat.mul_le_mul_left _ h2
    omega
  rw [e]
  have hor : IntKind.u64.wrap ((BitVec.ofInt IntKind.u64.bits (IntKind.u64.wrap ((v : Int) * 2 ^ min (Int.toNat 32) IntKind.u64.bits)) ||| BitVec.ofInt IntKind.u64.bits (IntKind.u64.wrap (z j : Int))).toNat : Int) =
    ((v * 4294967296 + z j : Nat) : Int) := by
   rw [rG, bt (x := (z j : Int)) (by omega) (by omega), bt (x := (v : Int) * 4294967296) (by omega) (by omega)]
   rw [show (v : Int) * 4294967296 = ((v * 2 ^ 32 : Nat) : Int) by omega, oY (by omega) (by omega), mH hzj]
  refine ⟨⟨by omega, by omega, by omega⟩, fun s' hv => ⟨(j, v * 4294967296 + z j), b9 [] hv h0 rfl ⟨⟨rfl, aE rfl⟩, ⟨rfl, ee hor⟩, ⟨rfl, ee (by rw [wrap_i64 (by omega) (by omega)]; simp only; omega)⟩, trivial⟩ trivial,
   ⟨by simp only; omega, BJ hval⟩, by simp⟩⟩
 ·have hk0 : k = 0 := by omega
  subst hk0
  have hval : v = val n z := by simpa [val] using hval
  subst hval
  exact ay.weak (by kernel_rfl) (b9 (vs := [.ah 1 n (ag z), .int .u64 (val n z : Nat), .int .i64 (((0 : Nat) : Int) - 1)]) (ps := []) (nx := 0) [] hv h0 rfl ⟨⟨rfl, aE rfl⟩, ⟨rfl, aE rfl⟩, ⟨rfl, aE rfl⟩, trivial⟩ trivial)
   (ay.fin hT aZ hm 30 OS (by kernel_rfl) (bn.refl _))
theorem K0 {n m : Nat} {z y : Nat → Nat} : aG T G1 [14, 19] 30 [0, 1, 5, 4] (before (ax kz) [1,1,1,0,1]) ⟨aM 0 [.ah 1 n (ag z), .ah 1 m (ag y)], [], 0⟩ =
  some (aa.af [cD n (ag z), n < 2 ^ 62, cD m (ag y), m < 2 ^ 62] (aa.fork ((↑(nl (val n fun (i : Nat) ↦ numOf (ag z i))) : Int) != (↑(nl (val m fun (i : Nat) ↦ numOf (ag y i))) : Int)) (aa.fork (decide ((↑(nl (val n fun (i : Nat) ↦ numOf (ag z i))) : Int) < (↑(nl (val m fun (i : Nat) ↦ numOf (ag y i))) : Int))) (aa.leaf aj.ret ([mag (val n fun (i : Nat) ↦ numOf (ag z i)), mag (val m fun (i : Nat) ↦ numOf (ag y i)), tuple [], int IntKind.i64 (-1 : Int)], [])) (aa.leaf aj.ret ([mag (val n fun (i : Nat) ↦ numOf (ag z i)), mag (val m fun (i : Nat) ↦ numOf (ag y i)), tuple [], int IntKind.i64 (1 : Int)], []))) (aa.leaf aj.normal ([mag (val n fun (i : Nat) ↦ numOf (ag z i)), mag (val m fun (i : Nat) ↦ numOf (ag y i)), int IntKind.i64 (IntKind.i64.wrap ((↑(nl (val n fun (i : Nat) ↦ numOf (ag z i))) : Int) - (1 : Int))), int IntKind.i64 (0 : Int)], [])))) := by kernel_rfl
theorem KC {A B k : Nat} : aG T [] [24, 35, 44] 30 [0, 1, 5, 4] [part (ax kz) [1,1,1,0,1,0,0]] ⟨aB [0, 1, 5, 4] [.mag A, .mag B, .int .i64 ((k : Int) - 1), .int .i64 0], [], 0⟩ =
  some (aa.fork (decide ((↑k : Int) - (1 : Int) ≥ (0 : Int))) (aa.af [(0 : Int) ≤ (↑k : Int) - (1 : Int) ∧ ((↑k : Int) - (1 : Int)).toNat < nl A, (0 : Int) ≤ (↑k : Int) - (1 : Int) ∧ ((↑k : Int) - (1 : Int)).toNat < nl B] (aa.fork ((↑(au A ((↑k : Int) - (1 : Int)).toNat) : Int) != (↑(au B ((↑k : Int) - (1 : Int)).toNat) : Int)) (aa.af [(0 : Int) ≤ (↑k : Int) - (1 : Int) ∧ ((↑k : Int) - (1 : Int)).toNat < nl A, (0 : Int) ≤ (↑k : Int) - (1 : Int) ∧ ((↑k : Int) - (1 : Int)).toNat < nl B] (aa.fork (decide ((↑(au A ((↑k : Int) - (1 : Int)).toNat) : Int) < (↑(au B ((↑k : Int) - (1 : Int)).toNat) : Int))) (aa.leaf aj.ret ([mag A, mag B, int IntKind.i64 ((↑k : Int) - (1 : Int)), int IntKind.i64 (-1 : Int)], [])) (aa.leaf aj.ret ([mag A, mag B, int IntKind.i64 ((↑k : Int) - (1 : Int)), int IntKind.i64 (1 : Int)], [])))) (aa.leaf aj.normal ([mag A, mag B, int IntKind.i64 (IntKind.i64.wrap ((↑k : Int) - (1 : Int) - (1 : Int))), int IntKind.i64 (0 : Int)], [])))) (aa.leaf (aj.exit 0) ([mag A, mag B, int IntKind.i64 ((↑k : Int) - (1 : Int)), int IntKind.i64 (0 : Int)], []))) := by kernel_rfl
theorem Pa {A B k : Nat} : cJ T [] [] 30 kz (behind (ax kz) [1,1,1,0,1]) ⟨aB [0, 1, 5, 4] [.mag A, .mag B, .int .i64 ((k : Int) - 1), .int .i64 0], [], 0⟩ =
  some (aa.leaf aj.ret [int IntKind.i64 (0 : Int)]) := by kernel_rfl
theorem T0 {n m : Nat} {z y : Nat → Nat} (hz : ∀ i, i < n → z i < 2 ^ 32) (hy : ∀ i, i < m → y i < 2 ^ 32) (hn : n < 2 ^ 40) (hm' : m < 2 ^ 40) (K : Nat) (pre : aA) :
  aC P me K [.ah 1 n (ag z), .ah 1 m (ag y)] pre (aJ (.int .i64 (bI (val n z) (val m y))) []) := by
 refine gn hT H7 rfl (of_decide_eq_true (by kernel_rfl)) rfl (fun _ c h0 => ?_) K pre
 refine aq.hole [1,1,1,0,1] (by kernel_rfl) (ay.aR hT eA hm 30 [0, 1, 5, 4] K0 (by kernel_rfl) ?_)
 have hnl : nl (val n z) ≤ n := cm.2 (dN hz)
 generalize hA : val n z = A at *
 generalize hB : val m y = B at *
 simp only [aa.all, az, decide_eq_true_eq, decide_eq_false_iff_not, xD, hA, hB, bne_iff_ne, ne_eq, Int.natCast_inj, bne_eq_false_iff_eq]
 refine ⟨⟨er hz, by omega, er hy, by omega⟩, fun hb => ⟨fun hb2 s' hv => ?_, fun hb2 s' hv => ?_⟩, fun hb s' hv => ?_⟩
 ·have h1 : A < B := uH (by omega)
  exact ey (us := [.int .i64 (-1)]) (.inr rfl) hv (by kernel_rfl) (bm (by simp [bI, h1]))
 ·have h1 : B < A := uH (by omega)
  exact ey (us := [.int .i64 1]) (.inr rfl) hv (by kernel_rfl) (bm (by simp [bI, h1]; omega))
 refine aq.fh (i := 0) (y := part (ax kz) [1,1,1,0,1,0,0]) (by kernel_rfl)
  (fun k : Nat => ⟨aB [0, 1, 5, 4] [.mag A, .mag B, .int .i64 ((k : Int) - 1), .int .i64 0], [], 0⟩)
  (fun k => k ≤ nl A ∧ ∀ j, k ≤ j → j < nl A → au A j = au B j) id (nl A)
  (b9 [] hv h0 rfl ⟨⟨rfl, aE rfl⟩, ⟨rfl, aE rfl⟩, ⟨rfl, ee (wrap_i64 (by omega) (by omega))⟩, ⟨rfl, aE rfl⟩, trivial⟩ trivial) ⟨by simp, fun j h1 h2 => by omega⟩ ?_
 rintro k ⟨hk, hlim⟩
 refine aq.aR hT aZ hm 30 [0, 1, 5, 4] KC (by kernel_rfl) ?_
 simp only [aa.all, az, decide_eq_true_eq, decide_eq_false_iff_not, bne_iff_ne, ne_eq, Int.natCast_inj, bne_eq_false_iff_eq]
 refine ⟨fun hb2 => ?_, fun hb2 s' hv => ?_⟩
 ·obtain ⟨j, rfl⟩ : ∃ j, k = j + 1 := ⟨k - 1, by omega⟩
  have e : (((j + 1 : Nat) : Int) - 1).toNat = j := by omega
  rw [e]
  refine ⟨⟨by omega, by omega⟩, fun hne => ⟨⟨by omega, by omega⟩, fun hlt s' hv => ?_, fun hlt s' hv => ?_⟩, fun heq s' hv => ?_⟩
  ·have h1 : A < B := uw hb (k := j) (by omega) (fun i h1 h2 => hlim i (by omega) h2) (by omega)
   exact ey (us := [.int .i64 (-1)]) (.inr rfl) hv (by kernel_rfl) (bm (by simp [bI, h1]))
  ·have h1 : B < A := uw hb.symm (k := j) (by omega) (fun i h1 h2 => (hlim i (by omega) (by omega)).symm) (by omega)
   exact ey (us := [.int .i64 1]) (.inr rfl) hv (by kernel_rfl) (bm (by simp [bI, h1]; omega))
  ·refine ⟨j, b9 [] hv h0 rfl ⟨⟨rfl, aE rfl⟩, ⟨rfl, aE rfl⟩, ⟨rfl, ee (by rw [wrap_i64 (by omega) (by omega)]; omega)⟩, ⟨rfl, aE rfl⟩, trivial⟩ trivial, ⟨by omega, fun i h1 h2 => ?_⟩, by simp⟩
   by_cases hi : i = j
   ·subst hi; exact heq
   ·exact hlim i (by omega) h2
 ·have hk0 : k = 0 := by omega
  subst hk0
  have hAB : A = B := xT hb fun i hi => hlim i (by omega) hi
  exact ay.weak (by kernel_rfl) (b9 (vs := [.mag A, .mag B, .int .i64 (((0 : Nat) : Int) - 1), .int .i64 0]) (ps := []) (nx := 0) [] hv h0 rfl ⟨⟨rfl, aE rfl⟩, ⟨rfl, aE rfl⟩, ⟨rfl, aE rfl⟩, ⟨rfl, aE rfl⟩, trivial⟩ trivial)
   (ay.fin hT aZ hm 30 Pa (by kernel_rfl) (bm (by simp [bI, hAB])))
def yp : Spec := bp fun l => match l with
 | [.int .u64 x] => some (aJ (.mag x.toNat) [0 ≤ x ∧ x < 2 ^ 64])
 | _ => none
theorem BB : ∀ K args pre r, yp K args pre = some r → aC P oI K args pre r := by
 refine bK fun K args r hk hs _ => ?_
 split at hs
 ·rename_i x
  simp only [Option.some.injEq] at hs
  subst hs
  intro need
  obtain ⟨h1, h2⟩ : 0 ≤ x ∧ x < 2 ^ 64 := need
  obtain ⟨y, rfl⟩ := Int.eq_ofNat_of_zero_le h1
  exact Od (x := y) (by omega) K [] trivial
 ·simp at hs
def vU (N n : Nat) : cq := aJ (.int .u64 (N : Nat)) [n ≤ 2]
theorem PO : ∀ K args pre r, bp (iR vU) K args pre = some r → aC P sB K args pre r :=
 bK (oL fun _ _ K hz need => JQ hz need K [])
def vD (A n B m : Nat) : cq := aJ (.int .i64 (bI A B)) [n < 2 ^ 40, m < 2 ^ 40]
theorem zS : ∀ K args pre r, bp (fq vD) K args pre = some r → aC P me K args pre r :=
 bK (nr fun _ _ _ _ K hz hy need => T0 hz hy need.1 need.2 K [])
end Go.Am.B
