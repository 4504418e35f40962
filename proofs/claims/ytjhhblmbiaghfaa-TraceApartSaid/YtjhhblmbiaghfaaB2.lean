/- natural.Add. -/
import Derived.Test.YtjhhblmbiaghfaaB1
set_option linter.unusedVariables false
namespace Go.Am.B
open Go Go.Am.N AV
theorem MF : aO P oa fI (ax fI) := aS KJ (by kernel_rfl) (by kernel_rfl) (by kernel_rfl)
theorem Tv {n m : Nat} {z y : Nat → Nat} : aG T G1 [13] 30 [0, 1, 5, 6, 20, 21, 22] (before (ax fI) [1,1,1,1,0,1]) ⟨aM 0 [.ah 1 n (ag z), .ah 1 m (ag y)], [], 0⟩ =
  some (aa.fork (decide ((↑n : Int) < (↑m : Int))) (aa.af [(0 : Int) ≤ IntKind.i64.wrap ((↑m : Int) + (1 : Int)) ∧ IntKind.i64.wrap ((↑m : Int) + (1 : Int)) ≤ IntKind.i64.wrap ((↑m : Int) + (1 : Int)) ∧ IntKind.i64.wrap ((↑m : Int) + (1 : Int)) ≤ (2 : Int) ^ 47 ∧ IntKind.i64.wrap ((↑m : Int) + (1 : Int)) * (↑(4 : Nat) : Int) ≤ (2 : Int) ^ 47] (aa.leaf aj.normal ([ah 1 m (ag y), ah 1 n (ag z), own 53248 1 0 (IntKind.i64.wrap ((↑m : Int) + (1 : Int))).toNat, int IntKind.u64 (0 : Int), ah 1 m (ag y), int IntKind.i64 (↑m : Int), int IntKind.i64 (0 : Int)], [((53248 : Nat), ⟨true, true, 1, (IntKind.i64.wrap ((↑m : Int) + (1 : Int))).toNat, fun (x : Nat) ↦ int IntKind.u32 (0 : Int)⟩)]))) (aa.af [(0 : Int) ≤ IntKind.i64.wrap ((↑n : Int) + (1 : Int)) ∧ IntKind.i64.wrap ((↑n : Int) + (1 : Int)) ≤ IntKind.i64.wrap ((↑n : Int) + (1 : Int)) ∧ IntKind.i64.wrap ((↑n : Int) + (1 : Int)) ≤ (2 : Int) ^ 47 ∧ IntKind.i64.wrap ((↑n : Int) + (1 : Int)) * (↑(4 : Nat) : Int) ≤ (2 : Int) ^ 47] (aa.leaf aj.normal ([ah 1 n (ag z), ah 1 m (ag y), own 36864 1 0 (IntKind.i64.wrap ((↑n : Int) + (1 : Int))).toNat, int IntKind.u64 (0 : Int), ah 1 n (ag z), int IntKind.i64 (↑n : Int), int IntKind.i64 (0 : Int)], [((36864 : Nat), ⟨true, true, 1, (IntKind.i64.wrap ((↑n : Int) + (1 : Int))).toNat, fun (x : Nat) ↦ int IntKind.u32 (0 : Int)⟩)])))) := by kernel_rfl
abbrev wD : List Nat := [1,1,1,1,0,1]
abbrev ng : List Nat := [0, 1, 5, 6, 20, 21, 22]
theorem Pk {n m i c : Nat} {z y o : Nat → Nat} : aG T G1 [23, 34] 30 [0, 1, 5, 6, 20, 21, 22] [part (ax fI) [1,1,1,1,0,1,0,0]] ⟨aB [0, 1, 5, 6, 20, 21, 22] [.ah 1 n (ag z), .ah 1 m (ag y), .own 7 1 0 (n + 1), .int .u64 c, .ah 1 n (ag z), .int .i64 n, .int .i64 i], [(7, ⟨true, true, 1, n + 1, ag o⟩)], 8⟩ =
  some (aa.fork (decide ((↑i : Int) < (↑n : Int))) (aa.af [(0 : Int) ≤ (↑i : Int) ∧ (↑i : Int).toNat < n] (aa.fork (decide ((↑i : Int) < (↑m : Int))) (aa.af [(0 : Int) ≤ (↑i : Int) ∧ (↑i : Int).toNat < m] (aa.af [(0 : Int) ≤ (↑i : Int) ∧ (↑i : Int).toNat < n + 1, (↑i : Int).toNat + 0 < n + 1] (aa.af [(0 : Int) ≤ (32 : Int)] (aa.leaf aj.normal ([ah 1 n (ag z), ah 1 m (ag y), own 7 1 0 (n + 1), int IntKind.u64 ((IntKind.u64.wrap (IntKind.u64.wrap ((↑c : Int) + IntKind.u64.wrap (↑(z (↑i : Int).toNat) : Int)) + IntKind.u64.wrap (↑(y (↑i : Int).toNat) : Int))).fdiv ((2 : Int) ^ min (Int.toNat (32 : Int)) IntKind.u64.bits)), ah 1 n (ag z), int IntKind.i64 (↑n : Int), int IntKind.i64 (IntKind.i64.wrap ((↑i : Int) + (1 : Int)))], [((7 : Nat), ⟨true, true, 1, n + 1, fun (j : Nat) ↦ if (j == (↑i : Int).toNat + 0) = true then int IntKind.u32 (IntKind.u32.wrap (IntKind.u64.wrap (IntKind.u64.wrap ((↑c : Int) + IntKind.u64.wrap (↑(z (↑i : Int).toNat) : Int)) + IntKind.u64.wrap (↑(y (↑i : Int).toNat) : Int)))) else ag o j⟩)]))))) (aa.af [(0 : Int) ≤ (↑i : Int) ∧ (↑i : Int).toNat < n + 1, (↑i : Int).toNat + 0 < n + 1] (aa.af [(0 : Int) ≤ (32 : Int)] (aa.leaf aj.normal ([ah 1 n (ag z), ah 1 m (ag y), own 7 1 0 (n + 1), int IntKind.u64 ((IntKind.u64.wrap ((↑c : Int) + IntKind.u64.wrap (↑(z (↑i : Int).toNat) : Int))).fdiv ((2 : Int) ^ min (Int.toNat (32 : Int)) IntKind.u64.bits)), ah 1 n (ag z), int IntKind.i64 (↑n : Int), int IntKind.i64 (IntKind.i64.wrap ((↑i : Int) + (1 : Int)))], [((7 : Nat), ⟨true, true, 1, n + 1, fun (j : Nat) ↦ if (j == (↑i : Int).toNat + 0) = true then int IntKind.u32 (IntKind.u32.wrap (IntKind.u64.wrap ((↑c : Int) + IntKind.u64.wrap (↑(z (↑i : Int).toNat) : Int)))) else ag o j⟩)])))))) (aa.leaf (aj.exit 0) ([ah 1 n (ag z), ah 1 m (ag y), own 7 1 0 (n + 1), int IntKind.u64 (↑c : Int), ah 1 n (ag z), int IntKind.i64 (↑n : Int), int IntKind.i64 (↑i : Int)], [((7 : Nat), ⟨true, true, 1, n + 1, ag o⟩)]))) := by kernel_rfl
theorem SF {n m i c : Nat} {z y o : Nat → Nat} : cJ T G1 [] 30 fI (behind (ax fI) [1,1,1,1,0,1]) ⟨aB [0, 1, 5, 6, 20, 21, 22] [.ah 1 n (ag z), .ah 1 m (ag y), .own 7 1 0 (n + 1), .int .u64 c, .ah 1 n (ag z), .int .i64 n, .int .i64 i], [(7, ⟨true, true, 1, n + 1, ag o⟩)], 8⟩ =
  some (aa.af [(0 : Int) ≤ (↑n : Int) ∧ (↑n : Int).toNat < n + 1, (↑n : Int).toNat + 0 < n + 1] (aa.af [cD (n + 1) fun (i : Nat) ↦ if (i + 0 == (↑n : Int).toNat + 0) = true then int IntKind.u32 (IntKind.u32.wrap (↑c : Int)) else ag o (i + 0), n + 1 < 2 ^ 62] (aa.leaf aj.ret [mag (val (n + 1) fun (i : Nat) ↦ numOf (if (i + 0 == (↑n : Int).toNat + 0) = true then int IntKind.u32 (IntKind.u32.wrap (↑c : Int)) else ag o (i + 0)))]))) := by kernel_rfl
theorem Dr {i m : Nat} {y : Nat → Nat} : val (min (i + 1) m) y = val (min i m) y + (if i < m then y i else 0) * 2 ^ (32 * i) := by
 by_cases h : i < m
 ·rw [Nat.min_eq_left (by omega), Nat.min_eq_left (by omega), if_pos h]; rfl
 ·rw [Nat.min_eq_right (by omega), Nat.min_eq_right (by omega), if_neg h]; simp
theorem Ge {i c zi yi vz vy : Nat} {o o' : Nat → Nat} (hv : val i o + c * 2 ^ (32 * i) = vz + vy) (ho : ∀ j, j < i → o' j = o j) (h1 : o' i = (c + zi + yi) % 4294967296) :
  val (i + 1) o' + (c + zi + yi) / 4294967296 * 2 ^ (32 * (i + 1)) = (vz + zi * 2 ^ (32 * i)) + (vy + yi * 2 ^ (32 * i)) := by
 rw [val, val_congr ho, h1, eU]
 have := xX (B := 2 ^ (32 * i)) (c := c) (z := zi) (y := yi) rfl hv
 omega
theorem Dp {c0 : Ctx} (h0 : c0.k0 = aQ) {n m : Nat} {z y : Nat → Nat} (hn : n < 2 ^ 40) (hmn : m ≤ n) (hz : ∀ i, i < n → z i < 2 ^ 32) (hy : ∀ i, i < m → y i < 2 ^ 32) {K L : Nat} {f0 : Nat → AV} {s' : aD}
  (hv : aN ng s' = some ([.ah 1 n (ag z), .ah 1 m (ag y), .own K 1 0 L, .int .u64 0, .ah 1 n (ag z), .int .i64 n, .int .i64 0], [(K, ⟨true, true, 1, L, f0⟩)])) (hL : L = n + 1) (hf : f0 = ag fun _ => 0) :
  aq P c0 fI.ntmps (part (ax fI) wD) s' (cM (fun s'' => ay P c0 fI.ntmps (behind (ax fI) wD) s'' (Fin T fI (.mag (val n z + val m y)))) (Fin T fI (.mag (val n z + val m y)))) := by
 subst hL hf
 refine aq.fh (i := 0) (y := part (ax fI) [1,1,1,1,0,1,0,0]) (by kernel_rfl)
  (fun p : Nat × Nat × (Nat → Nat) => ⟨aB ng [.ah 1 n (ag z), .ah 1 m (ag y), .own 7 1 0 (n + 1), .int .u64 (p.2.1 : Nat), .ah 1 n (ag z), .int .i64 n, .int .i64 (p.1 : Nat)], [(7, ⟨true, true, 1, n + 1, ag p.2.2⟩)], 8⟩)
  (fun p => p.1 ≤ n ∧ p.2.1 ≤ 1 ∧ (∀ j, j < n + 1 → p.2.2 j < 2 ^ 32) ∧ val p.1 p.2.2 + p.2.1 * 2 ^ (32 * p.1) = val p.1 z + val (min p.1 m) y)
  (fun p => n - p.1) (0, 0, fun _ => 0)
  (b9 [(7, K)] hv h0 (by simp [gy]) ⟨⟨rfl, aE rfl⟩, ⟨rfl, aE rfl⟩, ⟨rfl, cz rfl rfl rfl⟩, ⟨rfl, aE rfl⟩, ⟨rfl, aE rfl⟩, ⟨rfl, aE rfl⟩, ⟨rfl, aE rfl⟩, trivial⟩
   ⟨⟨K, _, rfl, by simp [look], gV rfl fun i _ => aE rfl⟩, trivial⟩)
  ⟨by simp, by simp, fun j _ => by simp, by simp [val]⟩ ?_
 rintro ⟨i, c, o⟩ ⟨hi, hc, ho, hval⟩
 simp only at hi hc ho hval
 refine aq.aR hT eA hm 30 ng Pk (by kernel_rfl) ?_
 have key : ∀ {yi : Nat} {s' : aD} {u v : Int} {f' : Nat → AV}, i < n → yi = (if i < m then y i else 0) → yi < 2 ^ 32 →
   aN ng s' = some ([.ah 1 n (ag z), .ah 1 m (ag y), .own 7 1 0 (n + 1), .int .u64 u, .ah 1 n (ag z), .int .i64 n, .int .i64 v], [(7, ⟨true, true, 1, n + 1, f'⟩)]) →
   u = ((c + z i + yi) / 4294967296 : Nat) → v = (i + 1 : Nat) → (∀ j, f' j = if j = i then .int .u32 ((c + z i + yi) % 4294967296 : Nat) else ag o j) → 
   ∃ k : Nat × Nat × (Nat → Nat), (∃ ρ, Le c0 ρ s' ⟨aB ng [.ah 1 n (ag z), .ah 1 m (ag y), .own 7 1 0 (n + 1), .int .u64 (k.2.1 : Nat), .ah 1 n (ag z), .int .i64 n, .int .i64 (k.1 : Nat)], [(7, ⟨true, true, 1, n + 1, ag k.2.2⟩)], 8⟩) ∧
    (k.1 ≤ n ∧ k.2.1 ≤ 1 ∧ (∀ j, j < n + 1 → k.2.2 j < 2 ^ 32) ∧ val k.1 k.2.2 + k.2.1 * 2 ^ (32 * k.1) = val k.1 z + val (min k.1 m) y) ∧ n - k.1 < n - i := by
  intro yi s' u v f' hin hyi hyl hv hu hv1 hf
  have hzi := hz i hin
  refine ⟨(i + 1, (c + z i + yi) / 4294967296, fun j => if j = i then (c + z i + yi) % 4294967296 else o j), ?_, ⟨by simp; omega, by simp; omega, fun j hj => ?_, ?_⟩, by simp; omega⟩
  ·exact b9 [(7, 7)] hv h0 rfl ⟨⟨rfl, aE rfl⟩, ⟨rfl, aE rfl⟩, ⟨rfl, cz rfl rfl rfl⟩, ⟨rfl, ee hu⟩, ⟨rfl, aE rfl⟩, ⟨rfl, aE rfl⟩, ⟨rfl, ee hv1⟩, trivial⟩
    ⟨⟨7, _, rfl, rfl, gV rfl fun j _ => by
     rw [hf j]; simp only [ag]
     by_cases hj : j = i
     ·simp only [if_pos hj]; exact aE rfl
     ·simp only [if_neg hj]; exact aE rfl⟩, trivial⟩
  ·simp only
   split
   ·omega
   ·exact ho j hj
  ·simp only
   rw [Dr, ← hyi]
   exact Ge hval (fun j hj => if_neg (by omega)) (if_pos rfl)
 have fin : i = n → ∀ s', aN ng s' = some ([.ah 1 n (ag z), .ah 1 m (ag y), .own 7 1 0 (n + 1), .int .u64 (c : Nat), .ah 1 n (ag z), .int .i64 n, .int .i64 (i : Nat)], [(7, ⟨true, true, 1, n + 1, ag o⟩)]) →
   ay P c0 fI.ntmps (behind (ax fI) wD) s' (Fin T fI (.mag (val n z + val m y))) := by
  intro hin s' hv
  subst hin
  rw [Nat.min_eq_right hmn] at hval
  have e : ∀ j, j < i + 1 → numOf (if (j + 0 == (i : Int).toNat + 0) = true then .int .u32 (IntKind.u32.wrap (c : Int)) else ag o (j + 0)) = if j = i then c else o j := by
   intro j hj
   have := ho j hj
   by_cases h : j = i
   ·simp [h, numOf, gl]; omega
   ·simp [h, numOf, ag]
  refine ay.weak (by kernel_rfl) (b9 (vs := [.ah 1 i (ag z), .ah 1 m (ag y), .own 7 1 0 (i + 1), .int .u64 (c : Nat), .ah 1 i (ag z), .int .i64 i, .int .i64 (i : Nat)])
    (ps := [(7, ⟨true, true, 1, i + 1, ag o⟩)]) (nx := 8) [(7, 7)] hv h0 rfl ⟨⟨rfl, aE rfl⟩, ⟨rfl, aE rfl⟩, ⟨rfl, cz rfl rfl rfl⟩, ⟨rfl, aE rfl⟩, ⟨rfl, aE rfl⟩, ⟨rfl, aE rfl⟩, ⟨rfl, aE rfl⟩, trivial⟩
    ⟨⟨7, _, rfl, rfl, gV rfl fun j _ => aE rfl⟩, trivial⟩)
   (ay.fin hT eA hm 30 SF (by kernel_rfl) ?_)
  simp only [aa.all, az]
  refine ⟨⟨by omega, by omega⟩, ⟨fun j hj => ?_, by omega⟩, ?_⟩
  ·have := ho j hj
   by_cases h : j = i
   ·exact ⟨c, by omega, by simp [h, gl]; omega⟩
   ·exact ⟨o j, this, by simp [h, ag]⟩
  ·rw [val_congr e]
   refine cF (congrArg AV.mag ?_)
   rw [← hval, val, val_congr (y := o) fun j hj => if_neg (by omega), if_pos rfl]
 simp only [aa.all, az, decide_eq_true_eq, decide_eq_false_iff_not, Int.toNat_natCast, Nat.add_zero, beq_iff_eq, kg, iD, hH]
 refine ⟨fun hb => ?_, fun hb s' hv => fin (by omega) s' hv⟩
 have h1 : i < n := by omega
 have hzi := hz i h1
 refine ⟨by omega, fun hb2 => ?_, fun hb2 => ?_⟩
 ·have h2 : i < m := by omega
  have hyi := hy i h2
  refine ⟨by omega, by omega, by omega, fun s' hv => key (yi := y i) h1 (by rw [if_pos h2]) hyi hv (by omega) (by rw [wrap_i64 (by omega) (by omega)]; omega) fun j => ?_⟩
  split
  ·congr 1; omega
  ·rfl
 ·have h2 : ¬ i < m := by omega
  refine ⟨by omega, by omega, fun s' hv => key (yi := 0) h1 (by rw [if_neg h2]) (by omega) hv (by omega) (by rw [wrap_i64 (by omega) (by omega)]; omega) fun j => ?_⟩
  split
  ·congr 1; omega
  ·rfl
theorem PB {n m : Nat} {z y : Nat → Nat} (hz : ∀ i, i < n → z i < 2 ^ 32) (hy : ∀ i, i < m → y i < 2 ^ 32) (hn : n < 2 ^ 40) (hm' : m < 2 ^ 40) (K : Nat) (pre : aA) :
  aC P oa K [.ah 1 n (ag z), .ah 1 m (ag y)] pre (aJ (.mag (val n z + val m y)) []) := by
 refine gn hT MF rfl (of_decide_eq_true (by kernel_rfl)) rfl (fun _ c h0 => ?_) K pre
 refine aq.hole wD (by kernel_rfl) (ay.aR hT eA hm 30 ng Tv (by kernel_rfl) ?_)
 simp only [aa.all, az, decide_eq_true_eq, decide_eq_false_iff_not]
 have hw : ∀ k : Nat, k < 2 ^ 40 → IntKind.i64.wrap ((k : Int) + 1) = ((k + 1 : Nat) : Int) := fun k hk => by rw [wrap_i64 (by omega) (by omega)]; omega
 rw [hw n hn, hw m hm']
 simp only [Int.toNat_natCast]
 refine ⟨fun hb => ⟨by omega, fun s' hv => ?_⟩, fun hb => ⟨by omega, fun s' hv => ?_⟩⟩
 ·have := Dp (m := n) (y := z) (z := y) h0 hm' (by omega) hy hz hv rfl rfl
  rw [Nat.add_comm (val n z)]; exact this
 ·exact Dp h0 hn (by omega) hz hy hv rfl rfl
def zX (A n B m : Nat) : cq := aJ (.mag (A + B)) [n < 2 ^ 40, m < 2 ^ 40]
theorem Bh : ∀ K args pre r, bp (fq zX) K args pre = some r → aC P oa K args pre r :=
 bK (nr fun _ _ _ _ K hz hy need => PB hz hy need.1 need.2 K [])
end Go.Am.B
