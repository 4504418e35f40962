/- natural.Add. -/
import Derived.Test.YtnocdkaonpdmjaaGreatB1
set_option linter.unusedVariables false
namespace Go.Am.B
open Go Go.Am.N AV
theorem aax : aO P qx gd (ax gd) := aP Uj (by kernel_rfl) (by kernel_rfl) (by kernel_rfl)
theorem T0 {n m : Nat} {z y : Nat → Nat} : aI T G1 [13] 30 [0, 1, 5, 6, 20, 21, 22] (before (ax gd) [1,1,1,1,0,1]) ⟨aL 0 [.ak 1 n (ah z), .ak 1 m (ah y)], [], 0⟩ =
  some (aa.fork (decide ((↑n : Int) < (↑m : Int))) (aa.ag [(0 : Int) ≤ IntKind.i64.wrap ((↑m : Int) + (1 : Int)) ∧ IntKind.i64.wrap ((↑m : Int) + (1 : Int)) ≤ IntKind.i64.wrap ((↑m : Int) + (1 : Int)) ∧ IntKind.i64.wrap ((↑m : Int) + (1 : Int)) ≤ (2 : Int) ^ 47 ∧ IntKind.i64.wrap ((↑m : Int) + (1 : Int)) * (↑(4 : Nat) : Int) ≤ (2 : Int) ^ 47] (aa.leaf aj.normal ([ak 1 m (ah y), ak 1 n (ah z), own 53248 1 0 (IntKind.i64.wrap ((↑m : Int) + (1 : Int))).toNat, int IntKind.u64 (0 : Int), ak 1 m (ah y), int IntKind.i64 (↑m : Int), int IntKind.i64 (0 : Int)], [((53248 : Nat), ⟨true, true, 1, (IntKind.i64.wrap ((↑m : Int) + (1 : Int))).toNat, fun (x : Nat) ↦ int IntKind.u32 (0 : Int)⟩)]))) (aa.ag [(0 : Int) ≤ IntKind.i64.wrap ((↑n : Int) + (1 : Int)) ∧ IntKind.i64.wrap ((↑n : Int) + (1 : Int)) ≤ IntKind.i64.wrap ((↑n : Int) + (1 : Int)) ∧ IntKind.i64.wrap ((↑n : Int) + (1 : Int)) ≤ (2 : Int) ^ 47 ∧ IntKind.i64.wrap ((↑n : Int) + (1 : Int)) * (↑(4 : Nat) : Int) ≤ (2 : Int) ^ 47] (aa.leaf aj.normal ([ak 1 n (ah z), ak 1 m (ah y), own 36864 1 0 (IntKind.i64.wrap ((↑n : Int) + (1 : Int))).toNat, int IntKind.u64 (0 : Int), ak 1 n (ah z), int IntKind.i64 (↑n : Int), int IntKind.i64 (0 : Int)], [((36864 : Nat), ⟨true, true, 1, (IntKind.i64.wrap ((↑n : Int) + (1 : Int))).toNat, fun (x : Nat) ↦ int IntKind.u32 (0 : Int)⟩)])))) := by kernel_rfl
abbrev zf : List Nat := [1,1,1,1,0,1]
abbrev oS : List Nat := [0, 1, 5, 6, 20, 21, 22]
theorem VF {n m i c : Nat} {z y o : Nat → Nat} : aI T G1 [23, 34] 30 [0, 1, 5, 6, 20, 21, 22] [part (ax gd) [1,1,1,1,0,1,0,0]] ⟨aC [0, 1, 5, 6, 20, 21, 22] [.ak 1 n (ah z), .ak 1 m (ah y), .own 7 1 0 (n + 1), .int .u64 c, .ak 1 n (ah z), .int .i64 n, .int .i64 i], [(7, ⟨true, true, 1, n + 1, ah o⟩)], 8⟩ =
  some (aa.fork (decide ((↑i : Int) < (↑n : Int))) (aa.ag [(0 : Int) ≤ (↑i : Int) ∧ (↑i : Int).toNat < n] (aa.fork (decide ((↑i : Int) < (↑m : Int))) (aa.ag [(0 : Int) ≤ (↑i : Int) ∧ (↑i : Int).toNat < m] (aa.ag [(0 : Int) ≤ (↑i : Int) ∧ (↑i : Int).toNat < n + 1, (↑i : Int).toNat + 0 < n + 1] (aa.ag [(0 : Int) ≤ (32 : Int)] (aa.leaf aj.normal ([ak 1 n (ah z), ak 1 m (ah y), own 7 1 0 (n + 1), int IntKind.u64 ((IntKind.u64.wrap (IntKind.u64.wrap ((↑c : Int) + IntKind.u64.wrap (↑(z (↑i : Int).toNat) : Int)) + IntKind.u64.wrap (↑(y (↑i : Int).toNat) : Int))).fdiv ((2 : Int) ^ min (Int.toNat (32 : Int)) IntKind.u64.bits)), ak 1 n (ah z), int IntKind.i64 (↑n : Int), int IntKind.i64 (IntKind.i64.wrap ((↑i : Int) + (1 : Int)))], [((7 : Nat), ⟨true, true, 1, n + 1, fun (j : Nat) ↦ if (j == (↑i : Int).toNat + 0) = true then int IntKind.u32 (IntKind.u32.wrap (IntKind.u64.wrap (IntKind.u64.wrap ((↑c : Int) + IntKind.u64.wrap (↑(z (↑i : Int).toNat) : Int)) + IntKind.u64.wrap (↑(y (↑i : Int).toNat) : Int)))) else ah o j⟩)]))))) (aa.ag [(0 : Int) ≤ (↑i : Int) ∧ (↑i : Int).toNat < n + 1, (↑i : Int).toNat + 0 < n + 1] (aa.ag [(0 : Int) ≤ (32 : Int)] (aa.leaf aj.normal ([ak 1 n (ah z), ak 1 m (ah y), own 7 1 0 (n + 1), int IntKind.u64 ((IntKind.u64.wrap ((↑c : Int) + IntKind.u64.wrap (↑(z (↑i : Int).toNat) : Int))).fdiv ((2 : Int) ^ min (Int.toNat (32 : Int)) IntKind.u64.bits)), ak 1 n (ah z), int IntKind.i64 (↑n : Int), int IntKind.i64 (IntKind.i64.wrap ((↑i : Int) + (1 : Int)))], [((7 : Nat), ⟨true, true, 1, n + 1, fun (j : Nat) ↦ if (j == (↑i : Int).toNat + 0) = true then int IntKind.u32 (IntKind.u32.wrap (IntKind.u64.wrap ((↑c : Int) + IntKind.u64.wrap (↑(z (↑i : Int).toNat) : Int)))) else ah o j⟩)])))))) (aa.leaf (aj.exit 0) ([ak 1 n (ah z), ak 1 m (ah y), own 7 1 0 (n + 1), int IntKind.u64 (↑c : Int), ak 1 n (ah z), int IntKind.i64 (↑n : Int), int IntKind.i64 (↑i : Int)], [((7 : Nat), ⟨true, true, 1, n + 1, ah o⟩)]))) := by kernel_rfl
theorem T4 {n m i c : Nat} {z y o : Nat → Nat} : cq T G1 [] 30 gd (behind (ax gd) [1,1,1,1,0,1]) ⟨aC [0, 1, 5, 6, 20, 21, 22] [.ak 1 n (ah z), .ak 1 m (ah y), .own 7 1 0 (n + 1), .int .u64 c, .ak 1 n (ah z), .int .i64 n, .int .i64 i], [(7, ⟨true, true, 1, n + 1, ah o⟩)], 8⟩ =
  some (aa.ag [(0 : Int) ≤ (↑n : Int) ∧ (↑n : Int).toNat < n + 1, (↑n : Int).toNat + 0 < n + 1] (aa.ag [cO (n + 1) fun (i : Nat) ↦ if (i + 0 == (↑n : Int).toNat + 0) = true then int IntKind.u32 (IntKind.u32.wrap (↑c : Int)) else ah o (i + 0), n + 1 < 2 ^ 62] (aa.leaf aj.ret [mag (val (n + 1) fun (i : Nat) ↦ numOf (if (i + 0 == (↑n : Int).toNat + 0) = true then int IntKind.u32 (IntKind.u32.wrap (↑c : Int)) else ah o (i + 0)))]))) := by kernel_rfl
theorem HJ {i m : Nat} {y : Nat → Nat} : val (min (i + 1) m) y = val (min i m) y + (if i < m then y i else 0) * 2 ^ (32 * i) := by
 by_cases h : i < m
 ·rw [Nat.min_eq_left (by omega), Nat.min_eq_left (by omega), if_pos h]; rfl
 ·rw [Nat.min_eq_right (by omega), Nat.min_eq_right (by omega), if_neg h]; simp
theorem Ly {i c zi yi vz vy : Nat} {o o' : Nat → Nat} (hv : val i o + c * 2 ^ (32 * i) = vz + vy) (ho : ∀ j, j < i → o' j = o j) (h1 : o' i = (c + zi + yi) % 4294967296) :
  val (i + 1) o' + (c + zi + yi) / 4294967296 * 2 ^ (32 * (i + 1)) = (vz + zi * 2 ^ (32 * i)) + (vy + yi * 2 ^ (32 * i)) := by
 rw [val, val_congr ho, h1, fB]
 have := Dh (B := 2 ^ (32 * i)) (c := c) (z := zi) (y := yi) rfl hv
 omega
theorem IN {c0 : Ctx} (h0 : c0.k0 = aW) {n m : Nat} {z y : Nat → Nat} (hn : n < 2 ^ 40) (hmn : m ≤ n) (hz : ∀ i, i < n → z i < 2 ^ 32) (hy : ∀ i, i < m → y i < 2 ^ 32) {K L : Nat} {f0 : Nat → AV} {s' : aE}
  (hv : aU oS s' = some ([.ak 1 n (ah z), .ak 1 m (ah y), .own K 1 0 L, .int .u64 0, .ak 1 n (ah z), .int .i64 n, .int .i64 0], [(K, ⟨true, true, 1, L, f0⟩)])) (hL : L = n + 1) (hf : f0 = ah fun _ => 0) :
  aq P c0 gd.ntmps (part (ax gd) zf) s' (cP (fun s'' => aB P c0 gd.ntmps (behind (ax gd) zf) s'' (Fin T gd (.mag (val n z + val m y)))) (Fin T gd (.mag (val n z + val m y)))) := by
 subst hL hf
 refine aq.gp (i := 0) (y := part (ax gd) [1,1,1,1,0,1,0,0]) (by kernel_rfl)
  (fun p : Nat × Nat × (Nat → Nat) => ⟨aC oS [.ak 1 n (ah z), .ak 1 m (ah y), .own 7 1 0 (n + 1), .int .u64 (p.2.1 : Nat), .ak 1 n (ah z), .int .i64 n, .int .i64 (p.1 : Nat)], [(7, ⟨true, true, 1, n + 1, ah p.2.2⟩)], 8⟩)
  (fun p => p.1 ≤ n ∧ p.2.1 ≤ 1 ∧ (∀ j, j < n + 1 → p.2.2 j < 2 ^ 32) ∧ val p.1 p.2.2 + p.2.1 * 2 ^ (32 * p.1) = val p.1 z + val (min p.1 m) y)
  (fun p => n - p.1) (0, 0, fun _ => 0)
  (cC [(7, K)] hv h0 (by simp [gf]) ⟨⟨rfl, aF rfl⟩, ⟨rfl, aF rfl⟩, ⟨rfl, cF rfl rfl rfl⟩, ⟨rfl, aF rfl⟩, ⟨rfl, aF rfl⟩, ⟨rfl, aF rfl⟩, ⟨rfl, aF rfl⟩, trivial⟩
   ⟨⟨K, _, rfl, by simp [look], gM rfl fun i _ => aF rfl⟩, trivial⟩)
  ⟨by simp, by simp, fun j _ => by simp, by simp [val]⟩ ?_
 rintro ⟨i, c, o⟩ ⟨hi, hc, ho, hval⟩
 simp only at hi hc ho hval
 refine aq.aX hT e9 hm 30 oS VF (by kernel_rfl) ?_
 have key : ∀ {yi : Nat} {s' : aE} {u v : Int} {f' : Nat → AV}, i < n → yi = (if i < m then y i else 0) → yi < 2 ^ 32 →
   aU oS s' = some ([.ak 1 n (ah z), .ak 1 m (ah y), .own 7 1 0 (n + 1), .int .u64 u, .ak 1 n (ah z), .int .i64 n, .int .i64 v], [(7, ⟨true, true, 1, n + 1, f'⟩)]) →
   u = ((c + z i + yi) / 4294967296 : Nat) → v = (i + 1 : Nat) → (∀ j, f' j = if j = i then .int .u32 ((c + z i + yi) % 4294967296 : Nat) else ah o j) → 
   ∃ k : Nat × Nat × (Nat → Nat), (∃ ρ, Le c0 ρ s' ⟨aC oS [.ak 1 n (ah z), .ak 1 m (ah y), .own 7 1 0 (n + 1), .int .u64 (k.2.1 : Nat), .ak 1 n (ah z), .int .i64 n, .int .i64 (k.1 : Nat)], [(7, ⟨true, true, 1, n + 1, ah k.2.2⟩)], 8⟩) ∧
    (k.1 ≤ n ∧ k.2.1 ≤ 1 ∧ (∀ j, j < n + 1 → k.2.2 j < 2 ^ 32) ∧ val k.1 k.2.2 + k.2.1 * 2 ^ (32 * k.1) = val k.1 z + val (min k.1 m) y) ∧ n - k.1 < n - i := by
  intro yi s' u v f' hin hyi hyl hv hu hv1 hf
  have hzi := hz i hin
  refine ⟨(i + 1, (c + z i + yi) / 4294967296, fun j => if j = i then (c + z i + yi) % 4294967296 else o j), ?_, ⟨by simp; omega, by simp; omega, fun j hj => ?_, ?_⟩, by simp; omega⟩
  ·exact cC [(7, 7)] hv h0 rfl ⟨⟨rfl, aF rfl⟩, ⟨rfl, aF rfl⟩, ⟨rfl, cF rfl rfl rfl⟩, ⟨rfl, eG hu⟩, ⟨rfl, aF rfl⟩, ⟨rfl, aF rfl⟩, ⟨rfl, eG hv1⟩, trivial⟩
    ⟨⟨7, _, rfl, rfl, gM rfl fun j _ => by
     rw [hf j]; simp only [ah]
     by_cases hj : j = i
     ·simp only [if_pos hj]; exact aF rfl
     ·simp only [if_neg hj]; exact aF rfl⟩, trivial⟩
  ·simp only
   split
   ·omega
   ·exact ho j hj
  ·simp only
   rw [HJ, ← hyi]
   exact Ly hval (fun j hj => if_neg (by omega)) (if_pos rfl)
 have fin : i = n → ∀ s', aU oS s' = some ([.ak 1 n (ah z), .ak 1 m (ah y), .own 7 1 0 (n + 1), .int .u64 (c : Nat), .ak 1 n (ah z), .int .i64 n, .int .i64 (i : Nat)], [(7, ⟨true, true, 1, n + 1, ah o⟩)]) →
   aB P c0 gd.ntmps (behind (ax gd) zf) s' (Fin T gd (.mag (val n z + val m y))) := by
  intro hin s' hv
  subst hin
  rw [Nat.min_eq_right hmn] at hval
  have e : ∀ j, j < i + 1 → numOf (if (j + 0 == (i : Int).toNat + 0) = true then .int .u32 (IntKind.u32.wrap (c : Int)) else ah o (j + 0)) = if j = i then c else o j := by
   intro j hj
   have := ho j hj
   by_cases h : j = i
   ·simp [h, numOf, gZ]; omega
   ·simp [h, numOf, ah]
  refine aB.weak (by kernel_rfl) (cC (vs := [.ak 1 i (ah z), .ak 1 m (ah y), .own 7 1 0 (i + 1), .int .u64 (c : Nat), .ak 1 i (ah z), .int .i64 i, .int .i64 (i : Nat)])
    (ps := [(7, ⟨true, true, 1, i + 1, ah o⟩)]) (nx := 8) [(7, 7)] hv h0 rfl ⟨⟨rfl, aF rfl⟩, ⟨rfl, aF rfl⟩, ⟨rfl, cF rfl rfl rfl⟩, ⟨rfl, aF rfl⟩, ⟨rfl, aF rfl⟩, ⟨rfl, aF rfl⟩, ⟨rfl, aF rfl⟩, trivial⟩
    ⟨⟨7, _, rfl, rfl, gM rfl fun j _ => aF rfl⟩, trivial⟩)
   (aB.fin hT e9 hm 30 T4 (by kernel_rfl) ?_)
  simp only [aa.all, ay]
  refine ⟨⟨by omega, by omega⟩, ⟨fun j hj => ?_, by omega⟩, ?_⟩
  ·have := ho j hj
   by_cases h : j = i
   ·exact ⟨c, by omega, by simp [h, gZ]; omega⟩
   ·exact ⟨o j, this, by simp [h, ah]⟩
  ·rw [val_congr e]
   refine cI (congrArg AV.mag ?_)
   rw [← hval, val, val_congr (y := o) fun j hj => if_neg (by omega), if_pos rfl]
 simp only [aa.all, ay, decide_eq_true_eq, decide_eq_false_iff_not, Int.toNat_natCast, Nat.add_zero, beq_iff_eq, lO, jj, jo]
 refine ⟨fun hb => ?_, fun hb s' hv => fin (by omega) s' hv⟩
 have h1 : i < n := by omega
 have hzi := hz i h1
 refine ⟨by omega, fun hb2 => ?_, fun hb2 => ?_⟩
 ·have h2 : i < m := by omega
  have hyi := hy i h2
  refine ⟨by omega, by omega, by omega, fun s' hv => key (yi := y i) h1 (by rw [if_pos h2]) hyi hv (by omega) (by rw [wrap_i64 (by omega) (by omega)]; omega) fun j => ?_⟩
  split
  ·congr 1; omega
  ·rfl
 ·have h2 : ¬ i < m := by omega
  refine ⟨by omega, by omega, fun s' hv => key (yi := 0) h1 (by rw [if_neg h2]) (by omega) hv (by omega) (by rw [wrap_i64 (by omega) (by omega)]; omega) fun j => ?_⟩
  split
  ·congr 1; omega
  ·rfl
theorem Vs {n m : Nat} {z y : Nat → Nat} (hz : ∀ i, i < n → z i < 2 ^ 32) (hy : ∀ i, i < m → y i < 2 ^ 32) (hn : n < 2 ^ 40) (hm' : m < 2 ^ 40) (K : Nat) (pre : aD) :
  aA P qx K [.ak 1 n (ah z), .ak 1 m (ah y)] pre (aG (.mag (val n z + val m y)) []) := by
 refine gQ hT aax rfl (of_decide_eq_true (by kernel_rfl)) rfl (fun _ c h0 => ?_) K pre
 refine aq.hole zf (by kernel_rfl) (aB.aX hT e9 hm 30 oS T0 (by kernel_rfl) ?_)
 simp only [aa.all, ay, decide_eq_true_eq, decide_eq_false_iff_not]
 have hw : ∀ k : Nat, k < 2 ^ 40 → IntKind.i64.wrap ((k : Int) + 1) = ((k + 1 : Nat) : Int) := fun k hk => by rw [wrap_i64 (by omega) (by omega)]; omega
 rw [hw n hn, hw m hm']
 simp only [Int.toNat_natCast]
 refine ⟨fun hb => ⟨by omega, fun s' hv => ?_⟩, fun hb => ⟨by omega, fun s' hv => ?_⟩⟩
 ·have := IN (m := n) (y := z) (z := y) h0 hm' (by omega) hy hz hv rfl rfl
  rw [Nat.add_comm (val n z)]; exact this
 ·exact IN h0 hn (by omega) hz hy hv rfl rfl
def Ba (A n B m : Nat) : cA := aG (.mag (A + B)) [n < 2 ^ 40, m < 2 ^ 40]
theorem Gu : ∀ K args pre r, bu (fM Ba) K args pre = some r → aA P qx K args pre r :=
 bN (qo fun _ _ _ _ K hz hy need => Vs hz hy need.1 need.2 K [])
end Go.Am.B
