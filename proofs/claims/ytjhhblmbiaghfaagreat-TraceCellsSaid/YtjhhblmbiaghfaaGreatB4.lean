/- natural.Sub, natural.small, natural.raise. -/
import Derived.Test.YtjhhblmbiaghfaaGreatB3
set_option linter.unusedVariables false
namespace Go.Am.B
open Go Go.Am.N AV
theorem Tq : aO P sW jn (ax jn) := aP PU (by kernel_rfl) (by kernel_rfl) (by kernel_rfl)
theorem MX : aO P tG mc (ax mc) := aP Ru (by kernel_rfl) (by kernel_rfl) (by kernel_rfl)
theorem SK : aO P vN jk (ax jk) := aP Qz (by kernel_rfl) (by kernel_rfl) (by kernel_rfl)
def G2 : aW := (nh, bu (fP zK)) :: G1
theorem Sf : br P G2 := aJ zM eM
theorem PG {n m : Nat} {z y : Nat → Nat} : aF T G2 [15] 30 [1, 6, 7, 21, 22, 23, 4, 5] (before (ax jn) [1,1,1,1,1,0,1]) ⟨aN 0 [.ah 1 n (aj z), .ah 1 m (aj y)], [], 0⟩ =
  some (af.ag [cN n (aj z), cN m (aj y), n < 2 ^ 40, m < 2 ^ 40] (af.fork (decide (bO (val n fun (i : Nat) ↦ numOf (aj z i)) (val m fun (i : Nat) ↦ numOf (aj y i)) < (0 : Int))) (af.leaf ak.ret ([ah 1 m (aj y), tuple [], tuple [], tuple [], tuple [], tuple [], nil, int IntKind.i64 (7 : Int)], [])) (af.ag [cN m (aj y), m < 2 ^ 62] (af.ag [(0 : Int) ≤ (↑n : Int) ∧ (↑n : Int) ≤ (↑n : Int) ∧ (↑n : Int) ≤ (2 : Int) ^ 47 ∧ (↑n : Int) * (↑(4 : Nat) : Int) ≤ (2 : Int) ^ 47] (af.leaf ak.normal ([mag (val m fun (i : Nat) ↦ numOf (aj y i)), own 45056 1 0 (↑n : Int).toNat, int IntKind.u64 (0 : Int), ah 1 n (aj z), int IntKind.i64 (↑n : Int), int IntKind.i64 (0 : Int), nil, int IntKind.i64 (0 : Int)], [((45056 : Nat), ⟨true, true, 1, (↑n : Int).toNat, fun (x : Nat) ↦ int IntKind.u32 (0 : Int)⟩)])))))) := by kernel_rfl
theorem PR {n B i w : Nat} {z o : Nat → Nat} : aF T [] [24, 32] 30 [1, 6, 7, 21, 22, 23, 4, 5] [part (ax jn) [1,1,1,1,1,0,1,0,0]] ⟨az [1, 6, 7, 21, 22, 23, 4, 5] [.mag B, .own 7 1 0 n, .int .u64 w, .ah 1 n (aj z), .int .i64 n, .int .i64 i, .nil, .int .i64 0], [(7, ⟨true, true, 1, n, aj o⟩)], 8⟩ =
  some (af.fork (decide ((↑i : Int) < (↑n : Int))) (af.ag [(0 : Int) ≤ (↑i : Int) ∧ (↑i : Int).toNat < n] (af.fork (decide ((↑i : Int) < (↑(nl B) : Int))) (af.ag [(0 : Int) ≤ (↑i : Int) ∧ (↑i : Int).toNat < nl B] (af.ag [(0 : Int) ≤ (↑i : Int) ∧ (↑i : Int).toNat < n, (↑i : Int).toNat + 0 < n] (af.ag [(0 : Int) ≤ (63 : Int)] (af.leaf ak.normal ([mag B, own 7 1 0 n, int IntKind.u64 ((IntKind.u64.wrap (IntKind.u64.wrap (↑(z (↑i : Int).toNat) : Int) - IntKind.u64.wrap ((↑w : Int) + IntKind.u64.wrap (↑(au B (↑i : Int).toNat) : Int)))).fdiv ((2 : Int) ^ min (Int.toNat (63 : Int)) IntKind.u64.bits)), ah 1 n (aj z), int IntKind.i64 (↑n : Int), int IntKind.i64 (IntKind.i64.wrap ((↑i : Int) + (1 : Int))), nil, int IntKind.i64 (0 : Int)], [((7 : Nat), ⟨true, true, 1, n, fun (j : Nat) ↦ if (j == (↑i : Int).toNat + 0) = true then int IntKind.u32 (IntKind.u32.wrap (IntKind.u64.wrap (IntKind.u64.wrap (↑(z (↑i : Int).toNat) : Int) - IntKind.u64.wrap ((↑w : Int) + IntKind.u64.wrap (↑(au B (↑i : Int).toNat) : Int))))) else aj o j⟩)]))))) (af.ag [(0 : Int) ≤ (↑i : Int) ∧ (↑i : Int).toNat < n, (↑i : Int).toNat + 0 < n] (af.ag [(0 : Int) ≤ (63 : Int)] (af.leaf ak.normal ([mag B, own 7 1 0 n, int IntKind.u64 ((IntKind.u64.wrap (IntKind.u64.wrap (↑(z (↑i : Int).toNat) : Int) - (↑w : Int))).fdiv ((2 : Int) ^ min (Int.toNat (63 : Int)) IntKind.u64.bits)), ah 1 n (aj z), int IntKind.i64 (↑n : Int), int IntKind.i64 (IntKind.i64.wrap ((↑i : Int) + (1 : Int))), nil, int IntKind.i64 (0 : Int)], [((7 : Nat), ⟨true, true, 1, n, fun (j : Nat) ↦ if (j == (↑i : Int).toNat + 0) = true then int IntKind.u32 (IntKind.u32.wrap (IntKind.u64.wrap (IntKind.u64.wrap (↑(z (↑i : Int).toNat) : Int) - (↑w : Int)))) else aj o j⟩)])))))) (af.leaf (ak.exit 0) ([mag B, own 7 1 0 n, int IntKind.u64 (↑w : Int), ah 1 n (aj z), int IntKind.i64 (↑n : Int), int IntKind.i64 (↑i : Int), nil, int IntKind.i64 (0 : Int)], [((7 : Nat), ⟨true, true, 1, n, aj o⟩)]))) := by kernel_rfl
theorem PC {n B i w : Nat} {z o : Nat → Nat} : b9 T G1 [] 30 jn (behind (ax jn) [1,1,1,1,1,0,1]) ⟨az [1, 6, 7, 21, 22, 23, 4, 5] [.mag B, .own 7 1 0 n, .int .u64 w, .ah 1 n (aj z), .int .i64 n, .int .i64 i, .nil, .int .i64 0], [(7, ⟨true, true, 1, n, aj o⟩)], 8⟩ =
  some (af.ag [cN n fun (i : Nat) ↦ aj o (i + 0), n < 2 ^ 62] (af.leaf ak.ret [mag (val n fun (i : Nat) ↦ numOf (aj o (i + 0))), int IntKind.i64 (0 : Int)])) := by kernel_rfl
theorem OP {n b : Nat} {z : Nat → Nat} : aF T G1 [] 30 [0, 1, 6, 7, 8] (before (ax mc) [1,1,1,0,1]) ⟨aN 0 [.ah 1 n (aj z), .int .u32 b], [], 0⟩ =
  some (af.ag [(0 : Int) ≤ (↑n : Int) ∧ (↑n : Int) ≤ (↑n : Int) ∧ (↑n : Int) ≤ (2 : Int) ^ 47 ∧ (↑n : Int) * (↑(4 : Nat) : Int) ≤ (2 : Int) ^ 47] (af.leaf ak.normal ([ah 1 n (aj z), int IntKind.u32 (↑b : Int), own 16384 1 0 (↑n : Int).toNat, int IntKind.u64 (0 : Int), int IntKind.i64 (IntKind.i64.wrap ((↑n : Int) - (1 : Int)))], [((16384 : Nat), ⟨true, true, 1, (↑n : Int).toNat, fun (x : Nat) ↦ int IntKind.u32 (0 : Int)⟩)]))) := by kernel_rfl
theorem Zq {n b k r : Nat} {z o : Nat → Nat} : aF T [] [16] 30 [0, 1, 6, 7, 8] [part (ax mc) [1,1,1,0,1,0,0]] ⟨az [0, 1, 6, 7, 8] [.ah 1 n (aj z), .int .u32 b, .own 7 1 0 n, .int .u64 r, .int .i64 ((k : Int) - 1)], [(7, ⟨true, true, 1, n, aj o⟩)], 8⟩ =
  some (af.fork (decide ((↑k : Int) - (1 : Int) ≥ (0 : Int))) (af.ag [(0 : Int) ≤ (32 : Int), (0 : Int) ≤ (↑k : Int) - (1 : Int) ∧ ((↑k : Int) - (1 : Int)).toNat < n] (af.ag [IntKind.u64.wrap (↑b : Int) ≠ (0 : Int), (0 : Int) ≤ (↑k : Int) - (1 : Int) ∧ ((↑k : Int) - (1 : Int)).toNat < n, ((↑k : Int) - (1 : Int)).toNat + 0 < n] (af.ag [IntKind.u64.wrap (↑b : Int) ≠ (0 : Int)] (af.leaf ak.normal ([ah 1 n (aj z), int IntKind.u32 (↑b : Int), own 7 1 0 n, int IntKind.u64 ((IntKind.u64.wrap (↑(BitVec.ofInt IntKind.u64.bits (IntKind.u64.wrap ((↑r : Int) * (2 : Int) ^ min (Int.toNat (32 : Int)) IntKind.u64.bits)) ||| BitVec.ofInt IntKind.u64.bits (IntKind.u64.wrap (↑(z ((↑k : Int) - (1 : Int)).toNat) : Int))).toNat : Int)).tmod (IntKind.u64.wrap (↑b : Int))), int IntKind.i64 (IntKind.i64.wrap ((↑k : Int) - (1 : Int) - (1 : Int)))], [((7 : Nat), ⟨true, true, 1, n, fun (j : Nat) ↦ if (j == ((↑k : Int) - (1 : Int)).toNat + 0) = true then int IntKind.u32 (IntKind.u32.wrap (IntKind.u64.wrap ((IntKind.u64.wrap (↑(BitVec.ofInt IntKind.u64.bits (IntKind.u64.wrap ((↑r : Int) * (2 : Int) ^ min (Int.toNat (32 : Int)) IntKind.u64.bits)) ||| BitVec.ofInt IntKind.u64.bits (IntKind.u64.wrap (↑(z ((↑k : Int) - (1 : Int)).toNat) : Int))).toNat : Int)).tdiv (IntKind.u64.wrap (↑b : Int))))) else aj o j⟩)]))))) (af.leaf (ak.exit 0) ([ah 1 n (aj z), int IntKind.u32 (↑b : Int), own 7 1 0 n, int IntKind.u64 (↑r : Int), int IntKind.i64 ((↑k : Int) - (1 : Int))], [((7 : Nat), ⟨true, true, 1, n, aj o⟩)]))) := by kernel_rfl
theorem Oz {n b k r : Nat} {z o : Nat → Nat} : b9 T G1 [] 30 mc (behind (ax mc) [1,1,1,0,1]) ⟨az [0, 1, 6, 7, 8] [.ah 1 n (aj z), .int .u32 b, .own 7 1 0 n, .int .u64 r, .int .i64 ((k : Int) - 1)], [(7, ⟨true, true, 1, n, aj o⟩)], 8⟩ =
  some (af.ag [cN n fun (i : Nat) ↦ aj o (i + 0), n < 2 ^ 62] (af.leaf ak.ret [mag (val n fun (i : Nat) ↦ numOf (aj o (i + 0))), int IntKind.u32 (IntKind.u32.wrap (↑r : Int))])) := by kernel_rfl
theorem KT {n s : Nat} {z : Nat → Nat} : aF T G1 [] 30 [0, 1, 5, 6, 13, 14, 15] (before (ax jk) [1,1,1,0,1]) ⟨aN 0 [.ah 1 n (aj z), .int .i64 s], [], 0⟩ =
  some (af.ag [(0 : Int) ≤ IntKind.i64.wrap ((↑n : Int) + (1 : Int)) ∧ IntKind.i64.wrap ((↑n : Int) + (1 : Int)) ≤ IntKind.i64.wrap ((↑n : Int) + (1 : Int)) ∧ IntKind.i64.wrap ((↑n : Int) + (1 : Int)) ≤ (2 : Int) ^ 47 ∧ IntKind.i64.wrap ((↑n : Int) + (1 : Int)) * (↑(4 : Nat) : Int) ≤ (2 : Int) ^ 47] (af.leaf ak.normal ([ah 1 n (aj z), int IntKind.i64 (↑s : Int), own 16384 1 0 (IntKind.i64.wrap ((↑n : Int) + (1 : Int))).toNat, int IntKind.u64 (0 : Int), ah 1 n (aj z), int IntKind.i64 (↑n : Int), int IntKind.i64 (0 : Int)], [((16384 : Nat), ⟨true, true, 1, (IntKind.i64.wrap ((↑n : Int) + (1 : Int))).toNat, fun (x : Nat) ↦ int IntKind.u32 (0 : Int)⟩)]))) := by kernel_rfl
theorem U3 {n s i c : Nat} {z o : Nat → Nat} : aF T [] [16] 30 [0, 1, 5, 6, 13, 14, 15] [part (ax jk) [1,1,1,0,1,0,0]] ⟨az [0, 1, 5, 6, 13, 14, 15] [.ah 1 n (aj z), .int .i64 s, .own 7 1 0 (n + 1), .int .u64 c, .ah 1 n (aj z), .int .i64 n, .int .i64 i], [(7, ⟨true, true, 1, n + 1, aj o⟩)], 8⟩ =
  some (af.fork (decide ((↑i : Int) < (↑n : Int))) (af.ag [(0 : Int) ≤ (↑i : Int) ∧ (↑i : Int).toNat < n] (af.ag [(0 : Int) ≤ (↑s : Int)] (af.ag [(0 : Int) ≤ (↑i : Int) ∧ (↑i : Int).toNat < n + 1, (↑i : Int).toNat + 0 < n + 1] (af.ag [(0 : Int) ≤ (32 : Int)] (af.leaf ak.normal ([ah 1 n (aj z), int IntKind.i64 (↑s : Int), own 7 1 0 (n + 1), int IntKind.u64 ((IntKind.u64.wrap (↑(BitVec.ofInt IntKind.u64.bits (↑c : Int) ||| BitVec.ofInt IntKind.u64.bits (IntKind.u64.wrap (IntKind.u64.wrap (↑(z (↑i : Int).toNat) : Int) * (2 : Int) ^ min (↑s : Int).toNat IntKind.u64.bits))).toNat : Int)).fdiv ((2 : Int) ^ min (Int.toNat (32 : Int)) IntKind.u64.bits)), ah 1 n (aj z), int IntKind.i64 (↑n : Int), int IntKind.i64 (IntKind.i64.wrap ((↑i : Int) + (1 : Int)))], [((7 : Nat), ⟨true, true, 1, n + 1, fun (j : Nat) ↦ if (j == (↑i : Int).toNat + 0) = true then int IntKind.u32 (IntKind.u32.wrap (IntKind.u64.wrap (↑(BitVec.ofInt IntKind.u64.bits (↑c : Int) ||| BitVec.ofInt IntKind.u64.bits (IntKind.u64.wrap (IntKind.u64.wrap (↑(z (↑i : Int).toNat) : Int) * (2 : Int) ^ min (↑s : Int).toNat IntKind.u64.bits))).toNat : Int))) else aj o j⟩)])))))) (af.leaf (ak.exit 0) ([ah 1 n (aj z), int IntKind.i64 (↑s : Int), own 7 1 0 (n + 1), int IntKind.u64 (↑c : Int), ah 1 n (aj z), int IntKind.i64 (↑n : Int), int IntKind.i64 (↑i : Int)], [((7 : Nat), ⟨true, true, 1, n + 1, aj o⟩)]))) := by kernel_rfl
theorem NQ {B x y r v w' t : Nat} (hr : r + y = x + w' * 4294967296) (h : v = t) : v + r * B + y * B = t + x * B + w' * (4294967296 * B) := by
 subst h
 have : (r + y) * B = (x + w' * 4294967296) * B := by rw [hr]
 grind
theorem Hz {x y : Nat} (hx : x < 2 ^ 32) (hy : y ≤ 2 ^ 32) : ∃ r w : Nat, r < 2 ^ 32 ∧ w ≤ 1 ∧ r + y = x + w * 4294967296 ∧ ((x : Int) - y) % 2 ^ 64 % 2 ^ 32 = r ∧ ((x : Int) - y) % 2 ^ 64 / 9223372036854775808 = w := by
 rcases Nat.lt_or_ge x y with h | h
 ·exact ⟨x + 4294967296 - y, 1, by omega, by omega, by omega, by omega, by omega⟩
 ·exact ⟨x - y, 0, by omega, by omega, by omega, by omega, by omega⟩
abbrev qA : List Nat := [1, 6, 7, 21, 22, 23, 4, 5]
abbrev zF (B n : Nat) (z : Nat → Nat) (K w i : Nat) : List AV := [.mag B, .own K 1 0 n, .int .u64 w, .ah 1 n (aj z), .int .i64 n, .int .i64 i, .nil, .int .i64 0]
theorem JT {n m : Nat} {z y : Nat → Nat} (hz : ∀ i, i < n → z i < 2 ^ 32) (hy : ∀ i, i < m → y i < 2 ^ 32) (hn : n < 2 ^ 40) (hm' : m < 2 ^ 40) (K : Nat) (pre : aB) :
  aC P sW K [.ah 1 n (aj z), .ah 1 m (aj y)] pre (aK (.tuple [.mag (val n z - val m y), .int .i64 (if val n z < val m y then 7 else 0)]) []) := by
 refine gA hT Tq rfl (of_decide_eq_true (by kernel_rfl)) rfl (fun _ c h0 => ?_) K pre
 refine aq.hole [1,1,1,1,1,0,1] (by kernel_rfl) (aA.aS hT Sf hm 30 qA PG (by kernel_rfl) ?_)
 have hA : nl (val n z) ≤ n := cw.2 (ec hz)
 have hAlt := ec hz
 generalize hB : val m y = B at *
 simp only [af.all, ay, decide_eq_true_eq, decide_eq_false_iff_not, gI, hB]
 refine ⟨⟨eG hz, eG hy, by omega, by omega⟩, fun hb s' hv => ?_, fun hb => ⟨⟨eG hy, by omega⟩, by omega, fun s' hv => ?_⟩⟩
 ·have h1 : val n z < B := by
   unfold bO at hb
   split at hb
   ·assumption
   ·split at hb <;> omega
  refine eL (us := [.nil, .int .i64 7]) (.inr rfl) hv (by kernel_rfl) ⟨iB.trans (cV (congrArg AV.mag (by omega))), bm (by rw [if_pos h1]), trivial⟩
 have hBA : B ≤ val n z := by
  unfold bO at hb
  split at hb <;> omega
 have hnB : nl B ≤ n := Nat.le_trans (fo hBA) hA
 refine aq.fz (i := 0) (y := part (ax jn) [1,1,1,1,1,0,1,0,0]) (by kernel_rfl)
  (fun p : Nat × Nat × (Nat → Nat) => ⟨az qA (zF B n z 7 p.2.1 p.1), [(7, ⟨true, true, 1, n, aj p.2.2⟩)], 8⟩)
  (fun p => p.1 ≤ n ∧ p.2.1 ≤ 1 ∧ (∀ j, j < n → p.2.2 j < 2 ^ 32) ∧ val p.1 p.2.2 + val (min p.1 (nl B)) (au B) = val p.1 z + p.2.1 * 2 ^ (32 * p.1))
  (fun p => n - p.1) (0, 0, fun _ => 0)
  (cz [(7, 45056)] hv h0 rfl ⟨⟨rfl, aG rfl⟩, ⟨rfl, cH rfl rfl rfl⟩, ⟨rfl, aG rfl⟩, ⟨rfl, aG rfl⟩, ⟨rfl, aG rfl⟩, ⟨rfl, aG rfl⟩, ⟨rfl, aG rfl⟩, ⟨rfl, aG rfl⟩, trivial⟩
   ⟨⟨_, _, rfl, rfl, dU rfl fun j _ => rfl⟩, trivial⟩)
  ⟨by simp, by simp, fun j _ => by simp, by simp [val]⟩ ?_
 rintro ⟨i, w, o⟩ ⟨hi, hw, ho, hval⟩
 simp only at hi hw ho hval
 refine aq.aS hT aY hm 30 qA PR (by kernel_rfl) ?_
 have key : ∀ {yi : Nat} {s' : aE} {u v : Int} {f' : Nat → AV} {r w' : Nat}, i < n → yi = (if i < nl B then au B i else 0) → r < 2 ^ 32 → w' ≤ 1 → r + (w + yi) = z i + w' * 4294967296 →
   aQ qA s' = some ([.mag B, .own 7 1 0 n, .int .u64 u, .ah 1 n (aj z), .int .i64 n, .int .i64 v, .nil, .int .i64 0], [(7, ⟨true, true, 1, n, f'⟩)]) →
   u = (w' : Nat) → v = (i + 1 : Nat) → (∀ j, f' j = aj (bI o i r) j) → 
   ∃ k : Nat × Nat × (Nat → Nat), (∃ ρ, Le c ρ s' ⟨az qA (zF B n z 7 k.2.1 k.1), [(7, ⟨true, true, 1, n, aj k.2.2⟩)], 8⟩) ∧
    (k.1 ≤ n ∧ k.2.1 ≤ 1 ∧ (∀ j, j < n → k.2.2 j < 2 ^ 32) ∧ val k.1 k.2.2 + val (min k.1 (nl B)) (au B) = val k.1 z + k.2.1 * 2 ^ (32 * k.1)) ∧ n - k.1 < n - i := by
  intro yi s' u v f' r w' hin hyi hr hw1 hrw hv hu hv1 hf
  refine ⟨(i + 1, w', bI o i r), cz [(7, 7)] hv h0 rfl ⟨⟨rfl, aG rfl⟩, ⟨rfl, cH rfl rfl rfl⟩, ⟨rfl, eB hu⟩, ⟨rfl, aG rfl⟩, ⟨rfl, aG rfl⟩, ⟨rfl, eB hv1⟩, ⟨rfl, aG rfl⟩, ⟨rfl, aG rfl⟩, trivial⟩
   ⟨⟨_, _, rfl, rfl, dU rfl fun j _ => hf j⟩, trivial⟩, ⟨by simp only; omega, hw1, fA hr ho, ?_⟩, by simp only; omega⟩
  simp only
  rw [G0, ← hyi, nL, fq]
  show _ = val i z + z i * 2 ^ (32 * i) + _
  have := NQ (B := 2 ^ (32 * i)) hrw hval
  rw [Nat.add_mul] at this
  omega
 have fin : i = n → ∀ s', aQ qA s' = some (zF B n z 7 w i, [(7, ⟨true, true, 1, n, aj o⟩)]) →
   aA P c jn.ntmps (behind (ax jn) [1,1,1,1,1,0,1]) s' (Fin T jn (.tuple [.mag (val n z - B), .int .i64 (if val n z < B then 7 else 0)])) := by
  intro hin s' hv
  subst hin
  rw [Nat.min_eq_right hnB, ew] at hval
  have hlt := ec ho
  have hw0 : w = 0 := by
   rcases Nat.eq_zero_or_pos w with h | h
   ·exact h
   ·have : w = 1 := by omega
    subst this
    omega
  subst hw0
  refine aA.weak (by kernel_rfl) (cz (vs := zF B i z 7 0 i) (ps := [(7, ⟨true, true, 1, i, aj o⟩)]) (nx := 8) [(7, 7)] hv h0 rfl
    ⟨⟨rfl, aG rfl⟩, ⟨rfl, cH rfl rfl rfl⟩, ⟨rfl, aG rfl⟩, ⟨rfl, aG rfl⟩, ⟨rfl, aG rfl⟩, ⟨rfl, aG rfl⟩, ⟨rfl, aG rfl⟩, ⟨rfl, aG rfl⟩, trivial⟩
    ⟨⟨_, _, rfl, rfl, dU rfl fun j _ => rfl⟩, trivial⟩)
   (aA.fin hT eM hm 30 PC (by kernel_rfl) ?_)
  simp only [af.all, ay, Nat.add_zero, gI]
  exact ⟨⟨eG ho, by omega⟩, cV (congrArg AV.mag (by omega)), bm (by rw [if_neg (by omega)]), trivial⟩
 simp only [af.all, ay, decide_eq_true_eq, decide_eq_false_iff_not, Int.toNat_natCast, Nat.add_zero, beq_iff_eq]
 refine ⟨fun hb => ?_, fun hb s' hv => fin (by omega) s' hv⟩
 have h1 : i < n := by omega
 have hzi := hz i h1
 have hl := cE (N := B) (i := i)
 have e1 : IntKind.u64.wrap (z i : Int) = (z i : Int) := bA (by omega) (by omega)
 have e2 : IntKind.u64.wrap (au B i : Int) = (au B i : Int) := bA (by omega) (by omega)
 have e3 : IntKind.u64.wrap ((w : Int) + (au B i : Int)) = ((w + au B i : Nat) : Int) := by rw [bA (by omega) (by omega)]; omega
 rw [e1, e2, e3]
 refine ⟨by omega, fun hb2 => ?_, fun hb2 => ?_⟩
 ·have h2 : i < nl B := by omega
  obtain ⟨r, w', q1, q2, q3, q4, q5⟩ := Hz hzi (y := w + au B i) (by omega)
  refine ⟨by omega, by omega, by omega, fun s' hv => key (yi := au B i) h1 (by rw [if_pos h2]) q1 q2 q3 hv ?_ (by rw [wrap_i64 (by omega) (by omega)]; omega) fun j => eZ ?_ j⟩
  ·rw [BH, kO]; exact q5
  ·rw [iU, kO]; exact q4
 ·have h2 : ¬ i < nl B := by omega
  obtain ⟨r, w', q1, q2, q3, q4, q5⟩ := Hz hzi (y := w) (by omega)
  refine ⟨by omega, by omega, fun s' hv => key (yi := 0) h1 (by rw [if_neg h2]) q1 q2 q3 hv ?_ (by rw [wrap_i64 (by omega) (by omega)]; omega) fun j => eZ ?_ j⟩
  ·rw [BH, kO]; exact q5
  ·rw [iU, kO]; exact q4
theorem Wc {r x : Nat} (hr : r < 2 ^ 32) (hx : x < 2 ^ 32) :
  IntKind.u64.wrap ((BitVec.ofInt IntKind.u64.bits (IntKind.u64.wrap ((r : Int) * 2 ^ min (Int.toNat 32) IntKind.u64.bits)) ||| BitVec.ofInt IntKind.u64.bits (IntKind.u64.wrap (x : Int))).toNat : Int) = ((r * 4294967296 + x : Nat) : Int) := by
 rw [s7, bA (x := (x : Int)) (by omega) (by omega), bA (x := (r : Int) * 4294967296) (by omega) (by omega)]
 rw [show (r : Int) * 4294967296 = ((r * 2 ^ 32 : Nat) : Int) by omega, pM (by omega) (by omega), oq hx]
theorem Gy {r z b B v t vz q r' : Nat} (h : v * b + r * (4294967296 * B) + (vz + z * B) = t) (hq : r * 4294967296 + z = b * q + r') : (v + q * B) * b + r' * B + vz = t := by
 have : (r * 4294967296 + z) * B = (b * q + r') * B := by rw [hq]
 grind
abbrev AD : List Nat := [0, 1, 6, 7, 8]
abbrev HL (n : Nat) (z : Nat → Nat) (b K r k : Nat) : List AV := [.ah 1 n (aj z), .int .u32 b, .own K 1 0 n, .int .u64 r, .int .i64 ((k : Int) - 1)]
theorem UT {n b : Nat} {z : Nat → Nat} (hz : ∀ i, i < n → z i < 2 ^ 32) (hn : n < 2 ^ 40) (hb0 : 0 < b) (hb32 : b < 2 ^ 32) (K : Nat) (pre : aB) :
  aC P tG K [.ah 1 n (aj z), .int .u32 b] pre (aK (.tuple [.mag (val n z / b), .int .u32 (val n z % b : Nat)]) []) := by
 refine gA hT MX rfl (of_decide_eq_true (by kernel_rfl)) rfl (fun _ c h0 => ?_) K pre
 refine aq.hole [1,1,1,0,1] (by kernel_rfl) (aA.aS hT eM hm 30 AD OP (by kernel_rfl) ?_)
 simp only [af.all, ay]
 refine ⟨by omega, fun s' hv => ?_⟩
 refine aq.fz (i := 0) (y := part (ax mc) [1,1,1,0,1,0,0]) (by kernel_rfl)
  (fun p : Nat × Nat × (Nat → Nat) => ⟨az AD (HL n z b 7 p.2.1 p.1), [(7, ⟨true, true, 1, n, aj p.2.2⟩)], 8⟩)
  (fun p => p.1 ≤ n ∧ p.2.1 < b ∧ (∀ j, j < n → p.2.2 j < 2 ^ 32) ∧ (∀ j, j < p.1 → p.2.2 j = 0) ∧ val n p.2.2 * b + p.2.1 * 2 ^ (32 * p.1) + val p.1 z = val n z)
  (fun p => p.1) (n, 0, fun _ => 0)
  (cz [(7, 16384)] hv h0 rfl ⟨⟨rfl, aG rfl⟩, ⟨rfl, aG rfl⟩, ⟨rfl, cH rfl rfl rfl⟩, ⟨rfl, aG rfl⟩, ⟨rfl, eB (wrap_i64 (by omega) (by omega))⟩, trivial⟩
   ⟨⟨_, _, rfl, rfl, dU rfl fun j _ => rfl⟩, trivial⟩)
  ⟨by simp, hb0, fun j _ => by simp, fun j _ => rfl, ?_⟩ ?_
 ·simp only
  rw [jV (k := 0) (by omega) fun _ _ _ => rfl]
  simp [val]
 rintro ⟨k, r, o⟩ ⟨hk, hr, ho, ho0, hval⟩
 simp only at hk hr ho ho0 hval
 refine aq.aS hT aY hm 30 AD Zq (by kernel_rfl) ?_
 simp only [af.all, ay, decide_eq_true_eq, decide_eq_false_iff_not, Nat.add_zero, beq_iff_eq]
 have hbw : IntKind.u64.wrap (b : Int) = (b : Int) := bA (by omega) (by omega)
 refine ⟨fun hb => ?_, fun hb s' hv => ?_⟩
 ·obtain ⟨j, rfl⟩ : ∃ j, k = j + 1 := ⟨k - 1, by omega⟩
  have e : (((j + 1 : Nat) : Int) - 1).toNat = j := by omega
  have hzj := hz j (by omega)
  have hor := Wc (r := r) (x := z j) (by omega) hzj
  rw [e, hor, hbw]
  have hq1 : (r * 4294967296 + z j) / b < 2 ^ 32 := by
   rw [Nat.div_lt_iff_lt_mul hb0]
   have : (r + 1) * 4294967296 ≤ b * 4294967296 := Nat.mul_le_mul_right _ hr
   omega
  have hdm := Nat.div_add_mod (r * 4294967296 + z j) b
  refine ⟨⟨by omega, by omega, by omega⟩, ⟨by omega, ⟨by omega, by omega⟩, by omega⟩, by omega, fun s' hv => ⟨(j, (r * 4294967296 + z j) % b, bI o j ((r * 4294967296 + z j) / b)), ?_, ⟨by simp only; omega, Nat.mod_lt _ hb0, fA hq1 ho, fun i hi => ?_, ?_⟩, by simp only; omega⟩⟩
  ·refine cz [(7, 7)] hv h0 rfl ⟨⟨rfl, aG rfl⟩, ⟨rfl, aG rfl⟩, ⟨rfl, cH rfl rfl rfl⟩, ⟨rfl, eB (Int.ofNat_tmod _ _).symm⟩, ⟨rfl, eB ?_⟩, trivial⟩
    ⟨⟨_, _, rfl, rfl, dU rfl fun i _ => eZ ?_ i⟩, trivial⟩
   ·rw [wrap_i64 (by omega) (by omega)]; simp only; omega
   ·rw [← Int.ofNat_tdiv]
    clear hdm
    generalize (r * 4294967296 + z j) / b = q at hq1 ⊢
    rw [bA (by omega) (by omega), wrap_u32 (by omega) (by omega)]
  ·exact (dY (by simp only at hi; omega)).trans (ho0 i (by simp only at hi; omega))
  ·simp only
   rw [mT (by omega) (ho0 j (by omega))]
   rw [fq, val] at hval
   exact Gy hval hdm.symm
 ·have hk0 : k = 0 := by omega
  subst hk0
  have hv2 : val n o * b + r = val n z := by simpa [val] using hval
  refine aA.weak (by kernel_rfl) (cz (vs := HL n z b 7 r 0) (ps := [(7, ⟨true, true, 1, n, aj o⟩)]) (nx := 8) [(7, 7)] hv h0 rfl
    ⟨⟨rfl, aG rfl⟩, ⟨rfl, aG rfl⟩, ⟨rfl, cH rfl rfl rfl⟩, ⟨rfl, aG rfl⟩, ⟨rfl, aG rfl⟩, trivial⟩
    ⟨⟨_, _, rfl, rfl, dU rfl fun j _ => rfl⟩, trivial⟩)
   (aA.fin hT eM hm 30 Oz (by kernel_rfl) ?_)
  simp only [af.all, ay, Nat.add_zero, gI]
  have hdiv : val n z / b = val n o := by
   rw [← hv2, Nat.mul_comm, Nat.mul_add_div hb0, Nat.div_eq_of_lt hr, Nat.add_zero]
  have hmod : val n z % b = r := by
   rw [← hv2, Nat.mul_comm, Nat.mul_add_mod, Nat.mod_eq_of_lt hr]
  exact ⟨⟨eG ho, by omega⟩, cV (congrArg AV.mag hdiv.symm), bm (by rw [hmod, wrap_u32 (by omega) (by omega)]), trivial⟩
theorem Mk {x s : Nat} (hs : s < 32) (hx : x < 2 ^ 32) : IntKind.u64.wrap (IntKind.u64.wrap (x : Int) * 2 ^ min (s : Int).toNat IntKind.u64.bits) = ((x * 2 ^ s : Nat) : Int) ∧ x * 2 ^ s < 2 ^ 64 := by
 have e : min (s : Int).toNat IntKind.u64.bits = s := by
  have : IntKind.u64.bits = 64 := rfl
  omega
 have hlt : x * 2 ^ s < 2 ^ 64 := by
  have h1 : 2 ^ s ≤ 2 ^ 31 := Nat.pow_le_pow_right (by omega) (by omega)
  have h2 : x * 2 ^ s ≤ 2 ^ 32 * 2 ^ 31 := Nat.mul_le_mul (by omega) h1
  omega
 refine ⟨?_, hlt⟩
 rw [e, bA (x := (x : Int)) (by omega) (by omega)]
 have : (x : Int) * 2 ^ s = ((x * 2 ^ s : Nat) : Int) := by simp
 rw [this]
 exact bA (by omega) (by omega)
theorem CY {c x s : Nat} (hs : s < 32) (hx : x < 2 ^ 32) (hc : c < 2 ^ s) :
  IntKind.u64.wrap ((BitVec.ofInt IntKind.u64.bits (c : Int) ||| BitVec.ofInt IntKind.u64.bits (IntKind.u64.wrap (IntKind.u64.wrap (x : Int) * 2 ^ min (s : Int).toNat IntKind.u64.bits))).toNat : Int) = ((c + x * 2 ^ s : Nat) : Int) := by
 obtain ⟨h1, h2⟩ := Mk hs hx
 have h3 : 2 ^ s ≤ 2 ^ 31 := Nat.pow_le_pow_right (by omega) (by omega)
 rw [h1, pM (by omega) h2, Nat.or_comm, oq hc, Nat.add_comm]
theorem EB {c x s : Nat} (hs : s < 32) (hx : x < 2 ^ 32) (hc : c < 2 ^ s) : c + x * 2 ^ s < 2 ^ 63 ∧ (c + x * 2 ^ s) / 4294967296 < 2 ^ s := by
 have h3 : 2 ^ s ≤ 2 ^ 31 := Nat.pow_le_pow_right (by omega) (by omega)
 have h4 : (x + 1) * 2 ^ s ≤ 2 ^ 32 * 2 ^ s := Nat.mul_le_mul_right _ hx
 rw [Nat.add_mul, Nat.one_mul] at h4
 refine ⟨by omega, ?_⟩
 rw [Nat.div_lt_iff_lt_mul (by omega)]
 omega
theorem Iu {B c x t v S : Nat} (h : v + c * B = t * S) : v + (c + x * S) % 4294967296 * B + (c + x * S) / 4294967296 * (4294967296 * B) = (t + x * B) * S := by
 have h1 := Nat.div_add_mod (c + x * S) 4294967296
 generalize (c + x * S) / 4294967296 = q at *
 generalize (c + x * S) % 4294967296 = r at *
 have : (4294967296 * q + r) * B = (c + x * S) * B := by rw [h1]
 grind
abbrev zn : List Nat := [0, 1, 5, 6, 13, 14, 15]
abbrev GP (n s : Nat) (z : Nat → Nat) (K c i : Nat) : List AV := [.ah 1 n (aj z), .int .i64 s, .own K 1 0 (n + 1), .int .u64 c, .ah 1 n (aj z), .int .i64 n, .int .i64 i]
theorem MZ {n s : Nat} {z : Nat → Nat} (hz : ∀ i, i < n → z i < 2 ^ 32) (hn : n < 2 ^ 40) (hs : s < 32) {c : Ctx} (h0 : c.k0 = aR) {Q : ak → aE → Prop}
  (fin : ∀ (c' : Nat) (o : Nat → Nat) (s' : aE), c' < 2 ^ s → (∀ j, j < n + 1 → o j < 2 ^ 32) → val n o + c' * 2 ^ (32 * n) = val n z * 2 ^ s → aQ zn s' = some (GP n s z 7 c' n, [(7, ⟨true, true, 1, n + 1, aj o⟩)]) →
   aA P c jk.ntmps (behind (ax jk) [1,1,1,0,1]) s' Q) :
  aq P c jk.ntmps (ax jk) ⟨aN 0 [.ah 1 n (aj z), .int .i64 s], [], 0⟩ Q := by
 refine aq.hole [1,1,1,0,1] (by kernel_rfl) (aA.aS hT eM hm 30 zn KT (by kernel_rfl) ?_)
 have hw : IntKind.i64.wrap ((n : Int) + 1) = ((n + 1 : Nat) : Int) := by rw [wrap_i64 (by omega) (by omega)]; omega
 simp only [af.all, ay, hw, Int.toNat_natCast]
 refine ⟨by omega, fun s' hv => ?_⟩
 refine aq.fz (i := 0) (y := part (ax jk) [1,1,1,0,1,0,0]) (by kernel_rfl)
  (fun p : Nat × Nat × (Nat → Nat) => ⟨az zn (GP n s z 7 p.2.1 p.1), [(7, ⟨true, true, 1, n + 1, aj p.2.2⟩)], 8⟩)
  (fun p => p.1 ≤ n ∧ p.2.1 < 2 ^ s ∧ (∀ j, j < n + 1 → p.2.2 j < 2 ^ 32) ∧ val p.1 p.2.2 + p.2.1 * 2 ^ (32 * p.1) = val p.1 z * 2 ^ s)
  (fun p => n - p.1) (0, 0, fun _ => 0)
  (cz [(7, 16384)] hv h0 rfl ⟨⟨rfl, aG rfl⟩, ⟨rfl, aG rfl⟩, ⟨rfl, cH rfl rfl rfl⟩, ⟨rfl, aG rfl⟩, ⟨rfl, aG rfl⟩, ⟨rfl, aG rfl⟩, ⟨rfl, aG rfl⟩, trivial⟩
   ⟨⟨_, _, rfl, rfl, dU rfl fun j _ => rfl⟩, trivial⟩)
  ⟨by simp, Nat.two_pow_pos s, fun j _ => by simp, by simp [val]⟩ ?_
 rintro ⟨i, c', o⟩ ⟨hi, hc, ho, hval⟩
 simp only at hi hc ho hval
 refine aq.aS hT aY hm 30 zn U3 (by kernel_rfl) ?_
 simp only [af.all, ay, decide_eq_true_eq, decide_eq_false_iff_not, Nat.add_zero, beq_iff_eq, Int.toNat_natCast]
 refine ⟨fun hb => ?_, fun hb s' hv => ?_⟩
 ·have h1 : i < n := by omega
  have hzi := hz i h1
  have hor := CY hs hzi hc
  simp only [Int.toNat_natCast] at hor
  rw [hor]
  obtain ⟨b1, b2⟩ := EB hs hzi hc
  refine ⟨by omega, by omega, by omega, by omega, fun s' hv => ⟨(i + 1, (c' + z i * 2 ^ s) / 4294967296, bI o i ((c' + z i * 2 ^ s) % 4294967296)), ?_, ⟨by simp only; omega, b2, fA (by omega) ho, ?_⟩, by simp only; omega⟩⟩
  ·refine cz [(7, 7)] hv h0 rfl ⟨⟨rfl, aG rfl⟩, ⟨rfl, aG rfl⟩, ⟨rfl, cH rfl rfl rfl⟩, ⟨rfl, eB ?_⟩, ⟨rfl, aG rfl⟩, ⟨rfl, aG rfl⟩, ⟨rfl, eB ?_⟩, trivial⟩
    ⟨⟨_, _, rfl, rfl, dU rfl fun j _ => eZ ?_ j⟩, trivial⟩
   ·rw [iY]; simp only; omega
   ·rw [wrap_i64 (by omega) (by omega)]; simp only; omega
   ·rw [gC]
  ·simp only
   rw [nL, fq]
   exact Iu hval
 ·have hin : i = n := by omega
  subst hin
  exact fin c' o s' hc ho hval hv
theorem Wr {s c' i : Nat} {o : Nat → Nat} (hs : s < 32) (hc : c' < 2 ^ s) : ∀ j, (if j = i then AV.int .u32 (IntKind.u32.wrap (c' : Int)) else aj o j) = aj (bI o i c') j := fun j => eZ (by
 have h3 : 2 ^ s ≤ 2 ^ 31 := Nat.pow_le_pow_right (by omega) (by omega)
 exact wrap_u32 (by omega) (by omega)) j
def FV (A n B m : Nat) : cC := aK (.tuple [.mag (A - B), .int .i64 (if A < B then 7 else 0)]) [n < 2 ^ 40, m < 2 ^ 40]
theorem UF : ∀ K args pre r, bu (fP FV) K args pre = some r → aC P sW K args pre r :=
 bQ (pJ fun _ _ _ _ K hz hy need => JT hz hy need.1 need.2 K [])
def F1 (N n : Nat) (b : Int) : cC := aK (.tuple [.mag (N / b.toNat), .int .u32 (N % b.toNat : Nat)]) [n < 2 ^ 40, 0 < b, b < 2 ^ 32]
theorem Zt : ∀ K args pre r, bu (xl F1) K args pre = some r → aC P tG K args pre r :=
 bQ (Wd fun z n i K hz need => by
  obtain ⟨h1, h2, h3⟩ : n < 2 ^ 40 ∧ 0 < i ∧ i < 2 ^ 32 := need
  obtain ⟨b, rfl⟩ := Int.eq_ofNat_of_zero_le (Int.le_of_lt h2)
  exact UT hz h1 (by omega) (by omega) K [])
end Go.Am.B
