/- natural.Sub, natural.small, natural.raise. -/
import Derived.Test.YtjhhblmbiaghfaaB3
set_option linter.unusedVariables false
namespace Go.Am.B
open Go Go.Am.N AV
theorem Tz : aO P pW iW (ax iW) := aS RS (by kernel_rfl) (by kernel_rfl) (by kernel_rfl)
theorem Na : aO P q9 kD (ax kD) := aS T7 (by kernel_rfl) (by kernel_rfl) (by kernel_rfl)
theorem I8 : aO P rV iI (ax iI) := aS RF (by kernel_rfl) (by kernel_rfl) (by kernel_rfl)
def G2 : bf := (me, bp (fq vD)) :: G1
theorem Rt : bC P G2 := aK zS eA
theorem IY {n m : Nat} {z y : Nat → Nat} : aG T G2 [15] 30 [1, 6, 7, 21, 22, 23, 4, 5] (before (ax iW) [1,1,1,1,1,0,1]) ⟨aM 0 [.ah 1 n (ag z), .ah 1 m (ag y)], [], 0⟩ =
  some (aa.af [cD n (ag z), cD m (ag y), n < 2 ^ 40, m < 2 ^ 40] (aa.fork (decide (bI (val n fun (i : Nat) ↦ numOf (ag z i)) (val m fun (i : Nat) ↦ numOf (ag y i)) < (0 : Int))) (aa.leaf aj.ret ([ah 1 m (ag y), tuple [], tuple [], tuple [], tuple [], tuple [], nil, int IntKind.i64 (7 : Int)], [])) (aa.af [cD m (ag y), m < 2 ^ 62] (aa.af [(0 : Int) ≤ (↑n : Int) ∧ (↑n : Int) ≤ (↑n : Int) ∧ (↑n : Int) ≤ (2 : Int) ^ 47 ∧ (↑n : Int) * (↑(4 : Nat) : Int) ≤ (2 : Int) ^ 47] (aa.leaf aj.normal ([mag (val m fun (i : Nat) ↦ numOf (ag y i)), own 45056 1 0 (↑n : Int).toNat, int IntKind.u64 (0 : Int), ah 1 n (ag z), int IntKind.i64 (↑n : Int), int IntKind.i64 (0 : Int), nil, int IntKind.i64 (0 : Int)], [((45056 : Nat), ⟨true, true, 1, (↑n : Int).toNat, fun (x : Nat) ↦ int IntKind.u32 (0 : Int)⟩)])))))) := by kernel_rfl
theorem Lw {n B i w : Nat} {z o : Nat → Nat} : aG T [] [24, 32] 30 [1, 6, 7, 21, 22, 23, 4, 5] [part (ax iW) [1,1,1,1,1,0,1,0,0]] ⟨aB [1, 6, 7, 21, 22, 23, 4, 5] [.mag B, .own 7 1 0 n, .int .u64 w, .ah 1 n (ag z), .int .i64 n, .int .i64 i, .nil, .int .i64 0], [(7, ⟨true, true, 1, n, ag o⟩)], 8⟩ =
  some (aa.fork (decide ((↑i : Int) < (↑n : Int))) (aa.af [(0 : Int) ≤ (↑i : Int) ∧ (↑i : Int).toNat < n] (aa.fork (decide ((↑i : Int) < (↑(nl B) : Int))) (aa.af [(0 : Int) ≤ (↑i : Int) ∧ (↑i : Int).toNat < nl B] (aa.af [(0 : Int) ≤ (↑i : Int) ∧ (↑i : Int).toNat < n, (↑i : Int).toNat + 0 < n] (aa.af [(0 : Int) ≤ (63 : Int)] (aa.leaf aj.normal ([mag B, own 7 1 0 n, int IntKind.u64 ((IntKind.u64.wrap (IntKind.u64.wrap (↑(z (↑i : Int).toNat) : Int) - IntKind.u64.wrap ((↑w : Int) + IntKind.u64.wrap (↑(au B (↑i : Int).toNat) : Int)))).fdiv ((2 : Int) ^ min (Int.toNat (63 : Int)) IntKind.u64.bits)), ah 1 n (ag z), int IntKind.i64 (↑n : Int), int IntKind.i64 (IntKind.i64.wrap ((↑i : Int) + (1 : Int))), nil, int IntKind.i64 (0 : Int)], [((7 : Nat), ⟨true, true, 1, n, fun (j : Nat) ↦ if (j == (↑i : Int).toNat + 0) = true then int IntKind.u32 (IntKind.u32.wrap (IntKind.u64.wrap (IntKind.u64.wrap (↑(z (↑i : Int).toNat) : Int) - IntKind.u64.wrap ((↑w : Int) + IntKind.u64.wrap (↑(au B (↑i : Int).toNat) : Int))))) else ag o j⟩)]))))) (aa.af [(0 : Int) ≤ (↑i : Int) ∧ (↑i : Int).toNat < n, (↑i : Int).toNat + 0 < n] (aa.af [(0 : Int) ≤ (63 : Int)] (aa.leaf aj.normal ([mag B, own 7 1 0 n, int IntKind.u64 ((IntKind.u64.wrap (IntKind.u64.wrap (↑(z (↑i : Int).toNat) : Int) - (↑w : Int))).fdiv ((2 : Int) ^ min (Int.toNat (63 : Int)) IntKind.u64.bits)), ah 1 n (ag z), int IntKind.i64 (↑n : Int), int IntKind.i64 (IntKind.i64.wrap ((↑i : Int) + (1 : Int))), nil, int IntKind.i64 (0 : Int)], [((7 : Nat), ⟨true, true, 1, n, fun (j : Nat) ↦ if (j == (↑i : Int).toNat + 0) = true then int IntKind.u32 (IntKind.u32.wrap (IntKind.u64.wrap (IntKind.u64.wrap (↑(z (↑i : Int).toNat) : Int) - (↑w : Int)))) else ag o j⟩)])))))) (aa.leaf (aj.exit 0) ([mag B, own 7 1 0 n, int IntKind.u64 (↑w : Int), ah 1 n (ag z), int IntKind.i64 (↑n : Int), int IntKind.i64 (↑i : Int), nil, int IntKind.i64 (0 : Int)], [((7 : Nat), ⟨true, true, 1, n, ag o⟩)]))) := by kernel_rfl
theorem F2 {n B i w : Nat} {z o : Nat → Nat} : cJ T G1 [] 30 iW (behind (ax iW) [1,1,1,1,1,0,1]) ⟨aB [1, 6, 7, 21, 22, 23, 4, 5] [.mag B, .own 7 1 0 n, .int .u64 w, .ah 1 n (ag z), .int .i64 n, .int .i64 i, .nil, .int .i64 0], [(7, ⟨true, true, 1, n, ag o⟩)], 8⟩ =
  some (aa.af [cD n fun (i : Nat) ↦ ag o (i + 0), n < 2 ^ 62] (aa.leaf aj.ret [mag (val n fun (i : Nat) ↦ numOf (ag o (i + 0))), int IntKind.i64 (0 : Int)])) := by kernel_rfl
theorem QA {n b : Nat} {z : Nat → Nat} : aG T G1 [] 30 [0, 1, 6, 7, 8] (before (ax kD) [1,1,1,0,1]) ⟨aM 0 [.ah 1 n (ag z), .int .u32 b], [], 0⟩ =
  some (aa.af [(0 : Int) ≤ (↑n : Int) ∧ (↑n : Int) ≤ (↑n : Int) ∧ (↑n : Int) ≤ (2 : Int) ^ 47 ∧ (↑n : Int) * (↑(4 : Nat) : Int) ≤ (2 : Int) ^ 47] (aa.leaf aj.normal ([ah 1 n (ag z), int IntKind.u32 (↑b : Int), own 16384 1 0 (↑n : Int).toNat, int IntKind.u64 (0 : Int), int IntKind.i64 (IntKind.i64.wrap ((↑n : Int) - (1 : Int)))], [((16384 : Nat), ⟨true, true, 1, (↑n : Int).toNat, fun (x : Nat) ↦ int IntKind.u32 (0 : Int)⟩)]))) := by kernel_rfl
theorem Hv {n b k r : Nat} {z o : Nat → Nat} : aG T [] [16] 30 [0, 1, 6, 7, 8] [part (ax kD) [1,1,1,0,1,0,0]] ⟨aB [0, 1, 6, 7, 8] [.ah 1 n (ag z), .int .u32 b, .own 7 1 0 n, .int .u64 r, .int .i64 ((k : Int) - 1)], [(7, ⟨true, true, 1, n, ag o⟩)], 8⟩ =
  some (aa.fork (decide ((↑k : Int) - (1 : Int) ≥ (0 : Int))) (aa.af [(0 : Int) ≤ (32 : Int), (0 : Int) ≤ (↑k : Int) - (1 : Int) ∧ ((↑k : Int) - (1 : Int)).toNat < n] (aa.af [IntKind.u64.wrap (↑b : Int) ≠ (0 : Int), (0 : Int) ≤ (↑k : Int) - (1 : Int) ∧ ((↑k : Int) - (1 : Int)).toNat < n, ((↑k : Int) - (1 : Int)).toNat + 0 < n] (aa.af [IntKind.u64.wrap (↑b : Int) ≠ (0 : Int)] (aa.leaf aj.normal ([ah 1 n (ag z), int IntKind.u32 (↑b : Int), own 7 1 0 n, int IntKind.u64 ((IntKind.u64.wrap (↑(BitVec.ofInt IntKind.u64.bits (IntKind.u64.wrap ((↑r : Int) * (2 : Int) ^ min (Int.toNat (32 : Int)) IntKind.u64.bits)) ||| BitVec.ofInt IntKind.u64.bits (IntKind.u64.wrap (↑(z ((↑k : Int) - (1 : Int)).toNat) : Int))).toNat : Int)).tmod (IntKind.u64.wrap (↑b : Int))), int IntKind.i64 (IntKind.i64.wrap ((↑k : Int) - (1 : Int) - (1 : Int)))], [((7 : Nat), ⟨true, true, 1, n, fun (j : Nat) ↦ if (j == ((↑k : Int) - (1 : Int)).toNat + 0) = true then int IntKind.u32 (IntKind.u32.wrap (IntKind.u64.wrap ((IntKind.u64.wrap (↑(BitVec.ofInt IntKind.u64.bits (IntKind.u64.wrap ((↑r : Int) * (2 : Int) ^ min (Int.toNat (32 : Int)) IntKind.u64.bits)) ||| BitVec.ofInt IntKind.u64.bits (IntKind.u64.wrap (↑(z ((↑k : Int) - (1 : Int)).toNat) : Int))).toNat : Int)).tdiv (IntKind.u64.wrap (↑b : Int))))) else ag o j⟩)]))))) (aa.leaf (aj.exit 0) ([ah 1 n (ag z), int IntKind.u32 (↑b : Int), own 7 1 0 n, int IntKind.u64 (↑r : Int), int IntKind.i64 ((↑k : Int) - (1 : Int))], [((7 : Nat), ⟨true, true, 1, n, ag o⟩)]))) := by kernel_rfl
theorem Oe {n b k r : Nat} {z o : Nat → Nat} : cJ T G1 [] 30 kD (behind (ax kD) [1,1,1,0,1]) ⟨aB [0, 1, 6, 7, 8] [.ah 1 n (ag z), .int .u32 b, .own 7 1 0 n, .int .u64 r, .int .i64 ((k : Int) - 1)], [(7, ⟨true, true, 1, n, ag o⟩)], 8⟩ =
  some (aa.af [cD n fun (i : Nat) ↦ ag o (i + 0), n < 2 ^ 62] (aa.leaf aj.ret [mag (val n fun (i : Nat) ↦ numOf (ag o (i + 0))), int IntKind.u32 (IntKind.u32.wrap (↑r : Int))])) := by kernel_rfl
theorem Ib {n s : Nat} {z : Nat → Nat} : aG T G1 [] 30 [0, 1, 5, 6, 13, 14, 15] (before (ax iI) [1,1,1,0,1]) ⟨aM 0 [.ah 1 n (ag z), .int .i64 s], [], 0⟩ =
  some (aa.af [(0 : Int) ≤ IntKind.i64.wrap ((↑n : Int) + (1 : Int)) ∧ IntKind.i64.wrap ((↑n : Int) + (1 : Int)) ≤ IntKind.i64.wrap ((↑n : Int) + (1 : Int)) ∧ IntKind.i64.wrap ((↑n : Int) + (1 : Int)) ≤ (2 : Int) ^ 47 ∧ IntKind.i64.wrap ((↑n : Int) + (1 : Int)) * (↑(4 : Nat) : Int) ≤ (2 : Int) ^ 47] (aa.leaf aj.normal ([ah 1 n (ag z), int IntKind.i64 (↑s : Int), own 16384 1 0 (IntKind.i64.wrap ((↑n : Int) + (1 : Int))).toNat, int IntKind.u64 (0 : Int), ah 1 n (ag z), int IntKind.i64 (↑n : Int), int IntKind.i64 (0 : Int)], [((16384 : Nat), ⟨true, true, 1, (IntKind.i64.wrap ((↑n : Int) + (1 : Int))).toNat, fun (x : Nat) ↦ int IntKind.u32 (0 : Int)⟩)]))) := by kernel_rfl
theorem FV {n s i c : Nat} {z o : Nat → Nat} : aG T [] [16] 30 [0, 1, 5, 6, 13, 14, 15] [part (ax iI) [1,1,1,0,1,0,0]] ⟨aB [0, 1, 5, 6, 13, 14, 15] [.ah 1 n (ag z), .int .i64 s, .own 7 1 0 (n + 1), .int .u64 c, .ah 1 n (ag z), .int .i64 n, .int .i64 i], [(7, ⟨true, true, 1, n + 1, ag o⟩)], 8⟩ =
  some (aa.fork (decide ((↑i : Int) < (↑n : Int))) (aa.af [(0 : Int) ≤ (↑i : Int) ∧ (↑i : Int).toNat < n] (aa.af [(0 : Int) ≤ (↑s : Int)] (aa.af [(0 : Int) ≤ (↑i : Int) ∧ (↑i : Int).toNat < n + 1, (↑i : Int).toNat + 0 < n + 1] (aa.af [(0 : Int) ≤ (32 : Int)] (aa.leaf aj.normal ([ah 1 n (ag z), int IntKind.i64 (↑s : Int), own 7 1 0 (n + 1), int IntKind.u64 ((IntKind.u64.wrap (↑(BitVec.ofInt IntKind.u64.bits (↑c : Int) ||| BitVec.ofInt IntKind.u64.bits (IntKind.u64.wrap (IntKind.u64.wrap (↑(z (↑i : Int).toNat) : Int) * (2 : Int) ^ min (↑s : Int).toNat IntKind.u64.bits))).toNat : Int)).fdiv ((2 : Int) ^ min (Int.toNat (32 : Int)) IntKind.u64.bits)), ah 1 n (ag z), int IntKind.i64 (↑n : Int), int IntKind.i64 (IntKind.i64.wrap ((↑i : Int) + (1 : Int)))], [((7 : Nat), ⟨true, true, 1, n + 1, fun (j : Nat) ↦ if (j == (↑i : Int).toNat + 0) = true then int IntKind.u32 (IntKind.u32.wrap (IntKind.u64.wrap (↑(BitVec.ofInt IntKind.u64.bits (↑c : Int) ||| BitVec.ofInt IntKind.u64.bits (IntKind.u64.wrap (IntKind.u64.wrap (↑(z (↑i : Int).toNat) : Int) * (2 : Int) ^ min (↑s : Int).toNat IntKind.u64.bits))).toNat : Int))) else ag o j⟩)])))))) (aa.leaf (aj.exit 0) ([ah 1 n (ag z), int IntKind.i64 (↑s : Int), own 7 1 0 (n + 1), int IntKind.u64 (↑c : Int), ah 1 n (ag z), int IntKind.i64 (↑n : Int), int IntKind.i64 (↑i : Int)], [((7 : Nat), ⟨true, true, 1, n + 1, ag o⟩)]))) := by kernel_rfl
theorem PM {B x y r v w' t : Nat} (hr : r + y = x + w' * 4294967296) (h : v = t) : v + r * B + y * B = t + x * B + w' * (4294967296 * B) := by
 subst h
 have : (r + y) * B = (x + w' * 4294967296) * B := by rw [hr]
 grind
theorem EF {x y : Nat} (hx : x < 2 ^ 32) (hy : y ≤ 2 ^ 32) : ∃ r w : Nat, r < 2 ^ 32 ∧ w ≤ 1 ∧ r + y = x + w * 4294967296 ∧ ((x : Int) - y) % 2 ^ 64 % 2 ^ 32 = r ∧ ((x : Int) - y) % 2 ^ 64 / 9223372036854775808 = w := by
 rcases Nat.lt_or_ge x y with h | h
 ·exact ⟨x + 4294967296 - y, 1, by omega, by omega, by omega, by omega, by omega⟩
 ·exact ⟨x - y, 0, by omega, by omega, by omega, by omega, by omega⟩
abbrev nw : List Nat := [1, 6, 7, 21, 22, 23, 4, 5]
abbrev ug (B n : Nat) (z : Nat → Nat) (K w i : Nat) : List AV := [.mag B, .own K 1 0 n, .int .u64 w, .ah 1 n (ag z), .int .i64 n, .int .i64 i, .nil, .int .i64 0]
theorem Nb {n m : Nat} {z y : Nat → Nat} (hz : ∀ i, i < n → z i < 2 ^ 32) (hy : ∀ i, i < m → y i < 2 ^ 32) (hn : n < 2 ^ 40) (hm' : m < 2 ^ 40) (K : Nat) (pre : aA) :
  aC P pW K [.ah 1 n (ag z), .ah 1 m (ag y)] pre (aJ (.tuple [.mag (val n z - val m y), .int .i64 (if val n z < val m y then 7 else 0)]) []) := by
 refine gn hT Tz rfl (of_decide_eq_true (by kernel_rfl)) rfl (fun _ c h0 => ?_) K pre
 refine aq.hole [1,1,1,1,1,0,1] (by kernel_rfl) (ay.aR hT Rt hm 30 nw IY (by kernel_rfl) ?_)
 have hA : nl (val n z) ≤ n := cm.2 (dN hz)
 have hAlt := dN hz
 generalize hB : val m y = B at *
 simp only [aa.all, az, decide_eq_true_eq, decide_eq_false_iff_not, gd, hB]
 refine ⟨⟨er hz, er hy, by omega, by omega⟩, fun hb s' hv => ?_, fun hb => ⟨⟨er hy, by omega⟩, by omega, fun s' hv => ?_⟩⟩
 ·have h1 : val n z < B := by
   unfold bI at hb
   split at hb
   ·assumption
   ·split at hb <;> omega
  refine ey (us := [.nil, .int .i64 7]) (.inr rfl) hv (by kernel_rfl) ⟨gL.trans (cF (congrArg AV.mag (by omega))), bm (by rw [if_pos h1]), trivial⟩
 have hBA : B ≤ val n z := by
  unfold bI at hb
  split at hb <;> omega
 have hnB : nl B ≤ n := Nat.le_trans (eR hBA) hA
 refine aq.fh (i := 0) (y := part (ax iW) [1,1,1,1,1,0,1,0,0]) (by kernel_rfl)
  (fun p : Nat × Nat × (Nat → Nat) => ⟨aB nw (ug B n z 7 p.2.1 p.1), [(7, ⟨true, true, 1, n, ag p.2.2⟩)], 8⟩)
  (fun p => p.1 ≤ n ∧ p.2.1 ≤ 1 ∧ (∀ j, j < n → p.2.2 j < 2 ^ 32) ∧ val p.1 p.2.2 + val (min p.1 (nl B)) (au B) = val p.1 z + p.2.1 * 2 ^ (32 * p.1))
  (fun p => n - p.1) (0, 0, fun _ => 0)
  (b9 [(7, 45056)] hv h0 rfl ⟨⟨rfl, aE rfl⟩, ⟨rfl, cz rfl rfl rfl⟩, ⟨rfl, aE rfl⟩, ⟨rfl, aE rfl⟩, ⟨rfl, aE rfl⟩, ⟨rfl, aE rfl⟩, ⟨rfl, aE rfl⟩, ⟨rfl, aE rfl⟩, trivial⟩
   ⟨⟨_, _, rfl, rfl, dA rfl fun j _ => rfl⟩, trivial⟩)
  ⟨by simp, by simp, fun j _ => by simp, by simp [val]⟩ ?_
 rintro ⟨i, w, o⟩ ⟨hi, hw, ho, hval⟩
 simp only at hi hw ho hval
 refine aq.aR hT aZ hm 30 nw Lw (by kernel_rfl) ?_
 have key : ∀ {yi : Nat} {s' : aD} {u v : Int} {f' : Nat → AV} {r w' : Nat}, i < n → yi = (if i < nl B then au B i else 0) → r < 2 ^ 32 → w' ≤ 1 → r + (w + yi) = z i + w' * 4294967296 →
   aN nw s' = some ([.mag B, .own 7 1 0 n, .int .u64 u, .ah 1 n (ag z), .int .i64 n, .int .i64 v, .nil, .int .i64 0], [(7, ⟨true, true, 1, n, f'⟩)]) →
   u = (w' : Nat) → v = (i + 1 : Nat) → (∀ j, f' j = ag (bB o i r) j) → 
   ∃ k : Nat × Nat × (Nat → Nat), (∃ ρ, Le c ρ s' ⟨aB nw (ug B n z 7 k.2.1 k.1), [(7, ⟨true, true, 1, n, ag k.2.2⟩)], 8⟩) ∧
    (k.1 ≤ n ∧ k.2.1 ≤ 1 ∧ (∀ j, j < n → k.2.2 j < 2 ^ 32) ∧ val k.1 k.2.2 + val (min k.1 (nl B)) (au B) = val k.1 z + k.2.1 * 2 ^ (32 * k.1)) ∧ n - k.1 < n - i := by
  intro yi s' u v f' r w' hin hyi hr hw1 hrw hv hu hv1 hf
  refine ⟨(i + 1, w', bB o i r), b9 [(7, 7)] hv h0 rfl ⟨⟨rfl, aE rfl⟩, ⟨rfl, cz rfl rfl rfl⟩, ⟨rfl, ee hu⟩, ⟨rfl, aE rfl⟩, ⟨rfl, aE rfl⟩, ⟨rfl, ee hv1⟩, ⟨rfl, aE rfl⟩, ⟨rfl, aE rfl⟩, trivial⟩
   ⟨⟨_, _, rfl, rfl, dA rfl fun j _ => hf j⟩, trivial⟩, ⟨by simp only; omega, hw1, fe hr ho, ?_⟩, by simp only; omega⟩
  simp only
  rw [Dr, ← hyi, mA, eU]
  show _ = val i z + z i * 2 ^ (32 * i) + _
  have := PM (B := 2 ^ (32 * i)) hrw hval
  rw [Nat.add_mul] at this
  omega
 have fin : i = n → ∀ s', aN nw s' = some (ug B n z 7 w i, [(7, ⟨true, true, 1, n, ag o⟩)]) →
   ay P c iW.ntmps (behind (ax iW) [1,1,1,1,1,0,1]) s' (Fin T iW (.tuple [.mag (val n z - B), .int .i64 (if val n z < B then 7 else 0)])) := by
  intro hin s' hv
  subst hin
  rw [Nat.min_eq_right hnB, ec] at hval
  have hlt := dN ho
  have hw0 : w = 0 := by
   rcases Nat.eq_zero_or_pos w with h | h
   ·exact h
   ·have : w = 1 := by omega
    subst this
    omega
  subst hw0
  refine ay.weak (by kernel_rfl) (b9 (vs := ug B i z 7 0 i) (ps := [(7, ⟨true, true, 1, i, ag o⟩)]) (nx := 8) [(7, 7)] hv h0 rfl
    ⟨⟨rfl, aE rfl⟩, ⟨rfl, cz rfl rfl rfl⟩, ⟨rfl, aE rfl⟩, ⟨rfl, aE rfl⟩, ⟨rfl, aE rfl⟩, ⟨rfl, aE rfl⟩, ⟨rfl, aE rfl⟩, ⟨rfl, aE rfl⟩, trivial⟩
    ⟨⟨_, _, rfl, rfl, dA rfl fun j _ => rfl⟩, trivial⟩)
   (ay.fin hT eA hm 30 F2 (by kernel_rfl) ?_)
  simp only [aa.all, az, Nat.add_zero, gd]
  exact ⟨⟨er ho, by omega⟩, cF (congrArg AV.mag (by omega)), bm (by rw [if_neg (by omega)]), trivial⟩
 simp only [aa.all, az, decide_eq_true_eq, decide_eq_false_iff_not, Int.toNat_natCast, Nat.add_zero, beq_iff_eq]
 refine ⟨fun hb => ?_, fun hb s' hv => fin (by omega) s' hv⟩
 have h1 : i < n := by omega
 have hzi := hz i h1
 have hl := ct (N := B) (i := i)
 have e1 : IntKind.u64.wrap (z i : Int) = (z i : Int) := bt (by omega) (by omega)
 have e2 : IntKind.u64.wrap (au B i : Int) = (au B i : Int) := bt (by omega) (by omega)
 have e3 : IntKind.u64.wrap ((w : Int) + (au B i : Int)) = ((w + au B i : Nat) : Int) := by rw [bt (by omega) (by omega)]; omega
 rw [e1, e2, e3]
 refine ⟨by omega, fun hb2 => ?_, fun hb2 => ?_⟩
 ·have h2 : i < nl B := by omega
  obtain ⟨r, w', q1, q2, q3, q4, q5⟩ := EF hzi (y := w + au B i) (by omega)
  refine ⟨by omega, by omega, by omega, fun s' hv => key (yi := au B i) h1 (by rw [if_pos h2]) q1 q2 q3 hv ?_ (by rw [wrap_i64 (by omega) (by omega)]; omega) fun j => eG ?_ j⟩
  ·rw [z8, kg]; exact q5
  ·rw [iD, kg]; exact q4
 ·have h2 : ¬ i < nl B := by omega
  obtain ⟨r, w', q1, q2, q3, q4, q5⟩ := EF hzi (y := w) (by omega)
  refine ⟨by omega, by omega, fun s' hv => key (yi := 0) h1 (by rw [if_neg h2]) q1 q2 q3 hv ?_ (by rw [wrap_i64 (by omega) (by omega)]; omega) fun j => eG ?_ j⟩
  ·rw [z8, kg]; exact q5
  ·rw [iD, kg]; exact q4
theorem PN {r x : Nat} (hr : r < 2 ^ 32) (hx : x < 2 ^ 32) :
  IntKind.u64.wrap ((BitVec.ofInt IntKind.u64.bits (IntKind.u64.wrap ((r : Int) * 2 ^ min (Int.toNat 32) IntKind.u64.bits)) ||| BitVec.ofInt IntKind.u64.bits (IntKind.u64.wrap (x : Int))).toNat : Int) = ((r * 4294967296 + x : Nat) : Int) := by
 rw [rG, bt (x := (x : Int)) (by omega) (by omega), bt (x := (r : Int) * 4294967296) (by omega) (by omega)]
 rw [show (r : Int) * 4294967296 = ((r * 2 ^ 32 : Nat) : Int) by omega, oY (by omega) (by omega), mH hx]
theorem CK {r z b B v t vz q r' : Nat} (h : v * b + r * (4294967296 * B) + (vz + z * B) = t) (hq : r * 4294967296 + z = b * q + r') : (v + q * B) * b + r' * B + vz = t := by
 have : (r * 4294967296 + z) * B = (b * q + r') * B := by rw [hq]
 grind
abbrev yh : List Nat := [0, 1, 6, 7, 8]
abbrev Fi (n : Nat) (z : Nat → Nat) (b K r k : Nat) : List AV := [.ah 1 n (ag z), .int .u32 b, .own K 1 0 n, .int .u64 r, .int .i64 ((k : Int) - 1)]
theorem Ur {n b : Nat} {z : Nat → Nat} (hz : ∀ i, i < n → z i < 2 ^ 32) (hn : n < 2 ^ 40) (hb0 : 0 < b) (hb32 : b < 2 ^ 32) (K : Nat) (pre : aA) :
  aC P q9 K [.ah 1 n (ag z), .int .u32 b] pre (aJ (.tuple [.mag (val n z / b), .int .u32 (val n z % b : Nat)]) []) := by
 refine gn hT Na rfl (of_decide_eq_true (by kernel_rfl)) rfl (fun _ c h0 => ?_) K pre
 refine aq.hole [1,1,1,0,1] (by kernel_rfl) (ay.aR hT eA hm 30 yh QA (by kernel_rfl) ?_)
 simp only [aa.all, az]
 refine ⟨by omega, fun s' hv => ?_⟩
 refine aq.fh (i := 0) (y := part (ax kD) [1,1,1,0,1,0,0]) (by kernel_rfl)
  (fun p : Nat × Nat × (Nat → Nat) => ⟨aB yh (Fi n z b 7 p.2.1 p.1), [(7, ⟨true, true, 1, n, ag p.2.2⟩)], 8⟩)
  (fun p => p.1 ≤ n ∧ p.2.1 < b ∧ (∀ j, j < n → p.2.2 j < 2 ^ 32) ∧ (∀ j, j < p.1 → p.2.2 j = 0) ∧ val n p.2.2 * b + p.2.1 * 2 ^ (32 * p.1) + val p.1 z = val n z)
  (fun p => p.1) (n, 0, fun _ => 0)
  (b9 [(7, 16384)] hv h0 rfl ⟨⟨rfl, aE rfl⟩, ⟨rfl, aE rfl⟩, ⟨rfl, cz rfl rfl rfl⟩, ⟨rfl, aE rfl⟩, ⟨rfl, ee (wrap_i64 (by omega) (by omega))⟩, trivial⟩
   ⟨⟨_, _, rfl, rfl, dA rfl fun j _ => rfl⟩, trivial⟩)
  ⟨by simp, hb0, fun j _ => by simp, fun j _ => rfl, ?_⟩ ?_
 ·simp only
  rw [jy (k := 0) (by omega) fun _ _ _ => rfl]
  simp [val]
 rintro ⟨k, r, o⟩ ⟨hk, hr, ho, ho0, hval⟩
 simp only at hk hr ho ho0 hval
 refine aq.aR hT aZ hm 30 yh Hv (by kernel_rfl) ?_
 simp only [aa.all, az, decide_eq_true_eq, decide_eq_false_iff_not, Nat.add_zero, beq_iff_eq]
 have hbw : IntKind.u64.wrap (b : Int) = (b : Int) := bt (by omega) (by omega)
 refine ⟨fun hb => ?_, fun hb s' hv => ?_⟩
 ·obtain ⟨j, rfl⟩ : ∃ j, k = j + 1 := ⟨k - 1, by omega⟩
  have e : (((j + 1 : Nat) : Int) - 1).toNat = j := by omega
  have hzj := hz j (by omega)
  have hor := PN (r := r) (x := z j) (by omega) hzj
  rw [e, hor, hbw]
  have hq1 : (r * 4294967296 + z j) / b < 2 ^ 32 := by
   rw [Nat.div_lt_iff_lt_mul hb0]
   have : (r + 1) * 4294967296 ≤ b * 4294967296 := Nat.mul_le_mul_right _ hr
   omega
  have hdm := Nat.div_add_mod (r * 4294967296 + z j) b
  refine ⟨⟨by omega, by omega, by omega⟩, ⟨by omega, ⟨by omega, by omega⟩, by omega⟩, by omega, fun s' hv => ⟨(j, (r * 4294967296 + z j) % b, bB o j ((r * 4294967296 + z j) / b)), ?_, ⟨by simp only; omega, Nat.mod_lt _ hb0, fe hq1 ho, fun i hi => ?_, ?_⟩, by simp only; omega⟩⟩
  ·refine b9 [(7, 7)] hv h0 rfl ⟨⟨rfl, aE rfl⟩, ⟨rfl, aE rfl⟩, ⟨rfl, cz rfl rfl rfl⟩, ⟨rfl, ee (Int.ofNat_tmod _ _).symm⟩, ⟨rfl, ee ?_⟩, trivial⟩
    ⟨⟨_, _, rfl, rfl, dA rfl fun i _ => eG ?_ i⟩, trivial⟩
   ·rw [wrap_i64 (by omega) (by omega)]; simp only; omega
   ·rw [← Int.ofNat_tdiv]
    clear hdm
    generalize (r * 4294967296 + z j) / b = q at hq1 ⊢
    rw [bt (by omega) (by omega), wrap_u32 (by omega) (by omega)]
  ·exact (dH (by simp only at hi; omega)).trans (ho0 i (by simp only at hi; omega))
  ·simp only
   rw [mS (by omega) (ho0 j (by omega))]
   rw [eU, val] at hval
   exact CK hval hdm.symm
 ·have hk0 : k = 0 := by omega
  subst hk0
  have hv2 : val n o * b + r = val n z := by simpa [val] using hval
  refine ay.weak (by kernel_rfl) (b9 (vs := Fi n z b 7 r 0) (ps := [(7, ⟨true, true, 1, n, ag o⟩)]) (nx := 8) [(7, 7)] hv h0 rfl
    ⟨⟨rfl, aE rfl⟩, ⟨rfl, aE rfl⟩, ⟨rfl, cz rfl rfl rfl⟩, ⟨rfl, aE rfl⟩, ⟨rfl, aE rfl⟩, trivial⟩
    ⟨⟨_, _, rfl, rfl, dA rfl fun j _ => rfl⟩, trivial⟩)
   (ay.fin hT eA hm 30 Oe (by kernel_rfl) ?_)
  simp only [aa.all, az, Nat.add_zero, gd]
  have hdiv : val n z / b = val n o := by
   rw [← hv2, Nat.mul_comm, Nat.mul_add_div hb0, Nat.div_eq_of_lt hr, Nat.add_zero]
  have hmod : val n z % b = r := by
   rw [← hv2, Nat.mul_comm, Nat.mul_add_mod, Nat.mod_eq_of_lt hr]
  exact ⟨⟨er ho, by omega⟩, cF (congrArg AV.mag hdiv.symm), bm (by rw [hmod, wrap_u32 (by omega) (by omega)]), trivial⟩
theorem MP {x s : Nat} (hs : s < 32) (hx : x < 2 ^ 32) : IntKind.u64.wrap (IntKind.u64.wrap (x : Int) * 2 ^ min (s : Int).toNat IntKind.u64.bits) = ((x * 2 ^ s : Nat) : Int) ∧ x * 2 ^ s < 2 ^ 64 := by
 have e : min (s : Int).toNat IntKind.u64.bits = s := by
  have : IntKind.u64.bits = 64 := rfl
  omega
 have hlt : x * 2 ^ s < 2 ^ 64 := by
  have h1 : 2 ^ s ≤ 2 ^ 31 := Nat.pow_le_pow_right (by omega) (by omega)
  have h2 : x * 2 ^ s ≤ 2 ^ 32 * 2 ^ 31 := Nat.mul_le_mul (by omega) h1
  omega
 refine ⟨?_, hlt⟩
 rw [e, bt (x := (x : Int)) (by omega) (by omega)]
 have : (x : Int) * 2 ^ s = ((x * 2 ^ s : Nat) : Int) := by simp
 rw [this]
 exact bt (by omega) (by omega)
theorem AX {c x s : Nat} (hs : s < 32) (hx : x < 2 ^ 32) (hc : c < 2 ^ s) :
  IntKind.u64.wrap ((BitVec.ofInt IntKind.u64.bits (c : Int) ||| BitVec.ofInt IntKind.u64.bits (IntKind.u64.wrap (IntKind.u64.wrap (x : Int) * 2 ^ min (s : Int).toNat IntKind.u64.bits))).toNat : Int) = ((c + x * 2 ^ s : Nat) : Int) := by
 obtain ⟨h1, h2⟩ := MP hs hx
 have h3 : 2 ^ s ≤ 2 ^ 31 := Nat.pow_le_pow_right (by omega) (by omega)
 rw [h1, oY (by omega) h2, Nat.or_comm, mH hc, Nat.add_comm]
theorem CY {c x s : Nat} (hs : s < 32) (hx : x < 2 ^ 32) (hc : c < 2 ^ s) : c + x * 2 ^ s < 2 ^ 63 ∧ (c + x * 2 ^ s) / 4294967296 < 2 ^ s := by
 have h3 : 2 ^ s ≤ 2 ^ 31 := Nat.pow_le_pow_right (by omega) (by omega)
 have h4 : (x + 1) * 2 ^ s ≤ 2 ^ 32 * 2 ^ s := Nat.mul_le_mul_right _ hx
 rw [Nat.add_mul, Nat.one_mul] at h4
 refine ⟨by omega, ?_⟩
 rw [Nat.div_lt_iff_lt_mul (by omega)]
 omega
theorem Az {B c x t v S : Nat} (h : v + c * B = t * S) : v + (c + x * S) % 4294967296 * B + (c + x * S) / 4294967296 * (4294967296 * B) = (t + x * B) * S := by
 have h1 := Nat.div_add_mod (c + x * S) 4294967296
 generalize (c + x * S) / 4294967296 = q at *
 generalize (c + x * S) % 4294967296 = r at *
 have : (4294967296 * q + r) * B = (c + x * S) * B := by rw [h1]
 grind
abbrev wH : List Nat := [0, 1, 5, 6, 13, 14, 15]
abbrev Ah (n s : Nat) (z : Nat → Nat) (K c i : Nat) : List AV := [.ah 1 n (ag z), .int .i64 s, .own K 1 0 (n + 1), .int .u64 c, .ah 1 n (ag z), .int .i64 n, .int .i64 i]
theorem HM {n s : Nat} {z : Nat → Nat} (hz : ∀ i, i < n → z i < 2 ^ 32) (hn : n < 2 ^ 40) (hs : s < 32) {c : Ctx} (h0 : c.k0 = aQ) {Q : aj → aD → Prop}
  (fin : ∀ (c' : Nat) (o : Nat → Nat) (s' : aD), c' < 2 ^ s → (∀ j, j < n + 1 → o j < 2 ^ 32) → val n o + c' * 2 ^ (32 * n) = val n z * 2 ^ s → aN wH s' = some (Ah n s z 7 c' n, [(7, ⟨true, true, 1, n + 1, ag o⟩)]) →
   ay P c iI.ntmps (behind (ax iI) [1,1,1,0,1]) s' Q) :
  aq P c iI.ntmps (ax iI) ⟨aM 0 [.ah 1 n (ag z), .int .i64 s], [], 0⟩ Q := by
 refine aq.hole [1,1,1,0,1] (by kernel_rfl) (ay.aR hT eA hm 30 wH Ib (by kernel_rfl) ?_)
 have hw : IntKind.i64.wrap ((n : Int) + 1) = ((n + 1 : Nat) : Int) := by rw [wrap_i64 (by omega) (by omega)]; omega
 simp only [aa.all, az, hw, Int.toNat_natCast]
 refine ⟨by omega, fun s' hv => ?_⟩
 refine aq.fh (i := 0) (y := part (ax iI) [1,1,1,0,1,0,0]) (by kernel_rfl)
  (fun p : Nat × Nat × (Nat → Nat) => ⟨aB wH (Ah n s z 7 p.2.1 p.1), [(7, ⟨true, true, 1, n + 1, ag p.2.2⟩)], 8⟩)
  (fun p => p.1 ≤ n ∧ p.2.1 < 2 ^ s ∧ (∀ j, j < n + 1 → p.2.2 j < 2 ^ 32) ∧ val p.1 p.2.2 + p.2.1 * 2 ^ (32 * p.1) = val p.1 z * 2 ^ s)
  (fun p => n - p.1) (0, 0, fun _ => 0)
  (b9 [(7, 16384)] hv h0 rfl ⟨⟨rfl, aE rfl⟩, ⟨rfl, aE rfl⟩, ⟨rfl, cz rfl rfl rfl⟩, ⟨rfl, aE rfl⟩, ⟨rfl, aE rfl⟩, ⟨rfl, aE rfl⟩, ⟨rfl, aE rfl⟩, trivial⟩
   ⟨⟨_, _, rfl, rfl, dA rfl fun j _ => rfl⟩, trivial⟩)
  ⟨by simp, Nat.two_pow_pos s, fun j _ => by simp, by simp [val]⟩ ?_
 rintro ⟨i, c', o⟩ ⟨hi, hc, ho, hval⟩
 simp only at hi hc ho hval
 refine aq.aR hT aZ hm 30 wH FV (by kernel_rfl) ?_
 simp only [aa.all, az, decide_eq_true_eq, decide_eq_false_iff_not, Nat.add_zero, beq_iff_eq, Int.toNat_natCast]
 refine ⟨fun hb => ?_, fun hb s' hv => ?_⟩
 ·have h1 : i < n := by omega
  have hzi := hz i h1
  have hor := AX hs hzi hc
  simp only [Int.toNat_natCast] at hor
  rw [hor]
  obtain ⟨b1, b2⟩ := CY hs hzi hc
  refine ⟨by omega, by omega, by omega, by omega, fun s' hv => ⟨(i + 1, (c' + z i * 2 ^ s) / 4294967296, bB o i ((c' + z i * 2 ^ s) % 4294967296)), ?_, ⟨by simp only; omega, b2, fe (by omega) ho, ?_⟩, by simp only; omega⟩⟩
  ·refine b9 [(7, 7)] hv h0 rfl ⟨⟨rfl, aE rfl⟩, ⟨rfl, aE rfl⟩, ⟨rfl, cz rfl rfl rfl⟩, ⟨rfl, ee ?_⟩, ⟨rfl, aE rfl⟩, ⟨rfl, aE rfl⟩, ⟨rfl, ee ?_⟩, trivial⟩
    ⟨⟨_, _, rfl, rfl, dA rfl fun j _ => eG ?_ j⟩, trivial⟩
   ·rw [hH]; simp only; omega
   ·rw [wrap_i64 (by omega) (by omega)]; simp only; omega
   ·rw [gl]
  ·simp only
   rw [mA, eU]
   exact Az hval
 ·have hin : i = n := by omega
  subst hin
  exact fin c' o s' hc ho hval hv
theorem J3 {s c' i : Nat} {o : Nat → Nat} (hs : s < 32) (hc : c' < 2 ^ s) : ∀ j, (if j = i then AV.int .u32 (IntKind.u32.wrap (c' : Int)) else ag o j) = ag (bB o i c') j := fun j => eG (by
 have h3 : 2 ^ s ≤ 2 ^ 31 := Nat.pow_le_pow_right (by omega) (by omega)
 exact wrap_u32 (by omega) (by omega)) j
def De (A n B m : Nat) : cq := aJ (.tuple [.mag (A - B), .int .i64 (if A < B then 7 else 0)]) [n < 2 ^ 40, m < 2 ^ 40]
theorem Kg : ∀ K args pre r, bp (fq De) K args pre = some r → aC P pW K args pre r :=
 bK (nr fun _ _ _ _ K hz hy need => Nb hz hy need.1 need.2 K [])
def B4 (N n : Nat) (b : Int) : cq := aJ (.tuple [.mag (N / b.toNat), .int .u32 (N % b.toNat : Nat)]) [n < 2 ^ 40, 0 < b, b < 2 ^ 32]
theorem Rv : ∀ K args pre r, bp (uI B4) K args pre = some r → aC P q9 K args pre r :=
 bK (Rn fun z n i K hz need => by
  obtain ⟨h1, h2, h3⟩ : n < 2 ^ 40 ∧ 0 < i ∧ i < 2 ^ 32 := need
  obtain ⟨b, rfl⟩ := Int.eq_ofNat_of_zero_le (Int.le_of_lt h2)
  exact Ur hz h1 (by omega) (by omega) K [])
end Go.Am.B
