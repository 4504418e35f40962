/- natural.Sub, natural.small, natural.raise. -/
import Derived.Test.YtnocdkaonpdmjaaGreatB3
set_option linter.unusedVariables false
namespace Go.Am.B
open Go Go.Am.N AV
theorem P2 : aO P sL jI (ax jI) := aP Yy (by kernel_rfl) (by kernel_rfl) (by kernel_rfl)
theorem abb : aO P uJ mm (ax mm) := aP U5 (by kernel_rfl) (by kernel_rfl) (by kernel_rfl)
theorem UC : aO P tB jQ (ax jQ) := aP Ns (by kernel_rfl) (by kernel_rfl) (by kernel_rfl)
def G2 : aQ := (oP, bu (fM zX)) :: G1
theorem LS : bg P G2 := aH B8 e9
theorem Ux {n m : Nat} {z y : Nat → Nat} : aI T G2 [15] 30 [1, 6, 7, 21, 22, 23, 4, 5] (before (ax jI) [1,1,1,1,1,0,1]) ⟨aL 0 [.ak 1 n (ah z), .ak 1 m (ah y)], [], 0⟩ =
  some (aa.ag [cO n (ah z), cO m (ah y), n < 2 ^ 40, m < 2 ^ 40] (aa.fork (decide (bT (val n fun (i : Nat) ↦ numOf (ah z i)) (val m fun (i : Nat) ↦ numOf (ah y i)) < (0 : Int))) (aa.leaf aj.ret ([ak 1 m (ah y), tuple [], tuple [], tuple [], tuple [], tuple [], nil, int IntKind.i64 (7 : Int)], [])) (aa.ag [cO m (ah y), m < 2 ^ 62] (aa.ag [(0 : Int) ≤ (↑n : Int) ∧ (↑n : Int) ≤ (↑n : Int) ∧ (↑n : Int) ≤ (2 : Int) ^ 47 ∧ (↑n : Int) * (↑(4 : Nat) : Int) ≤ (2 : Int) ^ 47] (aa.leaf aj.normal ([mag (val m fun (i : Nat) ↦ numOf (ah y i)), own 45056 1 0 (↑n : Int).toNat, int IntKind.u64 (0 : Int), ak 1 n (ah z), int IntKind.i64 (↑n : Int), int IntKind.i64 (0 : Int), nil, int IntKind.i64 (0 : Int)], [((45056 : Nat), ⟨true, true, 1, (↑n : Int).toNat, fun (x : Nat) ↦ int IntKind.u32 (0 : Int)⟩)])))))) := by kernel_rfl
theorem Rd {n B i w : Nat} {z o : Nat → Nat} : aI T [] [24, 32] 30 [1, 6, 7, 21, 22, 23, 4, 5] [part (ax jI) [1,1,1,1,1,0,1,0,0]] ⟨aC [1, 6, 7, 21, 22, 23, 4, 5] [.mag B, .own 7 1 0 n, .int .u64 w, .ak 1 n (ah z), .int .i64 n, .int .i64 i, .nil, .int .i64 0], [(7, ⟨true, true, 1, n, ah o⟩)], 8⟩ =
  some (aa.fork (decide ((↑i : Int) < (↑n : Int))) (aa.ag [(0 : Int) ≤ (↑i : Int) ∧ (↑i : Int).toNat < n] (aa.fork (decide ((↑i : Int) < (↑(nl B) : Int))) (aa.ag [(0 : Int) ≤ (↑i : Int) ∧ (↑i : Int).toNat < nl B] (aa.ag [(0 : Int) ≤ (↑i : Int) ∧ (↑i : Int).toNat < n, (↑i : Int).toNat + 0 < n] (aa.ag [(0 : Int) ≤ (63 : Int)] (aa.leaf aj.normal ([mag B, own 7 1 0 n, int IntKind.u64 ((IntKind.u64.wrap (IntKind.u64.wrap (↑(z (↑i : Int).toNat) : Int) - IntKind.u64.wrap ((↑w : Int) + IntKind.u64.wrap (↑(au B (↑i : Int).toNat) : Int)))).fdiv ((2 : Int) ^ min (Int.toNat (63 : Int)) IntKind.u64.bits)), ak 1 n (ah z), int IntKind.i64 (↑n : Int), int IntKind.i64 (IntKind.i64.wrap ((↑i : Int) + (1 : Int))), nil, int IntKind.i64 (0 : Int)], [((7 : Nat), ⟨true, true, 1, n, fun (j : Nat) ↦ if (j == (↑i : Int).toNat + 0) = true then int IntKind.u32 (IntKind.u32.wrap (IntKind.u64.wrap (IntKind.u64.wrap (↑(z (↑i : Int).toNat) : Int) - IntKind.u64.wrap ((↑w : Int) + IntKind.u64.wrap (↑(au B (↑i : Int).toNat) : Int))))) else ah o j⟩)]))))) (aa.ag [(0 : Int) ≤ (↑i : Int) ∧ (↑i : Int).toNat < n, (↑i : Int).toNat + 0 < n] (aa.ag [(0 : Int) ≤ (63 : Int)] (aa.leaf aj.normal ([mag B, own 7 1 0 n, int IntKind.u64 ((IntKind.u64.wrap (IntKind.u64.wrap (↑(z (↑i : Int).toNat) : Int) - (↑w : Int))).fdiv ((2 : Int) ^ min (Int.toNat (63 : Int)) IntKind.u64.bits)), ak 1 n (ah z), int IntKind.i64 (↑n : Int), int IntKind.i64 (IntKind.i64.wrap ((↑i : Int) + (1 : Int))), nil, int IntKind.i64 (0 : Int)], [((7 : Nat), ⟨true, true, 1, n, fun (j : Nat) ↦ if (j == (↑i : Int).toNat + 0) = true then int IntKind.u32 (IntKind.u32.wrap (IntKind.u64.wrap (IntKind.u64.wrap (↑(z (↑i : Int).toNat) : Int) - (↑w : Int)))) else ah o j⟩)])))))) (aa.leaf (aj.exit 0) ([mag B, own 7 1 0 n, int IntKind.u64 (↑w : Int), ak 1 n (ah z), int IntKind.i64 (↑n : Int), int IntKind.i64 (↑i : Int), nil, int IntKind.i64 (0 : Int)], [((7 : Nat), ⟨true, true, 1, n, ah o⟩)]))) := by kernel_rfl
theorem aan {n B i w : Nat} {z o : Nat → Nat} : cq T G1 [] 30 jI (behind (ax jI) [1,1,1,1,1,0,1]) ⟨aC [1, 6, 7, 21, 22, 23, 4, 5] [.mag B, .own 7 1 0 n, .int .u64 w, .ak 1 n (ah z), .int .i64 n, .int .i64 i, .nil, .int .i64 0], [(7, ⟨true, true, 1, n, ah o⟩)], 8⟩ =
  some (aa.ag [cO n fun (i : Nat) ↦ ah o (i + 0), n < 2 ^ 62] (aa.leaf aj.ret [mag (val n fun (i : Nat) ↦ numOf (ah o (i + 0))), int IntKind.i64 (0 : Int)])) := by kernel_rfl
theorem abR {n b : Nat} {z : Nat → Nat} : aI T G1 [] 30 [0, 1, 6, 7, 8] (before (ax mm) [1,1,1,0,1]) ⟨aL 0 [.ak 1 n (ah z), .int .u32 b], [], 0⟩ =
  some (aa.ag [(0 : Int) ≤ (↑n : Int) ∧ (↑n : Int) ≤ (↑n : Int) ∧ (↑n : Int) ≤ (2 : Int) ^ 47 ∧ (↑n : Int) * (↑(4 : Nat) : Int) ≤ (2 : Int) ^ 47] (aa.leaf aj.normal ([ak 1 n (ah z), int IntKind.u32 (↑b : Int), own 16384 1 0 (↑n : Int).toNat, int IntKind.u64 (0 : Int), int IntKind.i64 (IntKind.i64.wrap ((↑n : Int) - (1 : Int)))], [((16384 : Nat), ⟨true, true, 1, (↑n : Int).toNat, fun (x : Nat) ↦ int IntKind.u32 (0 : Int)⟩)]))) := by kernel_rfl
theorem Q3 {n b k r : Nat} {z o : Nat → Nat} : aI T [] [16] 30 [0, 1, 6, 7, 8] [part (ax mm) [1,1,1,0,1,0,0]] ⟨aC [0, 1, 6, 7, 8] [.ak 1 n (ah z), .int .u32 b, .own 7 1 0 n, .int .u64 r, .int .i64 ((k : Int) - 1)], [(7, ⟨true, true, 1, n, ah o⟩)], 8⟩ =
  some (aa.fork (decide ((↑k : Int) - (1 : Int) ≥ (0 : Int))) (aa.ag [(0 : Int) ≤ (32 : Int), (0 : Int) ≤ (↑k : Int) - (1 : Int) ∧ ((↑k : Int) - (1 : Int)).toNat < n] (aa.ag [IntKind.u64.wrap (↑b : Int) ≠ (0 : Int), (0 : Int) ≤ (↑k : Int) - (1 : Int) ∧ ((↑k : Int) - (1 : Int)).toNat < n, ((↑k : Int) - (1 : Int)).toNat + 0 < n] (aa.ag [IntKind.u64.wrap (↑b : Int) ≠ (0 : Int)] (aa.leaf aj.normal ([ak 1 n (ah z), int IntKind.u32 (↑b : Int), own 7 1 0 n, int IntKind.u64 ((IntKind.u64.wrap (↑(BitVec.ofInt IntKind.u64.bits (IntKind.u64.wrap ((↑r : Int) * (2 : Int) ^ min (Int.toNat (32 : Int)) IntKind.u64.bits)) ||| BitVec.ofInt IntKind.u64.bits (IntKind.u64.wrap (↑(z ((↑k : Int) - (1 : Int)).toNat) : Int))).toNat : Int)).tmod (IntKind.u64.wrap (↑b : Int))), int IntKind.i64 (IntKind.i64.wrap ((↑k : Int) - (1 : Int) - (1 : Int)))], [((7 : Nat), ⟨true, true, 1, n, fun (j : Nat) ↦ if (j == ((↑k : Int) - (1 : Int)).toNat + 0) = true then int IntKind.u32 (IntKind.u32.wrap (IntKind.u64.wrap ((IntKind.u64.wrap (↑(BitVec.ofInt IntKind.u64.bits (IntKind.u64.wrap ((↑r : Int) * (2 : Int) ^ min (Int.toNat (32 : Int)) IntKind.u64.bits)) ||| BitVec.ofInt IntKind.u64.bits (IntKind.u64.wrap (↑(z ((↑k : Int) - (1 : Int)).toNat) : Int))).toNat : Int)).tdiv (IntKind.u64.wrap (↑b : Int))))) else ah o j⟩)]))))) (aa.leaf (aj.exit 0) ([ak 1 n (ah z), int IntKind.u32 (↑b : Int), own 7 1 0 n, int IntKind.u64 (↑r : Int), int IntKind.i64 ((↑k : Int) - (1 : Int))], [((7 : Nat), ⟨true, true, 1, n, ah o⟩)]))) := by kernel_rfl
theorem Z7 {n b k r : Nat} {z o : Nat → Nat} : cq T G1 [] 30 mm (behind (ax mm) [1,1,1,0,1]) ⟨aC [0, 1, 6, 7, 8] [.ak 1 n (ah z), .int .u32 b, .own 7 1 0 n, .int .u64 r, .int .i64 ((k : Int) - 1)], [(7, ⟨true, true, 1, n, ah o⟩)], 8⟩ =
  some (aa.ag [cO n fun (i : Nat) ↦ ah o (i + 0), n < 2 ^ 62] (aa.leaf aj.ret [mag (val n fun (i : Nat) ↦ numOf (ah o (i + 0))), int IntKind.u32 (IntKind.u32.wrap (↑r : Int))])) := by kernel_rfl
theorem abA {n s : Nat} {z : Nat → Nat} : aI T G1 [] 30 [0, 1, 5, 6, 13, 14, 15] (before (ax jQ) [1,1,1,0,1]) ⟨aL 0 [.ak 1 n (ah z), .int .i64 s], [], 0⟩ =
  some (aa.ag [(0 : Int) ≤ IntKind.i64.wrap ((↑n : Int) + (1 : Int)) ∧ IntKind.i64.wrap ((↑n : Int) + (1 : Int)) ≤ IntKind.i64.wrap ((↑n : Int) + (1 : Int)) ∧ IntKind.i64.wrap ((↑n : Int) + (1 : Int)) ≤ (2 : Int) ^ 47 ∧ IntKind.i64.wrap ((↑n : Int) + (1 : Int)) * (↑(4 : Nat) : Int) ≤ (2 : Int) ^ 47] (aa.leaf aj.normal ([ak 1 n (ah z), int IntKind.i64 (↑s : Int), own 16384 1 0 (IntKind.i64.wrap ((↑n : Int) + (1 : Int))).toNat, int IntKind.u64 (0 : Int), ak 1 n (ah z), int IntKind.i64 (↑n : Int), int IntKind.i64 (0 : Int)], [((16384 : Nat), ⟨true, true, 1, (IntKind.i64.wrap ((↑n : Int) + (1 : Int))).toNat, fun (x : Nat) ↦ int IntKind.u32 (0 : Int)⟩)]))) := by kernel_rfl
theorem Ul {n s i c : Nat} {z o : Nat → Nat} : aI T [] [16] 30 [0, 1, 5, 6, 13, 14, 15] [part (ax jQ) [1,1,1,0,1,0,0]] ⟨aC [0, 1, 5, 6, 13, 14, 15] [.ak 1 n (ah z), .int .i64 s, .own 7 1 0 (n + 1), .int .u64 c, .ak 1 n (ah z), .int .i64 n, .int .i64 i], [(7, ⟨true, true, 1, n + 1, ah o⟩)], 8⟩ =
  some (aa.fork (decide ((↑i : Int) < (↑n : Int))) (aa.ag [(0 : Int) ≤ (↑i : Int) ∧ (↑i : Int).toNat < n] (aa.ag [(0 : Int) ≤ (↑s : Int)] (aa.ag [(0 : Int) ≤ (↑i : Int) ∧ (↑i : Int).toNat < n + 1, (↑i : Int).toNat + 0 < n + 1] (aa.ag [(0 : Int) ≤ (32 : Int)] (aa.leaf aj.normal ([ak 1 n (ah z), int IntKind.i64 (↑s : Int), own 7 1 0 (n + 1), int IntKind.u64 ((IntKind.u64.wrap (↑(BitVec.ofInt IntKind.u64.bits (↑c : Int) ||| BitVec.ofInt IntKind.u64.bits (IntKind.u64.wrap (IntKind.u64.wrap (↑(z (↑i : Int).toNat) : Int) * (2 : Int) ^ min (↑s : Int).toNat IntKind.u64.bits))).toNat : Int)).fdiv ((2 : Int) ^ min (Int.toNat (32 : Int)) IntKind.u64.bits)), ak 1 n (ah z), int IntKind.i64 (↑n : Int), int IntKind.i64 (IntKind.i64.wrap ((↑i : Int) + (1 : Int)))], [((7 : Nat), ⟨true, true, 1, n + 1, fun (j : Nat) ↦ if (j == (↑i : Int).toNat + 0) = true then int IntKind.u32 (IntKind.u32.wrap (IntKind.u64.wrap (↑(BitVec.ofInt IntKind.u64.bits (↑c : Int) ||| BitVec.ofInt IntKind.u64.bits (IntKind.u64.wrap (IntKind.u64.wrap (↑(z (↑i : Int).toNat) : Int) * (2 : Int) ^ min (↑s : Int).toNat IntKind.u64.bits))).toNat : Int))) else ah o j⟩)])))))) (aa.leaf (aj.exit 0) ([ak 1 n (ah z), int IntKind.i64 (↑s : Int), own 7 1 0 (n + 1), int IntKind.u64 (↑c : Int), ak 1 n (ah z), int IntKind.i64 (↑n : Int), int IntKind.i64 (↑i : Int)], [((7 : Nat), ⟨true, true, 1, n + 1, ah o⟩)]))) := by kernel_rfl
theorem aad {B x y r v w' t : Nat} (hr : r + y = x + w' * 4294967296) (h : v = t) : v + r * B + y * B = t + x * B + w' * (4294967296 * B) := by
 subst h
 have : (r + y) * B = (x + w' * 4294967296) * B := by rw [hr]
 grind
theorem IZ {x y : Nat} (hx : x < 2 ^ 32) (hy : y ≤ 2 ^ 32) : ∃ r w : Nat, r < 2 ^ 32 ∧ w ≤ 1 ∧ r + y = x + w * 4294967296 ∧ ((x : Int) - y) % 2 ^ 64 % 2 ^ 32 = r ∧ ((x : Int) - y) % 2 ^ 64 / 9223372036854775808 = w := by
 rcases Nat.lt_or_ge x y with h | h
 ·exact ⟨x + 4294967296 - y, 1, by omega, by omega, by omega, by omega, by omega⟩
 ·exact ⟨x - y, 0, by omega, by omega, by omega, by omega, by omega⟩
abbrev qZ : List Nat := [1, 6, 7, 21, 22, 23, 4, 5]
abbrev Aw (B n : Nat) (z : Nat → Nat) (K w i : Nat) : List AV := [.mag B, .own K 1 0 n, .int .u64 w, .ak 1 n (ah z), .int .i64 n, .int .i64 i, .nil, .int .i64 0]
theorem US {n m : Nat} {z y : Nat → Nat} (hz : ∀ i, i < n → z i < 2 ^ 32) (hy : ∀ i, i < m → y i < 2 ^ 32) (hn : n < 2 ^ 40) (hm' : m < 2 ^ 40) (K : Nat) (pre : aD) :
  aA P sL K [.ak 1 n (ah z), .ak 1 m (ah y)] pre (aG (.tuple [.mag (val n z - val m y), .int .i64 (if val n z < val m y then 7 else 0)]) []) := by
 refine gQ hT P2 rfl (of_decide_eq_true (by kernel_rfl)) rfl (fun _ c h0 => ?_) K pre
 refine aq.hole [1,1,1,1,1,0,1] (by kernel_rfl) (aB.aX hT LS hm 30 qZ Ux (by kernel_rfl) ?_)
 have hA : nl (val n z) ≤ n := cB.2 (eo hz)
 have hAlt := eo hz
 generalize hB : val m y = B at *
 simp only [aa.all, ay, decide_eq_true_eq, decide_eq_false_iff_not, gX, hB]
 refine ⟨⟨eI hz, eI hy, by omega, by omega⟩, fun hb s' hv => ?_, fun hb => ⟨⟨eI hy, by omega⟩, by omega, fun s' hv => ?_⟩⟩
 ·have h1 : val n z < B := by
   unfold bT at hb
   split at hb
   ·assumption
   ·split at hb <;> omega
  refine eM (us := [.nil, .int .i64 7]) (.inr rfl) hv (by kernel_rfl) ⟨iG.trans (cI (congrArg AV.mag (by omega))), bq (by rw [if_pos h1]), trivial⟩
 have hBA : B ≤ val n z := by
  unfold bT at hb
  split at hb <;> omega
 have hnB : nl B ≤ n := Nat.le_trans (fu hBA) hA
 refine aq.gp (i := 0) (y := part (ax jI) [1,1,1,1,1,0,1,0,0]) (by kernel_rfl)
  (fun p : Nat × Nat × (Nat → Nat) => ⟨aC qZ (Aw B n z 7 p.2.1 p.1), [(7, ⟨true, true, 1, n, ah p.2.2⟩)], 8⟩)
  (fun p => p.1 ≤ n ∧ p.2.1 ≤ 1 ∧ (∀ j, j < n → p.2.2 j < 2 ^ 32) ∧ val p.1 p.2.2 + val (min p.1 (nl B)) (au B) = val p.1 z + p.2.1 * 2 ^ (32 * p.1))
  (fun p => n - p.1) (0, 0, fun _ => 0)
  (cC [(7, 45056)] hv h0 rfl ⟨⟨rfl, aF rfl⟩, ⟨rfl, cF rfl rfl rfl⟩, ⟨rfl, aF rfl⟩, ⟨rfl, aF rfl⟩, ⟨rfl, aF rfl⟩, ⟨rfl, aF rfl⟩, ⟨rfl, aF rfl⟩, ⟨rfl, aF rfl⟩, trivial⟩
   ⟨⟨_, _, rfl, rfl, dZ rfl fun j _ => rfl⟩, trivial⟩)
  ⟨by simp, by simp, fun j _ => by simp, by simp [val]⟩ ?_
 rintro ⟨i, w, o⟩ ⟨hi, hw, ho, hval⟩
 simp only at hi hw ho hval
 refine aq.aX hT bn hm 30 qZ Rd (by kernel_rfl) ?_
 have key : ∀ {yi : Nat} {s' : aE} {u v : Int} {f' : Nat → AV} {r w' : Nat}, i < n → yi = (if i < nl B then au B i else 0) → r < 2 ^ 32 → w' ≤ 1 → r + (w + yi) = z i + w' * 4294967296 →
   aU qZ s' = some ([.mag B, .own 7 1 0 n, .int .u64 u, .ak 1 n (ah z), .int .i64 n, .int .i64 v, .nil, .int .i64 0], [(7, ⟨true, true, 1, n, f'⟩)]) →
   u = (w' : Nat) → v = (i + 1 : Nat) → (∀ j, f' j = ah (bJ o i r) j) → 
   ∃ k : Nat × Nat × (Nat → Nat), (∃ ρ, Le c ρ s' ⟨aC qZ (Aw B n z 7 k.2.1 k.1), [(7, ⟨true, true, 1, n, ah k.2.2⟩)], 8⟩) ∧
    (k.1 ≤ n ∧ k.2.1 ≤ 1 ∧ (∀ j, j < n → k.2.2 j < 2 ^ 32) ∧ val k.1 k.2.2 + val (min k.1 (nl B)) (au B) = val k.1 z + k.2.1 * 2 ^ (32 * k.1)) ∧ n - k.1 < n - i := by
  intro yi s' u v f' r w' hin hyi hr hw1 hrw hv hu hv1 hf
  refine ⟨(i + 1, w', bJ o i r), cC [(7, 7)] hv h0 rfl ⟨⟨rfl, aF rfl⟩, ⟨rfl, cF rfl rfl rfl⟩, ⟨rfl, eG hu⟩, ⟨rfl, aF rfl⟩, ⟨rfl, aF rfl⟩, ⟨rfl, eG hv1⟩, ⟨rfl, aF rfl⟩, ⟨rfl, aF rfl⟩, trivial⟩
   ⟨⟨_, _, rfl, rfl, dZ rfl fun j _ => hf j⟩, trivial⟩, ⟨by simp only; omega, hw1, fQ hr ho, ?_⟩, by simp only; omega⟩
  simp only
  rw [HJ, ← hyi, nD, fB]
  show _ = val i z + z i * 2 ^ (32 * i) + _
  have := aad (B := 2 ^ (32 * i)) hrw hval
  rw [Nat.add_mul] at this
  omega
 have fin : i = n → ∀ s', aU qZ s' = some (Aw B n z 7 w i, [(7, ⟨true, true, 1, n, ah o⟩)]) →
   aB P c jI.ntmps (behind (ax jI) [1,1,1,1,1,0,1]) s' (Fin T jI (.tuple [.mag (val n z - B), .int .i64 (if val n z < B then 7 else 0)])) := by
  intro hin s' hv
  subst hin
  rw [Nat.min_eq_right hnB, eC] at hval
  have hlt := eo ho
  have hw0 : w = 0 := by
   rcases Nat.eq_zero_or_pos w with h | h
   ·exact h
   ·have : w = 1 := by omega
    subst this
    omega
  subst hw0
  refine aB.weak (by kernel_rfl) (cC (vs := Aw B i z 7 0 i) (ps := [(7, ⟨true, true, 1, i, ah o⟩)]) (nx := 8) [(7, 7)] hv h0 rfl
    ⟨⟨rfl, aF rfl⟩, ⟨rfl, cF rfl rfl rfl⟩, ⟨rfl, aF rfl⟩, ⟨rfl, aF rfl⟩, ⟨rfl, aF rfl⟩, ⟨rfl, aF rfl⟩, ⟨rfl, aF rfl⟩, ⟨rfl, aF rfl⟩, trivial⟩
    ⟨⟨_, _, rfl, rfl, dZ rfl fun j _ => rfl⟩, trivial⟩)
   (aB.fin hT e9 hm 30 aan (by kernel_rfl) ?_)
  simp only [aa.all, ay, Nat.add_zero, gX]
  exact ⟨⟨eI ho, by omega⟩, cI (congrArg AV.mag (by omega)), bq (by rw [if_neg (by omega)]), trivial⟩
 simp only [aa.all, ay, decide_eq_true_eq, decide_eq_false_iff_not, Int.toNat_natCast, Nat.add_zero, beq_iff_eq]
 refine ⟨fun hb => ?_, fun hb s' hv => fin (by omega) s' hv⟩
 have h1 : i < n := by omega
 have hzi := hz i h1
 have hl := cH (N := B) (i := i)
 have e1 : IntKind.u64.wrap (z i : Int) = (z i : Int) := wrap_u64 (by omega) (by omega)
 have e2 : IntKind.u64.wrap (au B i : Int) = (au B i : Int) := wrap_u64 (by omega) (by omega)
 have e3 : IntKind.u64.wrap ((w : Int) + (au B i : Int)) = ((w + au B i : Nat) : Int) := by rw [wrap_u64 (by omega) (by omega)]; omega
 rw [e1, e2, e3]
 refine ⟨by omega, fun hb2 => ?_, fun hb2 => ?_⟩
 ·have h2 : i < nl B := by omega
  obtain ⟨r, w', q1, q2, q3, q4, q5⟩ := IZ hzi (y := w + au B i) (by omega)
  refine ⟨by omega, by omega, by omega, fun s' hv => key (yi := au B i) h1 (by rw [if_pos h2]) q1 q2 q3 hv ?_ (by rw [wrap_i64 (by omega) (by omega)]; omega) fun j => fe ?_ j⟩
  ·rw [DC, lO]; exact q5
  ·rw [jj, lO]; exact q4
 ·have h2 : ¬ i < nl B := by omega
  obtain ⟨r, w', q1, q2, q3, q4, q5⟩ := IZ hzi (y := w) (by omega)
  refine ⟨by omega, by omega, fun s' hv => key (yi := 0) h1 (by rw [if_neg h2]) q1 q2 q3 hv ?_ (by rw [wrap_i64 (by omega) (by omega)]; omega) fun j => fe ?_ j⟩
  ·rw [DC, lO]; exact q5
  ·rw [jj, lO]; exact q4
theorem SX {r x : Nat} (hr : r < 2 ^ 32) (hx : x < 2 ^ 32) :
  IntKind.u64.wrap ((BitVec.ofInt IntKind.u64.bits (IntKind.u64.wrap ((r : Int) * 2 ^ min (Int.toNat 32) IntKind.u64.bits)) ||| BitVec.ofInt IntKind.u64.bits (IntKind.u64.wrap (x : Int))).toNat : Int) = ((r * 4294967296 + x : Nat) : Int) := by
 rw [xp, wrap_u64 (x := (x : Int)) (by omega) (by omega), wrap_u64 (x := (r : Int) * 4294967296) (by omega) (by omega)]
 rw [show (r : Int) * 4294967296 = ((r * 2 ^ 32 : Nat) : Int) by omega, pJ (by omega) (by omega), o6 hx]
theorem F5 {r z b B v t vz q r' : Nat} (h : v * b + r * (4294967296 * B) + (vz + z * B) = t) (hq : r * 4294967296 + z = b * q + r') : (v + q * B) * b + r' * B + vz = t := by
 have : (r * 4294967296 + z) * B = (b * q + r') * B := by rw [hq]
 grind
abbrev Dp : List Nat := [0, 1, 6, 7, 8]
abbrev Gs (n : Nat) (z : Nat → Nat) (b K r k : Nat) : List AV := [.ak 1 n (ah z), .int .u32 b, .own K 1 0 n, .int .u64 r, .int .i64 ((k : Int) - 1)]
theorem Ql {n b : Nat} {z : Nat → Nat} (hz : ∀ i, i < n → z i < 2 ^ 32) (hn : n < 2 ^ 40) (hb0 : 0 < b) (hb32 : b < 2 ^ 32) (K : Nat) (pre : aD) :
  aA P uJ K [.ak 1 n (ah z), .int .u32 b] pre (aG (.tuple [.mag (val n z / b), .int .u32 (val n z % b : Nat)]) []) := by
 refine gQ hT abb rfl (of_decide_eq_true (by kernel_rfl)) rfl (fun _ c h0 => ?_) K pre
 refine aq.hole [1,1,1,0,1] (by kernel_rfl) (aB.aX hT e9 hm 30 Dp abR (by kernel_rfl) ?_)
 simp only [aa.all, ay]
 refine ⟨by omega, fun s' hv => ?_⟩
 refine aq.gp (i := 0) (y := part (ax mm) [1,1,1,0,1,0,0]) (by kernel_rfl)
  (fun p : Nat × Nat × (Nat → Nat) => ⟨aC Dp (Gs n z b 7 p.2.1 p.1), [(7, ⟨true, true, 1, n, ah p.2.2⟩)], 8⟩)
  (fun p => p.1 ≤ n ∧ p.2.1 < b ∧ (∀ j, j < n → p.2.2 j < 2 ^ 32) ∧ (∀ j, j < p.1 → p.2.2 j = 0) ∧ val n p.2.2 * b + p.2.1 * 2 ^ (32 * p.1) + val p.1 z = val n z)
  (fun p => p.1) (n, 0, fun _ => 0)
  (cC [(7, 16384)] hv h0 rfl ⟨⟨rfl, aF rfl⟩, ⟨rfl, aF rfl⟩, ⟨rfl, cF rfl rfl rfl⟩, ⟨rfl, aF rfl⟩, ⟨rfl, eG (wrap_i64 (by omega) (by omega))⟩, trivial⟩
   ⟨⟨_, _, rfl, rfl, dZ rfl fun j _ => rfl⟩, trivial⟩)
  ⟨by simp, hb0, fun j _ => by simp, fun j _ => rfl, ?_⟩ ?_
 ·simp only
  rw [jY (k := 0) (by omega) fun _ _ _ => rfl]
  simp [val]
 rintro ⟨k, r, o⟩ ⟨hk, hr, ho, ho0, hval⟩
 simp only at hk hr ho ho0 hval
 refine aq.aX hT bn hm 30 Dp Q3 (by kernel_rfl) ?_
 simp only [aa.all, ay, decide_eq_true_eq, decide_eq_false_iff_not, Nat.add_zero, beq_iff_eq]
 have hbw : IntKind.u64.wrap (b : Int) = (b : Int) := wrap_u64 (by omega) (by omega)
 refine ⟨fun hb => ?_, fun hb s' hv => ?_⟩
 ·obtain ⟨j, rfl⟩ : ∃ j, k = j + 1 := ⟨k - 1, by omega⟩
  have e : (((j + 1 : Nat) : Int) - 1).toNat = j := by omega
  have hzj := hz j (by omega)
  have hor := SX (r := r) (x := z j) (by omega) hzj
  rw [e, hor, hbw]
  have hq1 : (r * 4294967296 + z j) / b < 2 ^ 32 := by
   rw [Nat.div_lt_iff_lt_mul hb0]
   have : (r + 1) * 4294967296 ≤ b * 4294967296 := Nat.mul_le_mul_right _ hr
   omega
  have hdm := Nat.div_add_mod (r * 4294967296 + z j) b
  refine ⟨⟨by omega, by omega, by omega⟩, ⟨by omega, ⟨by omega, by omega⟩, by omega⟩, by omega, fun s' hv => ⟨(j, (r * 4294967296 + z j) % b, bJ o j ((r * 4294967296 + z j) / b)), ?_, ⟨by simp only; omega, Nat.mod_lt _ hb0, fQ hq1 ho, fun i hi => ?_, ?_⟩, by simp only; omega⟩⟩
  ·refine cC [(7, 7)] hv h0 rfl ⟨⟨rfl, aF rfl⟩, ⟨rfl, aF rfl⟩, ⟨rfl, cF rfl rfl rfl⟩, ⟨rfl, eG (Int.ofNat_tmod _ _).symm⟩, ⟨rfl, eG ?_⟩, trivial⟩
    ⟨⟨_, _, rfl, rfl, dZ rfl fun i _ => fe ?_ i⟩, trivial⟩
   ·rw [wrap_i64 (by omega) (by omega)]; simp only; omega
   ·rw [← Int.ofNat_tdiv]
    clear hdm
    generalize (r * 4294967296 + z j) / b = q at hq1 ⊢
    rw [wrap_u64 (by omega) (by omega), wrap_u32 (by omega) (by omega)]
  ·exact (eg (by simp only at hi; omega)).trans (ho0 i (by simp only at hi; omega))
  ·simp only
   rw [oH (by omega) (ho0 j (by omega))]
   rw [fB, val] at hval
   exact F5 hval hdm.symm
 ·have hk0 : k = 0 := by omega
  subst hk0
  have hv2 : val n o * b + r = val n z := by simpa [val] using hval
  refine aB.weak (by kernel_rfl) (cC (vs := Gs n z b 7 r 0) (ps := [(7, ⟨true, true, 1, n, ah o⟩)]) (nx := 8) [(7, 7)] hv h0 rfl
    ⟨⟨rfl, aF rfl⟩, ⟨rfl, aF rfl⟩, ⟨rfl, cF rfl rfl rfl⟩, ⟨rfl, aF rfl⟩, ⟨rfl, aF rfl⟩, trivial⟩
    ⟨⟨_, _, rfl, rfl, dZ rfl fun j _ => rfl⟩, trivial⟩)
   (aB.fin hT e9 hm 30 Z7 (by kernel_rfl) ?_)
  simp only [aa.all, ay, Nat.add_zero, gX]
  have hdiv : val n z / b = val n o := by
   rw [← hv2, Nat.mul_comm, Nat.mul_add_div hb0, Nat.div_eq_of_lt hr, Nat.add_zero]
  have hmod : val n z % b = r := by
   rw [← hv2, Nat.mul_comm, Nat.mul_add_mod, Nat.mod_eq_of_lt hr]
  exact ⟨⟨eI ho, by omega⟩, cI (congrArg AV.mag hdiv.symm), bq (by rw [hmod, wrap_u32 (by omega) (by omega)]), trivial⟩
theorem O4 {x s : Nat} (hs : s < 32) (hx : x < 2 ^ 32) : IntKind.u64.wrap (IntKind.u64.wrap (x : Int) * 2 ^ min (s : Int).toNat IntKind.u64.bits) = ((x * 2 ^ s : Nat) : Int) ∧ x * 2 ^ s < 2 ^ 64 := by
 have e : min (s : Int).toNat IntKind.u64.bits = s := by
  have : IntKind.u64.bits = 64 := rfl
  omega
 have hlt : x * 2 ^ s < 2 ^ 64 := by
  have h1 : 2 ^ s ≤ 2 ^ 31 := Nat.pow_le_pow_right (by omega) (by omega)
  have h2 : x * 2 ^ s ≤ 2 ^ 32 * 2 ^ 31 := Nat.mul_le_mul (by omega) h1
  omega
 refine ⟨?_, hlt⟩
 rw [e, wrap_u64 (x := (x : Int)) (by omega) (by omega)]
 have : (x : Int) * 2 ^ s = ((x * 2 ^ s : Nat) : Int) := by simp
 rw [this]
 exact wrap_u64 (by omega) (by omega)
theorem F2 {c x s : Nat} (hs : s < 32) (hx : x < 2 ^ 32) (hc : c < 2 ^ s) :
  IntKind.u64.wrap ((BitVec.ofInt IntKind.u64.bits (c : Int) ||| BitVec.ofInt IntKind.u64.bits (IntKind.u64.wrap (IntKind.u64.wrap (x : Int) * 2 ^ min (s : Int).toNat IntKind.u64.bits))).toNat : Int) = ((c + x * 2 ^ s : Nat) : Int) := by
 obtain ⟨h1, h2⟩ := O4 hs hx
 have h3 : 2 ^ s ≤ 2 ^ 31 := Nat.pow_le_pow_right (by omega) (by omega)
 rw [h1, pJ (by omega) h2, Nat.or_comm, o6 hc, Nat.add_comm]
theorem J8 {c x s : Nat} (hs : s < 32) (hx : x < 2 ^ 32) (hc : c < 2 ^ s) : c + x * 2 ^ s < 2 ^ 63 ∧ (c + x * 2 ^ s) / 4294967296 < 2 ^ s := by
 have h3 : 2 ^ s ≤ 2 ^ 31 := Nat.pow_le_pow_right (by omega) (by omega)
 have h4 : (x + 1) * 2 ^ s ≤ 2 ^ 32 * 2 ^ s := Nat.mul_le_mul_right _ hx
 rw [Nat.add_mul, Nat.one_mul] at h4
 refine ⟨by omega, ?_⟩
 rw [Nat.div_lt_iff_lt_mul (by omega)]
 omega
theorem Ho {B c x t v S : Nat} (h : v + c * B = t * S) : v + (c + x * S) % 4294967296 * B + (c + x * S) / 4294967296 * (4294967296 * B) = (t + x * B) * S := by
 have h1 := Nat.div_add_mod (c + x * S) 4294967296
 generalize (c + x * S) / 4294967296 = q at *
 generalize (c + x * S) % 4294967296 = r at *
 have : (4294967296 * q + r) * B = (c + x * S) * B := by rw [h1]
 grind
abbrev yC : List Nat := [0, 1, 5, 6, 13, 14, 15]
abbrev Gt (n s : Nat) (z : Nat → Nat) (K c i : Nat) : List AV := [.ak 1 n (ah z), .int .i64 s, .own K 1 0 (n + 1), .int .u64 c, .ak 1 n (ah z), .int .i64 n, .int .i64 i]
theorem OX {n s : Nat} {z : Nat → Nat} (hz : ∀ i, i < n → z i < 2 ^ 32) (hn : n < 2 ^ 40) (hs : s < 32) {c : Ctx} (h0 : c.k0 = aW) {Q : aj → aE → Prop}
  (fin : ∀ (c' : Nat) (o : Nat → Nat) (s' : aE), c' < 2 ^ s → (∀ j, j < n + 1 → o j < 2 ^ 32) → val n o + c' * 2 ^ (32 * n) = val n z * 2 ^ s → aU yC s' = some (Gt n s z 7 c' n, [(7, ⟨true, true, 1, n + 1, ah o⟩)]) →
   aB P c jQ.ntmps (behind (ax jQ) [1,1,1,0,1]) s' Q) :
  aq P c jQ.ntmps (ax jQ) ⟨aL 0 [.ak 1 n (ah z), .int .i64 s], [], 0⟩ Q := by
 refine aq.hole [1,1,1,0,1] (by kernel_rfl) (aB.aX hT e9 hm 30 yC abA (by kernel_rfl) ?_)
 have hw : IntKind.i64.wrap ((n : Int) + 1) = ((n + 1 : Nat) : Int) := by rw [wrap_i64 (by omega) (by omega)]; omega
 simp only [aa.all, ay, hw, Int.toNat_natCast]
 refine ⟨by omega, fun s' hv => ?_⟩
 refine aq.gp (i := 0) (y := part (ax jQ) [1,1,1,0,1,0,0]) (by kernel_rfl)
  (fun p : Nat × Nat × (Nat → Nat) => ⟨aC yC (Gt n s z 7 p.2.1 p.1), [(7, ⟨true, true, 1, n + 1, ah p.2.2⟩)], 8⟩)
  (fun p => p.1 ≤ n ∧ p.2.1 < 2 ^ s ∧ (∀ j, j < n + 1 → p.2.2 j < 2 ^ 32) ∧ val p.1 p.2.2 + p.2.1 * 2 ^ (32 * p.1) = val p.1 z * 2 ^ s)
  (fun p => n - p.1) (0, 0, fun _ => 0)
  (cC [(7, 16384)] hv h0 rfl ⟨⟨rfl, aF rfl⟩, ⟨rfl, aF rfl⟩, ⟨rfl, cF rfl rfl rfl⟩, ⟨rfl, aF rfl⟩, ⟨rfl, aF rfl⟩, ⟨rfl, aF rfl⟩, ⟨rfl, aF rfl⟩, trivial⟩
   ⟨⟨_, _, rfl, rfl, dZ rfl fun j _ => rfl⟩, trivial⟩)
  ⟨by simp, Nat.two_pow_pos s, fun j _ => by simp, by simp [val]⟩ ?_
 rintro ⟨i, c', o⟩ ⟨hi, hc, ho, hval⟩
 simp only at hi hc ho hval
 refine aq.aX hT bn hm 30 yC Ul (by kernel_rfl) ?_
 simp only [aa.all, ay, decide_eq_true_eq, decide_eq_false_iff_not, Nat.add_zero, beq_iff_eq, Int.toNat_natCast]
 refine ⟨fun hb => ?_, fun hb s' hv => ?_⟩
 ·have h1 : i < n := by omega
  have hzi := hz i h1
  have hor := F2 hs hzi hc
  simp only [Int.toNat_natCast] at hor
  rw [hor]
  obtain ⟨b1, b2⟩ := J8 hs hzi hc
  refine ⟨by omega, by omega, by omega, by omega, fun s' hv => ⟨(i + 1, (c' + z i * 2 ^ s) / 4294967296, bJ o i ((c' + z i * 2 ^ s) % 4294967296)), ?_, ⟨by simp only; omega, b2, fQ (by omega) ho, ?_⟩, by simp only; omega⟩⟩
  ·refine cC [(7, 7)] hv h0 rfl ⟨⟨rfl, aF rfl⟩, ⟨rfl, aF rfl⟩, ⟨rfl, cF rfl rfl rfl⟩, ⟨rfl, eG ?_⟩, ⟨rfl, aF rfl⟩, ⟨rfl, aF rfl⟩, ⟨rfl, eG ?_⟩, trivial⟩
    ⟨⟨_, _, rfl, rfl, dZ rfl fun j _ => fe ?_ j⟩, trivial⟩
   ·rw [jo]; simp only; omega
   ·rw [wrap_i64 (by omega) (by omega)]; simp only; omega
   ·rw [gZ]
  ·simp only
   rw [nD, fB]
   exact Ho hval
 ·have hin : i = n := by omega
  subst hin
  exact fin c' o s' hc ho hval hv
theorem M0 {s c' i : Nat} {o : Nat → Nat} (hs : s < 32) (hc : c' < 2 ^ s) : ∀ j, (if j = i then AV.int .u32 (IntKind.u32.wrap (c' : Int)) else ah o j) = ah (bJ o i c') j := fun j => fe (by
 have h3 : 2 ^ s ≤ 2 ^ 31 := Nat.pow_le_pow_right (by omega) (by omega)
 exact wrap_u32 (by omega) (by omega)) j
def J9 (A n B m : Nat) : cA := aG (.tuple [.mag (A - B), .int .i64 (if A < B then 7 else 0)]) [n < 2 ^ 40, m < 2 ^ 40]
theorem acr : ∀ K args pre r, bu (fM J9) K args pre = some r → aA P sL K args pre r :=
 bN (qo fun _ _ _ _ K hz hy need => US hz hy need.1 need.2 K [])
def J0 (N n : Nat) (b : Int) : cA := aG (.tuple [.mag (N / b.toNat), .int .u32 (N % b.toNat : Nat)]) [n < 2 ^ 40, 0 < b, b < 2 ^ 32]
theorem Vr : ∀ K args pre r, bu (zu J0) K args pre = some r → aA P uJ K args pre r :=
 bN (LA fun z n i K hz need => by
  obtain ⟨h1, h2, h3⟩ : n < 2 ^ 40 ∧ 0 < i ∧ i < 2 ^ 32 := need
  obtain ⟨b, rfl⟩ := Int.eq_ofNat_of_zero_le (Int.le_of_lt h2)
  exact Ql hz h1 (by omega) (by omega) K [])
end Go.Am.B
