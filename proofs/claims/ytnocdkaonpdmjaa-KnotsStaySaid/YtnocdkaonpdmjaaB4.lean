/- natural.Sub, natural.small, natural.raise. -/
import Derived.Test.YtnocdkaonpdmjaaB3
set_option linter.unusedVariables false
namespace Go.Am.B
open Go Go.Am.N AV
theorem is_natural_Sub : FnIs P natural_Sub fn_natural_Sub (codeOf fn_natural_Sub) := fnIs get_natural_Sub (by kernel_rfl) (by kernel_rfl) (by kernel_rfl)
theorem is_natural_small : FnIs P natural_small fn_natural_small (codeOf fn_natural_small) := fnIs get_natural_small (by kernel_rfl) (by kernel_rfl) (by kernel_rfl)
theorem is_natural_raise : FnIs P natural_raise fn_natural_raise (codeOf fn_natural_raise) := fnIs get_natural_raise (by kernel_rfl) (by kernel_rfl) (by kernel_rfl)
def G2 : Contracts := (natural_Cmp, pureSpec (spec2 g_cmp)) :: G1
theorem G2_ok : GOK P G2 := gok_cons s_cmp G1_ok
theorem sub_pre {n m : Nat} {z y : Nat → Nat} : seeL T G2 [15] 30 [1, 6, 7, 21, 22, 23, 4, 5] (before (codeOf fn_natural_Sub) [1,1,1,1,1,0,1]) ⟨zipSlots 0 [.tab 1 n (limbsF z), .tab 1 m (limbsF y)], [], 0⟩ =
    some (ATree.must [Limbs n (limbsF z), Limbs m (limbsF y), n < 2 ^ 40, m < 2 ^ 40] (ATree.fork (decide (cmpI (val n fun (i : Nat) ↦ numOf (limbsF z i)) (val m fun (i : Nat) ↦ numOf (limbsF y i)) < (0 : Int))) (ATree.leaf AEx.ret ([tab 1 m (limbsF y), tuple [], tuple [], tuple [], tuple [], tuple [], nil, int IntKind.i64 (7 : Int)], [])) (ATree.must [Limbs m (limbsF y), m < 2 ^ 62] (ATree.must [(0 : Int) ≤ (↑n : Int) ∧ (↑n : Int) ≤ (↑n : Int) ∧ (↑n : Int) ≤ (2 : Int) ^ 47 ∧ (↑n : Int) * (↑(4 : Nat) : Int) ≤ (2 : Int) ^ 47] (ATree.leaf AEx.normal ([mag (val m fun (i : Nat) ↦ numOf (limbsF y i)), own 45056 1 0 (↑n : Int).toNat, int IntKind.u64 (0 : Int), tab 1 n (limbsF z), int IntKind.i64 (↑n : Int), int IntKind.i64 (0 : Int), nil, int IntKind.i64 (0 : Int)], [((45056 : Nat), { row := true, wr := true, es := 1, len := (↑n : Int).toNat, f := fun (x : Nat) ↦ int IntKind.u32 (0 : Int) })])))))) := by kernel_rfl
theorem sub_body {n B i w : Nat} {z o : Nat → Nat} : seeL T [] [24, 32] 30 [1, 6, 7, 21, 22, 23, 4, 5] [part (codeOf fn_natural_Sub) [1,1,1,1,1,0,1,0,0]] ⟨zipL [1, 6, 7, 21, 22, 23, 4, 5] [.mag B, .own 7 1 0 n, .int .u64 w, .tab 1 n (limbsF z), .int .i64 n, .int .i64 i, .nil, .int .i64 0], [(7, ⟨true, true, 1, n, limbsF o⟩)], 8⟩ =
    some (ATree.fork (decide ((↑i : Int) < (↑n : Int))) (ATree.must [(0 : Int) ≤ (↑i : Int) ∧ (↑i : Int).toNat < n] (ATree.fork (decide ((↑i : Int) < (↑(nl B) : Int))) (ATree.must [(0 : Int) ≤ (↑i : Int) ∧ (↑i : Int).toNat < nl B] (ATree.must [(0 : Int) ≤ (↑i : Int) ∧ (↑i : Int).toNat < n, (↑i : Int).toNat + 0 < n] (ATree.must [(0 : Int) ≤ (63 : Int)] (ATree.leaf AEx.normal ([mag B, own 7 1 0 n, int IntKind.u64 ((IntKind.u64.wrap (IntKind.u64.wrap (↑(z (↑i : Int).toNat) : Int) - IntKind.u64.wrap ((↑w : Int) + IntKind.u64.wrap (↑(limb B (↑i : Int).toNat) : Int)))).fdiv ((2 : Int) ^ min (Int.toNat (63 : Int)) IntKind.u64.bits)), tab 1 n (limbsF z), int IntKind.i64 (↑n : Int), int IntKind.i64 (IntKind.i64.wrap ((↑i : Int) + (1 : Int))), nil, int IntKind.i64 (0 : Int)], [((7 : Nat), { row := true, wr := true, es := 1, len := n, f := fun (j : Nat) ↦ if (j == (↑i : Int).toNat + 0) = true then int IntKind.u32 (IntKind.u32.wrap (IntKind.u64.wrap (IntKind.u64.wrap (↑(z (↑i : Int).toNat) : Int) - IntKind.u64.wrap ((↑w : Int) + IntKind.u64.wrap (↑(limb B (↑i : Int).toNat) : Int))))) else limbsF o j })]))))) (ATree.must [(0 : Int) ≤ (↑i : Int) ∧ (↑i : Int).toNat < n, (↑i : Int).toNat + 0 < n] (ATree.must [(0 : Int) ≤ (63 : Int)] (ATree.leaf AEx.normal ([mag B, own 7 1 0 n, int IntKind.u64 ((IntKind.u64.wrap (IntKind.u64.wrap (↑(z (↑i : Int).toNat) : Int) - (↑w : Int))).fdiv ((2 : Int) ^ min (Int.toNat (63 : Int)) IntKind.u64.bits)), tab 1 n (limbsF z), int IntKind.i64 (↑n : Int), int IntKind.i64 (IntKind.i64.wrap ((↑i : Int) + (1 : Int))), nil, int IntKind.i64 (0 : Int)], [((7 : Nat), { row := true, wr := true, es := 1, len := n, f := fun (j : Nat) ↦ if (j == (↑i : Int).toNat + 0) = true then int IntKind.u32 (IntKind.u32.wrap (IntKind.u64.wrap (IntKind.u64.wrap (↑(z (↑i : Int).toNat) : Int) - (↑w : Int)))) else limbsF o j })])))))) (ATree.leaf (AEx.exit 0) ([mag B, own 7 1 0 n, int IntKind.u64 (↑w : Int), tab 1 n (limbsF z), int IntKind.i64 (↑n : Int), int IntKind.i64 (↑i : Int), nil, int IntKind.i64 (0 : Int)], [((7 : Nat), { row := true, wr := true, es := 1, len := n, f := limbsF o })]))) := by kernel_rfl
theorem sub_post {n B i w : Nat} {z o : Nat → Nat} : endL T G1 [] 30 fn_natural_Sub (behind (codeOf fn_natural_Sub) [1,1,1,1,1,0,1]) ⟨zipL [1, 6, 7, 21, 22, 23, 4, 5] [.mag B, .own 7 1 0 n, .int .u64 w, .tab 1 n (limbsF z), .int .i64 n, .int .i64 i, .nil, .int .i64 0], [(7, ⟨true, true, 1, n, limbsF o⟩)], 8⟩ =
    some (ATree.must [Limbs n fun (i : Nat) ↦ limbsF o (i + 0), n < 2 ^ 62] (ATree.leaf AEx.ret [mag (val n fun (i : Nat) ↦ numOf (limbsF o (i + 0))), int IntKind.i64 (0 : Int)])) := by kernel_rfl
theorem small_pre {n b : Nat} {z : Nat → Nat} : seeL T G1 [] 30 [0, 1, 6, 7, 8] (before (codeOf fn_natural_small) [1,1,1,0,1]) ⟨zipSlots 0 [.tab 1 n (limbsF z), .int .u32 b], [], 0⟩ =
    some (ATree.must [(0 : Int) ≤ (↑n : Int) ∧ (↑n : Int) ≤ (↑n : Int) ∧ (↑n : Int) ≤ (2 : Int) ^ 47 ∧ (↑n : Int) * (↑(4 : Nat) : Int) ≤ (2 : Int) ^ 47] (ATree.leaf AEx.normal ([tab 1 n (limbsF z), int IntKind.u32 (↑b : Int), own 16384 1 0 (↑n : Int).toNat, int IntKind.u64 (0 : Int), int IntKind.i64 (IntKind.i64.wrap ((↑n : Int) - (1 : Int)))], [((16384 : Nat), { row := true, wr := true, es := 1, len := (↑n : Int).toNat, f := fun (x : Nat) ↦ int IntKind.u32 (0 : Int) })]))) := by kernel_rfl
theorem small_body {n b k r : Nat} {z o : Nat → Nat} : seeL T [] [16] 30 [0, 1, 6, 7, 8] [part (codeOf fn_natural_small) [1,1,1,0,1,0,0]] ⟨zipL [0, 1, 6, 7, 8] [.tab 1 n (limbsF z), .int .u32 b, .own 7 1 0 n, .int .u64 r, .int .i64 ((k : Int) - 1)], [(7, ⟨true, true, 1, n, limbsF o⟩)], 8⟩ =
    some (ATree.fork (decide ((↑k : Int) - (1 : Int) ≥ (0 : Int))) (ATree.must [(0 : Int) ≤ (32 : Int), (0 : Int) ≤ (↑k : Int) - (1 : Int) ∧ ((↑k : Int) - (1 : Int)).toNat < n] (ATree.must [IntKind.u64.wrap (↑b : Int) ≠ (0 : Int), (0 : Int) ≤ (↑k : Int) - (1 : Int) ∧ ((↑k : Int) - (1 : Int)).toNat < n, ((↑k : Int) - (1 : Int)).toNat + 0 < n] (ATree.must [IntKind.u64.wrap (↑b : Int) ≠ (0 : Int)] (ATree.leaf AEx.normal ([tab 1 n (limbsF z), int IntKind.u32 (↑b : Int), own 7 1 0 n, int IntKind.u64 ((IntKind.u64.wrap (↑(BitVec.ofInt IntKind.u64.bits (IntKind.u64.wrap ((↑r : Int) * (2 : Int) ^ min (Int.toNat (32 : Int)) IntKind.u64.bits)) ||| BitVec.ofInt IntKind.u64.bits (IntKind.u64.wrap (↑(z ((↑k : Int) - (1 : Int)).toNat) : Int))).toNat : Int)).tmod (IntKind.u64.wrap (↑b : Int))), int IntKind.i64 (IntKind.i64.wrap ((↑k : Int) - (1 : Int) - (1 : Int)))], [((7 : Nat), { row := true, wr := true, es := 1, len := n, f := fun (j : Nat) ↦ if (j == ((↑k : Int) - (1 : Int)).toNat + 0) = true then int IntKind.u32 (IntKind.u32.wrap (IntKind.u64.wrap ((IntKind.u64.wrap (↑(BitVec.ofInt IntKind.u64.bits (IntKind.u64.wrap ((↑r : Int) * (2 : Int) ^ min (Int.toNat (32 : Int)) IntKind.u64.bits)) ||| BitVec.ofInt IntKind.u64.bits (IntKind.u64.wrap (↑(z ((↑k : Int) - (1 : Int)).toNat) : Int))).toNat : Int)).tdiv (IntKind.u64.wrap (↑b : Int))))) else limbsF o j })]))))) (ATree.leaf (AEx.exit 0) ([tab 1 n (limbsF z), int IntKind.u32 (↑b : Int), own 7 1 0 n, int IntKind.u64 (↑r : Int), int IntKind.i64 ((↑k : Int) - (1 : Int))], [((7 : Nat), { row := true, wr := true, es := 1, len := n, f := limbsF o })]))) := by kernel_rfl
theorem small_post {n b k r : Nat} {z o : Nat → Nat} : endL T G1 [] 30 fn_natural_small (behind (codeOf fn_natural_small) [1,1,1,0,1]) ⟨zipL [0, 1, 6, 7, 8] [.tab 1 n (limbsF z), .int .u32 b, .own 7 1 0 n, .int .u64 r, .int .i64 ((k : Int) - 1)], [(7, ⟨true, true, 1, n, limbsF o⟩)], 8⟩ =
    some (ATree.must [Limbs n fun (i : Nat) ↦ limbsF o (i + 0), n < 2 ^ 62] (ATree.leaf AEx.ret [mag (val n fun (i : Nat) ↦ numOf (limbsF o (i + 0))), int IntKind.u32 (IntKind.u32.wrap (↑r : Int))])) := by kernel_rfl
theorem raise_pre {n s : Nat} {z : Nat → Nat} : seeL T G1 [] 30 [0, 1, 5, 6, 13, 14, 15] (before (codeOf fn_natural_raise) [1,1,1,0,1]) ⟨zipSlots 0 [.tab 1 n (limbsF z), .int .i64 s], [], 0⟩ =
    some (ATree.must [(0 : Int) ≤ IntKind.i64.wrap ((↑n : Int) + (1 : Int)) ∧ IntKind.i64.wrap ((↑n : Int) + (1 : Int)) ≤ IntKind.i64.wrap ((↑n : Int) + (1 : Int)) ∧ IntKind.i64.wrap ((↑n : Int) + (1 : Int)) ≤ (2 : Int) ^ 47 ∧ IntKind.i64.wrap ((↑n : Int) + (1 : Int)) * (↑(4 : Nat) : Int) ≤ (2 : Int) ^ 47] (ATree.leaf AEx.normal ([tab 1 n (limbsF z), int IntKind.i64 (↑s : Int), own 16384 1 0 (IntKind.i64.wrap ((↑n : Int) + (1 : Int))).toNat, int IntKind.u64 (0 : Int), tab 1 n (limbsF z), int IntKind.i64 (↑n : Int), int IntKind.i64 (0 : Int)], [((16384 : Nat), { row := true, wr := true, es := 1, len := (IntKind.i64.wrap ((↑n : Int) + (1 : Int))).toNat, f := fun (x : Nat) ↦ int IntKind.u32 (0 : Int) })]))) := by kernel_rfl
theorem raise_body {n s i c : Nat} {z o : Nat → Nat} : seeL T [] [16] 30 [0, 1, 5, 6, 13, 14, 15] [part (codeOf fn_natural_raise) [1,1,1,0,1,0,0]] ⟨zipL [0, 1, 5, 6, 13, 14, 15] [.tab 1 n (limbsF z), .int .i64 s, .own 7 1 0 (n + 1), .int .u64 c, .tab 1 n (limbsF z), .int .i64 n, .int .i64 i], [(7, ⟨true, true, 1, n + 1, limbsF o⟩)], 8⟩ =
    some (ATree.fork (decide ((↑i : Int) < (↑n : Int))) (ATree.must [(0 : Int) ≤ (↑i : Int) ∧ (↑i : Int).toNat < n] (ATree.must [(0 : Int) ≤ (↑s : Int)] (ATree.must [(0 : Int) ≤ (↑i : Int) ∧ (↑i : Int).toNat < n + 1, (↑i : Int).toNat + 0 < n + 1] (ATree.must [(0 : Int) ≤ (32 : Int)] (ATree.leaf AEx.normal ([tab 1 n (limbsF z), int IntKind.i64 (↑s : Int), own 7 1 0 (n + 1), int IntKind.u64 ((IntKind.u64.wrap (↑(BitVec.ofInt IntKind.u64.bits (↑c : Int) ||| BitVec.ofInt IntKind.u64.bits (IntKind.u64.wrap (IntKind.u64.wrap (↑(z (↑i : Int).toNat) : Int) * (2 : Int) ^ min (↑s : Int).toNat IntKind.u64.bits))).toNat : Int)).fdiv ((2 : Int) ^ min (Int.toNat (32 : Int)) IntKind.u64.bits)), tab 1 n (limbsF z), int IntKind.i64 (↑n : Int), int IntKind.i64 (IntKind.i64.wrap ((↑i : Int) + (1 : Int)))], [((7 : Nat), { row := true, wr := true, es := 1, len := n + 1, f := fun (j : Nat) ↦ if (j == (↑i : Int).toNat + 0) = true then int IntKind.u32 (IntKind.u32.wrap (IntKind.u64.wrap (↑(BitVec.ofInt IntKind.u64.bits (↑c : Int) ||| BitVec.ofInt IntKind.u64.bits (IntKind.u64.wrap (IntKind.u64.wrap (↑(z (↑i : Int).toNat) : Int) * (2 : Int) ^ min (↑s : Int).toNat IntKind.u64.bits))).toNat : Int))) else limbsF o j })])))))) (ATree.leaf (AEx.exit 0) ([tab 1 n (limbsF z), int IntKind.i64 (↑s : Int), own 7 1 0 (n + 1), int IntKind.u64 (↑c : Int), tab 1 n (limbsF z), int IntKind.i64 (↑n : Int), int IntKind.i64 (↑i : Int)], [((7 : Nat), { row := true, wr := true, es := 1, len := n + 1, f := limbsF o })]))) := by kernel_rfl
theorem sub_step {B x y r v w' t : Nat} (hr : r + y = x + w' * 4294967296) (h : v = t) : v + r * B + y * B = t + x * B + w' * (4294967296 * B) := by
  subst h
  have : (r + y) * B = (x + w' * 4294967296) * B := by rw [hr]
  grind
theorem sub_limb {x y : Nat} (hx : x < 2 ^ 32) (hy : y ≤ 2 ^ 32) : ∃ r w : Nat, r < 2 ^ 32 ∧ w ≤ 1 ∧ r + y = x + w * 4294967296 ∧ ((x : Int) - y) % 2 ^ 64 % 2 ^ 32 = r ∧ ((x : Int) - y) % 2 ^ 64 / 9223372036854775808 = w := by
  rcases Nat.lt_or_ge x y with h | h
  · exact ⟨x + 4294967296 - y, 1, by omega, by omega, by omega, by omega, by omega⟩
  · exact ⟨x - y, 0, by omega, by omega, by omega, by omega, by omega⟩
abbrev subLs : List Nat := [1, 6, 7, 21, 22, 23, 4, 5]
abbrev subVs (B n : Nat) (z : Nat → Nat) (K w i : Nat) : List AV := [.mag B, .own K 1 0 n, .int .u64 w, .tab 1 n (limbsF z), .int .i64 n, .int .i64 i, .nil, .int .i64 0]
theorem natural_Sub_ok {n m : Nat} {z y : Nat → Nat} (hz : ∀ i, i < n → z i < 2 ^ 32) (hy : ∀ i, i < m → y i < 2 ^ 32) (hn : n < 2 ^ 40) (hm' : m < 2 ^ 40) (K : Nat) (pre : Store) :
    FOK P natural_Sub K [.tab 1 n (limbsF z), .tab 1 m (limbsF y)] pre (pres (.tuple [.mag (val n z - val m y), .int .i64 (if val n z < val m y then 7 else 0)]) []) := by
  refine fok_pure hT is_natural_Sub rfl (of_decide_eq_true (by kernel_rfl)) rfl (fun _ c h0 => ?_) K pre
  refine AWp.hole [1,1,1,1,1,0,1] (by kernel_rfl) (AWpL.see hT G2_ok hm 30 subLs sub_pre (by kernel_rfl) ?_)
  have hA : nl (val n z) ≤ n := nl_spec.2 (val_lt hz)
  have hAlt := val_lt hz
  generalize hB : val m y = B at *
  simp only [ATree.all, allP, decide_eq_true_eq, decide_eq_false_iff_not, val_numOf, hB]
  refine ⟨⟨limbs_limbsF hz, limbs_limbsF hy, by omega, by omega⟩, fun hb s' hv => ?_, fun hb => ⟨⟨limbs_limbsF hy, by omega⟩, by omega, fun s' hv => ?_⟩⟩
  · have h1 : val n z < B := by
      unfold cmpI at hb
      split at hb
      · assumption
      · split at hb <;> omega
    refine fin_view (us := [.nil, .int .i64 7]) (.inr rfl) hv (by kernel_rfl) ⟨avLe0_nil_mag.trans (avLe0_of_eq (congrArg AV.mag (by omega))), avLe0_int (by rw [if_pos h1]), trivial⟩
  have hBA : B ≤ val n z := by
    unfold cmpI at hb
    split at hb <;> omega
  have hnB : nl B ≤ n := Nat.le_trans (nl_mono hBA) hA
  refine AWp.whileLe (i := 0) (y := part (codeOf fn_natural_Sub) [1,1,1,1,1,0,1,0,0]) (by kernel_rfl)
    (fun p : Nat × Nat × (Nat → Nat) => ⟨zipL subLs (subVs B n z 7 p.2.1 p.1), [(7, ⟨true, true, 1, n, limbsF p.2.2⟩)], 8⟩)
    (fun p => p.1 ≤ n ∧ p.2.1 ≤ 1 ∧ (∀ j, j < n → p.2.2 j < 2 ^ 32) ∧ val p.1 p.2.2 + val (min p.1 (nl B)) (limb B) = val p.1 z + p.2.1 * 2 ^ (32 * p.1))
    (fun p => n - p.1) (0, 0, fun _ => 0)
    (le_view [(7, 45056)] hv h0 rfl ⟨⟨rfl, avLe_pure rfl⟩, ⟨rfl, avLe_own rfl rfl rfl⟩, ⟨rfl, avLe_pure rfl⟩, ⟨rfl, avLe_pure rfl⟩, ⟨rfl, avLe_pure rfl⟩, ⟨rfl, avLe_pure rfl⟩, ⟨rfl, avLe_pure rfl⟩, ⟨rfl, avLe_pure rfl⟩, trivial⟩
      ⟨⟨_, _, rfl, rfl, objLe_limbs rfl fun j _ => rfl⟩, trivial⟩)
    ⟨by simp, by simp, fun j _ => by simp, by simp [val]⟩ ?_
  rintro ⟨i, w, o⟩ ⟨hi, hw, ho, hval⟩
  simp only at hi hw ho hval
  refine AWp.see hT gok_nil hm 30 subLs sub_body (by kernel_rfl) ?_
  have key : ∀ {yi : Nat} {s' : AState} {u v : Int} {f' : Nat → AV} {r w' : Nat}, i < n → yi = (if i < nl B then limb B i else 0) → r < 2 ^ 32 → w' ≤ 1 → r + (w + yi) = z i + w' * 4294967296 →
      viewAV subLs s' = some ([.mag B, .own 7 1 0 n, .int .u64 u, .tab 1 n (limbsF z), .int .i64 n, .int .i64 v, .nil, .int .i64 0], [(7, ⟨true, true, 1, n, f'⟩)]) →
      u = (w' : Nat) → v = (i + 1 : Nat) → (∀ j, f' j = limbsF (setL o i r) j) → 
      ∃ k : Nat × Nat × (Nat → Nat), (∃ ρ, Le c ρ s' ⟨zipL subLs (subVs B n z 7 k.2.1 k.1), [(7, ⟨true, true, 1, n, limbsF k.2.2⟩)], 8⟩) ∧
        (k.1 ≤ n ∧ k.2.1 ≤ 1 ∧ (∀ j, j < n → k.2.2 j < 2 ^ 32) ∧ val k.1 k.2.2 + val (min k.1 (nl B)) (limb B) = val k.1 z + k.2.1 * 2 ^ (32 * k.1)) ∧ n - k.1 < n - i := by
    intro yi s' u v f' r w' hin hyi hr hw1 hrw hv hu hv1 hf
    refine ⟨(i + 1, w', setL o i r), le_view [(7, 7)] hv h0 rfl ⟨⟨rfl, avLe_pure rfl⟩, ⟨rfl, avLe_own rfl rfl rfl⟩, ⟨rfl, avLe_int hu⟩, ⟨rfl, avLe_pure rfl⟩, ⟨rfl, avLe_pure rfl⟩, ⟨rfl, avLe_int hv1⟩, ⟨rfl, avLe_pure rfl⟩, ⟨rfl, avLe_pure rfl⟩, trivial⟩
      ⟨⟨_, _, rfl, rfl, objLe_limbs rfl fun j _ => hf j⟩, trivial⟩, ⟨by simp only; omega, hw1, setL_lt hr ho, ?_⟩, by simp only; omega⟩
    simp only
    rw [val_step_min, ← hyi, val_setL_end, pow_succ32]
    show _ = val i z + z i * 2 ^ (32 * i) + _
    have := sub_step (B := 2 ^ (32 * i)) hrw hval
    rw [Nat.add_mul] at this
    omega
  have fin : i = n → ∀ s', viewAV subLs s' = some (subVs B n z 7 w i, [(7, ⟨true, true, 1, n, limbsF o⟩)]) →
      AWpL P c fn_natural_Sub.ntmps (behind (codeOf fn_natural_Sub) [1,1,1,1,1,0,1]) s' (Fin T fn_natural_Sub (.tuple [.mag (val n z - B), .int .i64 (if val n z < B then 7 else 0)])) := by
    intro hin s' hv
    subst hin
    rw [Nat.min_eq_right hnB, val_nl] at hval
    have hlt := val_lt ho
    have hw0 : w = 0 := by
      rcases Nat.eq_zero_or_pos w with h | h
      · exact h
      · have : w = 1 := by omega
        subst this
        omega
    subst hw0
    refine AWpL.weak (by kernel_rfl) (le_view (vs := subVs B i z 7 0 i) (ps := [(7, ⟨true, true, 1, i, limbsF o⟩)]) (nx := 8) [(7, 7)] hv h0 rfl
        ⟨⟨rfl, avLe_pure rfl⟩, ⟨rfl, avLe_own rfl rfl rfl⟩, ⟨rfl, avLe_pure rfl⟩, ⟨rfl, avLe_pure rfl⟩, ⟨rfl, avLe_pure rfl⟩, ⟨rfl, avLe_pure rfl⟩, ⟨rfl, avLe_pure rfl⟩, ⟨rfl, avLe_pure rfl⟩, trivial⟩
        ⟨⟨_, _, rfl, rfl, objLe_limbs rfl fun j _ => rfl⟩, trivial⟩)
      (AWpL.fin hT G1_ok hm 30 sub_post (by kernel_rfl) ?_)
    simp only [ATree.all, allP, Nat.add_zero, val_numOf]
    exact ⟨⟨limbs_limbsF ho, by omega⟩, avLe0_of_eq (congrArg AV.mag (by omega)), avLe0_int (by rw [if_neg (by omega)]), trivial⟩
  simp only [ATree.all, allP, decide_eq_true_eq, decide_eq_false_iff_not, Int.toNat_natCast, Nat.add_zero, beq_iff_eq]
  refine ⟨fun hb => ?_, fun hb s' hv => fin (by omega) s' hv⟩
  have h1 : i < n := by omega
  have hzi := hz i h1
  have hl := limb_lt (N := B) (i := i)
  have e1 : IntKind.u64.wrap (z i : Int) = (z i : Int) := wrap_u64 (by omega) (by omega)
  have e2 : IntKind.u64.wrap (limb B i : Int) = (limb B i : Int) := wrap_u64 (by omega) (by omega)
  have e3 : IntKind.u64.wrap ((w : Int) + (limb B i : Int)) = ((w + limb B i : Nat) : Int) := by rw [wrap_u64 (by omega) (by omega)]; omega
  rw [e1, e2, e3]
  refine ⟨by omega, fun hb2 => ?_, fun hb2 => ?_⟩
  · have h2 : i < nl B := by omega
    obtain ⟨r, w', q1, q2, q3, q4, q5⟩ := sub_limb hzi (y := w + limb B i) (by omega)
    refine ⟨by omega, by omega, by omega, fun s' hv => key (yi := limb B i) h1 (by rw [if_pos h2]) q1 q2 q3 hv ?_ (by rw [wrap_i64 (by omega) (by omega)]; omega) fun j => limbs_set ?_ j⟩
    · rw [fdiv63, wrap_u64_mod]; exact q5
    · rw [wrap_u32_mod, wrap_u64_mod]; exact q4
  · have h2 : ¬ i < nl B := by omega
    obtain ⟨r, w', q1, q2, q3, q4, q5⟩ := sub_limb hzi (y := w) (by omega)
    refine ⟨by omega, by omega, fun s' hv => key (yi := 0) h1 (by rw [if_neg h2]) q1 q2 q3 hv ?_ (by rw [wrap_i64 (by omega) (by omega)]; omega) fun j => limbs_set ?_ j⟩
    · rw [fdiv63, wrap_u64_mod]; exact q5
    · rw [wrap_u32_mod, wrap_u64_mod]; exact q4
theorem or_limb {r x : Nat} (hr : r < 2 ^ 32) (hx : x < 2 ^ 32) :
    IntKind.u64.wrap ((BitVec.ofInt IntKind.u64.bits (IntKind.u64.wrap ((r : Int) * 2 ^ min (Int.toNat 32) IntKind.u64.bits)) ||| BitVec.ofInt IntKind.u64.bits (IntKind.u64.wrap (x : Int))).toNat : Int) = ((r * 4294967296 + x : Nat) : Int) := by
  rw [shl32, wrap_u64 (x := (x : Int)) (by omega) (by omega), wrap_u64 (x := (r : Int) * 4294967296) (by omega) (by omega)]
  rw [show (r : Int) * 4294967296 = ((r * 2 ^ 32 : Nat) : Int) by omega, or_u64 (by omega) (by omega), or_add hx]
theorem small_step {r z b B v t vz q r' : Nat} (h : v * b + r * (4294967296 * B) + (vz + z * B) = t) (hq : r * 4294967296 + z = b * q + r') : (v + q * B) * b + r' * B + vz = t := by
  have : (r * 4294967296 + z) * B = (b * q + r') * B := by rw [hq]
  grind
abbrev smallLs : List Nat := [0, 1, 6, 7, 8]
abbrev smallVs (n : Nat) (z : Nat → Nat) (b K r k : Nat) : List AV := [.tab 1 n (limbsF z), .int .u32 b, .own K 1 0 n, .int .u64 r, .int .i64 ((k : Int) - 1)]
theorem natural_small_ok {n b : Nat} {z : Nat → Nat} (hz : ∀ i, i < n → z i < 2 ^ 32) (hn : n < 2 ^ 40) (hb0 : 0 < b) (hb32 : b < 2 ^ 32) (K : Nat) (pre : Store) :
    FOK P natural_small K [.tab 1 n (limbsF z), .int .u32 b] pre (pres (.tuple [.mag (val n z / b), .int .u32 (val n z % b : Nat)]) []) := by
  refine fok_pure hT is_natural_small rfl (of_decide_eq_true (by kernel_rfl)) rfl (fun _ c h0 => ?_) K pre
  refine AWp.hole [1,1,1,0,1] (by kernel_rfl) (AWpL.see hT G1_ok hm 30 smallLs small_pre (by kernel_rfl) ?_)
  simp only [ATree.all, allP]
  refine ⟨by omega, fun s' hv => ?_⟩
  refine AWp.whileLe (i := 0) (y := part (codeOf fn_natural_small) [1,1,1,0,1,0,0]) (by kernel_rfl)
    (fun p : Nat × Nat × (Nat → Nat) => ⟨zipL smallLs (smallVs n z b 7 p.2.1 p.1), [(7, ⟨true, true, 1, n, limbsF p.2.2⟩)], 8⟩)
    (fun p => p.1 ≤ n ∧ p.2.1 < b ∧ (∀ j, j < n → p.2.2 j < 2 ^ 32) ∧ (∀ j, j < p.1 → p.2.2 j = 0) ∧ val n p.2.2 * b + p.2.1 * 2 ^ (32 * p.1) + val p.1 z = val n z)
    (fun p => p.1) (n, 0, fun _ => 0)
    (le_view [(7, 16384)] hv h0 rfl ⟨⟨rfl, avLe_pure rfl⟩, ⟨rfl, avLe_pure rfl⟩, ⟨rfl, avLe_own rfl rfl rfl⟩, ⟨rfl, avLe_pure rfl⟩, ⟨rfl, avLe_int (wrap_i64 (by omega) (by omega))⟩, trivial⟩
      ⟨⟨_, _, rfl, rfl, objLe_limbs rfl fun j _ => rfl⟩, trivial⟩)
    ⟨by simp, hb0, fun j _ => by simp, fun j _ => rfl, ?_⟩ ?_
  · simp only
    rw [val_trunc (k := 0) (by omega) fun _ _ _ => rfl]
    simp [val]
  rintro ⟨k, r, o⟩ ⟨hk, hr, ho, ho0, hval⟩
  simp only at hk hr ho ho0 hval
  refine AWp.see hT gok_nil hm 30 smallLs small_body (by kernel_rfl) ?_
  simp only [ATree.all, allP, decide_eq_true_eq, decide_eq_false_iff_not, Nat.add_zero, beq_iff_eq]
  have hbw : IntKind.u64.wrap (b : Int) = (b : Int) := wrap_u64 (by omega) (by omega)
  refine ⟨fun hb => ?_, fun hb s' hv => ?_⟩
  · obtain ⟨j, rfl⟩ : ∃ j, k = j + 1 := ⟨k - 1, by omega⟩
    have e : (((j + 1 : Nat) : Int) - 1).toNat = j := by omega
    have hzj := hz j (by omega)
    have hor := or_limb (r := r) (x := z j) (by omega) hzj
    rw [e, hor, hbw]
    have hq1 : (r * 4294967296 + z j) / b < 2 ^ 32 := by
      rw [Nat.div_lt_iff_lt_mul hb0]
      have : (r + 1) * 4294967296 ≤ b * 4294967296 := Nat.mul_le_mul_right _ hr
      omega
    have hdm := Nat.div_add_mod (r * 4294967296 + z j) b
    refine ⟨⟨by omega, by omega, by omega⟩, ⟨by omega, ⟨by omega, by omega⟩, by omega⟩, by omega, fun s' hv => ⟨(j, (r * 4294967296 + z j) % b, setL o j ((r * 4294967296 + z j) / b)), ?_, ⟨by simp only; omega, Nat.mod_lt _ hb0, setL_lt hq1 ho, fun i hi => ?_, ?_⟩, by simp only; omega⟩⟩
    · refine le_view [(7, 7)] hv h0 rfl ⟨⟨rfl, avLe_pure rfl⟩, ⟨rfl, avLe_pure rfl⟩, ⟨rfl, avLe_own rfl rfl rfl⟩, ⟨rfl, avLe_int (Int.ofNat_tmod _ _).symm⟩, ⟨rfl, avLe_int ?_⟩, trivial⟩
        ⟨⟨_, _, rfl, rfl, objLe_limbs rfl fun i _ => limbs_set ?_ i⟩, trivial⟩
      · rw [wrap_i64 (by omega) (by omega)]; simp only; omega
      · rw [← Int.ofNat_tdiv]
        clear hdm
        generalize (r * 4294967296 + z j) / b = q at hq1 ⊢
        rw [wrap_u64 (by omega) (by omega), wrap_u32 (by omega) (by omega)]
    · exact (setL_ne (by simp only at hi; omega)).trans (ho0 i (by simp only at hi; omega))
    · simp only
      rw [val_setL (by omega) (ho0 j (by omega))]
      rw [pow_succ32, val] at hval
      exact small_step hval hdm.symm
  · have hk0 : k = 0 := by omega
    subst hk0
    have hv2 : val n o * b + r = val n z := by simpa [val] using hval
    refine AWpL.weak (by kernel_rfl) (le_view (vs := smallVs n z b 7 r 0) (ps := [(7, ⟨true, true, 1, n, limbsF o⟩)]) (nx := 8) [(7, 7)] hv h0 rfl
        ⟨⟨rfl, avLe_pure rfl⟩, ⟨rfl, avLe_pure rfl⟩, ⟨rfl, avLe_own rfl rfl rfl⟩, ⟨rfl, avLe_pure rfl⟩, ⟨rfl, avLe_pure rfl⟩, trivial⟩
        ⟨⟨_, _, rfl, rfl, objLe_limbs rfl fun j _ => rfl⟩, trivial⟩)
      (AWpL.fin hT G1_ok hm 30 small_post (by kernel_rfl) ?_)
    simp only [ATree.all, allP, Nat.add_zero, val_numOf]
    have hdiv : val n z / b = val n o := by
      rw [← hv2, Nat.mul_comm, Nat.mul_add_div hb0, Nat.div_eq_of_lt hr, Nat.add_zero]
    have hmod : val n z % b = r := by
      rw [← hv2, Nat.mul_comm, Nat.mul_add_mod, Nat.mod_eq_of_lt hr]
    exact ⟨⟨limbs_limbsF ho, by omega⟩, avLe0_of_eq (congrArg AV.mag hdiv.symm), avLe0_int (by rw [hmod, wrap_u32 (by omega) (by omega)]), trivial⟩
theorem shl_var {x s : Nat} (hs : s < 32) (hx : x < 2 ^ 32) : IntKind.u64.wrap (IntKind.u64.wrap (x : Int) * 2 ^ min (s : Int).toNat IntKind.u64.bits) = ((x * 2 ^ s : Nat) : Int) ∧ x * 2 ^ s < 2 ^ 64 := by
  have e : min (s : Int).toNat IntKind.u64.bits = s := by
    have : IntKind.u64.bits = 64 := rfl
    omega
  have hlt : x * 2 ^ s < 2 ^ 64 := by
    have h1 : 2 ^ s ≤ 2 ^ 31 := Nat.pow_le_pow_right (by omega) (by omega)
    have h2 : x * 2 ^ s ≤ 2 ^ 32 * 2 ^ 31 := Nat.mul_le_mul (by omega) h1
    omega
  refine ⟨?_, hlt⟩
  rw [e, wrap_u64 (x := (x : Int)) (by omega) (by omega)]
  have : (x : Int) * 2 ^ s = ((x * 2 ^ s : Nat) : Int) := by simp
  rw [this]
  exact wrap_u64 (by omega) (by omega)
theorem or_raise {c x s : Nat} (hs : s < 32) (hx : x < 2 ^ 32) (hc : c < 2 ^ s) :
    IntKind.u64.wrap ((BitVec.ofInt IntKind.u64.bits (c : Int) ||| BitVec.ofInt IntKind.u64.bits (IntKind.u64.wrap (IntKind.u64.wrap (x : Int) * 2 ^ min (s : Int).toNat IntKind.u64.bits))).toNat : Int) = ((c + x * 2 ^ s : Nat) : Int) := by
  obtain ⟨h1, h2⟩ := shl_var hs hx
  have h3 : 2 ^ s ≤ 2 ^ 31 := Nat.pow_le_pow_right (by omega) (by omega)
  rw [h1, or_u64 (by omega) h2, Nat.or_comm, or_add hc, Nat.add_comm]
theorem raise_bound {c x s : Nat} (hs : s < 32) (hx : x < 2 ^ 32) (hc : c < 2 ^ s) : c + x * 2 ^ s < 2 ^ 63 ∧ (c + x * 2 ^ s) / 4294967296 < 2 ^ s := by
  have h3 : 2 ^ s ≤ 2 ^ 31 := Nat.pow_le_pow_right (by omega) (by omega)
  have h4 : (x + 1) * 2 ^ s ≤ 2 ^ 32 * 2 ^ s := Nat.mul_le_mul_right _ hx
  rw [Nat.add_mul, Nat.one_mul] at h4
  refine ⟨by omega, ?_⟩
  rw [Nat.div_lt_iff_lt_mul (by omega)]
  omega
theorem raise_step {B c x t v S : Nat} (h : v + c * B = t * S) : v + (c + x * S) % 4294967296 * B + (c + x * S) / 4294967296 * (4294967296 * B) = (t + x * B) * S := by
  have h1 := Nat.div_add_mod (c + x * S) 4294967296
  generalize (c + x * S) / 4294967296 = q at *
  generalize (c + x * S) % 4294967296 = r at *
  have : (4294967296 * q + r) * B = (c + x * S) * B := by rw [h1]
  grind
abbrev raiseLs : List Nat := [0, 1, 5, 6, 13, 14, 15]
abbrev raiseVs (n s : Nat) (z : Nat → Nat) (K c i : Nat) : List AV := [.tab 1 n (limbsF z), .int .i64 s, .own K 1 0 (n + 1), .int .u64 c, .tab 1 n (limbsF z), .int .i64 n, .int .i64 i]
theorem raise_awp {n s : Nat} {z : Nat → Nat} (hz : ∀ i, i < n → z i < 2 ^ 32) (hn : n < 2 ^ 40) (hs : s < 32) {c : Ctx} (h0 : c.k0 = noKeys) {Q : AEx → AState → Prop}
    (fin : ∀ (c' : Nat) (o : Nat → Nat) (s' : AState), c' < 2 ^ s → (∀ j, j < n + 1 → o j < 2 ^ 32) → val n o + c' * 2 ^ (32 * n) = val n z * 2 ^ s → viewAV raiseLs s' = some (raiseVs n s z 7 c' n, [(7, ⟨true, true, 1, n + 1, limbsF o⟩)]) →
      AWpL P c fn_natural_raise.ntmps (behind (codeOf fn_natural_raise) [1,1,1,0,1]) s' Q) :
    AWp P c fn_natural_raise.ntmps (codeOf fn_natural_raise) ⟨zipSlots 0 [.tab 1 n (limbsF z), .int .i64 s], [], 0⟩ Q := by
  refine AWp.hole [1,1,1,0,1] (by kernel_rfl) (AWpL.see hT G1_ok hm 30 raiseLs raise_pre (by kernel_rfl) ?_)
  have hw : IntKind.i64.wrap ((n : Int) + 1) = ((n + 1 : Nat) : Int) := by rw [wrap_i64 (by omega) (by omega)]; omega
  simp only [ATree.all, allP, hw, Int.toNat_natCast]
  refine ⟨by omega, fun s' hv => ?_⟩
  refine AWp.whileLe (i := 0) (y := part (codeOf fn_natural_raise) [1,1,1,0,1,0,0]) (by kernel_rfl)
    (fun p : Nat × Nat × (Nat → Nat) => ⟨zipL raiseLs (raiseVs n s z 7 p.2.1 p.1), [(7, ⟨true, true, 1, n + 1, limbsF p.2.2⟩)], 8⟩)
    (fun p => p.1 ≤ n ∧ p.2.1 < 2 ^ s ∧ (∀ j, j < n + 1 → p.2.2 j < 2 ^ 32) ∧ val p.1 p.2.2 + p.2.1 * 2 ^ (32 * p.1) = val p.1 z * 2 ^ s)
    (fun p => n - p.1) (0, 0, fun _ => 0)
    (le_view [(7, 16384)] hv h0 rfl ⟨⟨rfl, avLe_pure rfl⟩, ⟨rfl, avLe_pure rfl⟩, ⟨rfl, avLe_own rfl rfl rfl⟩, ⟨rfl, avLe_pure rfl⟩, ⟨rfl, avLe_pure rfl⟩, ⟨rfl, avLe_pure rfl⟩, ⟨rfl, avLe_pure rfl⟩, trivial⟩
      ⟨⟨_, _, rfl, rfl, objLe_limbs rfl fun j _ => rfl⟩, trivial⟩)
    ⟨by simp, Nat.two_pow_pos s, fun j _ => by simp, by simp [val]⟩ ?_
  rintro ⟨i, c', o⟩ ⟨hi, hc, ho, hval⟩
  simp only at hi hc ho hval
  refine AWp.see hT gok_nil hm 30 raiseLs raise_body (by kernel_rfl) ?_
  simp only [ATree.all, allP, decide_eq_true_eq, decide_eq_false_iff_not, Nat.add_zero, beq_iff_eq, Int.toNat_natCast]
  refine ⟨fun hb => ?_, fun hb s' hv => ?_⟩
  · have h1 : i < n := by omega
    have hzi := hz i h1
    have hor := or_raise hs hzi hc
    simp only [Int.toNat_natCast] at hor
    rw [hor]
    obtain ⟨b1, b2⟩ := raise_bound hs hzi hc
    refine ⟨by omega, by omega, by omega, by omega, fun s' hv => ⟨(i + 1, (c' + z i * 2 ^ s) / 4294967296, setL o i ((c' + z i * 2 ^ s) % 4294967296)), ?_, ⟨by simp only; omega, b2, setL_lt (by omega) ho, ?_⟩, by simp only; omega⟩⟩
    · refine le_view [(7, 7)] hv h0 rfl ⟨⟨rfl, avLe_pure rfl⟩, ⟨rfl, avLe_pure rfl⟩, ⟨rfl, avLe_own rfl rfl rfl⟩, ⟨rfl, avLe_int ?_⟩, ⟨rfl, avLe_pure rfl⟩, ⟨rfl, avLe_pure rfl⟩, ⟨rfl, avLe_int ?_⟩, trivial⟩
        ⟨⟨_, _, rfl, rfl, objLe_limbs rfl fun j _ => limbs_set ?_ j⟩, trivial⟩
      · rw [fdiv32]; simp only; omega
      · rw [wrap_i64 (by omega) (by omega)]; simp only; omega
      · rw [wrap_u32_nat]
    · simp only
      rw [val_setL_end, pow_succ32]
      exact raise_step hval
  · have hin : i = n := by omega
    subst hin
    exact fin c' o s' hc ho hval hv
theorem raise_set {s c' i : Nat} {o : Nat → Nat} (hs : s < 32) (hc : c' < 2 ^ s) : ∀ j, (if j = i then AV.int .u32 (IntKind.u32.wrap (c' : Int)) else limbsF o j) = limbsF (setL o i c') j := fun j => limbs_set (by
  have h3 : 2 ^ s ≤ 2 ^ 31 := Nat.pow_le_pow_right (by omega) (by omega)
  exact wrap_u32 (by omega) (by omega)) j
def g_sub (A n B m : Nat) : CRes := pres (.tuple [.mag (A - B), .int .i64 (if A < B then 7 else 0)]) [n < 2 ^ 40, m < 2 ^ 40]
theorem s_sub : ∀ K args pre r, pureSpec (spec2 g_sub) K args pre = some r → FOK P natural_Sub K args pre r :=
  pureSpec_ok (spec2_ok fun _ _ _ _ K hz hy need => natural_Sub_ok hz hy need.1 need.2 K [])
def g_small (N n : Nat) (b : Int) : CRes := pres (.tuple [.mag (N / b.toNat), .int .u32 (N % b.toNat : Nat)]) [n < 2 ^ 40, 0 < b, b < 2 ^ 32]
theorem s_small : ∀ K args pre r, pureSpec (spec1u g_small) K args pre = some r → FOK P natural_small K args pre r :=
  pureSpec_ok (spec1u_ok fun z n i K hz need => by
    obtain ⟨h1, h2, h3⟩ : n < 2 ^ 40 ∧ 0 < i ∧ i < 2 ^ 32 := need
    obtain ⟨b, rfl⟩ := Int.eq_ofNat_of_zero_le (Int.le_of_lt h2)
    exact natural_small_ok hz h1 (by omega) (by omega) K [])
end Go.Am.B
