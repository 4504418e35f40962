/- natural.Add. -/
import Derived.Test.YtnocdkaonpdmjaaB1
set_option linter.unusedVariables false
namespace Go.Am.B
open Go Go.Am.N AV
theorem is_natural_Add : FnIs P natural_Add fn_natural_Add (codeOf fn_natural_Add) := fnIs get_natural_Add (by kernel_rfl) (by kernel_rfl) (by kernel_rfl)
theorem add_pre {n m : Nat} {z y : Nat → Nat} : seeL T G1 [13] 30 [0, 1, 5, 6, 20, 21, 22] (before (codeOf fn_natural_Add) [1,1,1,1,0,1]) ⟨zipSlots 0 [.tab 1 n (limbsF z), .tab 1 m (limbsF y)], [], 0⟩ =
    some (ATree.fork (decide ((↑n : Int) < (↑m : Int))) (ATree.must [(0 : Int) ≤ IntKind.i64.wrap ((↑m : Int) + (1 : Int)) ∧ IntKind.i64.wrap ((↑m : Int) + (1 : Int)) ≤ IntKind.i64.wrap ((↑m : Int) + (1 : Int)) ∧ IntKind.i64.wrap ((↑m : Int) + (1 : Int)) ≤ (2 : Int) ^ 47 ∧ IntKind.i64.wrap ((↑m : Int) + (1 : Int)) * (↑(4 : Nat) : Int) ≤ (2 : Int) ^ 47] (ATree.leaf AEx.normal ([tab 1 m (limbsF y), tab 1 n (limbsF z), own 53248 1 0 (IntKind.i64.wrap ((↑m : Int) + (1 : Int))).toNat, int IntKind.u64 (0 : Int), tab 1 m (limbsF y), int IntKind.i64 (↑m : Int), int IntKind.i64 (0 : Int)], [((53248 : Nat), { row := true, wr := true, es := 1, len := (IntKind.i64.wrap ((↑m : Int) + (1 : Int))).toNat, f := fun (x : Nat) ↦ int IntKind.u32 (0 : Int) })]))) (ATree.must [(0 : Int) ≤ IntKind.i64.wrap ((↑n : Int) + (1 : Int)) ∧ IntKind.i64.wrap ((↑n : Int) + (1 : Int)) ≤ IntKind.i64.wrap ((↑n : Int) + (1 : Int)) ∧ IntKind.i64.wrap ((↑n : Int) + (1 : Int)) ≤ (2 : Int) ^ 47 ∧ IntKind.i64.wrap ((↑n : Int) + (1 : Int)) * (↑(4 : Nat) : Int) ≤ (2 : Int) ^ 47] (ATree.leaf AEx.normal ([tab 1 n (limbsF z), tab 1 m (limbsF y), own 36864 1 0 (IntKind.i64.wrap ((↑n : Int) + (1 : Int))).toNat, int IntKind.u64 (0 : Int), tab 1 n (limbsF z), int IntKind.i64 (↑n : Int), int IntKind.i64 (0 : Int)], [((36864 : Nat), { row := true, wr := true, es := 1, len := (IntKind.i64.wrap ((↑n : Int) + (1 : Int))).toNat, f := fun (x : Nat) ↦ int IntKind.u32 (0 : Int) })])))) := by kernel_rfl
abbrev addPath : List Nat := [1,1,1,1,0,1]
abbrev addLs : List Nat := [0, 1, 5, 6, 20, 21, 22]
theorem add_body {n m i c : Nat} {z y o : Nat → Nat} : seeL T G1 [23, 34] 30 [0, 1, 5, 6, 20, 21, 22] [part (codeOf fn_natural_Add) [1,1,1,1,0,1,0,0]] ⟨zipL [0, 1, 5, 6, 20, 21, 22] [.tab 1 n (limbsF z), .tab 1 m (limbsF y), .own 7 1 0 (n + 1), .int .u64 c, .tab 1 n (limbsF z), .int .i64 n, .int .i64 i], [(7, ⟨true, true, 1, n + 1, limbsF o⟩)], 8⟩ =
    some (ATree.fork (decide ((↑i : Int) < (↑n : Int))) (ATree.must [(0 : Int) ≤ (↑i : Int) ∧ (↑i : Int).toNat < n] (ATree.fork (decide ((↑i : Int) < (↑m : Int))) (ATree.must [(0 : Int) ≤ (↑i : Int) ∧ (↑i : Int).toNat < m] (ATree.must [(0 : Int) ≤ (↑i : Int) ∧ (↑i : Int).toNat < n + 1, (↑i : Int).toNat + 0 < n + 1] (ATree.must [(0 : Int) ≤ (32 : Int)] (ATree.leaf AEx.normal ([tab 1 n (limbsF z), tab 1 m (limbsF y), own 7 1 0 (n + 1), int IntKind.u64 ((IntKind.u64.wrap (IntKind.u64.wrap ((↑c : Int) + IntKind.u64.wrap (↑(z (↑i : Int).toNat) : Int)) + IntKind.u64.wrap (↑(y (↑i : Int).toNat) : Int))).fdiv ((2 : Int) ^ min (Int.toNat (32 : Int)) IntKind.u64.bits)), tab 1 n (limbsF z), int IntKind.i64 (↑n : Int), int IntKind.i64 (IntKind.i64.wrap ((↑i : Int) + (1 : Int)))], [((7 : Nat), { row := true, wr := true, es := 1, len := n + 1, f := fun (j : Nat) ↦ if (j == (↑i : Int).toNat + 0) = true then int IntKind.u32 (IntKind.u32.wrap (IntKind.u64.wrap (IntKind.u64.wrap ((↑c : Int) + IntKind.u64.wrap (↑(z (↑i : Int).toNat) : Int)) + IntKind.u64.wrap (↑(y (↑i : Int).toNat) : Int)))) else limbsF o j })]))))) (ATree.must [(0 : Int) ≤ (↑i : Int) ∧ (↑i : Int).toNat < n + 1, (↑i : Int).toNat + 0 < n + 1] (ATree.must [(0 : Int) ≤ (32 : Int)] (ATree.leaf AEx.normal ([tab 1 n (limbsF z), tab 1 m (limbsF y), own 7 1 0 (n + 1), int IntKind.u64 ((IntKind.u64.wrap ((↑c : Int) + IntKind.u64.wrap (↑(z (↑i : Int).toNat) : Int))).fdiv ((2 : Int) ^ min (Int.toNat (32 : Int)) IntKind.u64.bits)), tab 1 n (limbsF z), int IntKind.i64 (↑n : Int), int IntKind.i64 (IntKind.i64.wrap ((↑i : Int) + (1 : Int)))], [((7 : Nat), { row := true, wr := true, es := 1, len := n + 1, f := fun (j : Nat) ↦ if (j == (↑i : Int).toNat + 0) = true then int IntKind.u32 (IntKind.u32.wrap (IntKind.u64.wrap ((↑c : Int) + IntKind.u64.wrap (↑(z (↑i : Int).toNat) : Int)))) else limbsF o j })])))))) (ATree.leaf (AEx.exit 0) ([tab 1 n (limbsF z), tab 1 m (limbsF y), own 7 1 0 (n + 1), int IntKind.u64 (↑c : Int), tab 1 n (limbsF z), int IntKind.i64 (↑n : Int), int IntKind.i64 (↑i : Int)], [((7 : Nat), { row := true, wr := true, es := 1, len := n + 1, f := limbsF o })]))) := by kernel_rfl
theorem add_post {n m i c : Nat} {z y o : Nat → Nat} : endL T G1 [] 30 fn_natural_Add (behind (codeOf fn_natural_Add) [1,1,1,1,0,1]) ⟨zipL [0, 1, 5, 6, 20, 21, 22] [.tab 1 n (limbsF z), .tab 1 m (limbsF y), .own 7 1 0 (n + 1), .int .u64 c, .tab 1 n (limbsF z), .int .i64 n, .int .i64 i], [(7, ⟨true, true, 1, n + 1, limbsF o⟩)], 8⟩ =
    some (ATree.must [(0 : Int) ≤ (↑n : Int) ∧ (↑n : Int).toNat < n + 1, (↑n : Int).toNat + 0 < n + 1] (ATree.must [Limbs (n + 1) fun (i : Nat) ↦ if (i + 0 == (↑n : Int).toNat + 0) = true then int IntKind.u32 (IntKind.u32.wrap (↑c : Int)) else limbsF o (i + 0), n + 1 < 2 ^ 62] (ATree.leaf AEx.ret [mag (val (n + 1) fun (i : Nat) ↦ numOf (if (i + 0 == (↑n : Int).toNat + 0) = true then int IntKind.u32 (IntKind.u32.wrap (↑c : Int)) else limbsF o (i + 0)))]))) := by kernel_rfl
theorem val_step_min {i m : Nat} {y : Nat → Nat} : val (min (i + 1) m) y = val (min i m) y + (if i < m then y i else 0) * 2 ^ (32 * i) := by
  by_cases h : i < m
  · rw [Nat.min_eq_left (by omega), Nat.min_eq_left (by omega), if_pos h]; rfl
  · rw [Nat.min_eq_right (by omega), Nat.min_eq_right (by omega), if_neg h]; simp
theorem add_round {i c zi yi vz vy : Nat} {o o' : Nat → Nat} (hv : val i o + c * 2 ^ (32 * i) = vz + vy) (ho : ∀ j, j < i → o' j = o j) (h1 : o' i = (c + zi + yi) % 4294967296) :
    val (i + 1) o' + (c + zi + yi) / 4294967296 * 2 ^ (32 * (i + 1)) = (vz + zi * 2 ^ (32 * i)) + (vy + yi * 2 ^ (32 * i)) := by
  rw [val, val_congr ho, h1, pow_succ32]
  have := carry_step (B := 2 ^ (32 * i)) (c := c) (z := zi) (y := yi) rfl hv
  omega
theorem add_loop {c0 : Ctx} (h0 : c0.k0 = noKeys) {n m : Nat} {z y : Nat → Nat} (hn : n < 2 ^ 40) (hmn : m ≤ n) (hz : ∀ i, i < n → z i < 2 ^ 32) (hy : ∀ i, i < m → y i < 2 ^ 32) {K L : Nat} {f0 : Nat → AV} {s' : AState}
    (hv : viewAV addLs s' = some ([.tab 1 n (limbsF z), .tab 1 m (limbsF y), .own K 1 0 L, .int .u64 0, .tab 1 n (limbsF z), .int .i64 n, .int .i64 0], [(K, ⟨true, true, 1, L, f0⟩)])) (hL : L = n + 1) (hf : f0 = limbsF fun _ => 0) :
    AWp P c0 fn_natural_Add.ntmps (part (codeOf fn_natural_Add) addPath) s' (thenDo (fun s'' => AWpL P c0 fn_natural_Add.ntmps (behind (codeOf fn_natural_Add) addPath) s'' (Fin T fn_natural_Add (.mag (val n z + val m y)))) (Fin T fn_natural_Add (.mag (val n z + val m y)))) := by
  subst hL hf
  refine AWp.whileLe (i := 0) (y := part (codeOf fn_natural_Add) [1,1,1,1,0,1,0,0]) (by kernel_rfl)
    (fun p : Nat × Nat × (Nat → Nat) => ⟨zipL addLs [.tab 1 n (limbsF z), .tab 1 m (limbsF y), .own 7 1 0 (n + 1), .int .u64 (p.2.1 : Nat), .tab 1 n (limbsF z), .int .i64 n, .int .i64 (p.1 : Nat)], [(7, ⟨true, true, 1, n + 1, limbsF p.2.2⟩)], 8⟩)
    (fun p => p.1 ≤ n ∧ p.2.1 ≤ 1 ∧ (∀ j, j < n + 1 → p.2.2 j < 2 ^ 32) ∧ val p.1 p.2.2 + p.2.1 * 2 ^ (32 * p.1) = val p.1 z + val (min p.1 m) y)
    (fun p => n - p.1) (0, 0, fun _ => 0)
    (le_view [(7, K)] hv h0 (by simp [renOK]) ⟨⟨rfl, avLe_pure rfl⟩, ⟨rfl, avLe_pure rfl⟩, ⟨rfl, avLe_own rfl rfl rfl⟩, ⟨rfl, avLe_pure rfl⟩, ⟨rfl, avLe_pure rfl⟩, ⟨rfl, avLe_pure rfl⟩, ⟨rfl, avLe_pure rfl⟩, trivial⟩
      ⟨⟨K, _, rfl, by simp [look], objLe_of rfl fun i _ => avLe_pure rfl⟩, trivial⟩)
    ⟨by simp, by simp, fun j _ => by simp, by simp [val]⟩ ?_
  rintro ⟨i, c, o⟩ ⟨hi, hc, ho, hval⟩
  simp only at hi hc ho hval
  refine AWp.see hT G1_ok hm 30 addLs add_body (by kernel_rfl) ?_
  have key : ∀ {yi : Nat} {s' : AState} {u v : Int} {f' : Nat → AV}, i < n → yi = (if i < m then y i else 0) → yi < 2 ^ 32 →
      viewAV addLs s' = some ([.tab 1 n (limbsF z), .tab 1 m (limbsF y), .own 7 1 0 (n + 1), .int .u64 u, .tab 1 n (limbsF z), .int .i64 n, .int .i64 v], [(7, ⟨true, true, 1, n + 1, f'⟩)]) →
      u = ((c + z i + yi) / 4294967296 : Nat) → v = (i + 1 : Nat) → (∀ j, f' j = if j = i then .int .u32 ((c + z i + yi) % 4294967296 : Nat) else limbsF o j) → 
      ∃ k : Nat × Nat × (Nat → Nat), (∃ ρ, Le c0 ρ s' ⟨zipL addLs [.tab 1 n (limbsF z), .tab 1 m (limbsF y), .own 7 1 0 (n + 1), .int .u64 (k.2.1 : Nat), .tab 1 n (limbsF z), .int .i64 n, .int .i64 (k.1 : Nat)], [(7, ⟨true, true, 1, n + 1, limbsF k.2.2⟩)], 8⟩) ∧
        (k.1 ≤ n ∧ k.2.1 ≤ 1 ∧ (∀ j, j < n + 1 → k.2.2 j < 2 ^ 32) ∧ val k.1 k.2.2 + k.2.1 * 2 ^ (32 * k.1) = val k.1 z + val (min k.1 m) y) ∧ n - k.1 < n - i := by
    intro yi s' u v f' hin hyi hyl hv hu hv1 hf
    have hzi := hz i hin
    refine ⟨(i + 1, (c + z i + yi) / 4294967296, fun j => if j = i then (c + z i + yi) % 4294967296 else o j), ?_, ⟨by simp; omega, by simp; omega, fun j hj => ?_, ?_⟩, by simp; omega⟩
    · exact le_view [(7, 7)] hv h0 rfl ⟨⟨rfl, avLe_pure rfl⟩, ⟨rfl, avLe_pure rfl⟩, ⟨rfl, avLe_own rfl rfl rfl⟩, ⟨rfl, avLe_int hu⟩, ⟨rfl, avLe_pure rfl⟩, ⟨rfl, avLe_pure rfl⟩, ⟨rfl, avLe_int hv1⟩, trivial⟩
        ⟨⟨7, _, rfl, rfl, objLe_of rfl fun j _ => by
          rw [hf j]; simp only [limbsF]
          by_cases hj : j = i
          · simp only [if_pos hj]; exact avLe_pure rfl
          · simp only [if_neg hj]; exact avLe_pure rfl⟩, trivial⟩
    · simp only
      split
      · omega
      · exact ho j hj
    · simp only
      rw [val_step_min, ← hyi]
      exact add_round hval (fun j hj => if_neg (by omega)) (if_pos rfl)
  have fin : i = n → ∀ s', viewAV addLs s' = some ([.tab 1 n (limbsF z), .tab 1 m (limbsF y), .own 7 1 0 (n + 1), .int .u64 (c : Nat), .tab 1 n (limbsF z), .int .i64 n, .int .i64 (i : Nat)], [(7, ⟨true, true, 1, n + 1, limbsF o⟩)]) →
      AWpL P c0 fn_natural_Add.ntmps (behind (codeOf fn_natural_Add) addPath) s' (Fin T fn_natural_Add (.mag (val n z + val m y))) := by
    intro hin s' hv
    subst hin
    rw [Nat.min_eq_right hmn] at hval
    have e : ∀ j, j < i + 1 → numOf (if (j + 0 == (i : Int).toNat + 0) = true then .int .u32 (IntKind.u32.wrap (c : Int)) else limbsF o (j + 0)) = if j = i then c else o j := by
      intro j hj
      have := ho j hj
      by_cases h : j = i
      · simp [h, numOf, wrap_u32_nat]; omega
      · simp [h, numOf, limbsF]
    refine AWpL.weak (by kernel_rfl) (le_view (vs := [.tab 1 i (limbsF z), .tab 1 m (limbsF y), .own 7 1 0 (i + 1), .int .u64 (c : Nat), .tab 1 i (limbsF z), .int .i64 i, .int .i64 (i : Nat)])
        (ps := [(7, ⟨true, true, 1, i + 1, limbsF o⟩)]) (nx := 8) [(7, 7)] hv h0 rfl ⟨⟨rfl, avLe_pure rfl⟩, ⟨rfl, avLe_pure rfl⟩, ⟨rfl, avLe_own rfl rfl rfl⟩, ⟨rfl, avLe_pure rfl⟩, ⟨rfl, avLe_pure rfl⟩, ⟨rfl, avLe_pure rfl⟩, ⟨rfl, avLe_pure rfl⟩, trivial⟩
        ⟨⟨7, _, rfl, rfl, objLe_of rfl fun j _ => avLe_pure rfl⟩, trivial⟩)
      (AWpL.fin hT G1_ok hm 30 add_post (by kernel_rfl) ?_)
    simp only [ATree.all, allP]
    refine ⟨⟨by omega, by omega⟩, ⟨fun j hj => ?_, by omega⟩, ?_⟩
    · have := ho j hj
      by_cases h : j = i
      · exact ⟨c, by omega, by simp [h, wrap_u32_nat]; omega⟩
      · exact ⟨o j, this, by simp [h, limbsF]⟩
    · rw [val_congr e]
      refine avLe0_of_eq (congrArg AV.mag ?_)
      rw [← hval, val, val_congr (y := o) fun j hj => if_neg (by omega), if_pos rfl]
  simp only [ATree.all, allP, decide_eq_true_eq, decide_eq_false_iff_not, Int.toNat_natCast, Nat.add_zero, beq_iff_eq, wrap_u64_mod, wrap_u32_mod, fdiv32]
  refine ⟨fun hb => ?_, fun hb s' hv => fin (by omega) s' hv⟩
  have h1 : i < n := by omega
  have hzi := hz i h1
  refine ⟨by omega, fun hb2 => ?_, fun hb2 => ?_⟩
  · have h2 : i < m := by omega
    have hyi := hy i h2
    refine ⟨by omega, by omega, by omega, fun s' hv => key (yi := y i) h1 (by rw [if_pos h2]) hyi hv (by omega) (by rw [wrap_i64 (by omega) (by omega)]; omega) fun j => ?_⟩
    split
    · congr 1; omega
    · rfl
  · have h2 : ¬ i < m := by omega
    refine ⟨by omega, by omega, fun s' hv => key (yi := 0) h1 (by rw [if_neg h2]) (by omega) hv (by omega) (by rw [wrap_i64 (by omega) (by omega)]; omega) fun j => ?_⟩
    split
    · congr 1; omega
    · rfl
theorem natural_Add_ok {n m : Nat} {z y : Nat → Nat} (hz : ∀ i, i < n → z i < 2 ^ 32) (hy : ∀ i, i < m → y i < 2 ^ 32) (hn : n < 2 ^ 40) (hm' : m < 2 ^ 40) (K : Nat) (pre : Store) :
    FOK P natural_Add K [.tab 1 n (limbsF z), .tab 1 m (limbsF y)] pre (pres (.mag (val n z + val m y)) []) := by
  refine fok_pure hT is_natural_Add rfl (of_decide_eq_true (by kernel_rfl)) rfl (fun _ c h0 => ?_) K pre
  refine AWp.hole addPath (by kernel_rfl) (AWpL.see hT G1_ok hm 30 addLs add_pre (by kernel_rfl) ?_)
  simp only [ATree.all, allP, decide_eq_true_eq, decide_eq_false_iff_not]
  have hw : ∀ k : Nat, k < 2 ^ 40 → IntKind.i64.wrap ((k : Int) + 1) = ((k + 1 : Nat) : Int) := fun k hk => by rw [wrap_i64 (by omega) (by omega)]; omega
  rw [hw n hn, hw m hm']
  simp only [Int.toNat_natCast]
  refine ⟨fun hb => ⟨by omega, fun s' hv => ?_⟩, fun hb => ⟨by omega, fun s' hv => ?_⟩⟩
  · have := add_loop (m := n) (y := z) (z := y) h0 hm' (by omega) hy hz hv rfl rfl
    rw [Nat.add_comm (val n z)]; exact this
  · exact add_loop h0 hn (by omega) hz hy hv rfl rfl
def g_add (A n B m : Nat) : CRes := pres (.mag (A + B)) [n < 2 ^ 40, m < 2 ^ 40]
theorem s_add : ∀ K args pre r, pureSpec (spec2 g_add) K args pre = some r → FOK P natural_Add K args pre r :=
  pureSpec_ok (spec2_ok fun _ _ _ _ K hz hy need => natural_Add_ok hz hy need.1 need.2 K [])
end Go.Am.B
