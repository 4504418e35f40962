/- natural.Of, natural.word, natural.Cmp. -/
import Derived.Test.YtnocdkaonpdmjaaB2
set_option linter.unusedVariables false
namespace Go.Am.B
open Go Go.Am.N AV
theorem is_natural_Of : FnIs P natural_Of fn_natural_Of (codeOf fn_natural_Of) := fnIs get_natural_Of (by kernel_rfl) (by kernel_rfl) (by kernel_rfl)
theorem is_natural_word : FnIs P natural_word fn_natural_word (codeOf fn_natural_word) := fnIs get_natural_word (by kernel_rfl) (by kernel_rfl) (by kernel_rfl)
theorem is_natural_Cmp : FnIs P natural_Cmp fn_natural_Cmp (codeOf fn_natural_Cmp) := fnIs get_natural_Cmp (by kernel_rfl) (by kernel_rfl) (by kernel_rfl)
theorem val_two {z : Nat → Nat} : val 2 z = z 0 + z 1 * 4294967296 := by simp [val]
theorem of_end {x : Nat} : funT T G1 [] 30 fn_natural_Of (codeOf fn_natural_Of) ⟨zipSlots 0 [.int .u64 x], [], 0⟩ =
    some (ATree.must [(0 : Int) ≤ (32 : Int), (2 : Nat) * 1 ≤ 2 ^ 24, Limbs 2 fun (i : Nat) ↦ nth [int IntKind.u32 (IntKind.u32.wrap (↑x : Int)), int IntKind.u32 (IntKind.u32.wrap ((↑x : Int).fdiv ((2 : Int) ^ min (Int.toNat (32 : Int)) IntKind.u64.bits)))] (int IntKind.u32 (0 : Int)) (i + 0), (2 : Nat) < 2 ^ 62] (ATree.leaf AEx.ret [mag (val 2 fun (i : Nat) ↦ numOf (nth [int IntKind.u32 (IntKind.u32.wrap (↑x : Int)), int IntKind.u32 (IntKind.u32.wrap ((↑x : Int).fdiv ((2 : Int) ^ min (Int.toNat (32 : Int)) IntKind.u64.bits)))] (int IntKind.u32 (0 : Int)) (i + 0)))])) := by kernel_rfl
theorem natural_Of_ok {x : Nat} (hx : x < 2 ^ 64) (K : Nat) (pre : Store) : FOK P natural_Of K [.int .u64 x] pre (pres (.mag x) []) := by
  refine fok_tree hT G1_ok hm is_natural_Of rfl (of_decide_eq_true (by kernel_rfl)) rfl 30 of_end (fun _ => ?_) K pre
  simp only [ATree.all, allP, fdiv32]
  refine ⟨⟨by omega, by omega, fun i hi => ?_, by omega⟩, avLe0_of_eq (congrArg AV.mag ?_)⟩
  · match i, hi with
    | 0, _ => exact ⟨x % 2 ^ 32, by omega, by simp [nth, wrap_u32_nat]⟩
    | 1, _ => exact ⟨x / 4294967296, by omega, by simp [nth, wrap_u32_mod]; omega⟩
  · rw [val_two]
    simp [nth, numOf, wrap_u32_mod]
    omega
theorem word_pre {n : Nat} {z : Nat → Nat} : seeL T [] [] 30 [0, 3, 4] (before (codeOf fn_natural_word) [1,1,0,1]) ⟨zipSlots 0 [.tab 1 n (limbsF z)], [], 0⟩ =
    some (ATree.leaf AEx.normal ([tab 1 n (limbsF z), int IntKind.u64 (0 : Int), int IntKind.i64 (IntKind.i64.wrap ((↑n : Int) - (1 : Int)))], [])) := by kernel_rfl
theorem word_body {n k v : Nat} {z : Nat → Nat} : seeL T [] [9] 30 [0, 3, 4] [part (codeOf fn_natural_word) [1,1,0,1,0,0]] ⟨zipL [0, 3, 4] [.tab 1 n (limbsF z), .int .u64 v, .int .i64 ((k : Int) - 1)], [], 0⟩ =
    some (ATree.fork (decide ((↑k : Int) - (1 : Int) ≥ (0 : Int))) (ATree.must [(0 : Int) ≤ (32 : Int), (0 : Int) ≤ (↑k : Int) - (1 : Int) ∧ ((↑k : Int) - (1 : Int)).toNat < n] (ATree.leaf AEx.normal ([tab 1 n (limbsF z), int IntKind.u64 (IntKind.u64.wrap (↑(BitVec.ofInt IntKind.u64.bits (IntKind.u64.wrap ((↑v : Int) * (2 : Int) ^ min (Int.toNat (32 : Int)) IntKind.u64.bits)) ||| BitVec.ofInt IntKind.u64.bits (IntKind.u64.wrap (↑(z ((↑k : Int) - (1 : Int)).toNat) : Int))).toNat : Int)), int IntKind.i64 (IntKind.i64.wrap ((↑k : Int) - (1 : Int) - (1 : Int)))], []))) (ATree.leaf (AEx.exit 0) ([tab 1 n (limbsF z), int IntKind.u64 (↑v : Int), int IntKind.i64 ((↑k : Int) - (1 : Int))], []))) := by kernel_rfl
theorem word_post {n k v : Nat} {z : Nat → Nat} : endL T [] [] 30 fn_natural_word (behind (codeOf fn_natural_word) [1,1,0,1]) ⟨zipL [0, 3, 4] [.tab 1 n (limbsF z), .int .u64 v, .int .i64 ((k : Int) - 1)], [], 0⟩ =
    some (ATree.leaf AEx.ret [int IntKind.u64 (↑v : Int)]) := by kernel_rfl
theorem word_step {z : Nat → Nat} {n k v : Nat} (h : v * 2 ^ (32 * (k + 1)) + val (k + 1) z = val n z) : (v * 4294967296 + z k) * 2 ^ (32 * k) + val k z = val n z := by
  rw [← h, val, pow_succ32, Nat.add_mul]
  rw [Nat.mul_assoc]
  omega
theorem natural_word_ok {n : Nat} {z : Nat → Nat} (hz : ∀ i, i < n → z i < 2 ^ 32) (hn : n ≤ 2) (K : Nat) (pre : Store) : FOK P natural_word K [.tab 1 n (limbsF z)] pre (pres (.int .u64 (val n z : Nat)) []) := by
  refine fok_pure hT is_natural_word rfl (of_decide_eq_true (by kernel_rfl)) rfl (fun _ c h0 => ?_) K pre
  refine AWp.hole [1,1,0,1] (by kernel_rfl) (AWpL.see hT gok_nil hm 30 [0, 3, 4] word_pre (by kernel_rfl) ?_)
  intro s' hv
  have hv64 : val n z < 2 ^ 64 := by
    have h1 := val_lt hz
    have h2 : 2 ^ (32 * n) ≤ 2 ^ (32 * 2) := Nat.pow_le_pow_right (by omega) (by omega)
    omega
  refine AWp.whileLe (i := 0) (y := part (codeOf fn_natural_word) [1,1,0,1,0,0]) (by kernel_rfl)
    (fun p : Nat × Nat => ⟨zipL [0, 3, 4] [.tab 1 n (limbsF z), .int .u64 (p.2 : Nat), .int .i64 ((p.1 : Nat) - 1 : Int)], [], 0⟩)
    (fun p => p.1 ≤ n ∧ p.2 * 2 ^ (32 * p.1) + val p.1 z = val n z) (fun p => p.1) (n, 0)
    (le_view [] hv h0 rfl ⟨⟨rfl, avLe_pure rfl⟩, ⟨rfl, avLe_pure rfl⟩, ⟨rfl, avLe_int (wrap_i64 (by omega) (by omega))⟩, trivial⟩ trivial) ⟨by simp, by simp⟩ ?_
  rintro ⟨k, v⟩ ⟨hk, hval⟩
  simp only at hk hval
  refine AWp.see hT gok_nil hm 30 [0, 3, 4] word_body (by kernel_rfl) ?_
  simp only [ATree.all, allP, decide_eq_true_eq, decide_eq_false_iff_not]
  refine ⟨fun hb => ?_, fun hb s' hv => ?_⟩
  · obtain ⟨j, rfl⟩ : ∃ j, k = j + 1 := ⟨k - 1, by omega⟩
    have e : (((j + 1 : Nat) : Int) - 1).toNat = j := by omega
    have hzj := hz j (by omega)
    have hv32 : v < 2 ^ 32 := by
      rcases Nat.lt_or_ge v (2 ^ 32) with h | h
      · exact h
      · have h1 : 2 ^ 32 * 2 ^ (32 * (j + 1)) ≤ v * 2 ^ (32 * (j + 1)) := Nat.mul_le_mul_right _ h
        have h2 : 2 ^ 32 ≤ 2 ^ (32 * (j + 1)) := Nat.pow_le_pow_right (by omega) (by omega)
        have h3 : 2 ^ 32 * 2 ^ 32 ≤ 2 ^ 32 * 2 ^ (32 * (j + 1)) := Nat.mul_le_mul_left _ h2
        omega
    rw [e]
    have hor : IntKind.u64.wrap ((BitVec.ofInt IntKind.u64.bits (IntKind.u64.wrap ((v : Int) * 2 ^ min (Int.toNat 32) IntKind.u64.bits)) ||| BitVec.ofInt IntKind.u64.bits (IntKind.u64.wrap (z j : Int))).toNat : Int) =
        ((v * 4294967296 + z j : Nat) : Int) := by
      rw [shl32, wrap_u64 (x := (z j : Int)) (by omega) (by omega), wrap_u64 (x := (v : Int) * 4294967296) (by omega) (by omega)]
      rw [show (v : Int) * 4294967296 = ((v * 2 ^ 32 : Nat) : Int) by omega, or_u64 (by omega) (by omega), or_add hzj]
    refine ⟨⟨by omega, by omega, by omega⟩, fun s' hv => ⟨(j, v * 4294967296 + z j), le_view [] hv h0 rfl ⟨⟨rfl, avLe_pure rfl⟩, ⟨rfl, avLe_int hor⟩, ⟨rfl, avLe_int (by rw [wrap_i64 (by omega) (by omega)]; simp only; omega)⟩, trivial⟩ trivial,
      ⟨by simp only; omega, word_step hval⟩, by simp⟩⟩
  · have hk0 : k = 0 := by omega
    subst hk0
    have hval : v = val n z := by simpa [val] using hval
    subst hval
    exact AWpL.weak (by kernel_rfl) (le_view (vs := [.tab 1 n (limbsF z), .int .u64 (val n z : Nat), .int .i64 (((0 : Nat) : Int) - 1)]) (ps := []) (nx := 0) [] hv h0 rfl ⟨⟨rfl, avLe_pure rfl⟩, ⟨rfl, avLe_pure rfl⟩, ⟨rfl, avLe_pure rfl⟩, trivial⟩ trivial)
      (AWpL.fin hT gok_nil hm 30 word_post (by kernel_rfl) (avLe0.refl _))
theorem cmp_pre {n m : Nat} {z y : Nat → Nat} : seeL T G1 [14, 19] 30 [0, 1, 5, 4] (before (codeOf fn_natural_Cmp) [1,1,1,0,1]) ⟨zipSlots 0 [.tab 1 n (limbsF z), .tab 1 m (limbsF y)], [], 0⟩ =
    some (ATree.must [Limbs n (limbsF z), n < 2 ^ 62, Limbs m (limbsF y), m < 2 ^ 62] (ATree.fork ((↑(nl (val n fun (i : Nat) ↦ numOf (limbsF z i))) : Int) != (↑(nl (val m fun (i : Nat) ↦ numOf (limbsF y i))) : Int)) (ATree.fork (decide ((↑(nl (val n fun (i : Nat) ↦ numOf (limbsF z i))) : Int) < (↑(nl (val m fun (i : Nat) ↦ numOf (limbsF y i))) : Int))) (ATree.leaf AEx.ret ([mag (val n fun (i : Nat) ↦ numOf (limbsF z i)), mag (val m fun (i : Nat) ↦ numOf (limbsF y i)), tuple [], int IntKind.i64 (-1 : Int)], [])) (ATree.leaf AEx.ret ([mag (val n fun (i : Nat) ↦ numOf (limbsF z i)), mag (val m fun (i : Nat) ↦ numOf (limbsF y i)), tuple [], int IntKind.i64 (1 : Int)], []))) (ATree.leaf AEx.normal ([mag (val n fun (i : Nat) ↦ numOf (limbsF z i)), mag (val m fun (i : Nat) ↦ numOf (limbsF y i)), int IntKind.i64 (IntKind.i64.wrap ((↑(nl (val n fun (i : Nat) ↦ numOf (limbsF z i))) : Int) - (1 : Int))), int IntKind.i64 (0 : Int)], [])))) := by kernel_rfl
theorem cmp_body {A B k : Nat} : seeL T [] [24, 35, 44] 30 [0, 1, 5, 4] [part (codeOf fn_natural_Cmp) [1,1,1,0,1,0,0]] ⟨zipL [0, 1, 5, 4] [.mag A, .mag B, .int .i64 ((k : Int) - 1), .int .i64 0], [], 0⟩ =
    some (ATree.fork (decide ((↑k : Int) - (1 : Int) ≥ (0 : Int))) (ATree.must [(0 : Int) ≤ (↑k : Int) - (1 : Int) ∧ ((↑k : Int) - (1 : Int)).toNat < nl A, (0 : Int) ≤ (↑k : Int) - (1 : Int) ∧ ((↑k : Int) - (1 : Int)).toNat < nl B] (ATree.fork ((↑(limb A ((↑k : Int) - (1 : Int)).toNat) : Int) != (↑(limb B ((↑k : Int) - (1 : Int)).toNat) : Int)) (ATree.must [(0 : Int) ≤ (↑k : Int) - (1 : Int) ∧ ((↑k : Int) - (1 : Int)).toNat < nl A, (0 : Int) ≤ (↑k : Int) - (1 : Int) ∧ ((↑k : Int) - (1 : Int)).toNat < nl B] (ATree.fork (decide ((↑(limb A ((↑k : Int) - (1 : Int)).toNat) : Int) < (↑(limb B ((↑k : Int) - (1 : Int)).toNat) : Int))) (ATree.leaf AEx.ret ([mag A, mag B, int IntKind.i64 ((↑k : Int) - (1 : Int)), int IntKind.i64 (-1 : Int)], [])) (ATree.leaf AEx.ret ([mag A, mag B, int IntKind.i64 ((↑k : Int) - (1 : Int)), int IntKind.i64 (1 : Int)], [])))) (ATree.leaf AEx.normal ([mag A, mag B, int IntKind.i64 (IntKind.i64.wrap ((↑k : Int) - (1 : Int) - (1 : Int))), int IntKind.i64 (0 : Int)], [])))) (ATree.leaf (AEx.exit 0) ([mag A, mag B, int IntKind.i64 ((↑k : Int) - (1 : Int)), int IntKind.i64 (0 : Int)], []))) := by kernel_rfl
theorem cmp_post {A B k : Nat} : endL T [] [] 30 fn_natural_Cmp (behind (codeOf fn_natural_Cmp) [1,1,1,0,1]) ⟨zipL [0, 1, 5, 4] [.mag A, .mag B, .int .i64 ((k : Int) - 1), .int .i64 0], [], 0⟩ =
    some (ATree.leaf AEx.ret [int IntKind.i64 (0 : Int)]) := by kernel_rfl
theorem natural_Cmp_ok {n m : Nat} {z y : Nat → Nat} (hz : ∀ i, i < n → z i < 2 ^ 32) (hy : ∀ i, i < m → y i < 2 ^ 32) (hn : n < 2 ^ 40) (hm' : m < 2 ^ 40) (K : Nat) (pre : Store) :
    FOK P natural_Cmp K [.tab 1 n (limbsF z), .tab 1 m (limbsF y)] pre (pres (.int .i64 (cmpI (val n z) (val m y))) []) := by
  refine fok_pure hT is_natural_Cmp rfl (of_decide_eq_true (by kernel_rfl)) rfl (fun _ c h0 => ?_) K pre
  refine AWp.hole [1,1,1,0,1] (by kernel_rfl) (AWpL.see hT G1_ok hm 30 [0, 1, 5, 4] cmp_pre (by kernel_rfl) ?_)
  have hnl : nl (val n z) ≤ n := nl_spec.2 (val_lt hz)
  generalize hA : val n z = A at *
  generalize hB : val m y = B at *
  simp only [ATree.all, allP, decide_eq_true_eq, decide_eq_false_iff_not, numOf_limbsF, hA, hB, bne_iff_ne, ne_eq, Int.natCast_inj, bne_eq_false_iff_eq]
  refine ⟨⟨limbs_limbsF hz, by omega, limbs_limbsF hy, by omega⟩, fun hb => ⟨fun hb2 s' hv => ?_, fun hb2 s' hv => ?_⟩, fun hb s' hv => ?_⟩
  · have h1 : A < B := nl_cmp (by omega)
    exact fin_view (us := [.int .i64 (-1)]) (.inr rfl) hv (by kernel_rfl) (avLe0_int (by simp [cmpI, h1]))
  · have h1 : B < A := nl_cmp (by omega)
    exact fin_view (us := [.int .i64 1]) (.inr rfl) hv (by kernel_rfl) (avLe0_int (by simp [cmpI, h1]; omega))
  refine AWp.whileLe (i := 0) (y := part (codeOf fn_natural_Cmp) [1,1,1,0,1,0,0]) (by kernel_rfl)
    (fun k : Nat => ⟨zipL [0, 1, 5, 4] [.mag A, .mag B, .int .i64 ((k : Int) - 1), .int .i64 0], [], 0⟩)
    (fun k => k ≤ nl A ∧ ∀ j, k ≤ j → j < nl A → limb A j = limb B j) id (nl A)
    (le_view [] hv h0 rfl ⟨⟨rfl, avLe_pure rfl⟩, ⟨rfl, avLe_pure rfl⟩, ⟨rfl, avLe_int (wrap_i64 (by omega) (by omega))⟩, ⟨rfl, avLe_pure rfl⟩, trivial⟩ trivial) ⟨by simp, fun j h1 h2 => by omega⟩ ?_
  rintro k ⟨hk, hlim⟩
  refine AWp.see hT gok_nil hm 30 [0, 1, 5, 4] cmp_body (by kernel_rfl) ?_
  simp only [ATree.all, allP, decide_eq_true_eq, decide_eq_false_iff_not, bne_iff_ne, ne_eq, Int.natCast_inj, bne_eq_false_iff_eq]
  refine ⟨fun hb2 => ?_, fun hb2 s' hv => ?_⟩
  · obtain ⟨j, rfl⟩ : ∃ j, k = j + 1 := ⟨k - 1, by omega⟩
    have e : (((j + 1 : Nat) : Int) - 1).toNat = j := by omega
    rw [e]
    refine ⟨⟨by omega, by omega⟩, fun hne => ⟨⟨by omega, by omega⟩, fun hlt s' hv => ?_, fun hlt s' hv => ?_⟩, fun heq s' hv => ?_⟩
    · have h1 : A < B := limb_cmp hb (k := j) (by omega) (fun i h1 h2 => hlim i (by omega) h2) (by omega)
      exact fin_view (us := [.int .i64 (-1)]) (.inr rfl) hv (by kernel_rfl) (avLe0_int (by simp [cmpI, h1]))
    · have h1 : B < A := limb_cmp hb.symm (k := j) (by omega) (fun i h1 h2 => (hlim i (by omega) (by omega)).symm) (by omega)
      exact fin_view (us := [.int .i64 1]) (.inr rfl) hv (by kernel_rfl) (avLe0_int (by simp [cmpI, h1]; omega))
    · refine ⟨j, le_view [] hv h0 rfl ⟨⟨rfl, avLe_pure rfl⟩, ⟨rfl, avLe_pure rfl⟩, ⟨rfl, avLe_int (by rw [wrap_i64 (by omega) (by omega)]; omega)⟩, ⟨rfl, avLe_pure rfl⟩, trivial⟩ trivial, ⟨by omega, fun i h1 h2 => ?_⟩, by simp⟩
      by_cases hi : i = j
      · subst hi; exact heq
      · exact hlim i (by omega) h2
  · have hk0 : k = 0 := by omega
    subst hk0
    have hAB : A = B := val_eq_of hb fun i hi => hlim i (by omega) hi
    exact AWpL.weak (by kernel_rfl) (le_view (vs := [.mag A, .mag B, .int .i64 (((0 : Nat) : Int) - 1), .int .i64 0]) (ps := []) (nx := 0) [] hv h0 rfl ⟨⟨rfl, avLe_pure rfl⟩, ⟨rfl, avLe_pure rfl⟩, ⟨rfl, avLe_pure rfl⟩, ⟨rfl, avLe_pure rfl⟩, trivial⟩ trivial)
      (AWpL.fin hT gok_nil hm 30 cmp_post (by kernel_rfl) (avLe0_int (by simp [cmpI, hAB])))
def s_of : Spec := pureSpec fun l => match l with
  | [.int .u64 x] => some (pres (.mag x.toNat) [0 ≤ x ∧ x < 2 ^ 64])
  | _ => none
theorem s_of_ok : ∀ K args pre r, s_of K args pre = some r → FOK P natural_Of K args pre r := by
  refine pureSpec_ok fun K args r hk hs _ => ?_
  split at hs
  · rename_i x
    simp only [Option.some.injEq] at hs
    subst hs
    intro need
    obtain ⟨h1, h2⟩ : 0 ≤ x ∧ x < 2 ^ 64 := need
    obtain ⟨y, rfl⟩ := Int.eq_ofNat_of_zero_le h1
    exact natural_Of_ok (x := y) (by omega) K [] trivial
  · simp at hs
def g_word (N n : Nat) : CRes := pres (.int .u64 (N : Nat)) [n ≤ 2]
theorem s_word : ∀ K args pre r, pureSpec (spec1 g_word) K args pre = some r → FOK P natural_word K args pre r :=
  pureSpec_ok (spec1_ok fun _ _ K hz need => natural_word_ok hz need K [])
def g_cmp (A n B m : Nat) : CRes := pres (.int .i64 (cmpI A B)) [n < 2 ^ 40, m < 2 ^ 40]
theorem s_cmp : ∀ K args pre r, pureSpec (spec2 g_cmp) K args pre = some r → FOK P natural_Cmp K args pre r :=
  pureSpec_ok (spec2_ok fun _ _ _ _ K hz hy need => natural_Cmp_ok hz hy need.1 need.2 K [])
end Go.Am.B
