/- rational.word, divisor, limbs; bits.Add64. -/
import Derived.Test.YtnocdkaonpdmjaaB14
import Derived.Laws.Externs
set_option linter.unusedVariables false
namespace Go.Am.B
open Go Go.Am.N AV
theorem is_rational_word : FnIs P rational_word fn_rational_word (codeOf fn_rational_word) := fnIs get_rational_word (by kernel_rfl) (by kernel_rfl) (by kernel_rfl)
theorem rword_pre {n : Nat} {z : Nat → Nat} : seeL T [] [] 30 [0, 3, 4] (before (codeOf fn_rational_word) [1,1,0,1]) ⟨zipSlots 0 [.tab 1 n (limbsF z)], [], 0⟩ =
    some (ATree.leaf AEx.normal ([tab 1 n (limbsF z), int IntKind.u64 (0 : Int), int IntKind.i64 (IntKind.i64.wrap ((↑n : Int) - (1 : Int)))], [])) := by kernel_rfl
theorem rword_body {n k v : Nat} {z : Nat → Nat} : seeL T [] [9] 30 [0, 3, 4] [part (codeOf fn_rational_word) [1,1,0,1,0,0]] ⟨zipL [0, 3, 4] [.tab 1 n (limbsF z), .int .u64 v, .int .i64 ((k : Int) - 1)], [], 0⟩ =
    some (ATree.fork (decide ((↑k : Int) - (1 : Int) ≥ (0 : Int))) (ATree.must [(0 : Int) ≤ (32 : Int), (0 : Int) ≤ (↑k : Int) - (1 : Int) ∧ ((↑k : Int) - (1 : Int)).toNat < n] (ATree.leaf AEx.normal ([tab 1 n (limbsF z), int IntKind.u64 (IntKind.u64.wrap (↑(BitVec.ofInt IntKind.u64.bits (IntKind.u64.wrap ((↑v : Int) * (2 : Int) ^ min (Int.toNat (32 : Int)) IntKind.u64.bits)) ||| BitVec.ofInt IntKind.u64.bits (IntKind.u64.wrap (↑(z ((↑k : Int) - (1 : Int)).toNat) : Int))).toNat : Int)), int IntKind.i64 (IntKind.i64.wrap ((↑k : Int) - (1 : Int) - (1 : Int)))], []))) (ATree.leaf (AEx.exit 0) ([tab 1 n (limbsF z), int IntKind.u64 (↑v : Int), int IntKind.i64 ((↑k : Int) - (1 : Int))], []))) := by kernel_rfl
theorem rword_post {n k v : Nat} {z : Nat → Nat} : endL T [] [] 30 fn_rational_word (behind (codeOf fn_rational_word) [1,1,0,1]) ⟨zipL [0, 3, 4] [.tab 1 n (limbsF z), .int .u64 v, .int .i64 ((k : Int) - 1)], [], 0⟩ =
    some (ATree.leaf AEx.ret [int IntKind.u64 (↑v : Int)]) := by kernel_rfl
theorem rational_word_ok {n : Nat} {z : Nat → Nat} (hz : ∀ i, i < n → z i < 2 ^ 32) (hn : n ≤ 2) (K : Nat) (pre : Store) : FOK P rational_word K [.tab 1 n (limbsF z)] pre (pres (.int .u64 (val n z : Nat)) []) := by
  refine fok_pure hT is_rational_word rfl (of_decide_eq_true (by kernel_rfl)) rfl (fun _ c h0 => ?_) K pre
  refine AWp.hole [1,1,0,1] (by kernel_rfl) (AWpL.see hT gok_nil hm 30 [0, 3, 4] rword_pre (by kernel_rfl) ?_)
  intro s' hv
  have hv64 : val n z < 2 ^ 64 := by
    have h1 := val_lt hz
    have h2 : 2 ^ (32 * n) ≤ 2 ^ (32 * 2) := Nat.pow_le_pow_right (by omega) (by omega)
    omega
  refine AWp.whileLe (i := 0) (y := part (codeOf fn_rational_word) [1,1,0,1,0,0]) (by kernel_rfl)
    (fun p : Nat × Nat => ⟨zipL [0, 3, 4] [.tab 1 n (limbsF z), .int .u64 (p.2 : Nat), .int .i64 ((p.1 : Nat) - 1 : Int)], [], 0⟩)
    (fun p => p.1 ≤ n ∧ p.2 * 2 ^ (32 * p.1) + val p.1 z = val n z) (fun p => p.1) (n, 0)
    (le_view [] hv h0 rfl ⟨⟨rfl, avLe_pure rfl⟩, ⟨rfl, avLe_pure rfl⟩, ⟨rfl, avLe_int (wrap_i64 (by omega) (by omega))⟩, trivial⟩ trivial) ⟨by simp, by simp⟩ ?_
  rintro ⟨k, v⟩ ⟨hk, hval⟩
  simp only at hk hval
  refine AWp.see hT gok_nil hm 30 [0, 3, 4] rword_body (by kernel_rfl) ?_
  simp only [ATree.all, allP, decide_eq_true_eq, decide_eq_false_iff_not]
  refine ⟨fun hb => ?_, fun hb s' hv => ?_⟩
  · obtain ⟨j, rfl⟩ : ∃ j, k = j + 1 := ⟨k - 1, by omega⟩
    have e : (((j + 1 : Nat) : Int) - 1).toNat = j := by omega
    have hzj := hz j (by omega)
    have hv32 : v < 2 ^ 32 := by
      rcases Nat.lt_or_ge v (2 ^ 32) with h | h
      · exact h
      · have h1 : 2 ^ 32 * 2 ^ (32 * (j + 1)) ≤ v * 2 ^ (32 * (j + 1)) := Nat.mul_le_mul_right _ h
        have h2 : 2 ^ 32 ≤ 2 ^ (32 * (j + 1)) := Nat.pow_le_pow_right (by omega) (by omega)
        have h3 : 2 ^ 32 * 2 ^ 32 ≤ 2 ^ 32 * 2 ^ (32 * (j + 1)) := Nat.mul_le_mul_left _ h2
        omega
    rw [e]
    have hor : IntKind.u64.wrap ((BitVec.ofInt IntKind.u64.bits (IntKind.u64.wrap ((v : Int) * 2 ^ min (Int.toNat 32) IntKind.u64.bits)) ||| BitVec.ofInt IntKind.u64.bits (IntKind.u64.wrap (z j : Int))).toNat : Int) =
        ((v * 4294967296 + z j : Nat) : Int) := by
      rw [shl32, wrap_u64 (x := (z j : Int)) (by omega) (by omega), wrap_u64 (x := (v : Int) * 4294967296) (by omega) (by omega)]
      rw [show (v : Int) * 4294967296 = ((v * 2 ^ 32 : Nat) : Int) by omega, or_u64 (by omega) (by omega), or_add hzj]
    refine ⟨⟨by omega, by omega, by omega⟩, fun s' hv => ⟨(j, v * 4294967296 + z j), le_view [] hv h0 rfl ⟨⟨rfl, avLe_pure rfl⟩, ⟨rfl, avLe_int hor⟩, ⟨rfl, avLe_int (by rw [wrap_i64 (by omega) (by omega)]; simp only; omega)⟩, trivial⟩ trivial,
      ⟨by simp only; omega, word_step hval⟩, by simp⟩⟩
  · have hk0 : k = 0 := by omega
    subst hk0
    have hval : v = val n z := by simpa [val] using hval
    subst hval
    exact AWpL.weak (by kernel_rfl) (le_view (vs := [.tab 1 n (limbsF z), .int .u64 (val n z : Nat), .int .i64 (((0 : Nat) : Int) - 1)]) (ps := []) (nx := 0) [] hv h0 rfl ⟨⟨rfl, avLe_pure rfl⟩, ⟨rfl, avLe_pure rfl⟩, ⟨rfl, avLe_pure rfl⟩, trivial⟩ trivial)
      (AWpL.fin hT gok_nil hm 30 rword_post (by kernel_rfl) (avLe0.refl _))
theorem s_rword : ∀ K args pre r, pureSpec (spec1 g_word) K args pre = some r → FOK P rational_word K args pre r :=
  pureSpec_ok (spec1_ok fun _ _ K hz need => rational_word_ok hz need K [])
theorem is_divisor : FnIs P rational_divisor fn_rational_divisor (codeOf fn_rational_divisor) := fnIs get_rational_divisor (by kernel_rfl) (by kernel_rfl) (by kernel_rfl)
theorem is_limbs : FnIs P rational_limbs fn_rational_limbs (codeOf fn_rational_limbs) := fnIs get_rational_limbs (by kernel_rfl) (by kernel_rfl) (by kernel_rfl)
theorem dvs_1 {x y : Nat} : seeL T [] [] 60 [0, 1] (before (codeOf fn_rational_divisor) [1,0]) ⟨zipSlots 0 [.int .u64 x, .int .u64 y], [], 0⟩ =
    some (ATree.leaf AEx.normal ([int IntKind.u64 (↑x : Int), int IntKind.u64 (↑y : Int)], [])) := by kernel_rfl
theorem dvs_2 {x y : Nat} : seeL T [] [6] 60 [0, 1] [part (codeOf fn_rational_divisor) [1,0,0,0]] ⟨zipL [0, 1] [.int .u64 x, .int .u64 y], [], 0⟩ =
    some (ATree.fork ((↑y : Int) != (0 : Int)) (ATree.must [(↑y : Int) ≠ (0 : Int)] (ATree.leaf AEx.normal ([int IntKind.u64 (↑y : Int), int IntKind.u64 ((↑x : Int).tmod (↑y : Int))], []))) (ATree.leaf (AEx.exit 0) ([int IntKind.u64 (↑x : Int), int IntKind.u64 (↑y : Int)], []))) := by kernel_rfl
theorem dvs_3 {x y : Nat} : endL T [] [] 60 fn_rational_divisor (behind (codeOf fn_rational_divisor) [1,0]) ⟨zipL [0, 1] [.int .u64 x, .int .u64 y], [], 0⟩ =
    some (ATree.leaf AEx.ret [int IntKind.u64 (↑x : Int)]) := by kernel_rfl
theorem lim_1 {s n l x : Nat} {z : Nat → Nat} : seeL T [] [11] 60 [0, 1, 4] (before (codeOf fn_rational_limbs) [1,1,1]) ⟨zipSlots 0 [.own 0 1 s n, .int .u64 x], [(0, ⟨true, true, 1, l, limbsF z⟩)], 1⟩ =
    some (ATree.must [(0 : Int) ≤ (0 : Int) ∧ Int.toNat (0 : Int) < n, Int.toNat (0 : Int) + s < l] (ATree.must [(0 : Int) ≤ (32 : Int)] (ATree.fork ((↑x : Int).fdiv ((2 : Int) ^ min (Int.toNat (32 : Int)) IntKind.u64.bits) == (0 : Int)) (ATree.leaf AEx.ret ([own 0 1 s n, int IntKind.u64 (↑x : Int), int IntKind.i64 (1 : Int)], [((0 : Nat), { row := true, wr := true, es := 1, len := l, f := fun (j : Nat) ↦ if (j == Int.toNat (0 : Int) + s) = true then int IntKind.u32 (IntKind.u32.wrap (↑x : Int)) else limbsF z j })])) (ATree.leaf AEx.normal ([own 0 1 s n, int IntKind.u64 (↑x : Int), int IntKind.i64 (0 : Int)], [((0 : Nat), { row := true, wr := true, es := 1, len := l, f := fun (j : Nat) ↦ if (j == Int.toNat (0 : Int) + s) = true then int IntKind.u32 (IntKind.u32.wrap (↑x : Int)) else limbsF z j })]))))) := by kernel_rfl
theorem lim_2 {s n l x : Nat} {z : Nat → Nat} : seeL T [] [] 60 [0, 1, 4] [part (codeOf fn_rational_limbs) [1,1,1]] ⟨zipL [0, 1, 4] [.own 0 1 s n, .int .u64 x, .int .i64 0], [(0, ⟨true, true, 1, l, limbsF z⟩)], 1⟩ =
    some (ATree.must [(0 : Int) ≤ (32 : Int), (0 : Int) ≤ (1 : Int) ∧ Int.toNat (1 : Int) < n, Int.toNat (1 : Int) + s < l] (ATree.leaf AEx.ret ([own 0 1 s n, int IntKind.u64 (↑x : Int), int IntKind.i64 (2 : Int)], [((0 : Nat), { row := true, wr := true, es := 1, len := l, f := fun (j : Nat) ↦ if (j == Int.toNat (1 : Int) + s) = true then int IntKind.u32 (IntKind.u32.wrap ((↑x : Int).fdiv ((2 : Int) ^ min (Int.toNat (32 : Int)) IntKind.u64.bits))) else limbsF z j })]))) := by kernel_rfl
theorem divisor_ok {x y : Nat} (K : Nat) (pre : Store) : FOK P rational_divisor K [.int .u64 x, .int .u64 y] pre (pres (.int .u64 (Nat.gcd x y : Nat)) []) := by
  refine fok_pure hT is_divisor rfl (of_decide_eq_true (by kernel_rfl)) rfl (fun _ c h0 => ?_) K pre
  have hk0 : ∀ {nx : Nat} k x, c.k0 k = some x → k < nx := k0_none h0
  refine AWp.hole [1,0] (by kernel_rfl) (AWpL.see hT gok_nil hm 60 [0, 1] dvs_1 (by kernel_rfl) fun s' hv => then_go ?_)
  refine AWp.whileV (i := 0) (y := part (codeOf fn_rational_divisor) [1,0,0,0]) (by kernel_rfl) [0, 1] 0 hk0 (fun p : Nat × Nat => [.int .u64 (p.1 : Nat), .int .u64 (p.2 : Nat)]) (fun _ => []) (fun _ => rfl) (fun _ => trivial)
    (fun p => Nat.gcd p.1 p.2 = Nat.gcd x y) (fun p => p.2) (x, y) hv rfl ?_
  rintro ⟨m, n⟩ hg
  simp only at hg
  refine AWp.see hT gok_nil hm 60 [0, 1] dvs_2 (by kernel_rfl) ?_
  simp only [ATree.all, allP, bne_iff_ne, ne_eq, bne_eq_false_iff_eq]
  refine ⟨fun hb => ⟨hb, fun s' hv => ?_⟩, fun hb s' hv => then_exit (then_go ?_)⟩
  · have hlt := Nat.mod_lt m (show 0 < n by omega)
    refine ⟨(n, m % n), view_eq hv (by rw [← Int.ofNat_tmod]) rfl, ?_, hlt⟩
    rw [← hg, Nat.gcd_comm m n, Nat.gcd_rec n m, Nat.gcd_comm]
  · refine AWpL.finV hT gok_nil hm 60 (nx := 0) hv hk0 rfl trivial dvs_3 (by kernel_rfl) (by kernel_rfl) (avLe0_int ?_)
    have : n = 0 := by omega
    rw [← hg, this, Nat.gcd_zero_right]
def s_divisor : Spec := pureSpec fun l => match l with
  | [.int .u64 x, .int .u64 y] => some (pres (.int .u64 (Nat.gcd x.toNat y.toNat : Nat)) [0 ≤ x, 0 ≤ y])
  | _ => none
theorem s_divisor_ok : ∀ K args pre r, s_divisor K args pre = some r → FOK P rational_divisor K args pre r := by
  refine pureSpec_ok fun K args r hk hs _ => ?_
  split at hs
  · rename_i x y
    simp only [Option.some.injEq] at hs
    subst hs
    intro need
    obtain ⟨h1, h2⟩ : 0 ≤ x ∧ 0 ≤ y := need
    obtain ⟨a, rfl⟩ := Int.eq_ofNat_of_zero_le h1
    obtain ⟨b, rfl⟩ := Int.eq_ofNat_of_zero_le h2
    exact divisor_ok K [] trivial
  · simp at hs
def putLimbs (z : Nat → Nat) (s x : Nat) : Nat → Nat := fun i => if i = s then x % 4294967296 else if i = s + 1 ∧ 4294967296 ≤ x then x / 4294967296 else z i
def nLimbs (x : Nat) : Nat := if x < 4294967296 then 1 else 2
theorem limbs_ok {k s n l x : Nat} {z : Nat → Nat} {f : Nat → AV} (hx : x < 2 ^ 64) (h1 : nLimbs x ≤ n) (hs : s + n ≤ l) (hf : ∀ i, i < l → f i = limbsF z i) (K : Nat) :
    FOK P rational_limbs K [.own k 1 s n, .int .u64 x] [(k, ⟨true, true, 1, l, f⟩)] ⟨.int .i64 (nLimbs x : Nat), [(k, ⟨true, true, 1, l, limbsF (putLimbs z s x)⟩)], []⟩ := by
  refine fok_core hT is_limbs (args0 := [.own 0 1 s n, .int .u64 x]) (pre0 := [(0, ⟨true, true, 1, l, limbsF z⟩)]) (nx := 1) [(0, k)] (of_decide_eq_true (by kernel_rfl)) (by simp [renOK]) ⟨⟨rfl, avLe_own rfl rfl rfl⟩, ⟨rfl, avLe_pure rfl⟩, trivial⟩ ⟨⟨k, _, rfl, by simp [look], objLe_limbs rfl hf⟩, trivial⟩
    (fun a x h => ?_) (fun x o h => ?_) (fun _ c h0 => ?_)
  · simp only [ren, look] at h
    split at h
    · simp only [Option.some.injEq] at h; subst h; exact ⟨_, by simp [look]; rfl⟩
    · simp at h
  · simp only [look] at h
    split at h
    · rename_i he
      have : k = x := by simpa using he
      subst this
      exact .inl ⟨_, by simp [look]; rfl⟩
    · simp at h
  have hk0 : ∀ k x, c.k0 k = some x → k < 1 := fun k x hk => by
    have := h0 k x hk
    simp only [ren, look] at this
    split at this
    · rename_i h; simp at h; omega
    · simp at this
  have key : ∀ {s' : AState} {v : Int} {w : Nat → Nat}, viewAV [0, 1, 4] s' = some ([.own 0 1 s n, .int .u64 x, .int .i64 v], [(0, ⟨true, true, 1, l, limbsF w⟩)]) → v = (nLimbs x : Nat) → w = putLimbs z s x →
      ∃ τ, TauOK [(0, k)] K [(k, ⟨true, true, 1, l, f⟩)] τ ∧ (EndsA T fn_rational_limbs τ [(k, ⟨true, true, 1, l, f⟩)] ⟨.int .i64 (nLimbs x : Nat), [(k, ⟨true, true, 1, l, limbsF (putLimbs z s x)⟩)], []⟩ s' ∨ EndsB T fn_rational_limbs τ [(k, ⟨true, true, 1, l, f⟩)] ⟨.int .i64 (nLimbs x : Nat), [(k, ⟨true, true, 1, l, limbsF (putLimbs z s x)⟩)], []⟩ s') := by
    intro s' v w hv hv1 hw
    refine ⟨ren [(k, 0)], tauOK_pre, .inr (endsB_view (vs := [.own 0 1 s n, .int .u64 x, .int .i64 v]) (us := [.int .i64 v]) (ws := [.int .i64 (nLimbs x : Nat)]) (os := [(0, ⟨true, true, 1, l, limbsF w⟩)]) (ps := [(k, ⟨true, true, 1, l, limbsF (putLimbs z s x)⟩)]) hv (by kernel_rfl) ⟨⟨rfl, avLe_int hv1⟩, trivial⟩ rfl (by simp [applyEff, toOpts, put]) ⟨⟨0, _, by simp [ren, look], rfl, objLe_limbs rfl fun i hi => by rw [hw]⟩, trivial⟩)⟩
  have h12 : nLimbs x = 1 ∨ nLimbs x = 2 := by unfold nLimbs; split <;> simp
  have hset1 : (fun j => if j = s then AV.int .u32 (IntKind.u32.wrap (x : Int)) else limbsF z j) = limbsF (setL z s (x % 4294967296)) := by
    funext j; exact limbs_set (by rw [wrap_u32_nat]) j
  refine AWp.hole [1,1,1] (by kernel_rfl) (AWpL.see hT gok_nil hm 60 [0, 1, 4] lim_1 (by kernel_rfl) ?_)
  simp only [ATree.all, allP, beq_iff_eq, beq_eq_false_iff_ne, ne_eq, fdiv32, Int.toNat_zero, Nat.zero_add, hset1]
  refine ⟨⟨by omega, by omega⟩, by omega, fun hb s' hv => ?_, fun hb s' hv => then_go ?_⟩
  · have hlt : x < 4294967296 := by omega
    refine then_ret ⟨.inr rfl, key hv (by unfold nLimbs; rw [if_pos hlt]; rfl) ?_⟩
    funext i
    unfold setL putLimbs
    by_cases h : i = s
    · simp [h]
    · simp [h]; omega
  · have hge : 4294967296 ≤ x := by omega
    have h2 : nLimbs x = 2 := by unfold nLimbs; rw [if_neg (by omega)]
    refine AWp.seeV hT gok_nil hm 60 (nx := 1) hv hk0 rfl ⟨⟨by omega, fun _ _ => rfl⟩, trivial⟩ [0, 1, 4] lim_2 (by kernel_rfl) ?_
    simp only [ATree.all, allP, beq_iff_eq, beq_eq_false_iff_ne, ne_eq, fdiv32, show Int.toNat 1 = 1 from rfl]
    refine ⟨⟨by omega, by omega, by omega⟩, fun s' hv => ?_⟩
    have hset2 : (fun j => if j = 1 + s then AV.int .u32 (IntKind.u32.wrap ((x : Int) / 4294967296)) else limbsF (setL z s (x % 4294967296)) j) = limbsF (setL (setL z s (x % 4294967296)) (1 + s) (x / 4294967296)) := by
      funext j; exact limbs_set (by rw [wrap_u32 (by omega) (by omega)]; omega) j
    rw [hset2] at hv
    refine then_ret ⟨.inr rfl, key hv (by rw [h2]; rfl) ?_⟩
    funext i
    unfold setL putLimbs
    by_cases h : i = s
    · simp [h]
    · by_cases h' : i = 1 + s
      · simp [h', hge, Nat.add_comm]
      · simp [h, h']; omega
def s_limbs : Spec := fun _ args pre => match args, pre with
  | [.own k es s n, .int .u64 x], [(k', o)] => if k == k' && es == 1 && o.row && o.wr && o.es == 1 then some ⟨.int .i64 (nLimbs x.toNat : Nat), [(k, ⟨true, true, 1, o.len, limbsF (putLimbs (fun i => numOf (o.f i)) s x.toNat)⟩)], [Limbs o.len o.f, 0 ≤ x ∧ x < 2 ^ 64, nLimbs x.toNat ≤ n, s + n ≤ o.len]⟩ else none
  | _, _ => none
theorem s_limbs_ok : ∀ K args pre r, s_limbs K args pre = some r → FOK P rational_limbs K args pre r := by
  intro K args pre r hs
  unfold s_limbs at hs
  split at hs
  · rename_i k es s n x k' o
    split at hs
    · rename_i hc
      simp only [Bool.and_eq_true, beq_iff_eq] at hc
      obtain ⟨⟨⟨⟨rfl, rfl⟩, h4⟩, h5⟩, h6⟩ := hc
      simp only [Option.some.injEq] at hs
      subst hs
      intro need
      obtain ⟨h1, ⟨h2, h2'⟩, h3, h7⟩ : Limbs o.len o.f ∧ (0 ≤ x ∧ x < 2 ^ 64) ∧ nLimbs x.toNat ≤ n ∧ s + n ≤ o.len := need
      obtain ⟨row, wr, es, len, f⟩ := o
      simp only at h1 h4 h5 h6 h7
      subst h4 h5 h6
      obtain ⟨x, rfl⟩ := Int.eq_ofNat_of_zero_le h2
      refine limbs_ok (z := fun i => numOf (f i)) (by omega) h3 h7 (fun i hi => ?_) K trivial
      obtain ⟨z, g1, g2⟩ := h1 i hi
      simp [g2, numOf, limbsF]
    · simp at hs
  · simp at hs
def s_add64 : Spec := pureSpec fun l => match l with
  | [.int .u64 x, .int .u64 y, .int .u64 z] => some (pres (.tuple [.int .u64 ((x + y + z) % 18446744073709551616), .int .u64 ((x + y + z) / 18446744073709551616)]) [0 ≤ x, 0 ≤ y, 0 ≤ z ∧ z ≤ 1])
  | _ => none
theorem s_add64_ok : ∀ K args pre r, s_add64 K args pre = some r → FOK P math_bits_Add64 K args pre r := by
  refine pureSpec_ok fun K args r hk hs _ => ?_
  split at hs
  · rename_i x y z
    simp only [Option.some.injEq] at hs
    subst hs
    intro need
    obtain ⟨h1, h2, h3, h4⟩ : 0 ≤ x ∧ 0 ≤ y ∧ 0 ≤ z ∧ z ≤ 1 := need
    refine ⟨fun k o h => by simp [look] at h, fun c D D' β w vs hw0 hMw hrel hD hK hv => .inr ?_⟩
    match vs, hv with
    | [a, b, d], hv =>
      obtain ⟨ha, hb, hd, _⟩ := hv
      have ha := (ha.vrep).int
      have hb := (hb.vrep).int
      have hd := (hd.vrep).int
      subst ha hb hd
      refine ⟨.tuple #[.int .u64 ((x + y + z) % 18446744073709551616), .int .u64 ((x + y + z) / 18446744073709551616)], ?_, β, ?_, Evo.refl _ _ _, [_, _], rfl, .of_cell (.int .nil) rfl, .of_cell (.int .nil) rfl, trivial⟩
      · rw [run_callFunc_extern (e := add64Entry) get_math_bits_Add64 (by kernel_rfl) (by kernel_rfl) (by kernel_rfl) (by rfl)]
        rw [run_add64 x y z h1 h2 h3 h4]
        rfl
      · exact hrel.widen hD
  · simp at hs
end Go.Am.B
