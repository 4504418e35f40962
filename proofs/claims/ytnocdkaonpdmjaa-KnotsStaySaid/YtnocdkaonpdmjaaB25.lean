/- ref01: up, shifted, times, down. -/
import Derived.Test.YtnocdkaonpdmjaaB24
set_option linter.unusedVariables false
namespace Go.Am.B
open Go Go.Am.N AV
theorem is_fup : FnIs P ref01_up fn_ref01_up (codeOf fn_ref01_up) := fnIs get_ref01_up (by kernel_rfl) (by kernel_rfl) (by kernel_rfl)
theorem is_fshifted : FnIs P ref01_shifted fn_ref01_shifted (codeOf fn_ref01_shifted) := fnIs get_ref01_shifted (by kernel_rfl) (by kernel_rfl) (by kernel_rfl)
theorem is_ftimes : FnIs P ref01_times fn_ref01_times (codeOf fn_ref01_times) := fnIs get_ref01_times (by kernel_rfl) (by kernel_rfl) (by kernel_rfl)
theorem is_fdown : FnIs P ref01_down fn_ref01_down (codeOf fn_ref01_down) := fnIs get_ref01_down (by kernel_rfl) (by kernel_rfl) (by kernel_rfl)
abbrev fuLs : List Nat := [0, 1, 5, 6, 7]
abbrev fuVs (A n l c i K : Nat) : List AV := [.mag A, .int .i64 n, .own K 1 0 l, .int .u64 c, .int .i64 i]
noncomputable abbrev fuL : Code := part (codeOf fn_ref01_up) [1,1,1,0,1,0,0]
def GF3 : Contracts := [(ref01_Trim, s_fTrim), (ref01_Of, s_fOf), (ref01_Mul, s_fMul)]
theorem GF3_ok : GOK P GF3 := gok_cons s_fTrim_ok (gok_cons s_fOf_ok (gok_cons s_fMul_ok gok_nil))
theorem fup_pre {A n : Nat} : seeL T GF1 [] 60 fuLs (before (codeOf fn_ref01_up) [1,1,1,0,1]) ⟨zipSlots 0 [.mag A, .int .i64 n], [], 0⟩ =
    some (ATree.must [(32 : Int) ≠ (0 : Int), (0 : Int) ≤ IntKind.i64.wrap ((↑n : Int).tdiv (32 : Int)) ∧ IntKind.i64.wrap ((↑n : Int).tdiv (32 : Int)) ≤ IntKind.i64.wrap ((↑n : Int).tdiv (32 : Int)) ∧ IntKind.i64.wrap ((↑n : Int).tdiv (32 : Int)) ≤ (2 : Int) ^ 47 ∧ IntKind.i64.wrap ((↑n : Int).tdiv (32 : Int)) * (↑(4 : Nat) : Int) ≤ (2 : Int) ^ 47] (ATree.leaf AEx.normal ([mag A, int IntKind.i64 (↑n : Int), own 12288 1 0 (IntKind.i64.wrap ((↑n : Int).tdiv (32 : Int))).toNat, int IntKind.u64 (0 : Int), int IntKind.i64 (0 : Int)], [((12288 : Nat), { row := true, wr := true, es := 1, len := (IntKind.i64.wrap ((↑n : Int).tdiv (32 : Int))).toNat, f := fun (x : Nat) ↦ int IntKind.u32 (0 : Int) })]))) := by kernel_rfl
theorem fup_body {A n l c i : Nat} {o : Nat → Nat} : seeL T GF1 [14] 60 fuLs [fuL] ⟨zipL fuLs (fuVs A n l c i 7), fmOs 7 l o, 8⟩ =
    some (ATree.fork (decide ((↑i : Int) < (↑(nl A) : Int))) (ATree.must [(0 : Int) ≤ (↑i : Int) ∧ (↑i : Int).toNat < nl A, (32 : Int) ≠ (0 : Int), (0 : Int) ≤ (↑n : Int).tmod (32 : Int)] (ATree.must [(1 : Nat) * 1 ≤ 2 ^ 24, (l + 1) * ((4 : Nat) + 1) * 2 ≤ 2 ^ 47] (ATree.must [(0 : Int) ≤ (32 : Int)] (ATree.leaf AEx.normal ([mag A, int IntKind.i64 (↑n : Int), own 77832 1 0 (l + 1), int IntKind.u64 ((IntKind.u64.wrap (↑(BitVec.ofInt IntKind.u64.bits (↑c : Int) ||| BitVec.ofInt IntKind.u64.bits (IntKind.u64.wrap (IntKind.u64.wrap (↑(limb A (↑i : Int).toNat) : Int) * (2 : Int) ^ min ((↑n : Int).tmod (32 : Int)).toNat IntKind.u64.bits))).toNat : Int)).fdiv ((2 : Int) ^ min (Int.toNat (32 : Int)) IntKind.u64.bits)), int IntKind.i64 (IntKind.i64.wrap ((↑i : Int) + (1 : Int)))], [((77832 : Nat), { row := true, wr := true, es := 1, len := l + 1, f := fun (i_1 : Nat) ↦ if i_1 < l then limbsF o i_1 else nth [int IntKind.u32 (IntKind.u32.wrap (IntKind.u64.wrap (↑(BitVec.ofInt IntKind.u64.bits (↑c : Int) ||| BitVec.ofInt IntKind.u64.bits (IntKind.u64.wrap (IntKind.u64.wrap (↑(limb A (↑i : Int).toNat) : Int) * (2 : Int) ^ min ((↑n : Int).tmod (32 : Int)).toNat IntKind.u64.bits))).toNat : Int)))] (int IntKind.u32 (0 : Int)) (i_1 - l + 0) })]))))) (ATree.leaf (AEx.exit 0) ([mag A, int IntKind.i64 (↑n : Int), own 7 1 0 l, int IntKind.u64 (↑c : Int), int IntKind.i64 (↑i : Int)], [((7 : Nat), { row := true, wr := true, es := 1, len := l, f := limbsF o })]))) := by kernel_rfl
theorem fup_end {A n l c i : Nat} {o : Nat → Nat} : endL T GF1 [] 60 fn_ref01_up (behind (codeOf fn_ref01_up) [1,1,1,0,1]) ⟨zipL fuLs (fuVs A n l c i 7), fmOs 7 l o, 8⟩ =
    some (ATree.must [(1 : Nat) * 1 ≤ 2 ^ 24, (l + 1) * ((4 : Nat) + 1) * 2 ≤ 2 ^ 47, Limbs (l + 1) fun (i : Nat) ↦ if i + 0 < l then limbsF o (i + 0) else nth [int IntKind.u32 (IntKind.u32.wrap (↑c : Int))] (int IntKind.u32 (0 : Int)) (i + 0 - l + 0), l + 1 < 2 ^ 40] (ATree.leaf AEx.ret [mag (val (l + 1) fun (i : Nat) ↦ numOf (if i + 0 < l then limbsF o (i + 0) else nth [int IntKind.u32 (IntKind.u32.wrap (↑c : Int))] (int IntKind.u32 (0 : Int)) (i + 0 - l + 0)))])) := by kernel_rfl
theorem fsh_end {A n : Nat} : funT T GF1 [7] 60 fn_ref01_shifted (codeOf fn_ref01_shifted) ⟨zipSlots 0 [.mag A, .int .i64 n], [], 0⟩ =
    some (ATree.fork ((↑(nl A) : Int) == (0 : Int)) (ATree.leaf AEx.ret [nil]) (ATree.must [(0 : Int) ≤ (↑n : Int) ∧ (↑n : Int) ≤ (↑n : Int) ∧ (↑n : Int) ≤ (2 : Int) ^ 47 ∧ (↑n : Int) * (↑(4 : Nat) : Int) ≤ (2 : Int) ^ 47, ((↑n : Int).toNat + nl A) * ((4 : Nat) + 1) * 2 ≤ 2 ^ 47] (ATree.leaf AEx.ret [tab 1 ((↑n : Int).toNat + nl A) fun (i : Nat) ↦ if i + 0 < (↑n : Int).toNat then int IntKind.u32 (0 : Int) else int IntKind.u32 (↑(limb A (i + 0 - (↑n : Int).toNat)) : Int)]))) := by kernel_rfl
theorem ftimes_end {A b : Nat} : funT T GF3 [] 60 fn_ref01_times (codeOf fn_ref01_times) ⟨zipSlots 0 [.mag A, .int .u32 b], [], 0⟩ =
    some (ATree.must [(0 : Int) ≤ IntKind.u64.wrap (↑b : Int) ∧ IntKind.u64.wrap (↑b : Int) < (2 : Int) ^ 64, nl A < 2 ^ 39, nl (IntKind.u64.wrap (↑b : Int)).toNat < 2 ^ 39] (ATree.leaf AEx.ret [mag (A * (IntKind.u64.wrap (↑b : Int)).toNat)])) := by kernel_rfl
abbrev fdLs : List Nat := [0, 1, 5, 6]
abbrev fdVs (a : Nat → Nat) (l n i K : Nat) : List AV := [.tab 1 l (limbsF a), .int .i64 n, .own K 1 0 l, .int .i64 i]
noncomputable abbrev fdL : Code := part (codeOf fn_ref01_down) [1,1,1,1,0,1,0,0]
theorem fdn_pre {A n : Nat} : seeL T GF1 [12] 60 (fdLs ++ [4]) (before (codeOf fn_ref01_down) [1,1,1,1,0,1]) ⟨zipSlots 0 [.mag A, .int .i64 n], [], 0⟩ =
    some (ATree.must [(32 : Int) ≠ (0 : Int)] (ATree.fork (decide (IntKind.i64.wrap ((↑n : Int).tdiv (32 : Int)) ≥ (↑(nl A) : Int))) (ATree.leaf AEx.ret ([mag A, int IntKind.i64 (↑n : Int), tuple [], tuple [], nil], [])) (ATree.must [(32 : Int) ≠ (0 : Int), (0 : Int) ≤ IntKind.i64.wrap ((↑n : Int).tdiv (32 : Int)) ∧ IntKind.i64.wrap ((↑n : Int).tdiv (32 : Int)) ≤ (↑(nl A) : Int) ∧ (↑(nl A) : Int) ≤ (↑(nl A) : Int) ∧ (↑(nl A) : Int) ≤ (↑(nl A) : Int)] (ATree.must [(0 : Int) ≤ (↑((↑(nl A) : Int).toNat - (IntKind.i64.wrap ((↑n : Int).tdiv (32 : Int))).toNat) : Int) ∧ (↑((↑(nl A) : Int).toNat - (IntKind.i64.wrap ((↑n : Int).tdiv (32 : Int))).toNat) : Int) ≤ (↑((↑(nl A) : Int).toNat - (IntKind.i64.wrap ((↑n : Int).tdiv (32 : Int))).toNat) : Int) ∧ (↑((↑(nl A) : Int).toNat - (IntKind.i64.wrap ((↑n : Int).tdiv (32 : Int))).toNat) : Int) ≤ (2 : Int) ^ 47 ∧ (↑((↑(nl A) : Int).toNat - (IntKind.i64.wrap ((↑n : Int).tdiv (32 : Int))).toNat) : Int) * (↑(4 : Nat) : Int) ≤ (2 : Int) ^ 47] (ATree.leaf AEx.normal ([tab 1 ((↑(nl A) : Int).toNat - (IntKind.i64.wrap ((↑n : Int).tdiv (32 : Int))).toNat) fun (i : Nat) ↦ int IntKind.u32 (↑(limb A (i + (IntKind.i64.wrap ((↑n : Int).tdiv (32 : Int))).toNat)) : Int), int IntKind.i64 (↑n : Int), own 53248 1 0 (↑((↑(nl A) : Int).toNat - (IntKind.i64.wrap ((↑n : Int).tdiv (32 : Int))).toNat) : Int).toNat, int IntKind.i64 (0 : Int), nil], [((53248 : Nat), { row := true, wr := true, es := 1, len := (↑((↑(nl A) : Int).toNat - (IntKind.i64.wrap ((↑n : Int).tdiv (32 : Int))).toNat) : Int).toNat, f := fun (x : Nat) ↦ int IntKind.u32 (0 : Int) })])))))) := by kernel_rfl
theorem fdn_body {n l i : Nat} {a o : Nat → Nat} : seeL T GF1 [23, 35] 60 fdLs [fdL] ⟨zipL fdLs (fdVs a l n i 7), fmOs 7 l o, 8⟩ =
    some (ATree.fork (decide ((↑i : Int) < (↑l : Int))) (ATree.must [(0 : Int) ≤ (↑i : Int) ∧ (↑i : Int).toNat < l] (ATree.fork (decide (IntKind.i64.wrap ((↑i : Int) + (1 : Int)) < (↑l : Int))) (ATree.must [(0 : Int) ≤ IntKind.i64.wrap ((↑i : Int) + (1 : Int)) ∧ (IntKind.i64.wrap ((↑i : Int) + (1 : Int))).toNat < l, (0 : Int) ≤ (32 : Int)] (ATree.must [(32 : Int) ≠ (0 : Int), (0 : Int) ≤ (↑n : Int).tmod (32 : Int), (0 : Int) ≤ (↑i : Int) ∧ (↑i : Int).toNat < l, (↑i : Int).toNat + 0 < l] (ATree.leaf AEx.normal ([tab 1 l (limbsF a), int IntKind.i64 (↑n : Int), own 7 1 0 l, int IntKind.i64 (IntKind.i64.wrap ((↑i : Int) + (1 : Int)))], [((7 : Nat), { row := true, wr := true, es := 1, len := l, f := fun (j : Nat) ↦ if (j == (↑i : Int).toNat + 0) = true then int IntKind.u32 (IntKind.u32.wrap ((IntKind.u64.wrap (↑(BitVec.ofInt IntKind.u64.bits (IntKind.u64.wrap (↑(a (↑i : Int).toNat) : Int)) ||| BitVec.ofInt IntKind.u64.bits (IntKind.u64.wrap (IntKind.u64.wrap (↑(a (IntKind.i64.wrap ((↑i : Int) + (1 : Int))).toNat) : Int) * (2 : Int) ^ min (Int.toNat (32 : Int)) IntKind.u64.bits))).toNat : Int)).fdiv ((2 : Int) ^ min ((↑n : Int).tmod (32 : Int)).toNat IntKind.u64.bits))) else limbsF o j })])))) (ATree.must [(32 : Int) ≠ (0 : Int), (0 : Int) ≤ (↑n : Int).tmod (32 : Int), (0 : Int) ≤ (↑i : Int) ∧ (↑i : Int).toNat < l, (↑i : Int).toNat + 0 < l] (ATree.leaf AEx.normal ([tab 1 l (limbsF a), int IntKind.i64 (↑n : Int), own 7 1 0 l, int IntKind.i64 (IntKind.i64.wrap ((↑i : Int) + (1 : Int)))], [((7 : Nat), { row := true, wr := true, es := 1, len := l, f := fun (j : Nat) ↦ if (j == (↑i : Int).toNat + 0) = true then int IntKind.u32 (IntKind.u32.wrap ((IntKind.u64.wrap (↑(a (↑i : Int).toNat) : Int)).fdiv ((2 : Int) ^ min ((↑n : Int).tmod (32 : Int)).toNat IntKind.u64.bits))) else limbsF o j })]))))) (ATree.leaf (AEx.exit 0) ([tab 1 l (limbsF a), int IntKind.i64 (↑n : Int), own 7 1 0 l, int IntKind.i64 (↑i : Int)], [((7 : Nat), { row := true, wr := true, es := 1, len := l, f := limbsF o })]))) := by kernel_rfl
theorem fdn_end {n l i : Nat} {a o : Nat → Nat} : endL T GF1 [] 60 fn_ref01_down (behind (codeOf fn_ref01_down) [1,1,1,1,0,1]) ⟨zipL fdLs (fdVs a l n i 7), fmOs 7 l o, 8⟩ =
    some (ATree.must [Limbs l fun (i : Nat) ↦ limbsF o (i + 0), l < 2 ^ 40] (ATree.leaf AEx.ret [mag (val l fun (i : Nat) ↦ numOf (limbsF o (i + 0)))])) := by kernel_rfl
theorem noKeys_of {c : Ctx} (h0 : ∀ nx k x, c.k0 k = some x → k < nx) : c.k0 = noKeys := by
  funext k
  cases hk : c.k0 k with
  | none => rfl
  | some x => have := h0 0 k x hk; omega
theorem push_limb {o : Nat → Nat} {l : Nat} {v : Int} {x : Nat} (hv : v = (x : Nat)) {j : Nat} (hj : j < l + 1) : (if j < l then limbsF o j else nth [.int .u32 v] (.int .u32 0) (j - l)) = limbsF (setL o l x) j := by
  by_cases h : j < l
  · rw [if_pos h]; unfold limbsF; rw [setL_ne (by omega)]
  · have : j = l := by omega
    subst this
    rw [if_neg h, hv]
    simp [nth, limbsF, setL_same]
theorem fup_ok {A n : Nat} (hA : nl A < 2 ^ 39) (hn : n < 2 ^ 43) (K : Nat) : FOK P ref01_up K [.mag A, .int .i64 n] [] (pres (.mag (A * 2 ^ n)) []) := by
  refine fok_down hT is_fup rfl (of_decide_eq_true (by kernel_rfl)) rfl (fun _ c0 h0 => ?_) K []
  have hk0 := noKeys_of h0
  refine AWp.hole [1,1,1,0,1] (by kernel_rfl) (AWpL.see hT GF1_ok hm 60 fuLs fup_pre (by kernel_rfl) ?_)
  have hw : IntKind.i64.wrap ((n : Int).tdiv 32) = ((n / 32 : Nat) : Int) := by
    rw [show (n : Int).tdiv 32 = ((n / 32 : Nat) : Int) from (Int.ofNat_tdiv n 32).symm]
    exact i64_nat rfl (by omega)
  have hmd : (n : Int).tmod 32 = ((n % 32 : Nat) : Int) := (Int.ofNat_tmod n 32).symm
  rw [hw]
  obtain ⟨k, hk⟩ : ∃ k, k = n / 32 := ⟨_, rfl⟩
  obtain ⟨s, hs⟩ : ∃ s, s = n % 32 := ⟨_, rfl⟩
  rw [← hs] at hmd
  rw [← hk]
  simp only [ATree.all, allP, Int.toNat_natCast]
  refine ⟨by omega, fun s' hv => then_go ?_⟩
  refine AWp.whileLe (i := 0) (y := fuL) (by kernel_rfl) (fun p : Nat × Nat × (Nat → Nat) => ⟨zipL fuLs (fuVs A n (k + p.1) p.2.1 p.1 7), fmOs 7 (k + p.1) p.2.2, 8⟩)
    (fun p => p.1 ≤ nl A ∧ p.2.1 < 2 ^ s ∧ (∀ j, j < k + p.1 → p.2.2 j < 2 ^ 32) ∧ val (k + p.1) p.2.2 + p.2.1 * 2 ^ (32 * (k + p.1)) = val p.1 (limb A) * 2 ^ (32 * k) * 2 ^ s)
    (fun p => nl A - p.1) (0, 0, fun _ => 0)
    (le_view [(7, 12288)] hv hk0 rfl ⟨⟨rfl, avLe_pure rfl⟩, ⟨rfl, avLe_pure rfl⟩, ⟨rfl, avLe_own rfl rfl rfl⟩, ⟨rfl, avLe_pure rfl⟩, ⟨rfl, avLe_pure rfl⟩, trivial⟩ ⟨⟨_, _, rfl, rfl, objLe_limbs rfl fun j _ => rfl⟩, trivial⟩)
    ⟨by simp, Nat.two_pow_pos s, fun _ _ => by simp, ?_⟩ ?_
  · simp only
    rw [val_zero fun _ _ => rfl]
    simp [val]
  rintro ⟨i, c, o⟩ ⟨hi, hc, ho, hval⟩
  simp only at hi hc ho hval
  have hs32 : s < 32 := by omega
  have h31 : 2 ^ s ≤ 2 ^ 31 := Nat.pow_le_pow_right (by omega) (by omega)
  have hzi := limb_lt (N := A) (i := i)
  refine AWp.see hT GF1_ok hm 60 fuLs fup_body (by kernel_rfl) ?_
  rw [hmd]
  have hor := or_raise hs32 hzi hc
  obtain ⟨b1, b2⟩ := raise_bound hs32 hzi hc
  simp only [ATree.all, allP, decide_eq_true_eq, decide_eq_false_iff_not, Int.toNat_natCast, Nat.add_zero] at hor ⊢
  rw [hor]
  refine ⟨fun hb => ⟨⟨by omega, by omega, by omega⟩, ⟨by omega, by omega⟩, by omega, fun s' hv => ⟨(i + 1, (c + limb A i * 2 ^ s) / 4294967296, setL o (k + i) ((c + limb A i * 2 ^ s) % 4294967296)), ?_, ⟨by simp only; omega, b2, fun j hj => ?_, ?_⟩, by simp only; omega⟩⟩, fun hb s' hv => then_exit ?_⟩
  · refine le_view (vs := fuVs A n (k + (i + 1)) ((c + limb A i * 2 ^ s) / 4294967296) (i + 1) 7) (ps := fmOs 7 (k + (i + 1)) (setL o (k + i) ((c + limb A i * 2 ^ s) % 4294967296))) [(7, 77832)] hv hk0 rfl ⟨⟨rfl, avLe_pure rfl⟩, ⟨rfl, avLe_pure rfl⟩, ⟨rfl, avLe_own rfl rfl rfl⟩, ⟨rfl, avLe_int ?_⟩, ⟨rfl, avLe_int ?_⟩, trivial⟩
      ⟨⟨_, _, rfl, rfl, objLe_limbs rfl fun j hj => push_limb (by rw [wrap_u32_nat]) (by omega)⟩, trivial⟩
    · rw [fdiv32]; omega
    · rw [wrap_i64 (by omega) (by omega)]; omega
  · simp only at hj ⊢
    unfold setL
    split
    · omega
    · exact ho j (by omega)
  · simp only
    have := raise_step (x := limb A i) hval
    rw [show k + (i + 1) = (k + i) + 1 by omega, val_setL_end, pow_succ32, this, val]
    congr 1
    rw [Nat.add_mul, Nat.mul_assoc, ← Nat.pow_add, show 32 * i + 32 * k = 32 * (k + i) by omega]
  · have hin : i = nl A := by omega
    show AWpL P c0 fn_ref01_up.ntmps (behind (codeOf fn_ref01_up) [1,1,1,0,1]) s' _
    refine AWpL.finDV hT GF1_ok hm 60 hv (h0 _) rfl (okO_fm (by omega)) fup_end (by kernel_rfl) (by kernel_rfl) ?_
    simp only [ATree.all, allP, Nat.add_zero]
    have ho' : ∀ j, j < k + i + 1 → setL o (k + i) c j < 2 ^ 32 := fun j hj => by
      unfold setL
      split
      · omega
      · exact ho j (by omega)
    have e : ∀ j, j < k + i + 1 → (if j < k + i then limbsF o j else nth [.int .u32 (IntKind.u32.wrap (c : Int))] (.int .u32 0) (j - (k + i))) = limbsF (setL o (k + i) c) j := fun j hj => push_limb (wrap_u32 (by omega) (by omega)) hj
    refine ⟨⟨by omega, by omega, fun j hj => ?_, by omega⟩, avLe0_of_eq (congrArg AV.mag ?_)⟩
    · exact ⟨_, ho' j hj, e j hj⟩
    · rw [val_congr (y := setL o (k + i) c) fun j hj => (congrArg numOf (e j hj)).trans numOf_limbsF, val_setL_end, hval, hin, val_nl, Nat.mul_assoc, ← Nat.pow_add]
      congr 2
      omega
def s_fup : Spec := pureSpec fun l => match l with
  | [a, .int .i64 n] => match magOf a with
    | some A => some (pres (.mag (A * 2 ^ n.toNat)) [nl A < 2 ^ 39, 0 ≤ n, n < 2 ^ 43])
    | none => none
  | _ => none
theorem spec_magint {f : FuncId} {g : Nat → Int → AV} {l : Nat → List Prop} {m : Int} (h : ∀ {A n : Nat}, allP (l A) → (n : Int) < m → ∀ K, FOK P f K [.mag A, .int .i64 n] [] (pres (g A n) [])) : ∀ K args pre r, pureSpec (fun a => match a with
  | [a, .int .i64 n] => match magOf a with
    | some A => some (pres (g A n) (l A ++ [0 ≤ n, n < m]))
    | none => none
  | _ => none) K args pre = some r → FOK P f K args pre r := by
  refine pureSpec_ok fun K args r hk hs _ => ?_
  split at hs
  · split at hs
    · rename_i A hA
      simp only [Option.some.injEq] at hs
      subst hs
      intro need
      obtain ⟨h1, h2, h3⟩ := allP_append.1 need
      rename_i n _
      obtain ⟨n, rfl⟩ := Int.eq_ofNat_of_zero_le h2
      exact fok_weak (h h1 h3 K) hk ⟨magOf_le hA, .refl _, trivial⟩ [] trivial
    · simp at hs
  · simp at hs
theorem s_fup_ok : ∀ K args pre r, s_fup K args pre = some r → FOK P ref01_up K args pre r :=
  spec_magint (g := fun A n => .mag (A * 2 ^ n.toNat)) (l := fun A => [nl A < 2 ^ 39]) (m := 2 ^ 43) fun {A n} h hn K => by
    have := fup_ok (A := A) (n := n) h (by omega) K
    simpa using this
theorem fshifted_ok {A n : Nat} (hA : nl A < 2 ^ 40) (hn : n < 2 ^ 40) (K : Nat) : FOK P ref01_shifted K [.mag A, .int .i64 n] [] (pres (.mag (A * 2 ^ (32 * n))) []) := by
  refine fok_tree hT GF1_ok hm is_fshifted rfl (of_decide_eq_true (by kernel_rfl)) rfl 60 fsh_end (fun _ => ?_) K []
  simp only [ATree.all, allP, beq_iff_eq, beq_eq_false_iff_ne, ne_eq, Int.toNat_natCast, Nat.add_zero]
  refine ⟨fun hb => ?_, fun hb => ⟨⟨by omega, by omega⟩, ?_⟩⟩
  · have : A = 0 := nl_zero_iff.1 (by omega)
    subst this
    rw [Nat.zero_mul]; exact avLe0_nil_mag
  · have hA0 : A ≠ 0 := fun h => hb (by rw [h]; rfl)
    have hlt : A * 2 ^ (32 * n) < 2 ^ (32 * (n + nl A)) := by
      rw [show 32 * (n + nl A) = 32 * nl A + 32 * n by omega, Nat.pow_add]
      exact (Nat.mul_lt_mul_right (Nat.two_pow_pos _)).2 lt_nl
    have hval : A * 2 ^ (32 * n) = val (n + nl A) (fun i => if i < n then 0 else limb A (i - n)) := by
      rw [val_add, val_zero fun i hi => if_pos hi, Nat.zero_add]
      congr 1
      have := val_nl (N := A)
      conv => lhs; rw [← this]
      exact val_congr fun i hi => by rw [if_neg (by omega)]; congr 1; omega
    have hz : ∀ i, i < n + nl A → (if i < n then 0 else limb A (i - n)) < 2 ^ 32 := fun i _ => by
      split
      · omega
      · exact limb_lt
    refine avLe0_tab_mag ?_ fun i hi => ?_
    · rw [hval]
      refine nl_val hz (.inr ?_)
      have hp := nl_pos.2 hA0
      rw [if_neg (by omega), show n + nl A - 1 - n = nl A - 1 by omega]
      exact limb_top hA0
    · rw [hval, limb_val hz hi]
      split <;> rfl
def s_fshifted : Spec := pureSpec fun l => match l with
  | [a, .int .i64 n] => match magOf a with
    | some A => some (pres (.mag (A * 2 ^ (32 * n.toNat))) [nl A < 2 ^ 40, 0 ≤ n, n < 2 ^ 40])
    | none => none
  | _ => none
theorem s_fshifted_ok : ∀ K args pre r, s_fshifted K args pre = some r → FOK P ref01_shifted K args pre r :=
  spec_magint (g := fun A n => .mag (A * 2 ^ (32 * n.toNat))) (l := fun A => [nl A < 2 ^ 40]) (m := 2 ^ 40) fun {A n} h hn K => by
    have := fshifted_ok (A := A) (n := n) h (by omega) K
    simpa using this
theorem ftimes_ok {A b : Nat} (hA : nl A < 2 ^ 39) (hb : b < 2 ^ 32) (K : Nat) : FOK P ref01_times K [.mag A, .int .u32 b] [] (pres (.mag (A * b)) []) := by
  refine fok_tree hT GF3_ok hm is_ftimes rfl (of_decide_eq_true (by kernel_rfl)) rfl 60 ftimes_end (fun _ => ?_) K []
  have e : IntKind.u64.wrap (b : Int) = (b : Int) := wrap_u64 (by omega) (by omega)
  rw [e]
  simp only [ATree.all, allP, Int.toNat_natCast]
  have : nl b ≤ 1 := nl_spec.2 (by omega)
  exact ⟨⟨by omega, hA, by omega⟩, .refl _⟩
def s_ftimes : Spec := pureSpec fun l => match l with
  | [a, .int .u32 b] => match magOf a with
    | some A => some (pres (.mag (A * b.toNat)) [nl A < 2 ^ 39, 0 ≤ b, b < 2 ^ 32])
    | none => none
  | _ => none
theorem s_ftimes_ok : ∀ K args pre r, s_ftimes K args pre = some r → FOK P ref01_times K args pre r := by
  refine pureSpec_ok fun K args r hk hs _ => ?_
  split at hs
  · rename_i a b
    split at hs
    · rename_i A hA
      simp only [Option.some.injEq] at hs
      subst hs
      intro need
      obtain ⟨h1, h2, h3⟩ : nl A < 2 ^ 39 ∧ 0 ≤ b ∧ b < 2 ^ 32 := need
      obtain ⟨b, rfl⟩ := Int.eq_ofNat_of_zero_le h2
      exact fok_weak (ftimes_ok h1 (by omega) K) hk ⟨magOf_le hA, .refl _, trivial⟩ [] trivial
    · simp at hs
  · simp at hs
theorem limb_words {A k i : Nat} : limb A (i + k) = limb (A / 2 ^ (32 * k)) i := by
  unfold limb
  rw [Nat.div_div_eq_div_mul, ← Nat.pow_add]
  congr 3
  omega
theorem down_word {a b s : Nat} (ha : a < 2 ^ 32) (hb : b < 2 ^ 32) (hs : s < 32) : (b * 4294967296 + a) / 2 ^ s % 4294967296 = a / 2 ^ s + b % 2 ^ s * 2 ^ (32 - s) := by
  have := limb_shift (R := b * 4294967296 + a) (k := 0) hs
  have l0 : limb (b * 4294967296 + a) 0 = a := by unfold limb; simp; omega
  have l1 : limb (b * 4294967296 + a) (0 + 1) = b := by unfold limb; simp; omega
  rw [l0, l1] at this
  rw [← this]
  unfold limb
  simp
theorem fdown_ok {A n : Nat} (hA : nl A < 2 ^ 40) (hn : n < 2 ^ 62) (K : Nat) : FOK P ref01_down K [.mag A, .int .i64 n] [] (pres (.mag (A / 2 ^ n)) []) := by
  refine fok_down hT is_fdown rfl (of_decide_eq_true (by kernel_rfl)) rfl (fun _ c0 h0 => ?_) K []
  have hk0 := noKeys_of h0
  refine AWp.hole [1,1,1,1,0,1] (by kernel_rfl) (AWpL.see hT GF1_ok hm 60 (fdLs ++ [4]) fdn_pre (by kernel_rfl) ?_)
  have hw : IntKind.i64.wrap ((n : Int).tdiv 32) = ((n / 32 : Nat) : Int) := by
    rw [show (n : Int).tdiv 32 = ((n / 32 : Nat) : Int) from (Int.ofNat_tdiv n 32).symm]
    exact i64_nat rfl (by omega)
  have hmd : (n : Int).tmod 32 = ((n % 32 : Nat) : Int) := (Int.ofNat_tmod n 32).symm
  rw [hw]
  obtain ⟨k, hk⟩ : ∃ k, k = n / 32 := ⟨_, rfl⟩
  obtain ⟨s, hs⟩ : ∃ s, s = n % 32 := ⟨_, rfl⟩
  rw [← hs] at hmd
  rw [← hk]
  have hnk : 2 ^ n = 2 ^ (32 * k) * 2 ^ s := by rw [← Nat.pow_add]; congr 1; omega
  simp only [ATree.all, allP, decide_eq_true_eq, decide_eq_false_iff_not, Int.toNat_natCast]
  refine ⟨by omega, fun hb s' hv => then_ret (.inl ?_), fun hb => ⟨⟨by omega, by omega⟩, by omega, fun s' hv => then_go ?_⟩⟩
  · refine fin_view (us := [.nil]) (.inr rfl) hv (by kernel_rfl) ?_
    have : A / 2 ^ n = 0 := by
      rw [hnk, ← Nat.div_div_eq_div_mul, Nat.div_eq_of_lt (nl_spec.1 (show nl A ≤ k by omega)), Nat.zero_div]
    rw [this]; exact avLe0_nil_mag
  have hkA : k < nl A := by omega
  have hv := view_take (ls := fdLs) (l := [4]) (vs := [.tab 1 (nl A - k) fun i => .int .u32 (limb A (i + k) : Nat), .int .i64 n, .own 53248 1 0 (nl A - k), .int .i64 0]) hv rfl rfl
  obtain ⟨R, hR⟩ : ∃ R, R = A / 2 ^ (32 * k) := ⟨_, rfl⟩
  obtain ⟨l, hl⟩ : ∃ l, l = nl A - k := ⟨_, rfl⟩
  have hRl : R < 2 ^ (32 * l) := by
    rw [hR, Nat.div_lt_iff_lt_mul (Nat.two_pow_pos _), ← Nat.pow_add, ← Nat.mul_add]
    exact nl_spec.1 (show nl A ≤ l + k by omega)
  have hfun : (fun i => AV.int .u32 (limb A (i + k) : Nat)) = limbsF (limb R) := by
    funext i; unfold limbsF; rw [limb_words, hR]
  rw [hfun, ← hl] at hv
  refine AWp.whileLe (i := 0) (y := fdL) (by kernel_rfl) (fun p : Nat × (Nat → Nat) => ⟨zipL fdLs (fdVs (limb R) l n p.1 7), fmOs 7 l p.2, 8⟩)
    (fun p => p.1 ≤ l ∧ ∀ j, j < p.1 → p.2 j = limb (R / 2 ^ s) j)
    (fun p => l - p.1) (0, fun _ => 0)
    (le_view [(7, 53248)] hv hk0 rfl ⟨⟨rfl, avLe_pure rfl⟩, ⟨rfl, avLe_pure rfl⟩, ⟨rfl, avLe_own rfl rfl rfl⟩, ⟨rfl, avLe_pure rfl⟩, trivial⟩ ⟨⟨_, _, rfl, rfl, objLe_limbs rfl fun j _ => rfl⟩, trivial⟩)
    ⟨by simp, fun j hj => by simp only at hj; omega⟩ ?_
  rintro ⟨i, o⟩ ⟨hi, ho⟩
  simp only at hi ho
  have hs32 : s < 32 := by omega
  have ha := limb_lt (N := R) (i := i)
  have hb' := limb_lt (N := R) (i := i + 1)
  refine AWp.see hT GF1_ok hm 60 fdLs fdn_body (by kernel_rfl) ?_
  have w1 : IntKind.i64.wrap ((i : Int) + 1) = if i < l then ((i + 1 : Nat) : Int) else IntKind.i64.wrap ((i : Int) + 1) := by
    split
    · exact i64_nat (by omega) (by omega)
    · rfl
  simp only [ATree.all, allP, decide_eq_true_eq, decide_eq_false_iff_not, Int.toNat_natCast, Nat.add_zero, beq_iff_eq]
  have next : ∀ {s' : AState} {v : Int}, i < l → v = ((limb (R / 2 ^ s) i : Nat) : Int) → viewAV fdLs s' = some (fdVs (limb R) l n (i + 1) 7, [(7, ⟨true, true, 1, l, fun j => if j = i then .int .u32 v else limbsF o j⟩)]) →
      ∃ p : Nat × (Nat → Nat), (∃ ρ, Le c0 ρ s' ⟨zipL fdLs (fdVs (limb R) l n p.1 7), fmOs 7 l p.2, 8⟩) ∧ (p.1 ≤ l ∧ ∀ j, j < p.1 → p.2 j = limb (R / 2 ^ s) j) ∧ l - p.1 < l - i := by
    intro s' v hil hv1 hv
    refine ⟨(i + 1, setL o i (limb (R / 2 ^ s) i)), le_same (view_eq hv rfl ?_) (h0 _) rfl (okO_fm (by omega)), ⟨by simp only; omega, fun j hj => ?_⟩, by simp only; omega⟩
    · simp only [fmOs]
      congr 3
      funext j
      exact limbs_set hv1 j
    · simp only at hj ⊢
      unfold setL
      split
      · rename_i h; rw [h]
      · exact ho j (by omega)
  refine ⟨fun hb => ?_, fun hb s' hv => then_exit ?_⟩
  · have hil : i < l := by omega
    rw [if_pos hil] at w1
    rw [w1, hmd]
    have hf : ∀ x : Nat, (x : Int).fdiv (2 ^ min ((s : Int).toNat) IntKind.u64.bits) = ((x / 2 ^ s : Nat) : Int) := fun x => by
      have : min ((s : Int).toNat) IntKind.u64.bits = s := by
        have : IntKind.u64.bits = 64 := rfl
        omega
      rw [this, Int.fdiv_eq_ediv_of_nonneg _ (by exact Int.le_of_lt (Int.pow_pos (by decide)))]
      simp
    have wa : IntKind.u64.wrap (limb R i : Int) = ((limb R i : Nat) : Int) := wrap_u64 (by omega) (by omega)
    have hor : IntKind.u64.wrap ((BitVec.ofInt IntKind.u64.bits (IntKind.u64.wrap (limb R i : Int)) ||| BitVec.ofInt IntKind.u64.bits (IntKind.u64.wrap (IntKind.u64.wrap (limb R (i + 1) : Int) * 2 ^ min (Int.toNat 32) IntKind.u64.bits))).toNat : Int) = ((limb R (i + 1) * 4294967296 + limb R i : Nat) : Int) := by
      rw [BitVec.or_comm, wrap_u64 (x := (limb R (i + 1) : Int)) (by omega) (by omega)]
      exact or_words hb' ha
    simp only [Int.toNat_natCast]
    refine ⟨by omega, fun h1 => ⟨⟨by omega, by omega⟩, ⟨by omega, by omega, by omega, by omega⟩, fun s' hv => next hil ?_ hv⟩, fun h1 => ⟨⟨by omega, by omega, by omega, by omega⟩, fun s' hv => next hil ?_ hv⟩⟩
    · rw [hor]
      have := hf (limb R (i + 1) * 4294967296 + limb R i)
      simp only [Int.toNat_natCast] at this
      rw [this, wrap_u32_nat, down_word ha hb' hs32, limb_shift hs32]
    · rw [wa]
      have := hf (limb R i)
      simp only [Int.toNat_natCast] at this
      have hd := Nat.div_le_self (limb R i) (2 ^ s)
      rw [this, wrap_u32_nat, limb_shift hs32, limb_above (A := R) (i := i + 1) (nl_spec.2 (Nat.lt_of_lt_of_le hRl (Nat.pow_le_pow_right (by omega) (by omega)))), Nat.zero_mod, Nat.zero_mul, Nat.add_zero, Nat.mod_eq_of_lt (by omega)]
  · have hil : i = l := by omega
    show AWpL P c0 fn_ref01_down.ntmps (behind (codeOf fn_ref01_down) [1,1,1,1,0,1]) s' _
    refine AWpL.finDV hT GF1_ok hm 60 hv (h0 _) rfl (okO_fm (by omega)) fdn_end (by kernel_rfl) (by kernel_rfl) ?_
    simp only [ATree.all, allP, Nat.add_zero, val_numOf]
    refine ⟨⟨limbs_limbsF fun j hj => ?_, by omega⟩, avLe0_of_eq (congrArg AV.mag ?_)⟩
    · rw [ho j (by omega)]; exact limb_lt
    · rw [val_congr (y := limb (R / 2 ^ s)) fun j hj => ho j (by omega), val_limb (Nat.lt_of_le_of_lt (Nat.div_le_self _ _) hRl), hR, hnk, Nat.div_div_eq_div_mul]
def s_fdown : Spec := pureSpec fun l => match l with
  | [a, .int .i64 n] => match magOf a with
    | some A => some (pres (.mag (A / 2 ^ n.toNat)) [nl A < 2 ^ 40, 0 ≤ n, n < 2 ^ 62])
    | none => none
  | _ => none
theorem s_fdown_ok : ∀ K args pre r, s_fdown K args pre = some r → FOK P ref01_down K args pre r :=
  spec_magint (g := fun A n => .mag (A / 2 ^ n.toNat)) (l := fun A => [nl A < 2 ^ 40]) (m := 2 ^ 62) fun {A n} h hn K => by
    have := fdown_ok (A := A) (n := n) h (by omega) K
    simpa using this
end Go.Am.B
