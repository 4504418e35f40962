/- natural.trim and natural.raise, where the slice is written to afterwards. -/
import Derived.Test.YtnocdkaonpdmjaaB6
import Derived.Test.YtnocdkaonpdmjaaZ2
set_option linter.unusedVariables false
namespace Go.Am.B
open Go Go.Am.N AV
theorem raiseO_post {n s i c : Nat} {z o : Nat → Nat} : seeL T G1 [] 30 [4] (behind (codeOf fn_natural_raise) [1,1,1,0,1]) ⟨zipL [0, 1, 5, 6, 13, 14, 15] [.tab 1 n (limbsF z), .int .i64 s, .own 7 1 0 (n + 1), .int .u64 c, .tab 1 n (limbsF z), .int .i64 n, .int .i64 i], [(7, ⟨true, true, 1, n + 1, limbsF o⟩)], 8⟩ =
    some (ATree.must [(0 : Int) ≤ (↑n : Int) ∧ (↑n : Int).toNat < n + 1, (↑n : Int).toNat + 0 < n + 1] (ATree.leaf AEx.ret ([own 7 1 0 (n + 1)], [((7 : Nat), { row := true, wr := true, es := 1, len := n + 1, f := fun (j : Nat) ↦ if (j == (↑n : Int).toNat + 0) = true then int IntKind.u32 (IntKind.u32.wrap (↑c : Int)) else limbsF o j })]))) := by kernel_rfl
theorem trimO_pre {n : Nat} {z : Nat → Nat} : seeL T [] [] 30 [0, 3] (before (codeOf fn_natural_trim) [1,1,0]) ⟨zipSlots 0 [.own 0 1 0 n], [(0, ⟨true, true, 1, n, limbsF z⟩)], 1⟩ =
    some (ATree.leaf AEx.normal ([own 0 1 0 n, int IntKind.i64 (↑n : Int)], [((0 : Nat), { row := true, wr := true, es := 1, len := n, f := limbsF z })])) := by kernel_rfl
theorem trimO_body {n k : Nat} {z : Nat → Nat} : seeL T [] [8, 15] 30 [0, 3] [part (codeOf fn_natural_trim) [1,1,0,0,0]] ⟨zipL [0, 3] [.own 0 1 0 n, .int .i64 k], [(0, ⟨true, true, 1, n, limbsF z⟩)], 1⟩ =
    some (ATree.fork (decide ((↑k : Int) > (0 : Int))) (ATree.must [decide ((↑k : Int) > (0 : Int)) = true, (0 : Int) ≤ IntKind.i64.wrap ((↑k : Int) - (1 : Int)) ∧ (IntKind.i64.wrap ((↑k : Int) - (1 : Int))).toNat < n, (IntKind.i64.wrap ((↑k : Int) - (1 : Int))).toNat + 0 < n] (ATree.fork (bif true then (↑(z ((IntKind.i64.wrap ((↑k : Int) - (1 : Int))).toNat + 0)) : Int) == (0 : Int) else false) (ATree.leaf AEx.normal ([own 0 1 0 n, int IntKind.i64 (IntKind.i64.wrap ((↑k : Int) - (1 : Int)))], [((0 : Nat), { row := true, wr := true, es := 1, len := n, f := limbsF z })])) (ATree.leaf (AEx.exit 0) ([own 0 1 0 n, int IntKind.i64 (↑k : Int)], [((0 : Nat), { row := true, wr := true, es := 1, len := n, f := limbsF z })])))) (ATree.must [decide ((↑k : Int) > (0 : Int)) = false] (ATree.fork false (ATree.leaf AEx.normal ([own 0 1 0 n, int IntKind.i64 (IntKind.i64.wrap ((↑k : Int) - (1 : Int)))], [((0 : Nat), { row := true, wr := true, es := 1, len := n, f := limbsF z })])) (ATree.leaf (AEx.exit 0) ([own 0 1 0 n, int IntKind.i64 (↑k : Int)], [((0 : Nat), { row := true, wr := true, es := 1, len := n, f := limbsF z })]))))) := by kernel_rfl
theorem trimO_post {n k : Nat} {z : Nat → Nat} : seeL T [] [] 30 [2] (behind (codeOf fn_natural_trim) [1,1,0]) ⟨zipL [0, 3] [.own 0 1 0 n, .int .i64 k], [(0, ⟨true, true, 1, n, limbsF z⟩)], 1⟩ =
    some (ATree.must [(0 : Int) ≤ (0 : Int) ∧ (0 : Int) ≤ (↑k : Int) ∧ (↑k : Int) ≤ (↑k : Int) ∧ (↑k : Int) ≤ (↑n : Int)] (ATree.leaf AEx.ret ([own 0 1 0 ((↑k : Int).toNat - Int.toNat (0 : Int))], [((0 : Nat), { row := true, wr := true, es := 1, len := n, f := limbsF z })]))) := by kernel_rfl
theorem natural_raise_own {n s : Nat} {z : Nat → Nat} (hz : ∀ i, i < n → z i < 2 ^ 32) (hn : n < 2 ^ 40) (hs : s < 32) (K : Nat) :
    FOK P natural_raise K [.tab 1 n (limbsF z), .int .i64 s] [] ⟨.own K 1 0 (n + 1), [(K, ⟨true, true, 1, n + 1, limbsF (limb (val n z * 2 ^ s))⟩)], []⟩ := by
  refine fok_core hT is_natural_raise (args0 := [.tab 1 n (limbsF z), .int .i64 s]) (pre0 := []) (nx := 0) [] (of_decide_eq_true (by kernel_rfl)) rfl ⟨⟨rfl, avLe_pure rfl⟩, ⟨rfl, avLe_pure rfl⟩, trivial⟩ trivial (fun a k h => by simp [ren, look] at h) (fun k o h => ?_) (fun _ c h0 => ?_)
  · simp only [look] at h
    split at h
    · rename_i he
      have : K = k := by simpa using he
      subst this
      exact .inr ⟨Nat.le_refl _, by unfold stride; omega⟩
    · simp at h
  have hk0 : c.k0 = noKeys := by
    funext k
    cases hk : c.k0 k with
    | none => rfl
    | some x => have := h0 k x hk; simp [ren, look] at this
  refine raise_awp hz hn hs hk0 fun c' o s' hc ho hval hv => ?_
  have h3 : 2 ^ s ≤ 2 ^ 31 := Nat.pow_le_pow_right (by omega) (by omega)
  refine AWpL.seeV hT G1_ok hm 30 (nx := 8) hv (k0_none hk0) rfl ⟨⟨by omega, fun _ _ => rfl⟩, trivial⟩ [4] raiseO_post (by kernel_rfl) (by kernel_rfl) ?_
  simp only [ATree.all, allP, Nat.add_zero, beq_iff_eq, Int.toNat_natCast, raise_set hs hc]
  refine ⟨by omega, fun s' hv => ⟨by simp, ren [(K, 7)], tauOK_one ⟨Nat.le_refl _, by unfold stride; omega⟩, .inr (endsB_view (us := [.own 7 1 0 (n + 1)]) (ws := [.own K 1 0 (n + 1)]) (ps := [(K, ⟨true, true, 1, n + 1, limbsF (limb (val n z * 2 ^ s))⟩)]) hv (by kernel_rfl) ⟨⟨rfl, avLe_own (by simp [ren, look]) rfl rfl⟩, trivial⟩ rfl rfl ⟨⟨7, _, by simp [ren, look], rfl, objLe_limbs rfl fun j hj => ?_⟩, trivial⟩)⟩⟩
  have ho' : ∀ j, j < n + 1 → setL o n c' j < 2 ^ 32 := setL_lt (by omega) ho
  rw [← hval, ← val_setL_end, limbsF, limbsF, limb_val ho' hj]
def s_raiseO : Spec := frzSpec fun K l => match l with
  | [a, .int .i64 k] => match natOf a with
    | some (N, n, q) => some ⟨.own K 1 0 (n + 1), [(K, ⟨true, true, 1, n + 1, limbsF (limb (N * 2 ^ k.toNat))⟩)], q ++ [n < 2 ^ 40, 0 ≤ k, k < 32]⟩
    | none => none
  | _ => none
theorem s_raiseO_ok : ∀ K args pre r, s_raiseO K args pre = some r → FOK P natural_raise K args pre r := by
  refine frzSpec_ok fun K args r hk hs => ?_
  split at hs
  · rename_i a k
    split at hs
    · rename_i N n q hn
      simp only [Option.some.injEq] at hs
      subst hs
      intro need
      obtain ⟨n1, n2⟩ := allP_append.1 need
      obtain ⟨z, hz, rfl, hle⟩ := natOf_ok hn n1
      obtain ⟨h1, h2, h3⟩ : n < 2 ^ 40 ∧ 0 ≤ k ∧ k < 32 := n2
      obtain ⟨s, rfl⟩ := Int.eq_ofNat_of_zero_le h2
      exact fok_weak (natural_raise_own hz h1 (by omega) K) hk ⟨hle, .refl _, trivial⟩ [] trivial
    · simp at hs
  · simp at hs
theorem natural_trim_own {n k : Nat} {z : Nat → Nat} (hz : ∀ i, i < n → z i < 2 ^ 32) (hn : n < 2 ^ 62) (K : Nat) {f : Nat → AV} (hf : ∀ i, i < n → f i = limbsF z i) :
    FOK P natural_trim K [.own k 1 0 n] [(k, ⟨true, true, 1, n, f⟩)] ⟨.own k 1 0 (nl (val n z)), [], []⟩ := by
  refine fok_core hT is_natural_trim (args0 := [.own 0 1 0 n]) (pre0 := [(0, ⟨true, true, 1, n, limbsF z⟩)]) (nx := 1) [(0, k)] (of_decide_eq_true (by kernel_rfl)) (by simp [renOK]) ⟨⟨rfl, avLe_own rfl rfl rfl⟩, trivial⟩ ⟨⟨k, _, rfl, by simp [look], objLe_limbs rfl hf⟩, trivial⟩
    (fun a x h => ?_) (fun x o h => by simp [look] at h) (fun _ c h0 => ?_)
  · simp only [ren, look] at h
    split at h
    · simp only [Option.some.injEq] at h; subst h; exact ⟨_, by simp [look]; rfl⟩
    · simp at h
  have hk0 : ∀ k x, c.k0 k = some x → k < 1 := fun k x hk => by
    have := h0 k x hk
    simp only [ren, look] at this
    split at this
    · rename_i h; simp at h; omega
    · simp at this
  refine AWp.hole [1,1,0] (by kernel_rfl) (AWpL.see hT gok_nil hm 30 [0, 3] trimO_pre (by kernel_rfl) fun s' hv => ?_)
  refine AWp.whileV (i := 0) (y := part (codeOf fn_natural_trim) [1,1,0,0,0]) (by kernel_rfl) [0, 3] 1 hk0 (fun k : Nat => [.own 0 1 0 n, .int .i64 k]) (fun _ => [(0, ⟨true, true, 1, n, limbsF z⟩)]) (fun _ => rfl) (fun _ => ⟨⟨by omega, fun _ _ => rfl⟩, trivial⟩)
    (fun k => k ≤ n ∧ ∀ i, k ≤ i → i < n → z i = 0) id n hv ⟨Nat.le_refl _, fun i h1 h2 => by omega⟩ ?_
  rintro j ⟨hj, hzj⟩
  refine AWp.see hT gok_nil hm 30 [0, 3] trimO_body (by kernel_rfl) ?_
  have fin : (j = 0 ∨ z (j - 1) ≠ 0) → ∀ s', viewAV [0, 3] s' = some ([.own 0 1 0 n, .int .i64 j], [(0, ⟨true, true, 1, n, limbsF z⟩)]) → AWpL P c fn_natural_trim.ntmps (behind (codeOf fn_natural_trim) [1,1,0]) s'
      (fun e s' => (e = .normal ∨ e = .ret) ∧ ∃ τ, TauOK [(0, k)] K [(k, ⟨true, true, 1, n, f⟩)] τ ∧ (EndsA T fn_natural_trim τ [(k, ⟨true, true, 1, n, f⟩)] ⟨.own k 1 0 (nl (val n z)), [], []⟩ s' ∨ EndsB T fn_natural_trim τ [(k, ⟨true, true, 1, n, f⟩)] ⟨.own k 1 0 (nl (val n z)), [], []⟩ s')) := by
    intro hj0 s' hv
    refine AWpL.seeV hT gok_nil hm 30 (nx := 1) hv hk0 rfl ⟨⟨by omega, fun _ _ => rfl⟩, trivial⟩ [2] trimO_post (by kernel_rfl) (by kernel_rfl) ?_
    have e : val n z = val j z := val_trunc hj hzj
    refine ⟨⟨by omega, by omega, by omega, by omega⟩, fun s' hv => ⟨.inr rfl, ren [(k, 0)], tauOK_pre, .inr (endsB_view (us := [.own 0 1 0 ((j : Int).toNat - Int.toNat 0)]) (ws := [.own k 1 0 (nl (val n z))]) (os := [(0, ⟨true, true, 1, n, limbsF z⟩)]) (ps := [(k, ⟨true, true, 1, n, f⟩)]) hv (by kernel_rfl) ⟨⟨rfl, avLe_own (by simp [ren, look]) rfl ?_⟩, trivial⟩ rfl rfl ⟨⟨0, _, by simp [ren, look], rfl, objLe_of rfl fun j hj => ?_⟩, trivial⟩)⟩⟩
    · rw [e, nl_val (fun i hi => hz i (by omega)) hj0]; simp
    · rw [hf j hj]; exact avLe_pure rfl
  have hw : 0 < j → IntKind.i64.wrap ((j : Int) - 1) = ((j - 1 : Nat) : Int) := fun h => by rw [wrap_i64 (by omega) (by omega)]; omega
  refine ⟨fun hb => ?_, fun hb => ?_⟩
  · have h1 : 0 < j := by simpa using hb
    rw [hw h1]
    have hj1 : j - 1 < n := by omega
    refine ⟨⟨hb, ⟨by omega, by rw [Int.toNat_natCast]; exact hj1⟩, by rw [Int.toNat_natCast]; exact hj1⟩, fun hc s' hv => ?_, fun hc s' hv => ?_⟩
    · refine ⟨j - 1, hv, ⟨by omega, fun i h1 h2 => ?_⟩, by simp; omega⟩
      by_cases hi : i = j - 1
      · subst hi; simpa using hc
      · exact hzj i (by omega) h2
    · exact then_exit (fin (.inr (by simpa using hc)) s' hv)
  · have h1 : j = 0 := by simpa using hb
    refine ⟨hb, fun hc => by simp at hc, fun hc s' hv => then_exit (fin (.inl h1) s' hv)⟩
def s_trimO : Spec := fun _ args pre => match args, pre with
  | [.own k es s n], [(k', o)] => if k == k' && es == 1 && s == 0 && o.row && o.wr && o.es == 1 then some ⟨.own k 1 0 (nl (val n fun i => numOf (o.f i))), [], [Limbs n o.f, o.len = n, n < 2 ^ 62]⟩ else none
  | _, _ => none
theorem s_trimO_ok : ∀ K args pre r, s_trimO K args pre = some r → FOK P natural_trim K args pre r := by
  intro K args pre r hs
  unfold s_trimO at hs
  split at hs
  · rename_i k es s n k' o
    split at hs
    · rename_i hc
      simp only [Bool.and_eq_true, beq_iff_eq] at hc
      obtain ⟨⟨⟨⟨⟨rfl, rfl⟩, rfl⟩, h4⟩, h5⟩, h6⟩ := hc
      simp only [Option.some.injEq] at hs
      subst hs
      intro need
      obtain ⟨h1, h2, h3⟩ : Limbs n o.f ∧ o.len = n ∧ n < 2 ^ 62 := need
      obtain ⟨row, wr, es, len, f⟩ := o
      simp only at h1 h2 h4 h5 h6
      subst h2 h4 h5 h6
      refine natural_trim_own (z := fun i => numOf (f i)) (fun i hi => ?_) h3 K (fun i hi => ?_) trivial
      · obtain ⟨z, g1, g2⟩ := h1 i hi
        simp only [g2, numOf]; omega
      · obtain ⟨z, g1, g2⟩ := h1 i hi
        simp [g2, numOf, limbsF]
    · simp at hs
  · simp at hs
end Go.Am.B
