/- natural.trim. -/
import Derived.Test.YtnocdkaonpdmjaaZ2
import Derived.Test.YtnocdkaonpdmjaaNames
set_option linter.unusedVariables false
namespace Go.Am.B
open Go Go.Am.N AV
theorem is_natural_trim : FnIs P natural_trim fn_natural_trim (codeOf fn_natural_trim) := fnIs get_natural_trim (by kernel_rfl) (by kernel_rfl) (by kernel_rfl)
theorem trim_pre {n : Nat} {z : Nat → Nat} : seeL T [] [] 30 [0, 3] (before (codeOf fn_natural_trim) [1,1,0]) ⟨zipSlots 0 [.tab 1 n (limbsF z)], [], 0⟩ =
    some (ATree.leaf AEx.normal ([AV.tab 1 n (limbsF z), AV.int IntKind.i64 (n : Int)], [])) := by kernel_rfl
theorem trim_body {n k : Nat} {z : Nat → Nat} : seeL T [] [8, 15] 30 [0, 3] [part (codeOf fn_natural_trim) [1,1,0,0,0]] ⟨[(0, .tab 1 n (limbsF z)), (3, .int .i64 k)], [], 0⟩ =
    some
  (ATree.fork (decide ((k : Int) > 0))
    (ATree.must
      [decide ((k : Int) > 0) = true,
        0 ≤ IntKind.i64.wrap ((k : Int) - 1) ∧ (IntKind.i64.wrap ((k : Int) - 1)).toNat < n]
      (ATree.fork (bif true then ((z (IntKind.i64.wrap ((k : Int) - 1)).toNat) : Int) == 0 else false)
        (ATree.leaf AEx.normal ([AV.tab 1 n (limbsF z), AV.int IntKind.i64 (IntKind.i64.wrap ((k : Int) - 1))], []))
        (ATree.leaf (AEx.exit 0) ([AV.tab 1 n (limbsF z), AV.int IntKind.i64 (k : Int)], []))))
    (ATree.must [decide ((k : Int) > 0) = false]
      (ATree.fork false (ATree.leaf AEx.normal ([AV.tab 1 n (limbsF z), AV.int IntKind.i64 (IntKind.i64.wrap ((k : Int) - 1))], []))
        (ATree.leaf (AEx.exit 0) ([AV.tab 1 n (limbsF z), AV.int IntKind.i64 (k : Int)], []))))) := by kernel_rfl
theorem trim_post {n k : Nat} {z : Nat → Nat} : endL T [] [] 30 fn_natural_trim (behind (codeOf fn_natural_trim) [1,1,0]) ⟨[(0, .tab 1 n (limbsF z)), (3, .int .i64 k)], [], 0⟩ =
    some
  (ATree.must [(0 : Int) ≤ 0 ∧ 0 ≤ (k : Int) ∧ (k : Int) ≤ (k : Int) ∧ (k : Int) ≤ (n : Int)]
    (ATree.leaf AEx.ret [AV.tab 1 ((k : Int).toNat - Int.toNat 0) fun i => limbsF z (i + Int.toNat 0)])) := by kernel_rfl
theorem natural_trim_ok {n : Nat} {z : Nat → Nat} (K : Nat) (pre : Store) : FOK P natural_trim K [.tab 1 n (limbsF z)] pre ⟨.mag (val n z), [], [n < 2 ^ 62, ∀ i, i < n → z i < 2 ^ 32]⟩ := by
  refine fok_pure hT is_natural_trim rfl (of_decide_eq_true (by kernel_rfl)) rfl (fun need c h0 => ?_) K pre
  obtain ⟨hn, hz⟩ : n < 2 ^ 62 ∧ ∀ i, i < n → z i < 2 ^ 32 := need
  refine AWp.hole [1,1,0] (by kernel_rfl) (AWpL.see hT gok_nil hm 30 [0, 3] trim_pre (by kernel_rfl) fun s' hv => ?_)
  refine AWp.whileLe (i := 0) (y := part (codeOf fn_natural_trim) [1,1,0,0,0]) (by kernel_rfl) (fun k : Nat => ⟨zipL [0, 3] [.tab 1 n (limbsF z), .int .i64 k], [], 0⟩) (fun k => k ≤ n ∧ ∀ i, k ≤ i → i < n → z i = 0) id n
    (le_view [] hv h0 rfl ⟨⟨rfl, avLe_pure rfl⟩, ⟨rfl, avLe_pure rfl⟩, trivial⟩ trivial) ⟨Nat.le_refl _, fun i h1 h2 => by omega⟩ ?_
  rintro k ⟨hk, hzk⟩
  refine AWp.see hT gok_nil hm 30 [0, 3] trim_body (by kernel_rfl) ?_
  have fin : (k = 0 ∨ z (k - 1) ≠ 0) → ∀ s', viewAV [0, 3] s' = some ([.tab 1 n (limbsF z), .int .i64 k], []) → AWpL P c fn_natural_trim.ntmps (behind (codeOf fn_natural_trim) [1,1,0]) s' (Fin T fn_natural_trim (.mag (val n z))) := by
    intro hk0 s' hv
    refine AWpL.weak (by kernel_rfl) (le_view (vs := [.tab 1 n (limbsF z), .int .i64 k]) (ps := []) (nx := 0) [] hv h0 rfl ⟨⟨rfl, avLe_pure rfl⟩, ⟨rfl, avLe_pure rfl⟩, trivial⟩ trivial)
      (AWpL.fin hT gok_nil hm 30 trim_post (by kernel_rfl) ⟨⟨by omega, by omega, by omega, by omega⟩, ?_⟩)
    have e : val n z = val k z := val_trunc hk hzk
    refine avLe0_tab_mag (by rw [e, nl_val (fun i hi => hz i (by omega)) hk0]; simp) fun i hi => ?_
    have hi' : i < k := by simpa using hi
    rw [e, limb_val (fun j hj => hz j (by omega)) hi']
    rfl
  have hw : 0 < k → IntKind.i64.wrap ((k : Int) - 1) = ((k - 1 : Nat) : Int) := fun h => by rw [wrap_i64 (by omega) (by omega)]; omega
  refine ⟨fun hb => ?_, fun hb => ?_⟩
  · have h1 : 0 < k := by simpa using hb
    rw [hw h1]
    refine ⟨⟨hb, by omega, by simp; omega⟩, fun hc s' hv => ?_, fun hc s' hv => ?_⟩
    · refine ⟨k - 1, le_view [] hv h0 rfl ⟨⟨rfl, avLe_pure rfl⟩, ⟨rfl, avLe_pure rfl⟩, trivial⟩ trivial, ⟨by omega, fun i h1 h2 => ?_⟩, by simp; omega⟩
      by_cases hi : i = k - 1
      · subst hi; simpa using hc
      · exact hzk i (by omega) h2
    · exact fin (.inr (by simpa using hc)) s' hv
  · have h1 : k = 0 := by simpa using hb
    refine ⟨hb, fun hc => by simp at hc, fun hc s' hv => fin (.inl h1) s' hv⟩
def g_trim (N n : Nat) : CRes := pres (.mag N) [n < 2 ^ 62]
def G1 : Contracts := [(natural_trim, pureSpec (spec1 g_trim))]
theorem G1_ok : GOK P G1 := gok_cons (pureSpec_ok (spec1_ok fun z n K hz need => fun _ => natural_trim_ok K [] ⟨need, hz⟩)) gok_nil
end Go.Am.B
