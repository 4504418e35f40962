/- slices.Clone, slices.Equal, natural.Mul. -/
import Derived.Test.YtnocdkaonpdmjaaB5
set_option linter.unusedVariables false
namespace Go.Am.B
open Go Go.Am.N AV
theorem is_Clone : FnIs P slices_Clone_uint32_uint32 fn_slices_Clone_uint32_uint32 (codeOf fn_slices_Clone_uint32_uint32) := fnIs get_slices_Clone_uint32_uint32 (by kernel_rfl) (by kernel_rfl) (by kernel_rfl)
theorem is_Equal : FnIs P slices_Equal_uint32_uint32 fn_slices_Equal_uint32_uint32 (codeOf fn_slices_Equal_uint32_uint32) := fnIs get_slices_Equal_uint32_uint32 (by kernel_rfl) (by kernel_rfl) (by kernel_rfl)
theorem is_natural_Mul : FnIs P natural_Mul fn_natural_Mul (codeOf fn_natural_Mul) := fnIs get_natural_Mul (by kernel_rfl) (by kernel_rfl) (by kernel_rfl)
theorem clone_end {n : Nat} {b : Bool} {f : Nat → AV} : funT T [] [4] 30 fn_slices_Clone_uint32_uint32 (codeOf fn_slices_Clone_uint32_uint32) ⟨zipSlots 0 [.ntab b 1 n f], [], 0⟩ =
    some (ATree.fork b (ATree.leaf AEx.ret [nil]) (ATree.must [(0 : Nat) * 1 ≤ 2 ^ 24, ((0 : Nat) + n) * ((4 : Nat) + 1) * 2 ≤ 2 ^ 47] (ATree.leaf AEx.ret [tab 1 ((0 : Nat) + n) fun (i : Nat) ↦ if i + 0 < 0 then nth [] (int IntKind.u32 (0 : Int)) (i + 0) else f (i + 0 - 0)]))) := by kernel_rfl
theorem equal_pre {A B : Nat} : seeL T [] [10] 30 [0, 1, 12, 13, 4] (before (codeOf fn_slices_Equal_uint32_uint32) [1,1,0,1]) ⟨zipSlots 0 [.mag A, .mag B], [], 0⟩ =
    some (ATree.fork ((↑(nl A) : Int) != (↑(nl B) : Int)) (ATree.leaf AEx.ret ([mag A, mag B, tuple [], tuple [], AV.bool false], [])) (ATree.leaf AEx.normal ([mag A, mag B, int IntKind.i64 (↑(nl A) : Int), int IntKind.i64 (0 : Int), AV.bool false], []))) := by kernel_rfl
theorem equal_body {A B i : Nat} : seeL T [] [14, 24] 30 [0, 1, 12, 13, 4] [part (codeOf fn_slices_Equal_uint32_uint32) [1,1,0,1,0,0]] ⟨zipL [0, 1, 12, 13, 4] [.mag A, .mag B, .int .i64 (nl A), .int .i64 i, .bool false], [], 0⟩ =
    some (ATree.fork (decide ((↑i : Int) < (↑(nl A) : Int))) (ATree.must [(0 : Int) ≤ (↑i : Int) ∧ (↑i : Int).toNat < nl A, (0 : Int) ≤ (↑i : Int) ∧ (↑i : Int).toNat < nl B] (ATree.fork ((↑(limb A (↑i : Int).toNat) : Int) != (↑(limb B (↑i : Int).toNat) : Int)) (ATree.leaf AEx.ret ([mag A, mag B, int IntKind.i64 (↑(nl A) : Int), int IntKind.i64 (↑i : Int), AV.bool false], [])) (ATree.leaf AEx.normal ([mag A, mag B, int IntKind.i64 (↑(nl A) : Int), int IntKind.i64 (IntKind.i64.wrap ((↑i : Int) + (1 : Int))), AV.bool false], [])))) (ATree.leaf (AEx.exit 0) ([mag A, mag B, int IntKind.i64 (↑(nl A) : Int), int IntKind.i64 (↑i : Int), AV.bool false], []))) := by kernel_rfl
theorem equal_post {A B i : Nat} : endL T [] [] 30 fn_slices_Equal_uint32_uint32 (behind (codeOf fn_slices_Equal_uint32_uint32) [1,1,0,1]) ⟨zipL [0, 1, 12, 13, 4] [.mag A, .mag B, .int .i64 (nl A), .int .i64 i, .bool false], [], 0⟩ =
    some (ATree.leaf AEx.ret [AV.bool true]) := by kernel_rfl
theorem mul_pre {n m : Nat} {z y : Nat → Nat} : seeL T G1 [] 30 [1, 5, 17, 18, 19] (before (codeOf fn_natural_Mul) [1,1,0,1]) ⟨zipSlots 0 [.tab 1 n (limbsF z), .tab 1 m (limbsF y)], [], 0⟩ =
    some (ATree.must [(0 : Int) ≤ IntKind.i64.wrap ((↑n : Int) + (↑m : Int)) ∧ IntKind.i64.wrap ((↑n : Int) + (↑m : Int)) ≤ IntKind.i64.wrap ((↑n : Int) + (↑m : Int)) ∧ IntKind.i64.wrap ((↑n : Int) + (↑m : Int)) ≤ (2 : Int) ^ 47 ∧ IntKind.i64.wrap ((↑n : Int) + (↑m : Int)) * (↑(4 : Nat) : Int) ≤ (2 : Int) ^ 47] (ATree.leaf AEx.normal ([tab 1 m (limbsF y), own 24576 1 0 (IntKind.i64.wrap ((↑n : Int) + (↑m : Int))).toNat, tab 1 n (limbsF z), int IntKind.i64 (↑n : Int), int IntKind.i64 (0 : Int)], [((24576 : Nat), { row := true, wr := true, es := 1, len := (IntKind.i64.wrap ((↑n : Int) + (↑m : Int))).toNat, f := fun (x : Nat) ↦ int IntKind.u32 (0 : Int) })]))) := by kernel_rfl
theorem mul_head {n m i : Nat} {z y o : Nat → Nat} : seeL T G1 [20] 30 [1, 5, 17, 18, 19] (before (part (codeOf fn_natural_Mul) [1,1,0,1,0,0]) [1,1,0]) ⟨zipL [1, 5, 17, 18, 19] [.tab 1 m (limbsF y), .own 7 1 0 (n + m), .tab 1 n (limbsF z), .int .i64 n, .int .i64 i], [(7, ⟨true, true, 1, n + m, limbsF o⟩)], 8⟩ =
    some (ATree.fork (decide ((↑i : Int) < (↑n : Int))) (ATree.leaf AEx.normal ([tab 1 m (limbsF y), own 7 1 0 (n + m), tab 1 n (limbsF z), int IntKind.i64 (↑n : Int), int IntKind.i64 (↑i : Int)], [((7 : Nat), { row := true, wr := true, es := 1, len := n + m, f := limbsF o })])) (ATree.leaf (AEx.exit 0) ([tab 1 m (limbsF y), own 7 1 0 (n + m), tab 1 n (limbsF z), int IntKind.i64 (↑n : Int), int IntKind.i64 (↑i : Int)], [((7 : Nat), { row := true, wr := true, es := 1, len := n + m, f := limbsF o })]))) := by kernel_rfl
theorem mul_pre2 {n m i : Nat} {z y o : Nat → Nat} : seeL T G1 [25] 30 [1, 5, 17, 18, 19, 6, 7, 8, 26, 27, 28] (before (part (codeOf fn_natural_Mul) [1,1,0,1,0,0,1,1,0,0]) [1,1,1,0,1]) ⟨zipL [1, 5, 17, 18, 19] [.tab 1 m (limbsF y), .own 7 1 0 (n + m), .tab 1 n (limbsF z), .int .i64 n, .int .i64 i], [(7, ⟨true, true, 1, n + m, limbsF o⟩)], 8⟩ =
    some (ATree.must [(0 : Int) ≤ (↑i : Int) ∧ (↑i : Int).toNat < n] (ATree.fork ((↑(z (↑i : Int).toNat) : Int) == (0 : Int)) (ATree.leaf (AEx.exit 1) ([tab 1 m (limbsF y), own 7 1 0 (n + m), tab 1 n (limbsF z), int IntKind.i64 (↑n : Int), int IntKind.i64 (↑i : Int), int IntKind.i64 (↑i : Int), int IntKind.u32 (↑(z (↑i : Int).toNat) : Int), tuple [], tuple [], tuple [], tuple []], [((7 : Nat), { row := true, wr := true, es := 1, len := n + m, f := limbsF o })])) (ATree.leaf AEx.normal ([tab 1 m (limbsF y), own 7 1 0 (n + m), tab 1 n (limbsF z), int IntKind.i64 (↑n : Int), int IntKind.i64 (↑i : Int), int IntKind.i64 (↑i : Int), int IntKind.u32 (↑(z (↑i : Int).toNat) : Int), int IntKind.u64 (0 : Int), tab 1 m (limbsF y), int IntKind.i64 (↑m : Int), int IntKind.i64 (0 : Int)], [((7 : Nat), { row := true, wr := true, es := 1, len := n + m, f := limbsF o })])))) := by kernel_rfl
theorem mul_body2 {n m i j x c : Nat} {z y o : Nat → Nat} : seeL T G1 [29] 30 [1, 5, 17, 18, 19, 6, 7, 8, 26, 27, 28] [part (part (codeOf fn_natural_Mul) [1,1,0,1,0,0,1,1,0,0]) [1,1,1,0,1,0,0]] ⟨zipL [1, 5, 17, 18, 19, 6, 7, 8, 26, 27, 28] [.tab 1 m (limbsF y), .own 7 1 0 (n + m), .tab 1 n (limbsF z), .int .i64 n, .int .i64 i, .int .i64 i, .int .u32 x, .int .u64 c, .tab 1 m (limbsF y), .int .i64 m, .int .i64 j], [(7, ⟨true, true, 1, n + m, limbsF o⟩)], 8⟩ =
    some (ATree.fork (decide ((↑j : Int) < (↑m : Int))) (ATree.must [(0 : Int) ≤ (↑j : Int) ∧ (↑j : Int).toNat < m] (ATree.must [(0 : Int) ≤ IntKind.i64.wrap ((↑i : Int) + (↑j : Int)) ∧ (IntKind.i64.wrap ((↑i : Int) + (↑j : Int))).toNat < n + m, (IntKind.i64.wrap ((↑i : Int) + (↑j : Int))).toNat + 0 < n + m] (ATree.must [(0 : Int) ≤ IntKind.i64.wrap ((↑i : Int) + (↑j : Int)) ∧ (IntKind.i64.wrap ((↑i : Int) + (↑j : Int))).toNat < n + m, (IntKind.i64.wrap ((↑i : Int) + (↑j : Int))).toNat + 0 < n + m] (ATree.must [(0 : Int) ≤ (32 : Int)] (ATree.leaf AEx.normal ([tab 1 m (limbsF y), own 7 1 0 (n + m), tab 1 n (limbsF z), int IntKind.i64 (↑n : Int), int IntKind.i64 (↑i : Int), int IntKind.i64 (↑i : Int), int IntKind.u32 (↑x : Int), int IntKind.u64 ((IntKind.u64.wrap ((↑c : Int) + IntKind.u64.wrap (IntKind.u64.wrap (IntKind.u64.wrap (↑x : Int) * IntKind.u64.wrap (↑(y (↑j : Int).toNat) : Int)) + IntKind.u64.wrap (↑(o ((IntKind.i64.wrap ((↑i : Int) + (↑j : Int))).toNat + 0)) : Int)))).fdiv ((2 : Int) ^ min (Int.toNat (32 : Int)) IntKind.u64.bits)), tab 1 m (limbsF y), int IntKind.i64 (↑m : Int), int IntKind.i64 (IntKind.i64.wrap ((↑j : Int) + (1 : Int)))], [((7 : Nat), { row := true, wr := true, es := 1, len := n + m, f := fun (j_1 : Nat) ↦ if (j_1 == (IntKind.i64.wrap ((↑i : Int) + (↑j : Int))).toNat + 0) = true then int IntKind.u32 (IntKind.u32.wrap (IntKind.u64.wrap ((↑c : Int) + IntKind.u64.wrap (IntKind.u64.wrap (IntKind.u64.wrap (↑x : Int) * IntKind.u64.wrap (↑(y (↑j : Int).toNat) : Int)) + IntKind.u64.wrap (↑(o ((IntKind.i64.wrap ((↑i : Int) + (↑j : Int))).toNat + 0)) : Int))))) else limbsF o j_1 })])))))) (ATree.leaf (AEx.exit 2) ([tab 1 m (limbsF y), own 7 1 0 (n + m), tab 1 n (limbsF z), int IntKind.i64 (↑n : Int), int IntKind.i64 (↑i : Int), int IntKind.i64 (↑i : Int), int IntKind.u32 (↑x : Int), int IntKind.u64 (↑c : Int), tab 1 m (limbsF y), int IntKind.i64 (↑m : Int), int IntKind.i64 (↑j : Int)], [((7 : Nat), { row := true, wr := true, es := 1, len := n + m, f := limbsF o })]))) := by kernel_rfl
theorem mul_post2 {n m i j x c : Nat} {z y o : Nat → Nat} : seeL T G1 [] 30 [1, 5, 17, 18, 19] (behind (part (codeOf fn_natural_Mul) [1,1,0,1,0,0,1,1,0,0]) [1,1,1,0,1]) ⟨zipL [1, 5, 17, 18, 19, 6, 7, 8, 26, 27, 28] [.tab 1 m (limbsF y), .own 7 1 0 (n + m), .tab 1 n (limbsF z), .int .i64 n, .int .i64 i, .int .i64 i, .int .u32 x, .int .u64 c, .tab 1 m (limbsF y), .int .i64 m, .int .i64 j], [(7, ⟨true, true, 1, n + m, limbsF o⟩)], 8⟩ =
    some (ATree.must [(0 : Int) ≤ IntKind.i64.wrap ((↑i : Int) + (↑m : Int)) ∧ (IntKind.i64.wrap ((↑i : Int) + (↑m : Int))).toNat < n + m, (IntKind.i64.wrap ((↑i : Int) + (↑m : Int))).toNat + 0 < n + m] (ATree.leaf AEx.normal ([tab 1 m (limbsF y), own 7 1 0 (n + m), tab 1 n (limbsF z), int IntKind.i64 (↑n : Int), int IntKind.i64 (↑i : Int)], [((7 : Nat), { row := true, wr := true, es := 1, len := n + m, f := fun (j : Nat) ↦ if (j == (IntKind.i64.wrap ((↑i : Int) + (↑m : Int))).toNat + 0) = true then int IntKind.u32 (IntKind.u32.wrap (↑c : Int)) else limbsF o j })]))) := by kernel_rfl
theorem mul_next {n m i : Nat} {z y o : Nat → Nat} : seeL T G1 [] 30 [1, 5, 17, 18, 19] (behind (part (codeOf fn_natural_Mul) [1,1,0,1,0,0]) [1,1,0]) ⟨zipL [1, 5, 17, 18, 19] [.tab 1 m (limbsF y), .own 7 1 0 (n + m), .tab 1 n (limbsF z), .int .i64 n, .int .i64 i], [(7, ⟨true, true, 1, n + m, limbsF o⟩)], 8⟩ =
    some (ATree.leaf AEx.normal ([tab 1 m (limbsF y), own 7 1 0 (n + m), tab 1 n (limbsF z), int IntKind.i64 (↑n : Int), int IntKind.i64 (IntKind.i64.wrap ((↑i : Int) + (1 : Int)))], [((7 : Nat), { row := true, wr := true, es := 1, len := n + m, f := limbsF o })])) := by kernel_rfl
theorem mul_post {n m i : Nat} {z y o : Nat → Nat} : endL T G1 [] 30 fn_natural_Mul (behind (codeOf fn_natural_Mul) [1,1,0,1]) ⟨zipL [1, 5, 17, 18, 19] [.tab 1 m (limbsF y), .own 7 1 0 (n + m), .tab 1 n (limbsF z), .int .i64 n, .int .i64 i], [(7, ⟨true, true, 1, n + m, limbsF o⟩)], 8⟩ =
    some (ATree.must [Limbs (n + m) fun (i : Nat) ↦ limbsF o (i + 0), n + m < 2 ^ 62] (ATree.leaf AEx.ret [mag (val (n + m) fun (i : Nat) ↦ numOf (limbsF o (i + 0)))])) := by kernel_rfl
theorem Clone_ok {n : Nat} {f : Nat → AV} (hn : n < 2 ^ 40) (K : Nat) : FOK P slices_Clone_uint32_uint32 K [.tab 1 n f] [] (pres (.tab 1 n f) []) := by
  refine fok_nil1 fun b hb => ?_
  refine fok_tree hT gok_nil hm is_Clone rfl (of_decide_eq_true (by kernel_rfl)) rfl 30 clone_end (fun _ => ?_) K []
  simp only [ATree.all, allP]
  refine ⟨fun h => ?_, fun h => ⟨⟨by omega, by omega⟩, avLe0_tab_eq (by omega) fun i hi => by simp⟩⟩
  rw [hb h]
  exact avLe0_nil_tab (by omega)
def s_clone : Spec := pureSpec fun l => match l with
  | [.mag N] => some (pres (.mag N) [nl N < 2 ^ 40])
  | [.nil] => some (pres (.mag 0) [])
  | [.tab es n f] => if es == 1 then some (pres (.tab 1 n f) [n < 2 ^ 40]) else none
  | _ => none
theorem s_clone_ok : ∀ K args pre r, s_clone K args pre = some r → FOK P slices_Clone_uint32_uint32 K args pre r := by
  refine pureSpec_ok fun K args r hk hs _ => ?_
  split at hs
  · rename_i N
    simp only [Option.some.injEq] at hs
    subst hs
    intro need
    have := fok_weak (args := [.mag N]) (Clone_ok (n := nl N) (f := fun i => .int .u32 (limb N i)) need K) rfl ⟨avLe0_mag_tab rfl fun i hi => rfl, trivial⟩ []
    exact fok_res (l' := []) this id rfl rfl (avLe0_tab_mag rfl fun i hi => rfl) trivial
  · simp only [Option.some.injEq] at hs
    subst hs
    intro need
    have := fok_weak (args := [.nil]) (Clone_ok (n := 0) (f := fun _ => .nil) (by omega) K) rfl ⟨avLe0_nil_tab (by omega), trivial⟩ []
    exact fok_res (l' := []) this id rfl rfl (avLe0_tab_mag (by simp [nl]) fun i hi => by omega) trivial
  · rename_i es n f
    split at hs
    · rename_i he
      have he : es = 1 := by simpa using he
      subst he
      simp only [Option.some.injEq] at hs
      subst hs
      exact fun need => Clone_ok need K trivial
    · simp at hs
  · simp at hs
theorem Equal_ok {A B : Nat} (hA : nl A < 2 ^ 40) (hB : nl B < 2 ^ 40) (K : Nat) (pre : Store) : FOK P slices_Equal_uint32_uint32 K [.mag A, .mag B] pre (pres (.bool (decide (A = B))) []) := by
  refine fok_pure hT is_Equal rfl (of_decide_eq_true (by kernel_rfl)) rfl (fun _ c h0 => ?_) K pre
  refine AWp.hole [1,1,0,1] (by kernel_rfl) (AWpL.see hT gok_nil hm 30 [0, 1, 12, 13, 4] equal_pre (by kernel_rfl) ?_)
  simp only [ATree.all, bne_iff_ne, ne_eq, Int.natCast_inj, bne_eq_false_iff_eq]
  refine ⟨fun hb s' hv => ?_, fun hb s' hv => ?_⟩
  · exact fin_view (us := [.bool false]) (.inr rfl) hv (by kernel_rfl) (avLe0_bool (decide_eq_false fun h => hb (by rw [h])).symm)
  refine AWp.whileLe (i := 0) (y := part (codeOf fn_slices_Equal_uint32_uint32) [1,1,0,1,0,0]) (by kernel_rfl)
    (fun i : Nat => ⟨zipL [0, 1, 12, 13, 4] [.mag A, .mag B, .int .i64 (nl A), .int .i64 i, .bool false], [], 0⟩)
    (fun i => i ≤ nl A ∧ ∀ j, j < i → limb A j = limb B j) (fun i => nl A - i) 0
    (le_view [] hv h0 rfl ⟨⟨rfl, avLe_pure rfl⟩, ⟨rfl, avLe_pure rfl⟩, ⟨rfl, avLe_pure rfl⟩, ⟨rfl, avLe_pure rfl⟩, ⟨rfl, avLe_pure rfl⟩, trivial⟩ trivial) ⟨by omega, fun j h => by omega⟩ ?_
  rintro i ⟨hi, hlim⟩
  refine AWp.see hT gok_nil hm 30 [0, 1, 12, 13, 4] equal_body (by kernel_rfl) ?_
  simp only [ATree.all, allP, decide_eq_true_eq, decide_eq_false_iff_not, bne_iff_ne, ne_eq, Int.natCast_inj, bne_eq_false_iff_eq, Int.toNat_natCast]
  refine ⟨fun h1 => ⟨⟨by omega, by omega⟩, fun hne s' hv => ?_, fun heq s' hv => ?_⟩, fun h1 s' hv => ?_⟩
  · exact fin_view (us := [.bool false]) (.inr rfl) hv (by kernel_rfl) (avLe0_bool (decide_eq_false fun h => hne (by rw [h])).symm)
  · refine ⟨i + 1, le_view [] hv h0 rfl ⟨⟨rfl, avLe_pure rfl⟩, ⟨rfl, avLe_pure rfl⟩, ⟨rfl, avLe_pure rfl⟩, ⟨rfl, avLe_int (by rw [wrap_i64 (by omega) (by omega)]; omega)⟩, ⟨rfl, avLe_pure rfl⟩, trivial⟩ trivial, ⟨by omega, fun j hj => ?_⟩, by omega⟩
    by_cases h : j = i
    · subst h; exact heq
    · exact hlim j (by omega)
  · have hAB : A = B := val_eq_of hb fun j hj => hlim j (by omega)
    exact AWpL.weak (by kernel_rfl) (le_view (vs := [.mag A, .mag B, .int .i64 (nl A), .int .i64 i, .bool false]) (ps := []) (nx := 0) [] hv h0 rfl ⟨⟨rfl, avLe_pure rfl⟩, ⟨rfl, avLe_pure rfl⟩, ⟨rfl, avLe_pure rfl⟩, ⟨rfl, avLe_pure rfl⟩, ⟨rfl, avLe_pure rfl⟩, trivial⟩ trivial)
      (AWpL.fin hT gok_nil hm 30 equal_post (by kernel_rfl) (avLe0_bool (decide_eq_true hAB).symm))
def magOf : AV → Option Nat
  | .mag N => some N
  | .nil => some 0
  | _ => none
theorem magOf_le {a : AV} {N : Nat} (h : magOf a = some N) : avLe0 a (.mag N) := by
  cases a <;> simp only [magOf, reduceCtorEq, Option.some.injEq] at h
  case mag M => subst h; exact .refl _
  case nil => subst h; exact avLe0_nil_mag
def s_equal : Spec := pureSpec fun l => match l with
  | [a, b] => match magOf a, magOf b with
    | some A, some B => some (pres (.bool (decide (A = B))) [nl A < 2 ^ 40, nl B < 2 ^ 40])
    | _, _ => none
  | _ => none
theorem s_equal_ok : ∀ K args pre r, s_equal K args pre = some r → FOK P slices_Equal_uint32_uint32 K args pre r := by
  refine pureSpec_ok fun K args r hk hs _ => ?_
  split at hs
  · split at hs
    · rename_i A B hA hB
      simp only [Option.some.injEq] at hs
      subst hs
      exact fun need => fok_weak (Equal_ok need.1 need.2 K []) hk ⟨magOf_le hA, magOf_le hB, trivial⟩ [] trivial
    · simp at hs
  · simp at hs
abbrev mulLs : List Nat := [1, 5, 17, 18, 19]
abbrev mulVs (n m : Nat) (z y : Nat → Nat) (K i : Nat) : List AV := [.tab 1 m (limbsF y), .own K 1 0 (n + m), .tab 1 n (limbsF z), .int .i64 n, .int .i64 i]
abbrev mulLs2 : List Nat := [1, 5, 17, 18, 19, 6, 7, 8, 26, 27, 28]
abbrev mulVs2 (n m : Nat) (z y : Nat → Nat) (K i x c j : Nat) : List AV := [.tab 1 m (limbsF y), .own K 1 0 (n + m), .tab 1 n (limbsF z), .int .i64 n, .int .i64 i, .int .i64 i, .int .u32 x, .int .u64 c, .tab 1 m (limbsF y), .int .i64 m, .int .i64 j]
theorem natural_Mul_ok {n m : Nat} {z y : Nat → Nat} (hz : ∀ i, i < n → z i < 2 ^ 32) (hy : ∀ i, i < m → y i < 2 ^ 32) (hn : n < 2 ^ 40) (hm' : m < 2 ^ 40) (K : Nat) (pre : Store) :
    FOK P natural_Mul K [.tab 1 n (limbsF z), .tab 1 m (limbsF y)] pre (pres (.mag (val n z * val m y)) []) := by
  refine fok_pure hT is_natural_Mul rfl (of_decide_eq_true (by kernel_rfl)) rfl (fun _ c0 h0 => ?_) K pre
  refine AWp.hole [1,1,0,1] (by kernel_rfl) (AWpL.see hT G1_ok hm 30 mulLs mul_pre (by kernel_rfl) ?_)
  have hw : IntKind.i64.wrap ((n : Int) + (m : Int)) = ((n + m : Nat) : Int) := by rw [wrap_i64 (by omega) (by omega)]; omega
  simp only [ATree.all, allP, hw, Int.toNat_natCast]
  refine ⟨by omega, fun s' hv => ?_⟩
  refine AWp.whileLe (i := 0) (y := part (codeOf fn_natural_Mul) [1,1,0,1,0,0]) (by kernel_rfl)
    (fun p : Nat × (Nat → Nat) => ⟨zipL mulLs (mulVs n m z y 7 p.1), [(7, ⟨true, true, 1, n + m, limbsF p.2⟩)], 8⟩)
    (fun p => p.1 ≤ n ∧ (∀ j, j < n + m → p.2 j < 2 ^ 32) ∧ (∀ j, p.1 + m ≤ j → p.2 j = 0) ∧ val (n + m) p.2 = val p.1 z * val m y)
    (fun p => n - p.1) (0, fun _ => 0)
    (le_view [(7, 24576)] hv h0 rfl ⟨⟨rfl, avLe_pure rfl⟩, ⟨rfl, avLe_own rfl rfl rfl⟩, ⟨rfl, avLe_pure rfl⟩, ⟨rfl, avLe_pure rfl⟩, ⟨rfl, avLe_pure rfl⟩, trivial⟩
      ⟨⟨_, _, rfl, rfl, objLe_limbs rfl fun j _ => rfl⟩, trivial⟩)
    ⟨by simp, fun j _ => by simp, fun j _ => rfl, ?_⟩ ?_
  · simp only
    rw [val_trunc (k := 0) (by omega) fun _ _ _ => rfl]
    simp [val]
  rintro ⟨i, o⟩ ⟨hi, ho, ho0, hval⟩
  simp only at hi ho ho0 hval
  have next : ∀ {o' : Nat → Nat} {s' : AState}, i < n → viewAV mulLs s' = some (mulVs n m z y 7 i, [(7, ⟨true, true, 1, n + m, limbsF o'⟩)]) → (∀ j, j < n + m → o' j < 2 ^ 32) → (∀ j, i + 1 + m ≤ j → o' j = 0) →
      val (n + m) o' = val (i + 1) z * val m y → ∀ {QF : AEx → AState → Prop},
      AWpL P c0 fn_natural_Mul.ntmps (behind (part (codeOf fn_natural_Mul) [1,1,0,1,0,0]) [1,1,0]) s' (thenDo (fun s' => ∃ k : Nat × (Nat → Nat), (∃ ρ, Le c0 ρ s' ⟨zipL mulLs (mulVs n m z y 7 k.1), [(7, ⟨true, true, 1, n + m, limbsF k.2⟩)], 8⟩) ∧
        (k.1 ≤ n ∧ (∀ j, j < n + m → k.2 j < 2 ^ 32) ∧ (∀ j, k.1 + m ≤ j → k.2 j = 0) ∧ val (n + m) k.2 = val k.1 z * val m y) ∧ n - k.1 < n - i) QF) := by
    intro o' s' hin hv g1 g2 g3 QF
    refine AWpL.weak (by kernel_rfl) (le_view (vs := mulVs n m z y 7 i) (ps := [(7, ⟨true, true, 1, n + m, limbsF o'⟩)]) (nx := 8) [(7, 7)] hv h0 rfl ⟨⟨rfl, avLe_pure rfl⟩, ⟨rfl, avLe_own rfl rfl rfl⟩, ⟨rfl, avLe_pure rfl⟩, ⟨rfl, avLe_pure rfl⟩, ⟨rfl, avLe_pure rfl⟩, trivial⟩
        ⟨⟨_, _, rfl, rfl, objLe_limbs rfl fun j _ => rfl⟩, trivial⟩)
      (AWpL.see hT G1_ok hm 30 mulLs mul_next (by kernel_rfl) ?_)
    intro s' hv
    exact ⟨(i + 1, o'), le_view [(7, 7)] hv h0 rfl ⟨⟨rfl, avLe_pure rfl⟩, ⟨rfl, avLe_own rfl rfl rfl⟩, ⟨rfl, avLe_pure rfl⟩, ⟨rfl, avLe_pure rfl⟩, ⟨rfl, avLe_int (by rw [wrap_i64 (by omega) (by omega)]; simp only; omega)⟩, trivial⟩
        ⟨⟨_, _, rfl, rfl, objLe_limbs rfl fun j _ => rfl⟩, trivial⟩, ⟨by simp only; omega, g1, g2, g3⟩, by simp only; omega⟩
  refine AWp.hole [1,1,0] (by kernel_rfl) (AWpL.see hT G1_ok hm 30 mulLs mul_head (by kernel_rfl) ?_)
  simp only [ATree.all, decide_eq_true_eq, decide_eq_false_iff_not]
  refine ⟨fun h1 s' hv => ?_, fun h1 s' hv => ?_⟩
  · have hin : i < n := by omega
    have hzi := hz i hin
    refine AWp.weakE (le_view (vs := mulVs n m z y 7 i) (ps := [(7, ⟨true, true, 1, n + m, limbsF o⟩)]) (nx := 8) [(7, 7)] hv h0 rfl ⟨⟨rfl, avLe_pure rfl⟩, ⟨rfl, avLe_own rfl rfl rfl⟩, ⟨rfl, avLe_pure rfl⟩, ⟨rfl, avLe_pure rfl⟩, ⟨rfl, avLe_pure rfl⟩, trivial⟩
        ⟨⟨_, _, rfl, rfl, objLe_limbs rfl fun j _ => rfl⟩, trivial⟩) ?_
    refine AWp.blockAt (i := 1) (y := part (codeOf fn_natural_Mul) [1,1,0,1,0,0,1,1,0,0]) (by kernel_rfl) ?_
    refine AWp.hole [1,1,1,0,1] (by kernel_rfl) (AWpL.see hT G1_ok hm 30 mulLs2 mul_pre2 (by kernel_rfl) ?_)
    simp only [ATree.all, allP, Int.toNat_natCast, beq_iff_eq, beq_eq_false_iff_ne, ne_eq]
    refine ⟨by omega, fun hz0 s' hv => ?_, fun hz0 s' hv => ?_⟩
    · refine then_exit ?_
      exact (next hin (view_take (ls := mulLs) (l := [6, 7, 8, 26, 27, 28]) (vs := mulVs n m z y 7 i) hv rfl rfl) ho (fun j hj => ho0 j (by omega)) (by rw [hval, val, show z i = 0 by omega]; simp))
    refine AWp.whileLe (i := 2) (y := part (part (codeOf fn_natural_Mul) [1,1,0,1,0,0,1,1,0,0]) [1,1,1,0,1,0,0]) (by kernel_rfl)
      (fun p : Nat × Nat × (Nat → Nat) => ⟨zipL mulLs2 (mulVs2 n m z y 7 i (z i) p.2.1 p.1), [(7, ⟨true, true, 1, n + m, limbsF p.2.2⟩)], 8⟩)
      (fun p => p.1 ≤ m ∧ p.2.1 < 2 ^ 32 ∧ (∀ j, j < n + m → p.2.2 j < 2 ^ 32) ∧ (∀ j, i + m ≤ j → p.2.2 j = 0) ∧ val (n + m) p.2.2 + p.2.1 * 2 ^ (32 * (i + p.1)) = val i z * val m y + z i * val p.1 y * 2 ^ (32 * i))
      (fun p => m - p.1) (0, 0, o)
      (le_view [(7, 7)] hv h0 rfl ⟨⟨rfl, avLe_pure rfl⟩, ⟨rfl, avLe_own rfl rfl rfl⟩, ⟨rfl, avLe_pure rfl⟩, ⟨rfl, avLe_pure rfl⟩, ⟨rfl, avLe_pure rfl⟩, ⟨rfl, avLe_pure rfl⟩, ⟨rfl, avLe_pure rfl⟩, ⟨rfl, avLe_pure rfl⟩, ⟨rfl, avLe_pure rfl⟩, ⟨rfl, avLe_pure rfl⟩, ⟨rfl, avLe_pure rfl⟩, trivial⟩
        ⟨⟨_, _, rfl, rfl, objLe_limbs rfl fun j _ => rfl⟩, trivial⟩)
      ⟨by simp, by simp, ho, ho0, by simp [val, hval]⟩ ?_
    rintro ⟨j, c, o⟩ ⟨hj, hc, ho, ho0, hval⟩
    simp only at hj hc ho ho0 hval
    refine AWp.see hT G1_ok hm 30 mulLs2 mul_body2 (by kernel_rfl) ?_
    have hij : IntKind.i64.wrap ((i : Int) + (j : Int)) = ((i + j : Nat) : Int) := by rw [wrap_i64 (by omega) (by omega)]; omega
    simp only [ATree.all, allP, decide_eq_true_eq, decide_eq_false_iff_not, hij, Int.toNat_natCast, Nat.add_zero, beq_iff_eq]
    refine ⟨fun h2 => ?_, fun h2 s' hv => then_exit ?_⟩
    · have hjm : j < m := by omega
      obtain ⟨m1, m2, m3⟩ := mac_u64 hc hzi (hy j hjm) (ho (i + j) (by omega))
      rw [m1]
      refine ⟨by omega, by omega, by omega, by omega, fun s' hv => ⟨(j + 1, (c + z i * y j + o (i + j)) / 4294967296, setL o (i + j) ((c + z i * y j + o (i + j)) % 4294967296)), ?_, ⟨by simp only; omega, m3, setL_lt (by omega) ho, fun k hk => ?_, ?_⟩, by simp only; omega⟩⟩
      · refine le_view [(7, 7)] hv h0 rfl ⟨⟨rfl, avLe_pure rfl⟩, ⟨rfl, avLe_own rfl rfl rfl⟩, ⟨rfl, avLe_pure rfl⟩, ⟨rfl, avLe_pure rfl⟩, ⟨rfl, avLe_pure rfl⟩, ⟨rfl, avLe_pure rfl⟩, ⟨rfl, avLe_pure rfl⟩, ⟨rfl, avLe_int ?_⟩, ⟨rfl, avLe_pure rfl⟩, ⟨rfl, avLe_pure rfl⟩, ⟨rfl, avLe_int ?_⟩, trivial⟩
          ⟨⟨_, _, rfl, rfl, objLe_limbs rfl fun k _ => limbs_set (by rw [wrap_u32_nat]) k⟩, trivial⟩
        · rw [fdiv32]; simp only; omega
        · rw [wrap_i64 (by omega) (by omega)]; simp only; omega
      · exact (setL_ne (by omega)).trans (ho0 k hk)
      · simp only
        rw [show 32 * (i + (j + 1)) = 32 * ((i + j) + 1) by omega, pow_succ32, val]
        have hset := val_setL_gen (o := o) (x := (c + z i * y j + o (i + j)) % 4294967296) (show i + j < n + m by omega)
        exact mac_step rfl (Nat.div_add_mod _ _) hset (by rw [← Nat.pow_add]; congr 1; omega) hval
    · have hjm : j = m := by omega
      subst hjm
      refine AWpL.weak (by kernel_rfl) (le_view (vs := mulVs2 n j z y 7 i (z i) c j) (ps := [(7, ⟨true, true, 1, n + j, limbsF o⟩)]) (nx := 8) [(7, 7)] hv h0 rfl
          ⟨⟨rfl, avLe_pure rfl⟩, ⟨rfl, avLe_own rfl rfl rfl⟩, ⟨rfl, avLe_pure rfl⟩, ⟨rfl, avLe_pure rfl⟩, ⟨rfl, avLe_pure rfl⟩, ⟨rfl, avLe_pure rfl⟩, ⟨rfl, avLe_pure rfl⟩, ⟨rfl, avLe_pure rfl⟩, ⟨rfl, avLe_pure rfl⟩, ⟨rfl, avLe_pure rfl⟩, ⟨rfl, avLe_pure rfl⟩, trivial⟩
          ⟨⟨_, _, rfl, rfl, objLe_limbs rfl fun j _ => rfl⟩, trivial⟩)
        (AWpL.see hT G1_ok hm 30 mulLs mul_post2 (by kernel_rfl) ?_)
      simp only [ATree.all, allP, hij, Int.toNat_natCast, Nat.add_zero, beq_iff_eq]
      refine ⟨by omega, fun s' hv => ?_⟩
      have hf : (fun k => if k = i + j then AV.int .u32 (IntKind.u32.wrap (c : Int)) else limbsF o k) = limbsF (setL o (i + j) c) := by
        funext k
        exact limbs_set (wrap_u32 (by omega) (by omega)) k
      rw [hf] at hv
      refine next hin hv (setL_lt hc ho) (fun k hk => (setL_ne (by omega)).trans (ho0 k (by omega))) ?_
      rw [val_setL (by omega) (ho0 _ (by omega)), hval, val, Nat.add_mul, Nat.mul_assoc, Nat.mul_assoc, Nat.mul_comm (val j y)]
  · have hin : i = n := by omega
    subst hin
    refine then_pass (then_exit ?_)
    refine (AWpL.weak (by kernel_rfl) (le_view (vs := mulVs i m z y 7 i) (ps := [(7, ⟨true, true, 1, i + m, limbsF o⟩)]) (nx := 8) [(7, 7)] hv h0 rfl ⟨⟨rfl, avLe_pure rfl⟩, ⟨rfl, avLe_own rfl rfl rfl⟩, ⟨rfl, avLe_pure rfl⟩, ⟨rfl, avLe_pure rfl⟩, ⟨rfl, avLe_pure rfl⟩, trivial⟩
        ⟨⟨_, _, rfl, rfl, objLe_limbs rfl fun j _ => rfl⟩, trivial⟩)
      (AWpL.fin hT G1_ok hm 30 mul_post (by kernel_rfl) ?_))
    simp only [ATree.all, allP, Nat.add_zero, val_numOf]
    exact ⟨⟨limbs_limbsF ho, by omega⟩, avLe0_of_eq (congrArg AV.mag hval)⟩
def g_mul (A n B m : Nat) : CRes := pres (.mag (A * B)) [n < 2 ^ 40, m < 2 ^ 40]
theorem s_mul : ∀ K args pre r, pureSpec (spec2 g_mul) K args pre = some r → FOK P natural_Mul K args pre r :=
  pureSpec_ok (spec2_ok fun _ _ _ _ K hz hy need => natural_Mul_ok hz hy need.1 need.2 K [])
end Go.Am.B
