/- ref01: Trim, Of, small, Cmp, Bits. -/
import Derived.Test.YtnocdkaonpdmjaaB21
set_option linter.unusedVariables false
namespace Go.Am.B
open Go Go.Am.N AV
theorem is_fTrim : FnIs P ref01_Trim fn_ref01_Trim (codeOf fn_ref01_Trim) := fnIs get_ref01_Trim (by kernel_rfl) (by kernel_rfl) (by kernel_rfl)
theorem is_fOf : FnIs P ref01_Of fn_ref01_Of (codeOf fn_ref01_Of) := fnIs get_ref01_Of (by kernel_rfl) (by kernel_rfl) (by kernel_rfl)
theorem is_fsmall : FnIs P ref01_small fn_ref01_small (codeOf fn_ref01_small) := fnIs get_ref01_small (by kernel_rfl) (by kernel_rfl) (by kernel_rfl)
theorem is_fCmp : FnIs P ref01_Cmp fn_ref01_Cmp (codeOf fn_ref01_Cmp) := fnIs get_ref01_Cmp (by kernel_rfl) (by kernel_rfl) (by kernel_rfl)
theorem is_fBits : FnIs P ref01_Bits fn_ref01_Bits (codeOf fn_ref01_Bits) := fnIs get_ref01_Bits (by kernel_rfl) (by kernel_rfl) (by kernel_rfl)
theorem ftrim_pre {n : Nat} {z : Nat → Nat} : seeL T [] [] 30 [0, 3] (before (codeOf fn_ref01_Trim) [1,1,0]) ⟨zipSlots 0 [.tab 1 n (limbsF z)], [], 0⟩ =
    some (ATree.leaf AEx.normal ([tab 1 n (limbsF z), int IntKind.i64 (↑n : Int)], [])) := by kernel_rfl
theorem ftrim_body {n k : Nat} {z : Nat → Nat} : seeL T [] [8, 15] 30 [0, 3] [part (codeOf fn_ref01_Trim) [1,1,0,0,0]] ⟨zipL [0, 3] [.tab 1 n (limbsF z), .int .i64 k], [], 0⟩ =
    some (ATree.fork (decide ((↑k : Int) > (0 : Int))) (ATree.must [decide ((↑k : Int) > (0 : Int)) = true, (0 : Int) ≤ IntKind.i64.wrap ((↑k : Int) - (1 : Int)) ∧ (IntKind.i64.wrap ((↑k : Int) - (1 : Int))).toNat < n] (ATree.fork (bif true then (↑(z (IntKind.i64.wrap ((↑k : Int) - (1 : Int))).toNat) : Int) == (0 : Int) else false) (ATree.leaf AEx.normal ([tab 1 n (limbsF z), int IntKind.i64 (IntKind.i64.wrap ((↑k : Int) - (1 : Int)))], [])) (ATree.leaf (AEx.exit 0) ([tab 1 n (limbsF z), int IntKind.i64 (↑k : Int)], [])))) (ATree.must [decide ((↑k : Int) > (0 : Int)) = false] (ATree.fork false (ATree.leaf AEx.normal ([tab 1 n (limbsF z), int IntKind.i64 (IntKind.i64.wrap ((↑k : Int) - (1 : Int)))], [])) (ATree.leaf (AEx.exit 0) ([tab 1 n (limbsF z), int IntKind.i64 (↑k : Int)], []))))) := by kernel_rfl
theorem ftrim_post {n k : Nat} {z : Nat → Nat} : endL T [] [] 30 fn_ref01_Trim (behind (codeOf fn_ref01_Trim) [1,1,0]) ⟨zipL [0, 3] [.tab 1 n (limbsF z), .int .i64 k], [], 0⟩ =
    some (ATree.must [(0 : Nat) * 1 ≤ 2 ^ 24, (0 : Int) ≤ (0 : Int) ∧ (0 : Int) ≤ (↑k : Int) ∧ (↑k : Int) ≤ (↑k : Int) ∧ (↑k : Int) ≤ (↑n : Int), ((0 : Nat) + ((↑k : Int).toNat - Int.toNat (0 : Int))) * ((4 : Nat) + 1) * 2 ≤ 2 ^ 47] (ATree.leaf AEx.ret [tab 1 ((0 : Nat) + ((↑k : Int).toNat - Int.toNat (0 : Int))) fun (i : Nat) ↦ if i + 0 < 0 then nth [] (int IntKind.u32 (0 : Int)) (i + 0) else limbsF z (i + 0 - 0 + Int.toNat (0 : Int))])) := by kernel_rfl
def s_fTrim : Spec := pureSpec (spec1 fun N n => pres (.mag N) [n < 2 ^ 40])
def GF1 : Contracts := [(ref01_Trim, s_fTrim)]
theorem fof_end {n : Nat} : funT T GF1 [] 30 fn_ref01_Of (codeOf fn_ref01_Of) ⟨zipSlots 0 [.int .u64 n], [], 0⟩ =
    some (ATree.must [(0 : Int) ≤ (32 : Int), (2 : Nat) * 1 ≤ 2 ^ 24, Limbs 2 fun (i : Nat) ↦ nth [int IntKind.u32 (IntKind.u32.wrap (↑n : Int)), int IntKind.u32 (IntKind.u32.wrap ((↑n : Int).fdiv ((2 : Int) ^ min (Int.toNat (32 : Int)) IntKind.u64.bits)))] (int IntKind.u32 (0 : Int)) (i + 0), (2 : Nat) < 2 ^ 40] (ATree.leaf AEx.ret [mag (val 2 fun (i : Nat) ↦ numOf (nth [int IntKind.u32 (IntKind.u32.wrap (↑n : Int)), int IntKind.u32 (IntKind.u32.wrap ((↑n : Int).fdiv ((2 : Int) ^ min (Int.toNat (32 : Int)) IntKind.u64.bits)))] (int IntKind.u32 (0 : Int)) (i + 0)))])) := by kernel_rfl
theorem fsmall_end {A : Nat} : funT T GF1 [6, 8, 14] 30 fn_ref01_small (codeOf fn_ref01_small) ⟨zipSlots 0 [.mag A], [], 0⟩ =
    some (ATree.fork ((↑(nl A) : Int) == (0 : Int)) (ATree.leaf AEx.ret [int IntKind.u64 (0 : Int), AV.bool true]) (ATree.fork ((↑(nl A) : Int) == (1 : Int)) (ATree.must [(0 : Int) ≤ (0 : Int) ∧ Int.toNat (0 : Int) < nl A] (ATree.leaf AEx.ret [int IntKind.u64 (IntKind.u64.wrap (↑(limb A (Int.toNat (0 : Int))) : Int)), AV.bool true])) (ATree.fork ((↑(nl A) : Int) == (2 : Int)) (ATree.must [(0 : Int) ≤ (0 : Int) ∧ Int.toNat (0 : Int) < nl A, (0 : Int) ≤ (1 : Int) ∧ Int.toNat (1 : Int) < nl A, (0 : Int) ≤ (32 : Int)] (ATree.leaf AEx.ret [int IntKind.u64 (IntKind.u64.wrap (↑(BitVec.ofInt IntKind.u64.bits (IntKind.u64.wrap (↑(limb A (Int.toNat (0 : Int))) : Int)) ||| BitVec.ofInt IntKind.u64.bits (IntKind.u64.wrap (IntKind.u64.wrap (↑(limb A (Int.toNat (1 : Int))) : Int) * (2 : Int) ^ min (Int.toNat (32 : Int)) IntKind.u64.bits))).toNat : Int)), AV.bool true])) (ATree.leaf AEx.ret [int IntKind.u64 (0 : Int), AV.bool false])))) := by kernel_rfl
theorem fcmp_pre {A B : Nat} : seeL T [] [10, 15] 30 [0, 1, 5, 4] (before (codeOf fn_ref01_Cmp) [1,1,0,1]) ⟨zipSlots 0 [.mag A, .mag B], [], 0⟩ =
    some (ATree.fork ((↑(nl A) : Int) != (↑(nl B) : Int)) (ATree.fork (decide ((↑(nl A) : Int) < (↑(nl B) : Int))) (ATree.leaf AEx.ret ([mag A, mag B, tuple [], int IntKind.i64 (-1 : Int)], [])) (ATree.leaf AEx.ret ([mag A, mag B, tuple [], int IntKind.i64 (1 : Int)], []))) (ATree.leaf AEx.normal ([mag A, mag B, int IntKind.i64 (IntKind.i64.wrap ((↑(nl A) : Int) - (1 : Int))), int IntKind.i64 (0 : Int)], []))) := by kernel_rfl
theorem fcmp_body {A B k : Nat} : seeL T [] [20, 31, 40] 30 [0, 1, 5, 4] [part (codeOf fn_ref01_Cmp) [1,1,0,1,0,0]] ⟨zipL [0, 1, 5, 4] [.mag A, .mag B, .int .i64 ((k : Int) - 1), .int .i64 0], [], 0⟩ =
    some (ATree.fork (decide ((↑k : Int) - (1 : Int) ≥ (0 : Int))) (ATree.must [(0 : Int) ≤ (↑k : Int) - (1 : Int) ∧ ((↑k : Int) - (1 : Int)).toNat < nl A, (0 : Int) ≤ (↑k : Int) - (1 : Int) ∧ ((↑k : Int) - (1 : Int)).toNat < nl B] (ATree.fork (decide ((↑(limb A ((↑k : Int) - (1 : Int)).toNat) : Int) < (↑(limb B ((↑k : Int) - (1 : Int)).toNat) : Int))) (ATree.leaf AEx.ret ([mag A, mag B, int IntKind.i64 ((↑k : Int) - (1 : Int)), int IntKind.i64 (-1 : Int)], [])) (ATree.must [(0 : Int) ≤ (↑k : Int) - (1 : Int) ∧ ((↑k : Int) - (1 : Int)).toNat < nl A, (0 : Int) ≤ (↑k : Int) - (1 : Int) ∧ ((↑k : Int) - (1 : Int)).toNat < nl B] (ATree.fork (decide ((↑(limb A ((↑k : Int) - (1 : Int)).toNat) : Int) > (↑(limb B ((↑k : Int) - (1 : Int)).toNat) : Int))) (ATree.leaf AEx.ret ([mag A, mag B, int IntKind.i64 ((↑k : Int) - (1 : Int)), int IntKind.i64 (1 : Int)], [])) (ATree.leaf AEx.normal ([mag A, mag B, int IntKind.i64 (IntKind.i64.wrap ((↑k : Int) - (1 : Int) - (1 : Int))), int IntKind.i64 (0 : Int)], [])))))) (ATree.leaf (AEx.exit 0) ([mag A, mag B, int IntKind.i64 ((↑k : Int) - (1 : Int)), int IntKind.i64 (0 : Int)], []))) := by kernel_rfl
theorem fcmp_post {A B k : Nat} : endL T [] [] 30 fn_ref01_Cmp (behind (codeOf fn_ref01_Cmp) [1,1,0,1]) ⟨zipL [0, 1, 5, 4] [.mag A, .mag B, .int .i64 ((k : Int) - 1), .int .i64 0], [], 0⟩ =
    some (ATree.leaf AEx.ret [int IntKind.i64 (0 : Int)]) := by kernel_rfl
theorem fbits_pre {n : Nat} {z : Nat → Nat} : seeL T [] [7] 30 [3, 4, 2] (before (codeOf fn_ref01_Bits) [1,1,1,0,1]) ⟨zipSlots 0 [.tab 1 n (limbsF z)], [], 0⟩ =
    some (ATree.fork ((↑n : Int) == (0 : Int)) (ATree.leaf AEx.ret ([tuple [], tuple [], int IntKind.i64 (0 : Int)], [])) (ATree.must [(0 : Int) ≤ IntKind.i64.wrap ((↑n : Int) - (1 : Int)) ∧ (IntKind.i64.wrap ((↑n : Int) - (1 : Int))).toNat < n] (ATree.leaf AEx.normal ([int IntKind.i64 (IntKind.i64.wrap ((32 : Int) * IntKind.i64.wrap ((↑n : Int) - (1 : Int)))), int IntKind.u32 (↑(z (IntKind.i64.wrap ((↑n : Int) - (1 : Int))).toNat) : Int), int IntKind.i64 (0 : Int)], [])))) := by kernel_rfl
theorem fbits_body {x y : Nat} : seeL T [] [19] 30 [3, 4, 2] [part (codeOf fn_ref01_Bits) [1,1,1,0,1,0,0]] ⟨zipL [3, 4, 2] [.int .i64 x, .int .u32 y, .int .i64 0], [], 0⟩ =
    some (ATree.fork ((↑y : Int) != (0 : Int)) (ATree.must [(0 : Int) ≤ (1 : Int)] (ATree.leaf AEx.normal ([int IntKind.i64 (IntKind.i64.wrap ((↑x : Int) + (1 : Int))), int IntKind.u32 ((↑y : Int).fdiv ((2 : Int) ^ min (Int.toNat (1 : Int)) IntKind.u32.bits)), int IntKind.i64 (0 : Int)], []))) (ATree.leaf (AEx.exit 0) ([int IntKind.i64 (↑x : Int), int IntKind.u32 (↑y : Int), int IntKind.i64 (0 : Int)], []))) := by kernel_rfl
theorem fbits_post {x y : Nat} : endL T [] [] 30 fn_ref01_Bits (behind (codeOf fn_ref01_Bits) [1,1,1,0,1]) ⟨zipL [3, 4, 2] [.int .i64 x, .int .u32 y, .int .i64 0], [], 0⟩ =
    some (ATree.leaf AEx.ret [int IntKind.i64 (↑x : Int)]) := by kernel_rfl
theorem fTrim_ok {n : Nat} {z : Nat → Nat} (hz : ∀ i, i < n → z i < 2 ^ 32) (hn : n < 2 ^ 40) (K : Nat) : FOK P ref01_Trim K [.tab 1 n (limbsF z)] [] (pres (.mag (val n z)) []) := by
  refine fok_down hT is_fTrim rfl (of_decide_eq_true (by kernel_rfl)) rfl (fun _ c h0 => ?_) K []
  refine AWp.hole [1,1,0] (by kernel_rfl) (AWpL.see hT gok_nil hm 30 [0, 3] ftrim_pre (by kernel_rfl) fun s' hv => then_go ?_)
  refine AWp.whileV (i := 0) (y := part (codeOf fn_ref01_Trim) [1,1,0,0,0]) (by kernel_rfl) [0, 3] 0 (h0 _) (fun k : Nat => [.tab 1 n (limbsF z), .int .i64 k]) (fun _ => []) (fun _ => rfl) (fun _ => trivial)
    (fun k => k ≤ n ∧ ∀ i, k ≤ i → i < n → z i = 0) id n hv ⟨Nat.le_refl _, fun i h1 h2 => by omega⟩ ?_
  rintro j ⟨hj, hzj⟩
  refine AWp.see hT gok_nil hm 30 [0, 3] ftrim_body (by kernel_rfl) ?_
  have fin : (j = 0 ∨ z (j - 1) ≠ 0) → ∀ s', viewAV [0, 3] s' = some ([.tab 1 n (limbsF z), .int .i64 j], []) → AWpL P c fn_ref01_Trim.ntmps (behind (codeOf fn_ref01_Trim) [1,1,0]) s' (Lower c (Fin T fn_ref01_Trim (.mag (val n z)))) := by
    intro hj0 s' hv
    refine AWpL.finDV hT gok_nil hm 30 hv (h0 0) rfl trivial ftrim_post (by kernel_rfl) (by kernel_rfl) ?_
    simp only [ATree.all, allP, Int.toNat_natCast, Int.toNat_zero, Nat.zero_add, Nat.sub_zero, Nat.add_zero]
    have e : val n z = val j z := val_trunc hj hzj
    refine ⟨⟨by omega, by omega, by omega⟩, avLe0_tab_mag (by rw [e, nl_val (fun i hi => hz i (by omega)) hj0]) fun i hi => ?_⟩
    rw [if_neg (by omega), e, limb_val (fun j hj => hz j (by omega)) hi]
    rfl
  have hw : 0 < j → IntKind.i64.wrap ((j : Int) - 1) = ((j - 1 : Nat) : Int) := fun h => by rw [wrap_i64 (by omega) (by omega)]; omega
  refine ⟨fun hb => ?_, fun hb => ?_⟩
  · have h1 : 0 < j := by simpa using hb
    rw [hw h1]
    have hj1 : j - 1 < n := by omega
    refine ⟨⟨hb, by omega, by rw [Int.toNat_natCast]; exact hj1⟩, fun hc s' hv => ?_, fun hc s' hv => ?_⟩
    · refine ⟨j - 1, hv, ⟨by omega, fun i h1 h2 => ?_⟩, by simp; omega⟩
      by_cases hi : i = j - 1
      · subst hi; simpa using hc
      · exact hzj i (by omega) h2
    · exact then_exit (fin (.inr (by simpa using hc)) s' hv)
  · have h1 : j = 0 := by simpa using hb
    refine ⟨hb, fun hc => by simp at hc, fun hc s' hv => then_exit (fin (.inl h1) s' hv)⟩
theorem s_fTrim_ok : ∀ K args pre r, s_fTrim K args pre = some r → FOK P ref01_Trim K args pre r :=
  pureSpec_ok (spec1_ok fun _ _ K hz need => fTrim_ok hz need K)
theorem GF1_ok : GOK P GF1 := gok_cons s_fTrim_ok gok_nil
theorem fOf_ok {x : Nat} (hx : x < 2 ^ 64) (K : Nat) : FOK P ref01_Of K [.int .u64 x] [] (pres (.mag x) []) := by
  refine fok_tree hT GF1_ok hm is_fOf rfl (of_decide_eq_true (by kernel_rfl)) rfl 30 fof_end (fun _ => ?_) K []
  simp only [ATree.all, allP, fdiv32]
  refine ⟨⟨by omega, by omega, fun i hi => ?_, by omega⟩, avLe0_of_eq (congrArg AV.mag ?_)⟩
  · match i, hi with
    | 0, _ => exact ⟨x % 2 ^ 32, by omega, by simp [nth, wrap_u32_nat]⟩
    | 1, _ => exact ⟨x / 4294967296, by omega, by simp [nth, wrap_u32_mod]; omega⟩
  · rw [val_two]
    simp [nth, numOf, wrap_u32_mod]
    omega
def s_fOf : Spec := pureSpec fun l => match l with
  | [.int .u64 x] => some (pres (.mag x.toNat) [0 ≤ x ∧ x < 2 ^ 64])
  | _ => none
theorem s_fOf_ok : ∀ K args pre r, s_fOf K args pre = some r → FOK P ref01_Of K args pre r := by
  refine pureSpec_ok fun K args r hk hs _ => ?_
  split at hs
  · simp only [Option.some.injEq] at hs
    subst hs
    intro need
    obtain ⟨h1, h2⟩ := need
    rename_i x
    obtain ⟨y, rfl⟩ := Int.eq_ofNat_of_zero_le h1
    exact fOf_ok (x := y) (by omega) K trivial
  · simp at hs
def fitsW (A : Nat) : Bool := decide (A < 18446744073709551616)
theorem fsmall_ok {A : Nat} (K : Nat) : FOK P ref01_small K [.mag A] [] (pres (.tuple [.int .u64 (if fitsW A then A else 0 : Nat), .bool (fitsW A)]) []) := by
  refine fok_tree hT GF1_ok hm is_fsmall rfl (of_decide_eq_true (by kernel_rfl)) rfl 30 fsmall_end (fun _ => ?_) K []
  simp only [ATree.all, allP, beq_iff_eq, beq_eq_false_iff_ne, ne_eq, Int.toNat_zero, show Int.toNat 1 = 1 from rfl]
  have hv := val_nl (N := A)
  have l0 := limb_lt (N := A) (i := 0)
  have l1 := limb_lt (N := A) (i := 1)
  have yes : ∀ {x : Int}, A < 2 ^ 64 → x = (A : Nat) → resOK [.int .u64 x, .bool true] (.tuple [.int .u64 (if fitsW A then A else 0 : Nat), .bool (fitsW A)]) := fun h hx => by
    have : fitsW A = true := by unfold fitsW; simpa using h
    rw [this, if_pos rfl]
    exact ⟨avLe0_int hx, .refl _, trivial⟩
  refine ⟨fun hb => yes ?_ ?_, fun hb => ⟨fun h1 => ⟨by omega, yes ?_ ?_⟩, fun h1 => ⟨fun h2 => ⟨⟨by omega, by omega, by omega⟩, yes ?_ ?_⟩, fun h2 => ?_⟩⟩⟩
  · have : A = 0 := nl_zero_iff.1 (by omega)
    omega
  · have : A = 0 := nl_zero_iff.1 (by omega)
    rw [this]; rfl
  · exact nl_two (by omega)
  · rw [show nl A = 1 by omega, val, val] at hv
    rw [wrap_u64 (by omega) (by omega)]
    simp at hv; omega
  · exact nl_two (by omega)
  · rw [show nl A = 2 by omega, val, val, val] at hv
    have e1 : IntKind.u64.wrap (limb A 0 : Int) = ((limb A 0 : Nat) : Int) := wrap_u64 (by omega) (by omega)
    have e2 : IntKind.u64.wrap (limb A 1 : Int) = ((limb A 1 : Nat) : Int) := wrap_u64 (by omega) (by omega)
    have e3 : IntKind.u64.wrap ((limb A 1 : Int) * 2 ^ min (Int.toNat 32) IntKind.u64.bits) = ((limb A 1 * 4294967296 : Nat) : Int) := by
      rw [shl32, wrap_u64 (by omega) (by omega)]; omega
    rw [e1, e2, e3, or_u64 (by omega) (by omega)]
    congr 1
    rw [Nat.or_comm, show 4294967296 = 2 ^ 32 from rfl, or_add l0]
    simp at hv; omega
  · have : fitsW A = false := by
      unfold fitsW
      simp only [decide_eq_false_iff_not]
      intro h
      have : nl A ≤ 2 := nl_spec.2 h
      omega
    rw [this]
    exact ⟨.refl _, .refl _, trivial⟩
def s_fsmall : Spec := pureSpec fun l => match l with
  | [a] => match magOf a with
    | some A => some (pres (.tuple [.int .u64 (if fitsW A then A else 0 : Nat), .bool (fitsW A)]) [])
    | none => none
  | _ => none
theorem s_fsmall_ok : ∀ K args pre r, s_fsmall K args pre = some r → FOK P ref01_small K args pre r := by
  refine pureSpec_ok fun K args r hk hs _ => ?_
  split at hs
  · split at hs
    · rename_i A hA
      simp only [Option.some.injEq] at hs
      subst hs
      exact fok_weak (fsmall_ok K) hk ⟨magOf_le hA, trivial⟩ []
    · simp at hs
  · simp at hs
theorem fCmp_ok {A B : Nat} (hA : nl A < 2 ^ 40) (hB : nl B < 2 ^ 40) (K : Nat) : FOK P ref01_Cmp K [.mag A, .mag B] [] (pres (.int .i64 (cmpI A B)) []) := by
  refine fok_down hT is_fCmp rfl (of_decide_eq_true (by kernel_rfl)) rfl (fun _ c h0 => ?_) K []
  refine AWp.hole [1,1,0,1] (by kernel_rfl) (AWpL.see hT gok_nil hm 30 [0, 1, 5, 4] fcmp_pre (by kernel_rfl) ?_)
  simp only [ATree.all, allP, decide_eq_true_eq, decide_eq_false_iff_not, bne_iff_ne, ne_eq, Int.natCast_inj, bne_eq_false_iff_eq]
  refine ⟨fun hb => ⟨fun hb2 s' hv => then_ret (.inl ?_), fun hb2 s' hv => then_ret (.inl ?_)⟩, fun hb s' hv => then_go ?_⟩
  · have h1 : A < B := nl_cmp (by omega)
    exact fin_view (us := [.int .i64 (-1)]) (.inr rfl) hv (by kernel_rfl) (avLe0_int (by simp [cmpI, h1]))
  · have h1 : B < A := nl_cmp (by omega)
    exact fin_view (us := [.int .i64 1]) (.inr rfl) hv (by kernel_rfl) (avLe0_int (by simp [cmpI, h1]; omega))
  refine AWp.whileV (i := 0) (y := part (codeOf fn_ref01_Cmp) [1,1,0,1,0,0]) (by kernel_rfl) [0, 1, 5, 4] 0 (h0 _) (fun k : Nat => [.mag A, .mag B, .int .i64 ((k : Int) - 1), .int .i64 0]) (fun _ => []) (fun _ => rfl) (fun _ => trivial)
    (fun k => k ≤ nl A ∧ ∀ j, k ≤ j → j < nl A → limb A j = limb B j) id (nl A) (view_eq hv (by rw [wrap_i64 (by omega) (by omega)]) rfl) ⟨by simp, fun j h1 h2 => by omega⟩ ?_
  rintro k ⟨hk, hlim⟩
  refine AWp.see hT gok_nil hm 30 [0, 1, 5, 4] fcmp_body (by kernel_rfl) ?_
  simp only [ATree.all, allP, decide_eq_true_eq, decide_eq_false_iff_not]
  refine ⟨fun hb2 => ?_, fun hb2 s' hv => then_exit ?_⟩
  · obtain ⟨j, rfl⟩ : ∃ j, k = j + 1 := ⟨k - 1, by omega⟩
    have e : (((j + 1 : Nat) : Int) - 1).toNat = j := by omega
    rw [e]
    refine ⟨⟨by omega, by omega⟩, fun hlt s' hv => loop_ret (then_ret (.inl ?_)), fun hlt => ⟨⟨by omega, by omega⟩, fun hgt s' hv => loop_ret (then_ret (.inl ?_)), fun hgt s' hv => ?_⟩⟩
    · have h1 : A < B := limb_cmp hb (k := j) (by omega) (fun i h1 h2 => hlim i (by omega) h2) (by omega)
      exact fin_view (us := [.int .i64 (-1)]) (.inr rfl) hv (by kernel_rfl) (avLe0_int (by simp [cmpI, h1]))
    · have h1 : B < A := limb_cmp hb.symm (k := j) (by omega) (fun i h1 h2 => (hlim i (by omega) (by omega)).symm) (by omega)
      exact fin_view (us := [.int .i64 1]) (.inr rfl) hv (by kernel_rfl) (avLe0_int (by simp [cmpI, h1]; omega))
    · refine ⟨j, view_eq hv (by rw [wrap_i64 (by omega) (by omega)]; congr 4; omega) rfl, ⟨by omega, fun i h1 h2 => ?_⟩, by simp⟩
      by_cases hi : i = j
      · subst hi; omega
      · exact hlim i (by omega) h2
  · have hk0 : k = 0 := by omega
    have hAB : A = B := val_eq_of hb fun i hi => hlim i (by omega) hi
    exact then_go (AWpL.finDV hT gok_nil hm 30 hv (h0 0) rfl trivial fcmp_post (by kernel_rfl) (by kernel_rfl) (avLe0_int (by simp [cmpI, hAB])))
def spec2m (g : Nat → Nat → AV) (l : Nat → Nat → List Prop) : Spec := pureSpec fun a => match a with
  | [x, y] => match magOf x, magOf y with
    | some A, some B => some (pres (g A B) (l A B))
    | _, _ => none
  | _ => none
theorem spec2m_ok {f : FuncId} {g : Nat → Nat → AV} {l : Nat → Nat → List Prop} (h : ∀ {A B : Nat}, allP (l A B) → ∀ K, FOK P f K [.mag A, .mag B] [] (pres (g A B) [])) : ∀ K args pre r, spec2m g l K args pre = some r → FOK P f K args pre r := by
  refine pureSpec_ok fun K args r hk hs _ => ?_
  split at hs
  · split at hs
    · rename_i A B hA hB
      simp only [Option.some.injEq] at hs
      subst hs
      exact fun need => fok_weak (h need K) hk ⟨magOf_le hA, magOf_le hB, trivial⟩ [] trivial
    · simp at hs
  · simp at hs
abbrev twoN (A B : Nat) : List Prop := [nl A < 2 ^ 40, nl B < 2 ^ 40]
def s_fCmp : Spec := spec2m (fun A B => .int .i64 (cmpI A B)) twoN
theorem s_fCmp_ok : ∀ K args pre r, s_fCmp K args pre = some r → FOK P ref01_Cmp K args pre r := spec2m_ok fun h => fCmp_ok h.1 h.2
theorem fBits_ok {n : Nat} {z : Nat → Nat} (hz : ∀ i, i < n → z i < 2 ^ 32) (hn : n < 2 ^ 40) (hnl : nl (val n z) = n) (K : Nat) : FOK P ref01_Bits K [.tab 1 n (limbsF z)] [] (pres (.int .i64 (bitsN (val n z) : Nat)) []) := by
  refine fok_down hT is_fBits rfl (of_decide_eq_true (by kernel_rfl)) rfl (fun _ c h0 => ?_) K []
  refine AWp.hole [1,1,1,0,1] (by kernel_rfl) (AWpL.see hT gok_nil hm 30 [3, 4, 2] fbits_pre (by kernel_rfl) ?_)
  simp only [ATree.all, allP, beq_iff_eq, beq_eq_false_iff_ne, ne_eq]
  refine ⟨fun hb s' hv => then_ret (.inl ?_), fun hb => ?_⟩
  · have h1 : n = 0 := by omega
    have h2 : val n z = 0 := by rw [h1]; rfl
    exact fin_view (us := [.int .i64 0]) (.inr rfl) hv (by kernel_rfl) (avLe0_int (by rw [h2]; rfl))
  have w1 : IntKind.i64.wrap ((n : Int) - 1) = ((n - 1 : Nat) : Int) := i64_nat (by omega) (by omega)
  have w2 : IntKind.i64.wrap (32 * ((n - 1 : Nat) : Int)) = ((32 * (n - 1) : Nat) : Int) := i64_nat (by omega) (by omega)
  rw [w1, w2]
  simp only [Int.toNat_natCast]
  refine ⟨by omega, fun s' hv => then_go ?_⟩
  have hzt := hz (n - 1) (by omega)
  have htot : bitsN (val n z) = 32 * (n - 1) + bitsN (z (n - 1)) := by
    have h0 : val n z ≠ 0 := nl_pos.1 (by omega)
    rw [bitsN_limb h0, hnl, limb_val hz (by omega)]
  refine AWp.whileV (i := 0) (y := part (codeOf fn_ref01_Bits) [1,1,1,0,1,0,0]) (by kernel_rfl) [3, 4, 2] 0 (h0 _) (fun p : Nat × Nat => [.int .i64 (p.1 : Nat), .int .u32 (p.2 : Nat), .int .i64 0]) (fun _ => []) (fun _ => rfl) (fun _ => trivial)
    (fun p => p.1 + bitsN p.2 = bitsN (val n z) ∧ p.2 < 2 ^ 32) (fun p => p.2) (32 * (n - 1), z (n - 1)) hv ⟨htot.symm, hzt⟩ ?_
  rintro ⟨x, y⟩ ⟨hxy, hy⟩
  simp only at hxy hy
  have hb32 : bitsN (z (n - 1)) ≤ 32 := bitsN_le.2 hzt
  refine AWp.see hT gok_nil hm 30 [3, 4, 2] fbits_body (by kernel_rfl) ?_
  rw [fdiv_u32 (by decide) (by decide)]
  simp only [ATree.all, allP, bne_iff_ne, ne_eq, bne_eq_false_iff_eq, show Int.toNat 1 = 1 from rfl]
  refine ⟨fun hc => ⟨by omega, fun s' hv => ?_⟩, fun hc s' hv => then_exit (then_go ?_)⟩
  · have hy0 : 0 < y := by omega
    have e : bitsN y = 1 + bitsN (y / 2) := by
      by_cases h1 : y = 1
      · rw [h1]; decide
      · exact bitsN_shift (k := 1) (by omega)
    have hd : y / 2 < y := by omega
    exact ⟨(x + 1, y / 2), view_eq hv (by rw [i64_nat (a := (x : Int) + 1) (n := x + 1) (by omega) (by omega)]) rfl, ⟨by simp only; omega, by simp only; omega⟩, by simp only; omega⟩
  · have hy0 : y = 0 := by omega
    refine AWpL.finDV hT gok_nil hm 30 hv (h0 0) rfl trivial fbits_post (by kernel_rfl) (by kernel_rfl) (avLe0_int ?_)
    rw [hy0] at hxy
    simp [bitsN] at hxy
    rw [hxy]; simp [bitsN]
def s_fBits : Spec := pureSpec (spec1 fun N n => pres (.int .i64 (bitsN N : Nat)) [n < 2 ^ 40, nl N = n])
theorem s_fBits_ok : ∀ K args pre r, s_fBits K args pre = some r → FOK P ref01_Bits K args pre r :=
  pureSpec_ok (spec1_ok fun _ _ K hz need => fBits_ok hz need.1 need.2 K)
end Go.Am.B
