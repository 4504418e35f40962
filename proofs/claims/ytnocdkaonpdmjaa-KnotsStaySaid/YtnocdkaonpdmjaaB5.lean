/- bits.Len32, bits.LeadingZeros32, natural.Bits, slices.Clone, slices.Equal. -/
import Derived.Test.YtnocdkaonpdmjaaB4
set_option linter.unusedVariables false
namespace Go.Am.B
open Go Go.Am.N AV
theorem is_Len32 : FnIs P math_bits_Len32 fn_math_bits_Len32 (codeOf fn_math_bits_Len32) := fnIs get_math_bits_Len32 (by kernel_rfl) (by kernel_rfl) (by kernel_rfl)
theorem is_LZ32 : FnIs P math_bits_LeadingZeros32 fn_math_bits_LeadingZeros32 (codeOf fn_math_bits_LeadingZeros32) := fnIs get_math_bits_LeadingZeros32 (by kernel_rfl) (by kernel_rfl) (by kernel_rfl)
theorem is_natural_Bits : FnIs P natural_Bits fn_natural_Bits (codeOf fn_natural_Bits) := fnIs get_natural_Bits (by kernel_rfl) (by kernel_rfl) (by kernel_rfl)
abbrev len8tab : ByteArray := ⟨((List.range 256).map fun i => UInt8.ofNat (bitsN i)).toArray⟩
def s_len : Spec := pureSpec fun l => match l with
  | [.int .u32 x] => some (pres (.int .i64 (bitsN x.toNat : Nat)) [0 ≤ x ∧ x < 2 ^ 32])
  | _ => none
theorem len_end {x : Nat} : funT T [] [4, 8] 30 fn_math_bits_Len32 (codeOf fn_math_bits_Len32) ⟨zipSlots 0 [.int .u32 x], [], 0⟩ =
    some (ATree.fork (decide ((↑x : Int) ≥ (65536 : Int))) (ATree.must [(0 : Int) ≤ (16 : Int)] (ATree.fork (decide ((↑x : Int).fdiv ((2 : Int) ^ min (Int.toNat (16 : Int)) IntKind.u32.bits) ≥ (256 : Int))) (ATree.must [(0 : Int) ≤ (8 : Int)] (ATree.must [(0 : Int) ≤ IntKind.u8.wrap (((↑x : Int).fdiv ((2 : Int) ^ min (Int.toNat (16 : Int)) IntKind.u32.bits)).fdiv ((2 : Int) ^ min (Int.toNat (8 : Int)) IntKind.u32.bits)) ∧ IntKind.u8.wrap (((↑x : Int).fdiv ((2 : Int) ^ min (Int.toNat (16 : Int)) IntKind.u32.bits)).fdiv ((2 : Int) ^ min (Int.toNat (8 : Int)) IntKind.u32.bits)) < (↑len8tab.size : Int)] (ATree.leaf AEx.ret [int IntKind.i64 (IntKind.i64.wrap (IntKind.i64.wrap ((16 : Int) + (8 : Int)) + IntKind.i64.wrap (↑(byteAt len8tab (IntKind.u8.wrap (((↑x : Int).fdiv ((2 : Int) ^ min (Int.toNat (16 : Int)) IntKind.u32.bits)).fdiv ((2 : Int) ^ min (Int.toNat (8 : Int)) IntKind.u32.bits))).toNat) : Int)))]))) (ATree.must [(0 : Int) ≤ IntKind.u8.wrap ((↑x : Int).fdiv ((2 : Int) ^ min (Int.toNat (16 : Int)) IntKind.u32.bits)) ∧ IntKind.u8.wrap ((↑x : Int).fdiv ((2 : Int) ^ min (Int.toNat (16 : Int)) IntKind.u32.bits)) < (↑len8tab.size : Int)] (ATree.leaf AEx.ret [int IntKind.i64 (IntKind.i64.wrap ((16 : Int) + IntKind.i64.wrap (↑(byteAt len8tab (IntKind.u8.wrap ((↑x : Int).fdiv ((2 : Int) ^ min (Int.toNat (16 : Int)) IntKind.u32.bits))).toNat) : Int)))])))) (ATree.fork (decide ((↑x : Int) ≥ (256 : Int))) (ATree.must [(0 : Int) ≤ (8 : Int)] (ATree.must [(0 : Int) ≤ IntKind.u8.wrap ((↑x : Int).fdiv ((2 : Int) ^ min (Int.toNat (8 : Int)) IntKind.u32.bits)) ∧ IntKind.u8.wrap ((↑x : Int).fdiv ((2 : Int) ^ min (Int.toNat (8 : Int)) IntKind.u32.bits)) < (↑len8tab.size : Int)] (ATree.leaf AEx.ret [int IntKind.i64 (IntKind.i64.wrap (IntKind.i64.wrap ((0 : Int) + (8 : Int)) + IntKind.i64.wrap (↑(byteAt len8tab (IntKind.u8.wrap ((↑x : Int).fdiv ((2 : Int) ^ min (Int.toNat (8 : Int)) IntKind.u32.bits))).toNat) : Int)))]))) (ATree.must [(0 : Int) ≤ IntKind.u8.wrap (↑x : Int) ∧ IntKind.u8.wrap (↑x : Int) < (↑len8tab.size : Int)] (ATree.leaf AEx.ret [int IntKind.i64 (IntKind.i64.wrap ((0 : Int) + IntKind.i64.wrap (↑(byteAt len8tab (IntKind.u8.wrap (↑x : Int)).toNat) : Int)))])))) := by kernel_rfl
theorem len8_get {i : Nat} (h : i < 256) : byteAt len8tab i = bitsN i := by
  have h8 : bitsN i ≤ 8 := bitsN_le.2 (by omega)
  unfold byteAt
  have : len8tab.data[i]? = some (UInt8.ofNat (bitsN i)) := by simp [len8tab, h]
  rw [this]
  simp only [UInt8.toNat_ofNat']
  omega
theorem len8_size : len8tab.size = 256 := by
  show (List.map _ (List.range 256)).toArray.size = 256
  simp
theorem fdiv_u32 {x : Nat} {s : Int} (hs : 0 ≤ s) (h : s < 32) : (x : Int).fdiv (2 ^ min s.toNat IntKind.u32.bits) = ((x / 2 ^ s.toNat : Nat) : Int) := by
  have : IntKind.u32.bits = 32 := rfl
  rw [this, Nat.min_eq_left (by omega), Int.fdiv_eq_ediv_of_nonneg _ (by exact Int.le_of_lt (Int.pow_pos (by decide)))]
  simp
theorem wrap_u8_nat {x : Nat} (h : x < 256) : IntKind.u8.wrap (x : Int) = x := by
  simp [IntKind.wrap, IntKind.bits, IntKind.signed]; omega
theorem Len32_ok {x : Nat} (hx : x < 2 ^ 32) (K : Nat) (pre : Store) : FOK P math_bits_Len32 K [.int .u32 x] pre (pres (.int .i64 (bitsN x : Nat)) []) := by
  refine fok_tree hT gok_nil hm is_Len32 rfl (of_decide_eq_true (by kernel_rfl)) rfl 30 len_end (fun _ => ?_) K pre
  have b8 : ∀ i : Nat, i < 256 → bitsN i ≤ 8 := fun i h => bitsN_le.2 (by omega)
  rw [fdiv_u32 (by decide) (by decide), fdiv_u32 (by decide) (by decide), fdiv_u32 (by decide) (by decide)]
  simp only [ATree.all, allP, decide_eq_true_eq, decide_eq_false_iff_not, len8_size, show Int.toNat 16 = 16 from rfl, show Int.toNat 8 = 8 from rfl]
  refine ⟨fun h1 => ⟨by omega, fun h2 => ⟨by omega, ?_⟩, fun h2 => ?_⟩, fun h1 => ⟨fun h2 => ⟨by omega, ?_⟩, fun h2 => ?_⟩⟩
  · have h3 : x / 2 ^ 16 / 2 ^ 8 < 256 := by omega
    have e : bitsN x = 16 + (8 + bitsN (x / 2 ^ 16 / 2 ^ 8)) := by rw [bitsN_shift (k := 16) (by omega), bitsN_shift (x := x / 2 ^ 16) (k := 8) (by omega)]
    rw [wrap_u8_nat h3]
    refine ⟨by omega, avLe0_int ?_⟩
    rw [Int.toNat_natCast, len8_get h3, e]
    have := b8 _ h3
    rw [wrap_i64 (x := ((bitsN (x / 2 ^ 16 / 2 ^ 8) : Nat) : Int)) (by omega) (by omega), wrap_i64 (x := (16 : Int) + 8) (by omega) (by omega), wrap_i64 (by omega) (by omega)]
    omega
  · have h3 : x / 2 ^ 16 < 256 := by omega
    have e : bitsN x = 16 + bitsN (x / 2 ^ 16) := by rw [bitsN_shift (k := 16) (by omega)]
    rw [wrap_u8_nat h3]
    refine ⟨by omega, avLe0_int ?_⟩
    rw [Int.toNat_natCast, len8_get h3, e]
    have := b8 _ h3
    rw [wrap_i64 (x := ((bitsN (x / 2 ^ 16) : Nat) : Int)) (by omega) (by omega), wrap_i64 (by omega) (by omega)]
    omega
  · have h3 : x / 2 ^ 8 < 256 := by omega
    have e : bitsN x = 8 + bitsN (x / 2 ^ 8) := by rw [bitsN_shift (k := 8) (by omega)]
    rw [wrap_u8_nat h3]
    refine ⟨by omega, avLe0_int ?_⟩
    rw [Int.toNat_natCast, len8_get h3, e]
    have := b8 _ h3
    rw [wrap_i64 (x := ((bitsN (x / 2 ^ 8) : Nat) : Int)) (by omega) (by omega), wrap_i64 (x := (0 : Int) + 8) (by omega) (by omega), wrap_i64 (by omega) (by omega)]
    omega
  · have h3 : x < 256 := by omega
    rw [wrap_u8_nat h3]
    refine ⟨by omega, avLe0_int ?_⟩
    rw [Int.toNat_natCast, len8_get h3]
    have := b8 _ h3
    rw [wrap_i64 (x := ((bitsN x : Nat) : Int)) (by omega) (by omega), wrap_i64 (by omega) (by omega)]
    omega
theorem s_len_ok : ∀ K args pre r, s_len K args pre = some r → FOK P math_bits_Len32 K args pre r := by
  refine pureSpec_ok fun K args r hk hs _ => ?_
  split at hs
  · rename_i x
    simp only [Option.some.injEq] at hs
    subst hs
    intro need
    obtain ⟨h1, h2⟩ : 0 ≤ x ∧ x < 2 ^ 32 := need
    obtain ⟨y, rfl⟩ := Int.eq_ofNat_of_zero_le h1
    exact Len32_ok (x := y) (by omega) K [] trivial
  · simp at hs
theorem lz_end {x : Nat} : funT T [(math_bits_Len32, s_len)] [] 30 fn_math_bits_LeadingZeros32 (codeOf fn_math_bits_LeadingZeros32) ⟨zipSlots 0 [.int .u32 x], [], 0⟩ =
    some (ATree.must [(0 : Int) ≤ (↑x : Int) ∧ (↑x : Int) < (2 : Int) ^ 32] (ATree.leaf AEx.ret [int IntKind.i64 (IntKind.i64.wrap ((32 : Int) - (↑(bitsN (↑x : Int).toNat) : Int)))])) := by kernel_rfl
theorem bits_end {n : Nat} {z : Nat → Nat} : funT T ((math_bits_Len32, s_len) :: G1) [7] 30 fn_natural_Bits (codeOf fn_natural_Bits) ⟨zipSlots 0 [.tab 1 n (limbsF z)], [], 0⟩ =
    some (ATree.must [Limbs n (limbsF z), n < 2 ^ 62] (ATree.fork ((↑(nl (val n fun (i : Nat) ↦ numOf (limbsF z i))) : Int) == (0 : Int)) (ATree.leaf AEx.ret [int IntKind.i64 (0 : Int)]) (ATree.must [(0 : Int) ≤ IntKind.i64.wrap ((↑(nl (val n fun (i : Nat) ↦ numOf (limbsF z i))) : Int) - (1 : Int)) ∧ (IntKind.i64.wrap ((↑(nl (val n fun (i : Nat) ↦ numOf (limbsF z i))) : Int) - (1 : Int))).toNat < nl (val n fun (i : Nat) ↦ numOf (limbsF z i)), (0 : Int) ≤ (↑(limb (val n fun (i : Nat) ↦ numOf (limbsF z i)) (IntKind.i64.wrap ((↑(nl (val n fun (i : Nat) ↦ numOf (limbsF z i))) : Int) - (1 : Int))).toNat) : Int) ∧ (↑(limb (val n fun (i : Nat) ↦ numOf (limbsF z i)) (IntKind.i64.wrap ((↑(nl (val n fun (i : Nat) ↦ numOf (limbsF z i))) : Int) - (1 : Int))).toNat) : Int) < (2 : Int) ^ 32] (ATree.leaf AEx.ret [int IntKind.i64 (IntKind.i64.wrap (IntKind.i64.wrap ((32 : Int) * IntKind.i64.wrap ((↑(nl (val n fun (i : Nat) ↦ numOf (limbsF z i))) : Int) - (1 : Int))) + (↑(bitsN (↑(limb (val n fun (i : Nat) ↦ numOf (limbsF z i)) (IntKind.i64.wrap ((↑(nl (val n fun (i : Nat) ↦ numOf (limbsF z i))) : Int) - (1 : Int))).toNat) : Int).toNat) : Int)))])))) := by kernel_rfl
theorem LZ32_ok {x : Nat} (hx : x < 2 ^ 32) (K : Nat) (pre : Store) : FOK P math_bits_LeadingZeros32 K [.int .u32 x] pre (pres (.int .i64 (32 - bitsN x : Nat)) []) := by
  refine fok_tree hT (gok_cons s_len_ok gok_nil) hm is_LZ32 rfl (of_decide_eq_true (by kernel_rfl)) rfl 30 lz_end (fun _ => ?_) K pre
  have h1 : bitsN x ≤ 32 := bitsN_le.2 hx
  simp only [ATree.all, allP]
  refine ⟨by omega, avLe0_int ?_⟩
  rw [Int.toNat_natCast, wrap_i64 (by omega) (by omega)]; omega
theorem natural_Bits_ok {n : Nat} {z : Nat → Nat} (hz : ∀ i, i < n → z i < 2 ^ 32) (hn : n < 2 ^ 40) (K : Nat) (pre : Store) : FOK P natural_Bits K [.tab 1 n (limbsF z)] pre (pres (.int .i64 (bitsN (val n z) : Nat)) []) := by
  refine fok_tree hT (gok_cons s_len_ok G1_ok) hm is_natural_Bits rfl (of_decide_eq_true (by kernel_rfl)) rfl 30 bits_end (fun _ => ?_) K pre
  have hnl : nl (val n z) ≤ n := nl_spec.2 (val_lt hz)
  simp only [ATree.all, allP, val_numOf, beq_iff_eq, beq_eq_false_iff_ne, ne_eq]
  generalize val n z = N at *
  refine ⟨⟨limbs_limbsF hz, by omega⟩, fun h => avLe0_int ?_, fun h => ?_⟩
  · have : N = 0 := by
      rcases Nat.eq_zero_or_pos N with h1 | h1
      · exact h1
      · have := nl_pos.2 (show N ≠ 0 by omega); omega
    simp [this, bitsN]
  · have h0 : N ≠ 0 := nl_pos.1 (by omega)
    have hp := nl_pos.2 h0
    have e : IntKind.i64.wrap ((nl N : Int) - 1) = ((nl N - 1 : Nat) : Int) := by rw [wrap_i64 (by omega) (by omega)]; omega
    rw [e, Int.toNat_natCast, Int.toNat_natCast]
    have hl := limb_lt (N := N) (i := nl N - 1)
    have hb := bitsN_limb h0
    have h32 : bitsN (limb N (nl N - 1)) ≤ 32 := bitsN_le.2 hl
    refine ⟨⟨by omega, by omega⟩, avLe0_int ?_⟩
    rw [hb, wrap_i64 (x := 32 * ((nl N - 1 : Nat) : Int)) (by omega) (by omega), wrap_i64 (by omega) (by omega)]
    omega
def s_lz : Spec := pureSpec fun l => match l with
  | [.int .u32 x] => some (pres (.int .i64 (32 - bitsN x.toNat : Nat)) [0 ≤ x ∧ x < 2 ^ 32])
  | _ => none
theorem s_lz_ok : ∀ K args pre r, s_lz K args pre = some r → FOK P math_bits_LeadingZeros32 K args pre r := by
  refine pureSpec_ok fun K args r hk hs _ => ?_
  split at hs
  · rename_i x
    simp only [Option.some.injEq] at hs
    subst hs
    intro need
    obtain ⟨h1, h2⟩ : 0 ≤ x ∧ x < 2 ^ 32 := need
    obtain ⟨y, rfl⟩ := Int.eq_ofNat_of_zero_le h1
    exact LZ32_ok (x := y) (by omega) K [] trivial
  · simp at hs
def g_bits (N n : Nat) : CRes := pres (.int .i64 (bitsN N : Nat)) [n < 2 ^ 40]
theorem s_bits : ∀ K args pre r, pureSpec (spec1 g_bits) K args pre = some r → FOK P natural_Bits K args pre r :=
  pureSpec_ok (spec1_ok fun _ _ K hz need => natural_Bits_ok hz need K [])
end Go.Am.B
