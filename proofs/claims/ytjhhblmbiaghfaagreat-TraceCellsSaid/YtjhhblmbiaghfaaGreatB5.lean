/- bits.Len32, bits.LeadingZeros32, natural.Bits, slices.Clone, slices.Equal. -/
import Derived.Test.YtjhhblmbiaghfaaGreatB4
set_option linter.unusedVariables false
namespace Go.Am.B
open Go Go.Am.N AV
theorem Wq : aO P qM tN (ax tN) := aP Qe (by kernel_rfl) (by kernel_rfl) (by kernel_rfl)
theorem Sq : aO P v5 vP (ax vP) := aP U1 (by kernel_rfl) (by kernel_rfl) (by kernel_rfl)
theorem Ty : aO P vt ta (ax ta) := aP WC (by kernel_rfl) (by kernel_rfl) (by kernel_rfl)
abbrev gW : ByteArray := ⟨((List.range 256).map fun i => UInt8.ofNat (bf i)).toArray⟩
def Aa : Spec := bu fun l => match l with
 | [.int .u32 x] => some (aK (.int .i64 (bf x.toNat : Nat)) [0 ≤ x ∧ x < 2 ^ 32])
 | _ => none
theorem Xk {x : Nat} : bF T [] [4, 8] 30 tN (ax tN) ⟨aN 0 [.int .u32 x], [], 0⟩ =
  some (af.fork (decide ((↑x : Int) ≥ (65536 : Int))) (af.ag [(0 : Int) ≤ (16 : Int)] (af.fork (decide ((↑x : Int).fdiv ((2 : Int) ^ min (Int.toNat (16 : Int)) IntKind.u32.bits) ≥ (256 : Int))) (af.ag [(0 : Int) ≤ (8 : Int)] (af.ag [(0 : Int) ≤ IntKind.u8.wrap (((↑x : Int).fdiv ((2 : Int) ^ min (Int.toNat (16 : Int)) IntKind.u32.bits)).fdiv ((2 : Int) ^ min (Int.toNat (8 : Int)) IntKind.u32.bits)) ∧ IntKind.u8.wrap (((↑x : Int).fdiv ((2 : Int) ^ min (Int.toNat (16 : Int)) IntKind.u32.bits)).fdiv ((2 : Int) ^ min (Int.toNat (8 : Int)) IntKind.u32.bits)) < (↑gW.size : Int)] (af.leaf ak.ret [int IntKind.i64 (IntKind.i64.wrap (IntKind.i64.wrap ((16 : Int) + (8 : Int)) + IntKind.i64.wrap (↑(jo gW (IntKind.u8.wrap (((↑x : Int).fdiv ((2 : Int) ^ min (Int.toNat (16 : Int)) IntKind.u32.bits)).fdiv ((2 : Int) ^ min (Int.toNat (8 : Int)) IntKind.u32.bits))).toNat) : Int)))]))) (af.ag [(0 : Int) ≤ IntKind.u8.wrap ((↑x : Int).fdiv ((2 : Int) ^ min (Int.toNat (16 : Int)) IntKind.u32.bits)) ∧ IntKind.u8.wrap ((↑x : Int).fdiv ((2 : Int) ^ min (Int.toNat (16 : Int)) IntKind.u32.bits)) < (↑gW.size : Int)] (af.leaf ak.ret [int IntKind.i64 (IntKind.i64.wrap ((16 : Int) + IntKind.i64.wrap (↑(jo gW (IntKind.u8.wrap ((↑x : Int).fdiv ((2 : Int) ^ min (Int.toNat (16 : Int)) IntKind.u32.bits))).toNat) : Int)))])))) (af.fork (decide ((↑x : Int) ≥ (256 : Int))) (af.ag [(0 : Int) ≤ (8 : Int)] (af.ag [(0 : Int) ≤ IntKind.u8.wrap ((↑x : Int).fdiv ((2 : Int) ^ min (Int.toNat (8 : Int)) IntKind.u32.bits)) ∧ IntKind.u8.wrap ((↑x : Int).fdiv ((2 : Int) ^ min (Int.toNat (8 : Int)) IntKind.u32.bits)) < (↑gW.size : Int)] (af.leaf ak.ret [int IntKind.i64 (IntKind.i64.wrap (IntKind.i64.wrap ((0 : Int) + (8 : Int)) + IntKind.i64.wrap (↑(jo gW (IntKind.u8.wrap ((↑x : Int).fdiv ((2 : Int) ^ min (Int.toNat (8 : Int)) IntKind.u32.bits))).toNat) : Int)))]))) (af.ag [(0 : Int) ≤ IntKind.u8.wrap (↑x : Int) ∧ IntKind.u8.wrap (↑x : Int) < (↑gW.size : Int)] (af.leaf ak.ret [int IntKind.i64 (IntKind.i64.wrap ((0 : Int) + IntKind.i64.wrap (↑(jo gW (IntKind.u8.wrap (↑x : Int)).toNat) : Int)))])))) := by kernel_rfl
theorem rU {i : Nat} (h : i < 256) : jo gW i = bf i := by
 have h8 : bf i ≤ 8 := fX.2 (by omega)
 unfold jo
 have : gW.data[i]? = some (UInt8.ofNat (bf i)) := by simp [gW, h]
 rw [this]
 simp only [UInt8.toNat_ofNat']
 omega
theorem EP : gW.size = 256 := by
 show (List.map _ (List.range 256)).toArray.size = 256
 simp
theorem uU {x : Nat} {s : Int} (hs : 0 ≤ s) (h : s < 32) : (x : Int).fdiv (2 ^ min s.toNat IntKind.u32.bits) = ((x / 2 ^ s.toNat : Nat) : Int) := by
 have : IntKind.u32.bits = 32 := rfl
 rw [this, Nat.min_eq_left (by omega), Int.fdiv_eq_ediv_of_nonneg _ (by exact Int.le_of_lt (Int.pow_pos (by decide)))]
 simp
theorem vf {x : Nat} (h : x < 256) : IntKind.u8.wrap (x : Int) = x := by
 simp [IntKind.wrap, IntKind.bits, IntKind.signed]; omega
theorem Y9 {x : Nat} (hx : x < 2 ^ 32) (K : Nat) (pre : aB) : aC P qM K [.int .u32 x] pre (aK (.int .i64 (bf x : Nat)) []) := by
 refine bH hT aY hm Wq rfl (of_decide_eq_true (by kernel_rfl)) rfl 30 Xk (fun _ => ?_) K pre
 have b8 : ∀ i : Nat, i < 256 → bf i ≤ 8 := fun i h => fX.2 (by omega)
 rw [uU (by decide) (by decide), uU (by decide) (by decide), uU (by decide) (by decide)]
 simp only [af.all, ay, decide_eq_true_eq, decide_eq_false_iff_not, EP, show Int.toNat 16 = 16 from rfl, show Int.toNat 8 = 8 from rfl]
 refine ⟨fun h1 => ⟨by omega, fun h2 => ⟨by omega, ?_⟩, fun h2 => ?_⟩, fun h1 => ⟨fun h2 => ⟨by omega, ?_⟩, fun h2 => ?_⟩⟩
 ·have h3 : x / 2 ^ 16 / 2 ^ 8 < 256 := by omega
  have e : bf x = 16 + (8 + bf (x / 2 ^ 16 / 2 ^ 8)) := by rw [o9 (k := 16) (by omega), o9 (x := x / 2 ^ 16) (k := 8) (by omega)]
  rw [vf h3]
  refine ⟨by omega, bm ?_⟩
  rw [Int.toNat_natCast, rU h3, e]
  have := b8 _ h3
  rw [wrap_i64 (x := ((bf (x / 2 ^ 16 / 2 ^ 8) : Nat) : Int)) (by omega) (by omega), wrap_i64 (x := (16 : Int) + 8) (by omega) (by omega), wrap_i64 (by omega) (by omega)]
  omega
 ·have h3 : x / 2 ^ 16 < 256 := by omega
  have e : bf x = 16 + bf (x / 2 ^ 16) := by rw [o9 (k := 16) (by omega)]
  rw [vf h3]
  refine ⟨by omega, bm ?_⟩
  rw [Int.toNat_natCast, rU h3, e]
  have := b8 _ h3
  rw [wrap_i64 (x := ((bf (x / 2 ^ 16) : Nat) : Int)) (by omega) (by omega), wrap_i64 (by omega) (by omega)]
  omega
 ·have h3 : x / 2 ^ 8 < 256 := by omega
  have e : bf x = 8 + bf (x / 2 ^ 8) := by rw [o9 (k := 8) (by omega)]
  rw [vf h3]
  refine ⟨by omega, bm ?_⟩
  rw [Int.toNat_natCast, rU h3, e]
  have := b8 _ h3
  rw [wrap_i64 (x := ((bf (x / 2 ^ 8) : Nat) : Int)) (by omega) (by omega), wrap_i64 (x := (0 : Int) + 8) (by omega) (by omega), wrap_i64 (by omega) (by omega)]
  omega
 ·have h3 : x < 256 := by omega
  rw [vf h3]
  refine ⟨by omega, bm ?_⟩
  rw [Int.toNat_natCast, rU h3]
  have := b8 _ h3
  rw [wrap_i64 (x := ((bf x : Nat) : Int)) (by omega) (by omega), wrap_i64 (by omega) (by omega)]
  omega
theorem Gg : ∀ K args pre r, Aa K args pre = some r → aC P qM K args pre r := by
 refine bQ fun K args r hk hs _ => ?_
 split at hs
 ·rename_i x
  simp only [Option.some.injEq] at hs
  subst hs
  intro need
  obtain ⟨h1, h2⟩ : 0 ≤ x ∧ x < 2 ^ 32 := need
  obtain ⟨y, rfl⟩ := Int.eq_ofNat_of_zero_le h1
  exact Y9 (x := y) (by omega) K [] trivial
 ·simp at hs
theorem NT {x : Nat} : bF T [(qM, Aa)] [] 30 vP (ax vP) ⟨aN 0 [.int .u32 x], [], 0⟩ =
  some (af.ag [(0 : Int) ≤ (↑x : Int) ∧ (↑x : Int) < (2 : Int) ^ 32] (af.leaf ak.ret [int IntKind.i64 (IntKind.i64.wrap ((32 : Int) - (↑(bf (↑x : Int).toNat) : Int)))])) := by kernel_rfl
theorem OL {n : Nat} {z : Nat → Nat} : bF T ((qM, Aa) :: G1) [7] 30 ta (ax ta) ⟨aN 0 [.ah 1 n (aj z)], [], 0⟩ =
  some (af.ag [cN n (aj z), n < 2 ^ 62] (af.fork ((↑(nl (val n fun (i : Nat) ↦ numOf (aj z i))) : Int) == (0 : Int)) (af.leaf ak.ret [int IntKind.i64 (0 : Int)]) (af.ag [(0 : Int) ≤ IntKind.i64.wrap ((↑(nl (val n fun (i : Nat) ↦ numOf (aj z i))) : Int) - (1 : Int)) ∧ (IntKind.i64.wrap ((↑(nl (val n fun (i : Nat) ↦ numOf (aj z i))) : Int) - (1 : Int))).toNat < nl (val n fun (i : Nat) ↦ numOf (aj z i)), (0 : Int) ≤ (↑(au (val n fun (i : Nat) ↦ numOf (aj z i)) (IntKind.i64.wrap ((↑(nl (val n fun (i : Nat) ↦ numOf (aj z i))) : Int) - (1 : Int))).toNat) : Int) ∧ (↑(au (val n fun (i : Nat) ↦ numOf (aj z i)) (IntKind.i64.wrap ((↑(nl (val n fun (i : Nat) ↦ numOf (aj z i))) : Int) - (1 : Int))).toNat) : Int) < (2 : Int) ^ 32] (af.leaf ak.ret [int IntKind.i64 (IntKind.i64.wrap (IntKind.i64.wrap ((32 : Int) * IntKind.i64.wrap ((↑(nl (val n fun (i : Nat) ↦ numOf (aj z i))) : Int) - (1 : Int))) + (↑(bf (↑(au (val n fun (i : Nat) ↦ numOf (aj z i)) (IntKind.i64.wrap ((↑(nl (val n fun (i : Nat) ↦ numOf (aj z i))) : Int) - (1 : Int))).toNat) : Int).toNat) : Int)))])))) := by kernel_rfl
theorem K8 {x : Nat} (hx : x < 2 ^ 32) (K : Nat) (pre : aB) : aC P v5 K [.int .u32 x] pre (aK (.int .i64 (32 - bf x : Nat)) []) := by
 refine bH hT (aJ Gg aY) hm Sq rfl (of_decide_eq_true (by kernel_rfl)) rfl 30 NT (fun _ => ?_) K pre
 have h1 : bf x ≤ 32 := fX.2 hx
 simp only [af.all, ay]
 refine ⟨by omega, bm ?_⟩
 rw [Int.toNat_natCast, wrap_i64 (by omega) (by omega)]; omega
theorem JP {n : Nat} {z : Nat → Nat} (hz : ∀ i, i < n → z i < 2 ^ 32) (hn : n < 2 ^ 40) (K : Nat) (pre : aB) : aC P vt K [.ah 1 n (aj z)] pre (aK (.int .i64 (bf (val n z) : Nat)) []) := by
 refine bH hT (aJ Gg eM) hm Ty rfl (of_decide_eq_true (by kernel_rfl)) rfl 30 OL (fun _ => ?_) K pre
 have hnl : nl (val n z) ≤ n := cw.2 (ec hz)
 simp only [af.all, ay, gI, beq_iff_eq, beq_eq_false_iff_ne, ne_eq]
 generalize val n z = N at *
 refine ⟨⟨eG hz, by omega⟩, fun h => bm ?_, fun h => ?_⟩
 ·have : N = 0 := by
   rcases Nat.eq_zero_or_pos N with h1 | h1
   ·exact h1
   ·have := eH.2 (show N ≠ 0 by omega); omega
  simp [this, bf]
 ·have h0 : N ≠ 0 := eH.1 (by omega)
  have hp := eH.2 h0
  have e : IntKind.i64.wrap ((nl N : Int) - 1) = ((nl N - 1 : Nat) : Int) := by rw [wrap_i64 (by omega) (by omega)]; omega
  rw [e, Int.toNat_natCast, Int.toNat_natCast]
  have hl := cE (N := N) (i := nl N - 1)
  have hb := GU h0
  have h32 : bf (au N (nl N - 1)) ≤ 32 := fX.2 hl
  refine ⟨⟨by omega, by omega⟩, bm ?_⟩
  rw [hb, wrap_i64 (x := 32 * ((nl N - 1 : Nat) : Int)) (by omega) (by omega), wrap_i64 (by omega) (by omega)]
  omega
def HR : Spec := bu fun l => match l with
 | [.int .u32 x] => some (aK (.int .i64 (32 - bf x.toNat : Nat)) [0 ≤ x ∧ x < 2 ^ 32])
 | _ => none
theorem PO : ∀ K args pre r, HR K args pre = some r → aC P v5 K args pre r := by
 refine bQ fun K args r hk hs _ => ?_
 split at hs
 ·rename_i x
  simp only [Option.some.injEq] at hs
  subst hs
  intro need
  obtain ⟨h1, h2⟩ : 0 ≤ x ∧ x < 2 ^ 32 := need
  obtain ⟨y, rfl⟩ := Int.eq_ofNat_of_zero_le h1
  exact K8 (x := y) (by omega) K [] trivial
 ·simp at hs
def EI (N n : Nat) : cC := aK (.int .i64 (bf N : Nat)) [n < 2 ^ 40]
theorem TV : ∀ K args pre r, bu (jv EI) K args pre = some r → aC P vt K args pre r :=
 bQ (p0 fun _ _ K hz need => JP hz need K [])
end Go.Am.B
