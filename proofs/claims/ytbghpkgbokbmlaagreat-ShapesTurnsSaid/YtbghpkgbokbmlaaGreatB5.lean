/- bits.Len32, bits.LeadingZeros32, natural.Bits, slices.Clone, slices.Equal. -/
import Derived.Test.YtbghpkgbokbmlaaGreatB4
set_option linter.unusedVariables false
namespace Go.Am.B
open Go Go.Am.N AV
theorem aac : aN P oH rY (au rY) := aK O0 (by kernel_rfl) (by kernel_rfl) (by kernel_rfl)
theorem W7 : aN P tT tK (au tK) := aK Pb (by kernel_rfl) (by kernel_rfl) (by kernel_rfl)
theorem Oj : aN P tQ qX (au qX) := aK Uv (by kernel_rfl) (by kernel_rfl) (by kernel_rfl)
abbrev iK : ByteArray := ⟨((List.range 256).map fun i => UInt8.ofNat (aQ i)).toArray⟩
def zT : Spec := bp fun l => match l with
 | [.int .u32 x] => some (aG (.int .i64 (aQ x.toNat : Nat)) [0 ≤ x ∧ x < 2 ^ 32])
 | _ => none
theorem abx {x : Nat} : bA T [] [4, 8] 30 rY (au rY) ⟨aL 0 [.int .u32 x], [], 0⟩ =
  some (aa.fork (decide ((↑x : Int) ≥ (65536 : Int))) (aa.af [(0 : Int) ≤ (16 : Int)] (aa.fork (decide ((↑x : Int).fdiv ((2 : Int) ^ min (Int.toNat (16 : Int)) IntKind.u32.bits) ≥ (256 : Int))) (aa.af [(0 : Int) ≤ (8 : Int)] (aa.af [(0 : Int) ≤ IntKind.u8.wrap (((↑x : Int).fdiv ((2 : Int) ^ min (Int.toNat (16 : Int)) IntKind.u32.bits)).fdiv ((2 : Int) ^ min (Int.toNat (8 : Int)) IntKind.u32.bits)) ∧ IntKind.u8.wrap (((↑x : Int).fdiv ((2 : Int) ^ min (Int.toNat (16 : Int)) IntKind.u32.bits)).fdiv ((2 : Int) ^ min (Int.toNat (8 : Int)) IntKind.u32.bits)) < (↑iK.size : Int)] (aa.leaf aj.ret [int IntKind.i64 (IntKind.i64.wrap (IntKind.i64.wrap ((16 : Int) + (8 : Int)) + IntKind.i64.wrap (↑(jC iK (IntKind.u8.wrap (((↑x : Int).fdiv ((2 : Int) ^ min (Int.toNat (16 : Int)) IntKind.u32.bits)).fdiv ((2 : Int) ^ min (Int.toNat (8 : Int)) IntKind.u32.bits))).toNat) : Int)))]))) (aa.af [(0 : Int) ≤ IntKind.u8.wrap ((↑x : Int).fdiv ((2 : Int) ^ min (Int.toNat (16 : Int)) IntKind.u32.bits)) ∧ IntKind.u8.wrap ((↑x : Int).fdiv ((2 : Int) ^ min (Int.toNat (16 : Int)) IntKind.u32.bits)) < (↑iK.size : Int)] (aa.leaf aj.ret [int IntKind.i64 (IntKind.i64.wrap ((16 : Int) + IntKind.i64.wrap (↑(jC iK (IntKind.u8.wrap ((↑x : Int).fdiv ((2 : Int) ^ min (Int.toNat (16 : Int)) IntKind.u32.bits))).toNat) : Int)))])))) (aa.fork (decide ((↑x : Int) ≥ (256 : Int))) (aa.af [(0 : Int) ≤ (8 : Int)] (aa.af [(0 : Int) ≤ IntKind.u8.wrap ((↑x : Int).fdiv ((2 : Int) ^ min (Int.toNat (8 : Int)) IntKind.u32.bits)) ∧ IntKind.u8.wrap ((↑x : Int).fdiv ((2 : Int) ^ min (Int.toNat (8 : Int)) IntKind.u32.bits)) < (↑iK.size : Int)] (aa.leaf aj.ret [int IntKind.i64 (IntKind.i64.wrap (IntKind.i64.wrap ((0 : Int) + (8 : Int)) + IntKind.i64.wrap (↑(jC iK (IntKind.u8.wrap ((↑x : Int).fdiv ((2 : Int) ^ min (Int.toNat (8 : Int)) IntKind.u32.bits))).toNat) : Int)))]))) (aa.af [(0 : Int) ≤ IntKind.u8.wrap (↑x : Int) ∧ IntKind.u8.wrap (↑x : Int) < (↑iK.size : Int)] (aa.leaf aj.ret [int IntKind.i64 (IntKind.i64.wrap ((0 : Int) + IntKind.i64.wrap (↑(jC iK (IntKind.u8.wrap (↑x : Int)).toNat) : Int)))])))) := by kernel_rfl
theorem vU {i : Nat} (h : i < 256) : jC iK i = aQ i := by
 have h8 : aQ i ≤ 8 := gh.2 (by omega)
 unfold jC
 have : iK.data[i]? = some (UInt8.ofNat (aQ i)) := by simp [iK, h]
 rw [this]
 simp only [UInt8.toNat_ofNat']
 omega
theorem WN : iK.size = 256 := by
 show (List.map _ (List.range 256)).toArray.size = 256
 simp
theorem uA {x : Nat} {s : Int} (hs : 0 ≤ s) (h : s < 32) : (x : Int).fdiv (2 ^ min s.toNat IntKind.u32.bits) = ((x / 2 ^ s.toNat : Nat) : Int) := by
 have : IntKind.u32.bits = 32 := rfl
 rw [this, Nat.min_eq_left (by omega), Int.fdiv_eq_ediv_of_nonneg _ (by exact Int.le_of_lt (Int.pow_pos (by decide)))]
 simp
theorem xR {x : Nat} (h : x < 256) : IntKind.u8.wrap (x : Int) = x := by
 simp [IntKind.wrap, IntKind.bits, IntKind.signed]; omega
theorem NK {x : Nat} (hx : x < 2 ^ 32) (K : Nat) (pre : aC) : aA P oH K [.int .u32 x] pre (aG (.int .i64 (aQ x : Nat)) []) := by
 refine bD hT aU hm aac rfl (of_decide_eq_true (by kernel_rfl)) rfl 30 abx (fun _ => ?_) K pre
 have b8 : ∀ i : Nat, i < 256 → aQ i ≤ 8 := fun i h => gh.2 (by omega)
 rw [uA (by decide) (by decide), uA (by decide) (by decide), uA (by decide) (by decide)]
 simp only [aa.all, ax, decide_eq_true_eq, decide_eq_false_iff_not, WN, show Int.toNat 16 = 16 from rfl, show Int.toNat 8 = 8 from rfl]
 refine ⟨fun h1 => ⟨by omega, fun h2 => ⟨by omega, ?_⟩, fun h2 => ?_⟩, fun h1 => ⟨fun h2 => ⟨by omega, ?_⟩, fun h2 => ?_⟩⟩
 ·have h3 : x / 2 ^ 16 / 2 ^ 8 < 256 := by omega
  have e : aQ x = 16 + (8 + aQ (x / 2 ^ 16 / 2 ^ 8)) := by rw [oU (k := 16) (by omega), oU (x := x / 2 ^ 16) (k := 8) (by omega)]
  rw [xR h3]
  refine ⟨by omega, bn ?_⟩
  rw [Int.toNat_natCast, vU h3, e]
  have := b8 _ h3
  rw [wrap_i64 (x := ((aQ (x / 2 ^ 16 / 2 ^ 8) : Nat) : Int)) (by omega) (by omega), wrap_i64 (x := (16 : Int) + 8) (by omega) (by omega), wrap_i64 (by omega) (by omega)]
  omega
 ·have h3 : x / 2 ^ 16 < 256 := by omega
  have e : aQ x = 16 + aQ (x / 2 ^ 16) := by rw [oU (k := 16) (by omega)]
  rw [xR h3]
  refine ⟨by omega, bn ?_⟩
  rw [Int.toNat_natCast, vU h3, e]
  have := b8 _ h3
  rw [wrap_i64 (x := ((aQ (x / 2 ^ 16) : Nat) : Int)) (by omega) (by omega), wrap_i64 (by omega) (by omega)]
  omega
 ·have h3 : x / 2 ^ 8 < 256 := by omega
  have e : aQ x = 8 + aQ (x / 2 ^ 8) := by rw [oU (k := 8) (by omega)]
  rw [xR h3]
  refine ⟨by omega, bn ?_⟩
  rw [Int.toNat_natCast, vU h3, e]
  have := b8 _ h3
  rw [wrap_i64 (x := ((aQ (x / 2 ^ 8) : Nat) : Int)) (by omega) (by omega), wrap_i64 (x := (0 : Int) + 8) (by omega) (by omega), wrap_i64 (by omega) (by omega)]
  omega
 ·have h3 : x < 256 := by omega
  rw [xR h3]
  refine ⟨by omega, bn ?_⟩
  rw [Int.toNat_natCast, vU h3]
  have := b8 _ h3
  rw [wrap_i64 (x := ((aQ x : Nat) : Int)) (by omega) (by omega), wrap_i64 (by omega) (by omega)]
  omega
theorem C5 : ∀ K args pre r, zT K args pre = some r → aA P oH K args pre r := by
 refine bF fun K args r hk hs _ => ?_
 split at hs
 ·rename_i x
  simp only [Option.some.injEq] at hs
  subst hs
  intro need
  obtain ⟨h1, h2⟩ : 0 ≤ x ∧ x < 2 ^ 32 := need
  obtain ⟨y, rfl⟩ := Int.eq_ofNat_of_zero_le h1
  exact NK (x := y) (by omega) K [] trivial
 ·simp at hs
theorem P2 {x : Nat} : bA T [(oH, zT)] [] 30 tK (au tK) ⟨aL 0 [.int .u32 x], [], 0⟩ =
  some (aa.af [(0 : Int) ≤ (↑x : Int) ∧ (↑x : Int) < (2 : Int) ^ 32] (aa.leaf aj.ret [int IntKind.i64 (IntKind.i64.wrap ((32 : Int) - (↑(aQ (↑x : Int).toNat) : Int)))])) := by kernel_rfl
theorem Rg {n : Nat} {z : Nat → Nat} : bA T ((oH, zT) :: G1) [7] 30 qX (au qX) ⟨aL 0 [.ag 1 n (ah z)], [], 0⟩ =
  some (aa.af [cH n (ah z), n < 2 ^ 62] (aa.fork ((↑(nl (val n fun (i : Nat) ↦ numOf (ah z i))) : Int) == (0 : Int)) (aa.leaf aj.ret [int IntKind.i64 (0 : Int)]) (aa.af [(0 : Int) ≤ IntKind.i64.wrap ((↑(nl (val n fun (i : Nat) ↦ numOf (ah z i))) : Int) - (1 : Int)) ∧ (IntKind.i64.wrap ((↑(nl (val n fun (i : Nat) ↦ numOf (ah z i))) : Int) - (1 : Int))).toNat < nl (val n fun (i : Nat) ↦ numOf (ah z i)), (0 : Int) ≤ (↑(aq (val n fun (i : Nat) ↦ numOf (ah z i)) (IntKind.i64.wrap ((↑(nl (val n fun (i : Nat) ↦ numOf (ah z i))) : Int) - (1 : Int))).toNat) : Int) ∧ (↑(aq (val n fun (i : Nat) ↦ numOf (ah z i)) (IntKind.i64.wrap ((↑(nl (val n fun (i : Nat) ↦ numOf (ah z i))) : Int) - (1 : Int))).toNat) : Int) < (2 : Int) ^ 32] (aa.leaf aj.ret [int IntKind.i64 (IntKind.i64.wrap (IntKind.i64.wrap ((32 : Int) * IntKind.i64.wrap ((↑(nl (val n fun (i : Nat) ↦ numOf (ah z i))) : Int) - (1 : Int))) + (↑(aQ (↑(aq (val n fun (i : Nat) ↦ numOf (ah z i)) (IntKind.i64.wrap ((↑(nl (val n fun (i : Nat) ↦ numOf (ah z i))) : Int) - (1 : Int))).toNat) : Int).toNat) : Int)))])))) := by kernel_rfl
theorem TG {x : Nat} (hx : x < 2 ^ 32) (K : Nat) (pre : aC) : aA P tT K [.int .u32 x] pre (aG (.int .i64 (32 - aQ x : Nat)) []) := by
 refine bD hT (aD C5 aU) hm W7 rfl (of_decide_eq_true (by kernel_rfl)) rfl 30 P2 (fun _ => ?_) K pre
 have h1 : aQ x ≤ 32 := gh.2 hx
 simp only [aa.all, ax]
 refine ⟨by omega, bn ?_⟩
 rw [Int.toNat_natCast, wrap_i64 (by omega) (by omega)]; omega
theorem Mj {n : Nat} {z : Nat → Nat} (hz : ∀ i, i < n → z i < 2 ^ 32) (hn : n < 2 ^ 40) (K : Nat) (pre : aC) : aA P tQ K [.ag 1 n (ah z)] pre (aG (.int .i64 (aQ (val n z) : Nat)) []) := by
 refine bD hT (aD C5 eU) hm Oj rfl (of_decide_eq_true (by kernel_rfl)) rfl 30 Rg (fun _ => ?_) K pre
 have hnl : nl (val n z) ≤ n := cj.2 (eo hz)
 simp only [aa.all, ax, gC, beq_iff_eq, beq_eq_false_iff_ne, ne_eq]
 generalize val n z = N at *
 refine ⟨⟨eJ hz, by omega⟩, fun h => bn ?_, fun h => ?_⟩
 ·have : N = 0 := by
   rcases Nat.eq_zero_or_pos N with h1 | h1
   ·exact h1
   ·have := eE.2 (show N ≠ 0 by omega); omega
  simp [this, aQ]
 ·have h0 : N ≠ 0 := eE.1 (by omega)
  have hp := eE.2 h0
  have e : IntKind.i64.wrap ((nl N : Int) - 1) = ((nl N - 1 : Nat) : Int) := by rw [wrap_i64 (by omega) (by omega)]; omega
  rw [e, Int.toNat_natCast, Int.toNat_natCast]
  have hl := cA (N := N) (i := nl N - 1)
  have hb := D9 h0
  have h32 : aQ (aq N (nl N - 1)) ≤ 32 := gh.2 hl
  refine ⟨⟨by omega, by omega⟩, bn ?_⟩
  rw [hb, wrap_i64 (x := 32 * ((nl N - 1 : Nat) : Int)) (by omega) (by omega), wrap_i64 (by omega) (by omega)]
  omega
def Eh : Spec := bp fun l => match l with
 | [.int .u32 x] => some (aG (.int .i64 (32 - aQ x.toNat : Nat)) [0 ≤ x ∧ x < 2 ^ 32])
 | _ => none
theorem SV : ∀ K args pre r, Eh K args pre = some r → aA P tT K args pre r := by
 refine bF fun K args r hk hs _ => ?_
 split at hs
 ·rename_i x
  simp only [Option.some.injEq] at hs
  subst hs
  intro need
  obtain ⟨h1, h2⟩ : 0 ≤ x ∧ x < 2 ^ 32 := need
  obtain ⟨y, rfl⟩ := Int.eq_ofNat_of_zero_le h1
  exact TG (x := y) (by omega) K [] trivial
 ·simp at hs
def Jf (N n : Nat) : cw := aG (.int .i64 (aQ N : Nat)) [n < 2 ^ 40]
theorem PI : ∀ K args pre r, bp (jk Jf) K args pre = some r → aA P tQ K args pre r :=
 bF (qo fun _ _ K hz need => Mj hz need K [])
end Go.Am.B
