/- bits.Len32, bits.LeadingZeros32, natural.Bits, slices.Clone, slices.Equal. -/
import Derived.Test.YtbghpkgbokbmlaaGreatB4
set_option linter.unusedVariables false
namespace Go.Am.B
open Go Go.Am.N AV
theorem NS : aP P qh ur (au ur) := aL SZ (by kernel_rfl) (by kernel_rfl) (by kernel_rfl)
theorem Wf : aP P v7 tW (au tW) := aL Nu (by kernel_rfl) (by kernel_rfl) (by kernel_rfl)
theorem UX : aP P rP rR (au rR) := aL Vc (by kernel_rfl) (by kernel_rfl) (by kernel_rfl)
abbrev iJ : ByteArray := ⟨((List.range 256).map fun i => UInt8.ofNat (aQ i)).toArray⟩
def AB : Spec := bA fun l => match l with
 | [.int .u32 x] => some (aF (.int .i64 (aQ x.toNat : Nat)) [0 ≤ x ∧ x < 2 ^ 32])
 | _ => none
theorem Vj {x : Nat} : bq T [] [4, 8] 30 ur (au ur) ⟨aK 0 [.int .u32 x], [], 0⟩ =
  some (aa.fork (decide ((↑x : Int) ≥ (65536 : Int))) (aa.af [(0 : Int) ≤ (16 : Int)] (aa.fork (decide ((↑x : Int).fdiv ((2 : Int) ^ min (Int.toNat (16 : Int)) IntKind.u32.bits) ≥ (256 : Int))) (aa.af [(0 : Int) ≤ (8 : Int)] (aa.af [(0 : Int) ≤ IntKind.u8.wrap (((↑x : Int).fdiv ((2 : Int) ^ min (Int.toNat (16 : Int)) IntKind.u32.bits)).fdiv ((2 : Int) ^ min (Int.toNat (8 : Int)) IntKind.u32.bits)) ∧ IntKind.u8.wrap (((↑x : Int).fdiv ((2 : Int) ^ min (Int.toNat (16 : Int)) IntKind.u32.bits)).fdiv ((2 : Int) ^ min (Int.toNat (8 : Int)) IntKind.u32.bits)) < (↑iJ.size : Int)] (aa.leaf ah.ret [int IntKind.i64 (IntKind.i64.wrap (IntKind.i64.wrap ((16 : Int) + (8 : Int)) + IntKind.i64.wrap (↑(jU iJ (IntKind.u8.wrap (((↑x : Int).fdiv ((2 : Int) ^ min (Int.toNat (16 : Int)) IntKind.u32.bits)).fdiv ((2 : Int) ^ min (Int.toNat (8 : Int)) IntKind.u32.bits))).toNat) : Int)))]))) (aa.af [(0 : Int) ≤ IntKind.u8.wrap ((↑x : Int).fdiv ((2 : Int) ^ min (Int.toNat (16 : Int)) IntKind.u32.bits)) ∧ IntKind.u8.wrap ((↑x : Int).fdiv ((2 : Int) ^ min (Int.toNat (16 : Int)) IntKind.u32.bits)) < (↑iJ.size : Int)] (aa.leaf ah.ret [int IntKind.i64 (IntKind.i64.wrap ((16 : Int) + IntKind.i64.wrap (↑(jU iJ (IntKind.u8.wrap ((↑x : Int).fdiv ((2 : Int) ^ min (Int.toNat (16 : Int)) IntKind.u32.bits))).toNat) : Int)))])))) (aa.fork (decide ((↑x : Int) ≥ (256 : Int))) (aa.af [(0 : Int) ≤ (8 : Int)] (aa.af [(0 : Int) ≤ IntKind.u8.wrap ((↑x : Int).fdiv ((2 : Int) ^ min (Int.toNat (8 : Int)) IntKind.u32.bits)) ∧ IntKind.u8.wrap ((↑x : Int).fdiv ((2 : Int) ^ min (Int.toNat (8 : Int)) IntKind.u32.bits)) < (↑iJ.size : Int)] (aa.leaf ah.ret [int IntKind.i64 (IntKind.i64.wrap (IntKind.i64.wrap ((0 : Int) + (8 : Int)) + IntKind.i64.wrap (↑(jU iJ (IntKind.u8.wrap ((↑x : Int).fdiv ((2 : Int) ^ min (Int.toNat (8 : Int)) IntKind.u32.bits))).toNat) : Int)))]))) (aa.af [(0 : Int) ≤ IntKind.u8.wrap (↑x : Int) ∧ IntKind.u8.wrap (↑x : Int) < (↑iJ.size : Int)] (aa.leaf ah.ret [int IntKind.i64 (IntKind.i64.wrap ((0 : Int) + IntKind.i64.wrap (↑(jU iJ (IntKind.u8.wrap (↑x : Int)).toNat) : Int)))])))) := by kernel_rfl
theorem yC {i : Nat} (h : i < 256) : jU iJ i = aQ i := by
 have h8 : aQ i ≤ 8 := gY.2 (by omega)
 unfold jU
 have : iJ.data[i]? = some (UInt8.ofNat (aQ i)) := by simp [iJ, h]
 rw [this]
 simp only [UInt8.toNat_ofNat']
 omega
theorem NJ : iJ.size = 256 := by
 show (List.map _ (List.range 256)).toArray.size = 256
 simp
theorem qO {x : Nat} {s : Int} (hs : 0 ≤ s) (h : s < 32) : (x : Int).fdiv (2 ^ min s.toNat IntKind.u32.bits) = ((x / 2 ^ s.toNat : Nat) : Int) := by
 have : IntKind.u32.bits = 32 := rfl
 rw [this, Nat.min_eq_left (by omega), Int.fdiv_eq_ediv_of_nonneg _ (by exact Int.le_of_lt (Int.pow_pos (by decide)))]
 simp
theorem wY {x : Nat} (h : x < 256) : IntKind.u8.wrap (x : Int) = x := by
 simp [IntKind.wrap, IntKind.bits, IntKind.signed]; omega
theorem UB {x : Nat} (hx : x < 2 ^ 32) (K : Nat) (pre : aC) : ay P qh K [.int .u32 x] pre (aF (.int .i64 (aQ x : Nat)) []) := by
 refine bt hT bg hm NS rfl (of_decide_eq_true (by kernel_rfl)) rfl 30 Vj (fun _ => ?_) K pre
 have b8 : ∀ i : Nat, i < 256 → aQ i ≤ 8 := fun i h => gY.2 (by omega)
 rw [qO (by decide) (by decide), qO (by decide) (by decide), qO (by decide) (by decide)]
 simp only [aa.all, ax, decide_eq_true_eq, decide_eq_false_iff_not, NJ, show Int.toNat 16 = 16 from rfl, show Int.toNat 8 = 8 from rfl]
 refine ⟨fun h1 => ⟨by omega, fun h2 => ⟨by omega, ?_⟩, fun h2 => ?_⟩, fun h1 => ⟨fun h2 => ⟨by omega, ?_⟩, fun h2 => ?_⟩⟩
 ·have h3 : x / 2 ^ 16 / 2 ^ 8 < 256 := by omega
  have e : aQ x = 16 + (8 + aQ (x / 2 ^ 16 / 2 ^ 8)) := by rw [qA (k := 16) (by omega), qA (x := x / 2 ^ 16) (k := 8) (by omega)]
  rw [wY h3]
  refine ⟨by omega, bB ?_⟩
  rw [Int.toNat_natCast, yC h3, e]
  have := b8 _ h3
  rw [wrap_i64 (x := ((aQ (x / 2 ^ 16 / 2 ^ 8) : Nat) : Int)) (by omega) (by omega), wrap_i64 (x := (16 : Int) + 8) (by omega) (by omega), wrap_i64 (by omega) (by omega)]
  omega
 ·have h3 : x / 2 ^ 16 < 256 := by omega
  have e : aQ x = 16 + aQ (x / 2 ^ 16) := by rw [qA (k := 16) (by omega)]
  rw [wY h3]
  refine ⟨by omega, bB ?_⟩
  rw [Int.toNat_natCast, yC h3, e]
  have := b8 _ h3
  rw [wrap_i64 (x := ((aQ (x / 2 ^ 16) : Nat) : Int)) (by omega) (by omega), wrap_i64 (by omega) (by omega)]
  omega
 ·have h3 : x / 2 ^ 8 < 256 := by omega
  have e : aQ x = 8 + aQ (x / 2 ^ 8) := by rw [qA (k := 8) (by omega)]
  rw [wY h3]
  refine ⟨by omega, bB ?_⟩
  rw [Int.toNat_natCast, yC h3, e]
  have := b8 _ h3
  rw [wrap_i64 (x := ((aQ (x / 2 ^ 8) : Nat) : Int)) (by omega) (by omega), wrap_i64 (x := (0 : Int) + 8) (by omega) (by omega), wrap_i64 (by omega) (by omega)]
  omega
 ·have h3 : x < 256 := by omega
  rw [wY h3]
  refine ⟨by omega, bB ?_⟩
  rw [Int.toNat_natCast, yC h3]
  have := b8 _ h3
  rw [wrap_i64 (x := ((aQ x : Nat) : Int)) (by omega) (by omega), wrap_i64 (by omega) (by omega)]
  omega
theorem Cr : ∀ K args pre r, AB K args pre = some r → ay P qh K args pre r := by
 refine bQ fun K args r hk hs _ => ?_
 split at hs
 ·rename_i x
  simp only [Option.some.injEq] at hs
  subst hs
  intro need
  obtain ⟨h1, h2⟩ : 0 ≤ x ∧ x < 2 ^ 32 := need
  obtain ⟨y, rfl⟩ := Int.eq_ofNat_of_zero_le h1
  exact UB (x := y) (by omega) K [] trivial
 ·simp at hs
theorem Me {x : Nat} : bq T [(qh, AB)] [] 30 tW (au tW) ⟨aK 0 [.int .u32 x], [], 0⟩ =
  some (aa.af [(0 : Int) ≤ (↑x : Int) ∧ (↑x : Int) < (2 : Int) ^ 32] (aa.leaf ah.ret [int IntKind.i64 (IntKind.i64.wrap ((32 : Int) - (↑(aQ (↑x : Int).toNat) : Int)))])) := by kernel_rfl
theorem Mi {n : Nat} {z : Nat → Nat} : bq T ((qh, AB) :: G1) [7] 30 rR (au rR) ⟨aK 0 [.aj 1 n (ag z)], [], 0⟩ =
  some (aa.af [cO n (ag z), n < 2 ^ 62] (aa.fork ((↑(nl (val n fun (i : Nat) ↦ numOf (ag z i))) : Int) == (0 : Int)) (aa.leaf ah.ret [int IntKind.i64 (0 : Int)]) (aa.af [(0 : Int) ≤ IntKind.i64.wrap ((↑(nl (val n fun (i : Nat) ↦ numOf (ag z i))) : Int) - (1 : Int)) ∧ (IntKind.i64.wrap ((↑(nl (val n fun (i : Nat) ↦ numOf (ag z i))) : Int) - (1 : Int))).toNat < nl (val n fun (i : Nat) ↦ numOf (ag z i)), (0 : Int) ≤ (↑(aq (val n fun (i : Nat) ↦ numOf (ag z i)) (IntKind.i64.wrap ((↑(nl (val n fun (i : Nat) ↦ numOf (ag z i))) : Int) - (1 : Int))).toNat) : Int) ∧ (↑(aq (val n fun (i : Nat) ↦ numOf (ag z i)) (IntKind.i64.wrap ((↑(nl (val n fun (i : Nat) ↦ numOf (ag z i))) : Int) - (1 : Int))).toNat) : Int) < (2 : Int) ^ 32] (aa.leaf ah.ret [int IntKind.i64 (IntKind.i64.wrap (IntKind.i64.wrap ((32 : Int) * IntKind.i64.wrap ((↑(nl (val n fun (i : Nat) ↦ numOf (ag z i))) : Int) - (1 : Int))) + (↑(aQ (↑(aq (val n fun (i : Nat) ↦ numOf (ag z i)) (IntKind.i64.wrap ((↑(nl (val n fun (i : Nat) ↦ numOf (ag z i))) : Int) - (1 : Int))).toNat) : Int).toNat) : Int)))])))) := by kernel_rfl
theorem Rs {x : Nat} (hx : x < 2 ^ 32) (K : Nat) (pre : aC) : ay P v7 K [.int .u32 x] pre (aF (.int .i64 (32 - aQ x : Nat)) []) := by
 refine bt hT (aD Cr bg) hm Wf rfl (of_decide_eq_true (by kernel_rfl)) rfl 30 Me (fun _ => ?_) K pre
 have h1 : aQ x ≤ 32 := gY.2 hx
 simp only [aa.all, ax]
 refine ⟨by omega, bB ?_⟩
 rw [Int.toNat_natCast, wrap_i64 (by omega) (by omega)]; omega
theorem YX {n : Nat} {z : Nat → Nat} (hz : ∀ i, i < n → z i < 2 ^ 32) (hn : n < 2 ^ 40) (K : Nat) (pre : aC) : ay P rP K [.aj 1 n (ag z)] pre (aF (.int .i64 (aQ (val n z) : Nat)) []) := by
 refine bt hT (aD Cr e9) hm UX rfl (of_decide_eq_true (by kernel_rfl)) rfl 30 Mi (fun _ => ?_) K pre
 have hnl : nl (val n z) ≤ n := cD.2 (eA hz)
 simp only [aa.all, ax, gE, beq_iff_eq, beq_eq_false_iff_ne, ne_eq]
 generalize val n z = N at *
 refine ⟨⟨eM hz, by omega⟩, fun h => bB ?_, fun h => ?_⟩
 ·have : N = 0 := by
   rcases Nat.eq_zero_or_pos N with h1 | h1
   ·exact h1
   ·have := eL.2 (show N ≠ 0 by omega); omega
  simp [this, aQ]
 ·have h0 : N ≠ 0 := eL.1 (by omega)
  have hp := eL.2 h0
  have e : IntKind.i64.wrap ((nl N : Int) - 1) = ((nl N - 1 : Nat) : Int) := by rw [wrap_i64 (by omega) (by omega)]; omega
  rw [e, Int.toNat_natCast, Int.toNat_natCast]
  have hl := cK (N := N) (i := nl N - 1)
  have hb := IG h0
  have h32 : aQ (aq N (nl N - 1)) ≤ 32 := gY.2 hl
  refine ⟨⟨by omega, by omega⟩, bB ?_⟩
  rw [hb, wrap_i64 (x := 32 * ((nl N - 1 : Nat) : Int)) (by omega) (by omega), wrap_i64 (by omega) (by omega)]
  omega
def CR : Spec := bA fun l => match l with
 | [.int .u32 x] => some (aF (.int .i64 (32 - aQ x.toNat : Nat)) [0 ≤ x ∧ x < 2 ^ 32])
 | _ => none
theorem Ob : ∀ K args pre r, CR K args pre = some r → ay P v7 K args pre r := by
 refine bQ fun K args r hk hs _ => ?_
 split at hs
 ·rename_i x
  simp only [Option.some.injEq] at hs
  subst hs
  intro need
  obtain ⟨h1, h2⟩ : 0 ≤ x ∧ x < 2 ^ 32 := need
  obtain ⟨y, rfl⟩ := Int.eq_ofNat_of_zero_le h1
  exact Rs (x := y) (by omega) K [] trivial
 ·simp at hs
def IZ (N n : Nat) : cF := aF (.int .i64 (aQ N : Nat)) [n < 2 ^ 40]
theorem YS : ∀ K args pre r, bA (ju IZ) K args pre = some r → ay P rP K args pre r :=
 bQ (oF fun _ _ K hz need => YX hz need K [])
end Go.Am.B
