/- bits.Len32, bits.LeadingZeros32, natural.Bits, slices.Clone, slices.Equal. -/
import Derived.Test.YtbghpkgbokbmlaaGreatB4
set_option linter.unusedVariables false
namespace Go.Am.B
open Go Go.Am.N AV
theorem Uq : aP P pO uj (au uj) := aL Tn (by kernel_rfl) (by kernel_rfl) (by kernel_rfl)
theorem V0 : aP P vK uD (au uD) := aL acq (by kernel_rfl) (by kernel_rfl) (by kernel_rfl)
theorem aa3 : aP P we rW (au rW) := aL ac5 (by kernel_rfl) (by kernel_rfl) (by kernel_rfl)
abbrev iT : ByteArray := ⟨((List.range 256).map fun i => UInt8.ofNat (aS i)).toArray⟩
def Ci : Spec := bt fun l => match l with
 | [.int .u32 x] => some (aF (.int .i64 (aS x.toNat : Nat)) [0 ≤ x ∧ x < 2 ^ 32])
 | _ => none
theorem acv {x : Nat} : bA T [] [4, 8] 30 uj (au uj) ⟨aM 0 [.int .u32 x], [], 0⟩ =
  some (aa.fork (decide ((↑x : Int) ≥ (65536 : Int))) (aa.af [(0 : Int) ≤ (16 : Int)] (aa.fork (decide ((↑x : Int).fdiv ((2 : Int) ^ min (Int.toNat (16 : Int)) IntKind.u32.bits) ≥ (256 : Int))) (aa.af [(0 : Int) ≤ (8 : Int)] (aa.af [(0 : Int) ≤ IntKind.u8.wrap (((↑x : Int).fdiv ((2 : Int) ^ min (Int.toNat (16 : Int)) IntKind.u32.bits)).fdiv ((2 : Int) ^ min (Int.toNat (8 : Int)) IntKind.u32.bits)) ∧ IntKind.u8.wrap (((↑x : Int).fdiv ((2 : Int) ^ min (Int.toNat (16 : Int)) IntKind.u32.bits)).fdiv ((2 : Int) ^ min (Int.toNat (8 : Int)) IntKind.u32.bits)) < (↑iT.size : Int)] (aa.leaf ag.ret [int IntKind.i64 (IntKind.i64.wrap (IntKind.i64.wrap ((16 : Int) + (8 : Int)) + IntKind.i64.wrap (↑(jQ iT (IntKind.u8.wrap (((↑x : Int).fdiv ((2 : Int) ^ min (Int.toNat (16 : Int)) IntKind.u32.bits)).fdiv ((2 : Int) ^ min (Int.toNat (8 : Int)) IntKind.u32.bits))).toNat) : Int)))]))) (aa.af [(0 : Int) ≤ IntKind.u8.wrap ((↑x : Int).fdiv ((2 : Int) ^ min (Int.toNat (16 : Int)) IntKind.u32.bits)) ∧ IntKind.u8.wrap ((↑x : Int).fdiv ((2 : Int) ^ min (Int.toNat (16 : Int)) IntKind.u32.bits)) < (↑iT.size : Int)] (aa.leaf ag.ret [int IntKind.i64 (IntKind.i64.wrap ((16 : Int) + IntKind.i64.wrap (↑(jQ iT (IntKind.u8.wrap ((↑x : Int).fdiv ((2 : Int) ^ min (Int.toNat (16 : Int)) IntKind.u32.bits))).toNat) : Int)))])))) (aa.fork (decide ((↑x : Int) ≥ (256 : Int))) (aa.af [(0 : Int) ≤ (8 : Int)] (aa.af [(0 : Int) ≤ IntKind.u8.wrap ((↑x : Int).fdiv ((2 : Int) ^ min (Int.toNat (8 : Int)) IntKind.u32.bits)) ∧ IntKind.u8.wrap ((↑x : Int).fdiv ((2 : Int) ^ min (Int.toNat (8 : Int)) IntKind.u32.bits)) < (↑iT.size : Int)] (aa.leaf ag.ret [int IntKind.i64 (IntKind.i64.wrap (IntKind.i64.wrap ((0 : Int) + (8 : Int)) + IntKind.i64.wrap (↑(jQ iT (IntKind.u8.wrap ((↑x : Int).fdiv ((2 : Int) ^ min (Int.toNat (8 : Int)) IntKind.u32.bits))).toNat) : Int)))]))) (aa.af [(0 : Int) ≤ IntKind.u8.wrap (↑x : Int) ∧ IntKind.u8.wrap (↑x : Int) < (↑iT.size : Int)] (aa.leaf ag.ret [int IntKind.i64 (IntKind.i64.wrap ((0 : Int) + IntKind.i64.wrap (↑(jQ iT (IntKind.u8.wrap (↑x : Int)).toNat) : Int)))])))) := by kernel_rfl
theorem yc {i : Nat} (h : i < 256) : jQ iT i = aS i := by
 have h8 : aS i ≤ 8 := fR.2 (by omega)
 unfold jQ
 have : iT.data[i]? = some (UInt8.ofNat (aS i)) := by simp [iT, h]
 rw [this]
 simp only [UInt8.toNat_ofNat']
 omega
theorem Qr : iT.size = 256 := by
 show (List.map _ (List.range 256)).toArray.size = 256
 simp
theorem uW {x : Nat} {s : Int} (hs : 0 ≤ s) (h : s < 32) : (x : Int).fdiv (2 ^ min s.toNat IntKind.u32.bits) = ((x / 2 ^ s.toNat : Nat) : Int) := by
 have : IntKind.u32.bits = 32 := rfl
 rw [this, Nat.min_eq_left (by omega), Int.fdiv_eq_ediv_of_nonneg _ (by exact Int.le_of_lt (Int.pow_pos (by decide)))]
 simp
theorem ze {x : Nat} (h : x < 256) : IntKind.u8.wrap (x : Int) = x := by
 simp [IntKind.wrap, IntKind.bits, IntKind.signed]; omega
theorem Ur {x : Nat} (hx : x < 2 ^ 32) (K : Nat) (pre : aD) : az P pO K [.int .u32 x] pre (aF (.int .i64 (aS x : Nat)) []) := by
 refine bD hT aT hm Uq rfl (of_decide_eq_true (by kernel_rfl)) rfl 30 acv (fun _ => ?_) K pre
 have b8 : ∀ i : Nat, i < 256 → aS i ≤ 8 := fun i h => fR.2 (by omega)
 rw [uW (by decide) (by decide), uW (by decide) (by decide), uW (by decide) (by decide)]
 simp only [aa.all, ax, decide_eq_true_eq, decide_eq_false_iff_not, Qr, show Int.toNat 16 = 16 from rfl, show Int.toNat 8 = 8 from rfl]
 refine ⟨fun h1 => ⟨by omega, fun h2 => ⟨by omega, ?_⟩, fun h2 => ?_⟩, fun h1 => ⟨fun h2 => ⟨by omega, ?_⟩, fun h2 => ?_⟩⟩
 ·have h3 : x / 2 ^ 16 / 2 ^ 8 < 256 := by omega
  have e : aS x = 16 + (8 + aS (x / 2 ^ 16 / 2 ^ 8)) := by rw [qy (k := 16) (by omega), qy (x := x / 2 ^ 16) (k := 8) (by omega)]
  rw [ze h3]
  refine ⟨by omega, bq ?_⟩
  rw [Int.toNat_natCast, yc h3, e]
  have := b8 _ h3
  rw [wrap_i64 (x := ((aS (x / 2 ^ 16 / 2 ^ 8) : Nat) : Int)) (by omega) (by omega), wrap_i64 (x := (16 : Int) + 8) (by omega) (by omega), wrap_i64 (by omega) (by omega)]
  omega
 ·have h3 : x / 2 ^ 16 < 256 := by omega
  have e : aS x = 16 + aS (x / 2 ^ 16) := by rw [qy (k := 16) (by omega)]
  rw [ze h3]
  refine ⟨by omega, bq ?_⟩
  rw [Int.toNat_natCast, yc h3, e]
  have := b8 _ h3
  rw [wrap_i64 (x := ((aS (x / 2 ^ 16) : Nat) : Int)) (by omega) (by omega), wrap_i64 (by omega) (by omega)]
  omega
 ·have h3 : x / 2 ^ 8 < 256 := by omega
  have e : aS x = 8 + aS (x / 2 ^ 8) := by rw [qy (k := 8) (by omega)]
  rw [ze h3]
  refine ⟨by omega, bq ?_⟩
  rw [Int.toNat_natCast, yc h3, e]
  have := b8 _ h3
  rw [wrap_i64 (x := ((aS (x / 2 ^ 8) : Nat) : Int)) (by omega) (by omega), wrap_i64 (x := (0 : Int) + 8) (by omega) (by omega), wrap_i64 (by omega) (by omega)]
  omega
 ·have h3 : x < 256 := by omega
  rw [ze h3]
  refine ⟨by omega, bq ?_⟩
  rw [Int.toNat_natCast, yc h3]
  have := b8 _ h3
  rw [wrap_i64 (x := ((aS x : Nat) : Int)) (by omega) (by omega), wrap_i64 (by omega) (by omega)]
  omega
theorem KE : ∀ K args pre r, Ci K args pre = some r → az P pO K args pre r := by
 refine bH fun K args r hk hs _ => ?_
 split at hs
 ·rename_i x
  simp only [Option.some.injEq] at hs
  subst hs
  intro need
  obtain ⟨h1, h2⟩ : 0 ≤ x ∧ x < 2 ^ 32 := need
  obtain ⟨y, rfl⟩ := Int.eq_ofNat_of_zero_le h1
  exact Ur (x := y) (by omega) K [] trivial
 ·simp at hs
theorem Ql {x : Nat} : bA T [(pO, Ci)] [] 30 uD (au uD) ⟨aM 0 [.int .u32 x], [], 0⟩ =
  some (aa.af [(0 : Int) ≤ (↑x : Int) ∧ (↑x : Int) < (2 : Int) ^ 32] (aa.leaf ag.ret [int IntKind.i64 (IntKind.i64.wrap ((32 : Int) - (↑(aS (↑x : Int).toNat) : Int)))])) := by kernel_rfl
theorem TU {n : Nat} {z : Nat → Nat} : bA T ((pO, Ci) :: G1) [7] 30 rW (au rW) ⟨aM 0 [.aj 1 n (ah z)], [], 0⟩ =
  some (aa.af [cR n (ah z), n < 2 ^ 62] (aa.fork ((↑(nl (val n fun (i : Nat) ↦ numOf (ah z i))) : Int) == (0 : Int)) (aa.leaf ag.ret [int IntKind.i64 (0 : Int)]) (aa.af [(0 : Int) ≤ IntKind.i64.wrap ((↑(nl (val n fun (i : Nat) ↦ numOf (ah z i))) : Int) - (1 : Int)) ∧ (IntKind.i64.wrap ((↑(nl (val n fun (i : Nat) ↦ numOf (ah z i))) : Int) - (1 : Int))).toNat < nl (val n fun (i : Nat) ↦ numOf (ah z i)), (0 : Int) ≤ (↑(ak (val n fun (i : Nat) ↦ numOf (ah z i)) (IntKind.i64.wrap ((↑(nl (val n fun (i : Nat) ↦ numOf (ah z i))) : Int) - (1 : Int))).toNat) : Int) ∧ (↑(ak (val n fun (i : Nat) ↦ numOf (ah z i)) (IntKind.i64.wrap ((↑(nl (val n fun (i : Nat) ↦ numOf (ah z i))) : Int) - (1 : Int))).toNat) : Int) < (2 : Int) ^ 32] (aa.leaf ag.ret [int IntKind.i64 (IntKind.i64.wrap (IntKind.i64.wrap ((32 : Int) * IntKind.i64.wrap ((↑(nl (val n fun (i : Nat) ↦ numOf (ah z i))) : Int) - (1 : Int))) + (↑(aS (↑(ak (val n fun (i : Nat) ↦ numOf (ah z i)) (IntKind.i64.wrap ((↑(nl (val n fun (i : Nat) ↦ numOf (ah z i))) : Int) - (1 : Int))).toNat) : Int).toNat) : Int)))])))) := by kernel_rfl
theorem VY {x : Nat} (hx : x < 2 ^ 32) (K : Nat) (pre : aD) : az P vK K [.int .u32 x] pre (aF (.int .i64 (32 - aS x : Nat)) []) := by
 refine bD hT (aC KE aT) hm V0 rfl (of_decide_eq_true (by kernel_rfl)) rfl 30 Ql (fun _ => ?_) K pre
 have h1 : aS x ≤ 32 := fR.2 hx
 simp only [aa.all, ax]
 refine ⟨by omega, bq ?_⟩
 rw [Int.toNat_natCast, wrap_i64 (by omega) (by omega)]; omega
theorem VA {n : Nat} {z : Nat → Nat} (hz : ∀ i, i < n → z i < 2 ^ 32) (hn : n < 2 ^ 40) (K : Nat) (pre : aD) : az P we K [.aj 1 n (ah z)] pre (aF (.int .i64 (aS (val n z) : Nat)) []) := by
 refine bD hT (aC KE fj) hm aa3 rfl (of_decide_eq_true (by kernel_rfl)) rfl 30 TU (fun _ => ?_) K pre
 have hnl : nl (val n z) ≤ n := cw.2 (eE hz)
 simp only [aa.all, ax, gP, beq_iff_eq, beq_eq_false_iff_ne, ne_eq]
 generalize val n z = N at *
 refine ⟨⟨eW hz, by omega⟩, fun h => bq ?_, fun h => ?_⟩
 ·have : N = 0 := by
   rcases Nat.eq_zero_or_pos N with h1 | h1
   ·exact h1
   ·have := eO.2 (show N ≠ 0 by omega); omega
  simp [this, aS]
 ·have h0 : N ≠ 0 := eO.1 (by omega)
  have hp := eO.2 h0
  have e : IntKind.i64.wrap ((nl N : Int) - 1) = ((nl N - 1 : Nat) : Int) := by rw [wrap_i64 (by omega) (by omega)]; omega
  rw [e, Int.toNat_natCast, Int.toNat_natCast]
  have hl := cJ (N := N) (i := nl N - 1)
  have hb := IU h0
  have h32 : aS (ak N (nl N - 1)) ≤ 32 := fR.2 hl
  refine ⟨⟨by omega, by omega⟩, bq ?_⟩
  rw [hb, wrap_i64 (x := 32 * ((nl N - 1 : Nat) : Int)) (by omega) (by omega), wrap_i64 (by omega) (by omega)]
  omega
def JF : Spec := bt fun l => match l with
 | [.int .u32 x] => some (aF (.int .i64 (32 - aS x.toNat : Nat)) [0 ≤ x ∧ x < 2 ^ 32])
 | _ => none
theorem Ob : ∀ K args pre r, JF K args pre = some r → az P vK K args pre r := by
 refine bH fun K args r hk hs _ => ?_
 split at hs
 ·rename_i x
  simp only [Option.some.injEq] at hs
  subst hs
  intro need
  obtain ⟨h1, h2⟩ : 0 ≤ x ∧ x < 2 ^ 32 := need
  obtain ⟨y, rfl⟩ := Int.eq_ofNat_of_zero_le h1
  exact VY (x := y) (by omega) K [] trivial
 ·simp at hs
def FB (N n : Nat) : cB := aF (.int .i64 (aS N : Nat)) [n < 2 ^ 40]
theorem L5 : ∀ K args pre r, bt (jJ FB) K args pre = some r → az P we K args pre r :=
 bH (oZ fun _ _ K hz need => VA hz need K [])
end Go.Am.B
