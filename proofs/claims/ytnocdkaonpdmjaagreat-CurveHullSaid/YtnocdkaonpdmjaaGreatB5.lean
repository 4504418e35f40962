/- bits.Len32, bits.LeadingZeros32, natural.Bits, slices.Clone, slices.Equal. -/
import Derived.Test.YtnocdkaonpdmjaaGreatB4
set_option linter.unusedVariables false
namespace Go.Am.B
open Go Go.Am.N AV
theorem abc : aO P qD xe (ax xe) := aP aaj (by kernel_rfl) (by kernel_rfl) (by kernel_rfl)
theorem QT : aO P vi ux (ax ux) := aP Rj (by kernel_rfl) (by kernel_rfl) (by kernel_rfl)
theorem Xz : aO P qM rU (ax rU) := aP ZE (by kernel_rfl) (by kernel_rfl) (by kernel_rfl)
abbrev jw : ByteArray := ⟨((List.range 256).map fun i => UInt8.ofNat (aZ i)).toArray⟩
def De : Spec := bu fun l => match l with
 | [.int .u32 x] => some (aG (.int .i64 (aZ x.toNat : Nat)) [0 ≤ x ∧ x < 2 ^ 32])
 | _ => none
theorem U8 {x : Nat} : bB T [] [4, 8] 30 xe (ax xe) ⟨aL 0 [.int .u32 x], [], 0⟩ =
  some (aa.fork (decide ((↑x : Int) ≥ (65536 : Int))) (aa.ag [(0 : Int) ≤ (16 : Int)] (aa.fork (decide ((↑x : Int).fdiv ((2 : Int) ^ min (Int.toNat (16 : Int)) IntKind.u32.bits) ≥ (256 : Int))) (aa.ag [(0 : Int) ≤ (8 : Int)] (aa.ag [(0 : Int) ≤ IntKind.u8.wrap (((↑x : Int).fdiv ((2 : Int) ^ min (Int.toNat (16 : Int)) IntKind.u32.bits)).fdiv ((2 : Int) ^ min (Int.toNat (8 : Int)) IntKind.u32.bits)) ∧ IntKind.u8.wrap (((↑x : Int).fdiv ((2 : Int) ^ min (Int.toNat (16 : Int)) IntKind.u32.bits)).fdiv ((2 : Int) ^ min (Int.toNat (8 : Int)) IntKind.u32.bits)) < (↑jw.size : Int)] (aa.leaf aj.ret [int IntKind.i64 (IntKind.i64.wrap (IntKind.i64.wrap ((16 : Int) + (8 : Int)) + IntKind.i64.wrap (↑(kB jw (IntKind.u8.wrap (((↑x : Int).fdiv ((2 : Int) ^ min (Int.toNat (16 : Int)) IntKind.u32.bits)).fdiv ((2 : Int) ^ min (Int.toNat (8 : Int)) IntKind.u32.bits))).toNat) : Int)))]))) (aa.ag [(0 : Int) ≤ IntKind.u8.wrap ((↑x : Int).fdiv ((2 : Int) ^ min (Int.toNat (16 : Int)) IntKind.u32.bits)) ∧ IntKind.u8.wrap ((↑x : Int).fdiv ((2 : Int) ^ min (Int.toNat (16 : Int)) IntKind.u32.bits)) < (↑jw.size : Int)] (aa.leaf aj.ret [int IntKind.i64 (IntKind.i64.wrap ((16 : Int) + IntKind.i64.wrap (↑(kB jw (IntKind.u8.wrap ((↑x : Int).fdiv ((2 : Int) ^ min (Int.toNat (16 : Int)) IntKind.u32.bits))).toNat) : Int)))])))) (aa.fork (decide ((↑x : Int) ≥ (256 : Int))) (aa.ag [(0 : Int) ≤ (8 : Int)] (aa.ag [(0 : Int) ≤ IntKind.u8.wrap ((↑x : Int).fdiv ((2 : Int) ^ min (Int.toNat (8 : Int)) IntKind.u32.bits)) ∧ IntKind.u8.wrap ((↑x : Int).fdiv ((2 : Int) ^ min (Int.toNat (8 : Int)) IntKind.u32.bits)) < (↑jw.size : Int)] (aa.leaf aj.ret [int IntKind.i64 (IntKind.i64.wrap (IntKind.i64.wrap ((0 : Int) + (8 : Int)) + IntKind.i64.wrap (↑(kB jw (IntKind.u8.wrap ((↑x : Int).fdiv ((2 : Int) ^ min (Int.toNat (8 : Int)) IntKind.u32.bits))).toNat) : Int)))]))) (aa.ag [(0 : Int) ≤ IntKind.u8.wrap (↑x : Int) ∧ IntKind.u8.wrap (↑x : Int) < (↑jw.size : Int)] (aa.leaf aj.ret [int IntKind.i64 (IntKind.i64.wrap ((0 : Int) + IntKind.i64.wrap (↑(kB jw (IntKind.u8.wrap (↑x : Int)).toNat) : Int)))])))) := by kernel_rfl
theorem zo {i : Nat} (h : i < 256) : kB jw i = aZ i := by
 have h8 : aZ i ≤ 8 := gy.2 (by omega)
 unfold kB
 have : jw.data[i]? = some (UInt8.ofNat (aZ i)) := by simp [jw, h]
 rw [this]
 simp only [UInt8.toNat_ofNat']
 omega
theorem RZ : jw.size = 256 := by
 show (List.map _ (List.range 256)).toArray.size = 256
 simp
theorem tg {x : Nat} {s : Int} (hs : 0 ≤ s) (h : s < 32) : (x : Int).fdiv (2 ^ min s.toNat IntKind.u32.bits) = ((x / 2 ^ s.toNat : Nat) : Int) := by
 have : IntKind.u32.bits = 32 := rfl
 rw [this, Nat.min_eq_left (by omega), Int.fdiv_eq_ediv_of_nonneg _ (by exact Int.le_of_lt (Int.pow_pos (by decide)))]
 simp
theorem As {x : Nat} (h : x < 256) : IntKind.u8.wrap (x : Int) = x := by
 simp [IntKind.wrap, IntKind.bits, IntKind.signed]; omega
theorem R1 {x : Nat} (hx : x < 2 ^ 32) (K : Nat) (pre : aD) : aA P qD K [.int .u32 x] pre (aG (.int .i64 (aZ x : Nat)) []) := by
 refine bH hT bn hm abc rfl (of_decide_eq_true (by kernel_rfl)) rfl 30 U8 (fun _ => ?_) K pre
 have b8 : ∀ i : Nat, i < 256 → aZ i ≤ 8 := fun i h => gy.2 (by omega)
 rw [tg (by decide) (by decide), tg (by decide) (by decide), tg (by decide) (by decide)]
 simp only [aa.all, ay, decide_eq_true_eq, decide_eq_false_iff_not, RZ, show Int.toNat 16 = 16 from rfl, show Int.toNat 8 = 8 from rfl]
 refine ⟨fun h1 => ⟨by omega, fun h2 => ⟨by omega, ?_⟩, fun h2 => ?_⟩, fun h1 => ⟨fun h2 => ⟨by omega, ?_⟩, fun h2 => ?_⟩⟩
 ·have h3 : x / 2 ^ 16 / 2 ^ 8 < 256 := by omega
  have e : aZ x = 16 + (8 + aZ (x / 2 ^ 16 / 2 ^ 8)) := by rw [qB (k := 16) (by omega), qB (x := x / 2 ^ 16) (k := 8) (by omega)]
  rw [As h3]
  refine ⟨by omega, bq ?_⟩
  rw [Int.toNat_natCast, zo h3, e]
  have := b8 _ h3
  rw [wrap_i64 (x := ((aZ (x / 2 ^ 16 / 2 ^ 8) : Nat) : Int)) (by omega) (by omega), wrap_i64 (x := (16 : Int) + 8) (by omega) (by omega), wrap_i64 (by omega) (by omega)]
  omega
 ·have h3 : x / 2 ^ 16 < 256 := by omega
  have e : aZ x = 16 + aZ (x / 2 ^ 16) := by rw [qB (k := 16) (by omega)]
  rw [As h3]
  refine ⟨by omega, bq ?_⟩
  rw [Int.toNat_natCast, zo h3, e]
  have := b8 _ h3
  rw [wrap_i64 (x := ((aZ (x / 2 ^ 16) : Nat) : Int)) (by omega) (by omega), wrap_i64 (by omega) (by omega)]
  omega
 ·have h3 : x / 2 ^ 8 < 256 := by omega
  have e : aZ x = 8 + aZ (x / 2 ^ 8) := by rw [qB (k := 8) (by omega)]
  rw [As h3]
  refine ⟨by omega, bq ?_⟩
  rw [Int.toNat_natCast, zo h3, e]
  have := b8 _ h3
  rw [wrap_i64 (x := ((aZ (x / 2 ^ 8) : Nat) : Int)) (by omega) (by omega), wrap_i64 (x := (0 : Int) + 8) (by omega) (by omega), wrap_i64 (by omega) (by omega)]
  omega
 ·have h3 : x < 256 := by omega
  rw [As h3]
  refine ⟨by omega, bq ?_⟩
  rw [Int.toNat_natCast, zo h3]
  have := b8 _ h3
  rw [wrap_i64 (x := ((aZ x : Nat) : Int)) (by omega) (by omega), wrap_i64 (by omega) (by omega)]
  omega
theorem Gy : ∀ K args pre r, De K args pre = some r → aA P qD K args pre r := by
 refine bN fun K args r hk hs _ => ?_
 split at hs
 ·rename_i x
  simp only [Option.some.injEq] at hs
  subst hs
  intro need
  obtain ⟨h1, h2⟩ : 0 ≤ x ∧ x < 2 ^ 32 := need
  obtain ⟨y, rfl⟩ := Int.eq_ofNat_of_zero_le h1
  exact R1 (x := y) (by omega) K [] trivial
 ·simp at hs
theorem So {x : Nat} : bB T [(qD, De)] [] 30 ux (ax ux) ⟨aL 0 [.int .u32 x], [], 0⟩ =
  some (aa.ag [(0 : Int) ≤ (↑x : Int) ∧ (↑x : Int) < (2 : Int) ^ 32] (aa.leaf aj.ret [int IntKind.i64 (IntKind.i64.wrap ((32 : Int) - (↑(aZ (↑x : Int).toNat) : Int)))])) := by kernel_rfl
theorem N9 {n : Nat} {z : Nat → Nat} : bB T ((qD, De) :: G1) [7] 30 rU (ax rU) ⟨aL 0 [.ak 1 n (ah z)], [], 0⟩ =
  some (aa.ag [cO n (ah z), n < 2 ^ 62] (aa.fork ((↑(nl (val n fun (i : Nat) ↦ numOf (ah z i))) : Int) == (0 : Int)) (aa.leaf aj.ret [int IntKind.i64 (0 : Int)]) (aa.ag [(0 : Int) ≤ IntKind.i64.wrap ((↑(nl (val n fun (i : Nat) ↦ numOf (ah z i))) : Int) - (1 : Int)) ∧ (IntKind.i64.wrap ((↑(nl (val n fun (i : Nat) ↦ numOf (ah z i))) : Int) - (1 : Int))).toNat < nl (val n fun (i : Nat) ↦ numOf (ah z i)), (0 : Int) ≤ (↑(au (val n fun (i : Nat) ↦ numOf (ah z i)) (IntKind.i64.wrap ((↑(nl (val n fun (i : Nat) ↦ numOf (ah z i))) : Int) - (1 : Int))).toNat) : Int) ∧ (↑(au (val n fun (i : Nat) ↦ numOf (ah z i)) (IntKind.i64.wrap ((↑(nl (val n fun (i : Nat) ↦ numOf (ah z i))) : Int) - (1 : Int))).toNat) : Int) < (2 : Int) ^ 32] (aa.leaf aj.ret [int IntKind.i64 (IntKind.i64.wrap (IntKind.i64.wrap ((32 : Int) * IntKind.i64.wrap ((↑(nl (val n fun (i : Nat) ↦ numOf (ah z i))) : Int) - (1 : Int))) + (↑(aZ (↑(au (val n fun (i : Nat) ↦ numOf (ah z i)) (IntKind.i64.wrap ((↑(nl (val n fun (i : Nat) ↦ numOf (ah z i))) : Int) - (1 : Int))).toNat) : Int).toNat) : Int)))])))) := by kernel_rfl
theorem Vc {x : Nat} (hx : x < 2 ^ 32) (K : Nat) (pre : aD) : aA P vi K [.int .u32 x] pre (aG (.int .i64 (32 - aZ x : Nat)) []) := by
 refine bH hT (aH Gy bn) hm QT rfl (of_decide_eq_true (by kernel_rfl)) rfl 30 So (fun _ => ?_) K pre
 have h1 : aZ x ≤ 32 := gy.2 hx
 simp only [aa.all, ay]
 refine ⟨by omega, bq ?_⟩
 rw [Int.toNat_natCast, wrap_i64 (by omega) (by omega)]; omega
theorem M5 {n : Nat} {z : Nat → Nat} (hz : ∀ i, i < n → z i < 2 ^ 32) (hn : n < 2 ^ 40) (K : Nat) (pre : aD) : aA P qM K [.ak 1 n (ah z)] pre (aG (.int .i64 (aZ (val n z) : Nat)) []) := by
 refine bH hT (aH Gy e9) hm Xz rfl (of_decide_eq_true (by kernel_rfl)) rfl 30 N9 (fun _ => ?_) K pre
 have hnl : nl (val n z) ≤ n := cB.2 (eo hz)
 simp only [aa.all, ay, gX, beq_iff_eq, beq_eq_false_iff_ne, ne_eq]
 generalize val n z = N at *
 refine ⟨⟨eI hz, by omega⟩, fun h => bq ?_, fun h => ?_⟩
 ·have : N = 0 := by
   rcases Nat.eq_zero_or_pos N with h1 | h1
   ·exact h1
   ·have := eP.2 (show N ≠ 0 by omega); omega
  simp [this, aZ]
 ·have h0 : N ≠ 0 := eP.1 (by omega)
  have hp := eP.2 h0
  have e : IntKind.i64.wrap ((nl N : Int) - 1) = ((nl N - 1 : Nat) : Int) := by rw [wrap_i64 (by omega) (by omega)]; omega
  rw [e, Int.toNat_natCast, Int.toNat_natCast]
  have hl := cH (N := N) (i := nl N - 1)
  have hb := Iq h0
  have h32 : aZ (au N (nl N - 1)) ≤ 32 := gy.2 hl
  refine ⟨⟨by omega, by omega⟩, bq ?_⟩
  rw [hb, wrap_i64 (x := 32 * ((nl N - 1 : Nat) : Int)) (by omega) (by omega), wrap_i64 (by omega) (by omega)]
  omega
def FJ : Spec := bu fun l => match l with
 | [.int .u32 x] => some (aG (.int .i64 (32 - aZ x.toNat : Nat)) [0 ≤ x ∧ x < 2 ^ 32])
 | _ => none
theorem L8 : ∀ K args pre r, FJ K args pre = some r → aA P vi K args pre r := by
 refine bN fun K args r hk hs _ => ?_
 split at hs
 ·rename_i x
  simp only [Option.some.injEq] at hs
  subst hs
  intro need
  obtain ⟨h1, h2⟩ : 0 ≤ x ∧ x < 2 ^ 32 := need
  obtain ⟨y, rfl⟩ := Int.eq_ofNat_of_zero_le h1
  exact Vc (x := y) (by omega) K [] trivial
 ·simp at hs
def DE (N n : Nat) : cA := aG (.int .i64 (aZ N : Nat)) [n < 2 ^ 40]
theorem FQ : ∀ K args pre r, bu (jr DE) K args pre = some r → aA P qM K args pre r :=
 bN (qu fun _ _ K hz need => M5 hz need K [])
end Go.Am.B
