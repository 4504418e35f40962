/- bits.Len32, bits.LeadingZeros32, natural.Bits, slices.Clone, slices.Equal. -/
import Derived.Test.YtbghpkgbokbmlaaGreatB4
set_option linter.unusedVariables false
namespace Go.Am.B
open Go Go.Am.N AV
theorem abj : aS P qh rH (au rH) := aN Qg (by kernel_rfl) (by kernel_rfl) (by kernel_rfl)
theorem R3 : aS P ue rO (au rO) := aN Vy (by kernel_rfl) (by kernel_rfl) (by kernel_rfl)
theorem Kx : aS P vl qV (au qV) := aN Pv (by kernel_rfl) (by kernel_rfl) (by kernel_rfl)
abbrev iX : ByteArray := ⟨((List.range 256).map fun i => UInt8.ofNat (aV i)).toArray⟩
def Cy : Spec := bt fun l => match l with
 | [.int .u32 x] => some (aH (.int .i64 (aV x.toNat : Nat)) [0 ≤ x ∧ x < 2 ^ 32])
 | _ => none
theorem Yl {x : Nat} : bB T [] [4, 8] 30 rH (au rH) ⟨aO 0 [.int .u32 x], [], 0⟩ =
  some (aa.fork (decide ((↑x : Int) ≥ (65536 : Int))) (aa.af [(0 : Int) ≤ (16 : Int)] (aa.fork (decide ((↑x : Int).fdiv ((2 : Int) ^ min (Int.toNat (16 : Int)) IntKind.u32.bits) ≥ (256 : Int))) (aa.af [(0 : Int) ≤ (8 : Int)] (aa.af [(0 : Int) ≤ IntKind.u8.wrap (((↑x : Int).fdiv ((2 : Int) ^ min (Int.toNat (16 : Int)) IntKind.u32.bits)).fdiv ((2 : Int) ^ min (Int.toNat (8 : Int)) IntKind.u32.bits)) ∧ IntKind.u8.wrap (((↑x : Int).fdiv ((2 : Int) ^ min (Int.toNat (16 : Int)) IntKind.u32.bits)).fdiv ((2 : Int) ^ min (Int.toNat (8 : Int)) IntKind.u32.bits)) < (↑iX.size : Int)] (aa.leaf ah.ret [int IntKind.i64 (IntKind.i64.wrap (IntKind.i64.wrap ((16 : Int) + (8 : Int)) + IntKind.i64.wrap (↑(jJ iX (IntKind.u8.wrap (((↑x : Int).fdiv ((2 : Int) ^ min (Int.toNat (16 : Int)) IntKind.u32.bits)).fdiv ((2 : Int) ^ min (Int.toNat (8 : Int)) IntKind.u32.bits))).toNat) : Int)))]))) (aa.af [(0 : Int) ≤ IntKind.u8.wrap ((↑x : Int).fdiv ((2 : Int) ^ min (Int.toNat (16 : Int)) IntKind.u32.bits)) ∧ IntKind.u8.wrap ((↑x : Int).fdiv ((2 : Int) ^ min (Int.toNat (16 : Int)) IntKind.u32.bits)) < (↑iX.size : Int)] (aa.leaf ah.ret [int IntKind.i64 (IntKind.i64.wrap ((16 : Int) + IntKind.i64.wrap (↑(jJ iX (IntKind.u8.wrap ((↑x : Int).fdiv ((2 : Int) ^ min (Int.toNat (16 : Int)) IntKind.u32.bits))).toNat) : Int)))])))) (aa.fork (decide ((↑x : Int) ≥ (256 : Int))) (aa.af [(0 : Int) ≤ (8 : Int)] (aa.af [(0 : Int) ≤ IntKind.u8.wrap ((↑x : Int).fdiv ((2 : Int) ^ min (Int.toNat (8 : Int)) IntKind.u32.bits)) ∧ IntKind.u8.wrap ((↑x : Int).fdiv ((2 : Int) ^ min (Int.toNat (8 : Int)) IntKind.u32.bits)) < (↑iX.size : Int)] (aa.leaf ah.ret [int IntKind.i64 (IntKind.i64.wrap (IntKind.i64.wrap ((0 : Int) + (8 : Int)) + IntKind.i64.wrap (↑(jJ iX (IntKind.u8.wrap ((↑x : Int).fdiv ((2 : Int) ^ min (Int.toNat (8 : Int)) IntKind.u32.bits))).toNat) : Int)))]))) (aa.af [(0 : Int) ≤ IntKind.u8.wrap (↑x : Int) ∧ IntKind.u8.wrap (↑x : Int) < (↑iX.size : Int)] (aa.leaf ah.ret [int IntKind.i64 (IntKind.i64.wrap ((0 : Int) + IntKind.i64.wrap (↑(jJ iX (IntKind.u8.wrap (↑x : Int)).toNat) : Int)))])))) := by kernel_rfl
theorem x9 {i : Nat} (h : i < 256) : jJ iX i = aV i := by
 have h8 : aV i ≤ 8 := gj.2 (by omega)
 unfold jJ
 have : iX.data[i]? = some (UInt8.ofNat (aV i)) := by simp [iX, h]
 rw [this]
 simp only [UInt8.toNat_ofNat']
 omega
theorem S6 : iX.size = 256 := by
 show (List.map _ (List.range 256)).toArray.size = 256
 simp
theorem uv {x : Nat} {s : Int} (hs : 0 ≤ s) (h : s < 32) : (x : Int).fdiv (2 ^ min s.toNat IntKind.u32.bits) = ((x / 2 ^ s.toNat : Nat) : Int) := by
 have : IntKind.u32.bits = 32 := rfl
 rw [this, Nat.min_eq_left (by omega), Int.fdiv_eq_ediv_of_nonneg _ (by exact Int.le_of_lt (Int.pow_pos (by decide)))]
 simp
theorem xW {x : Nat} (h : x < 256) : IntKind.u8.wrap (x : Int) = x := by
 simp [IntKind.wrap, IntKind.bits, IntKind.signed]; omega
theorem TG {x : Nat} (hx : x < 2 ^ 32) (K : Nat) (pre : aD) : aB P qh K [.int .u32 x] pre (aH (.int .i64 (aV x : Nat)) []) := by
 refine bF hT aY hm abj rfl (of_decide_eq_true (by kernel_rfl)) rfl 30 Yl (fun _ => ?_) K pre
 have b8 : ∀ i : Nat, i < 256 → aV i ≤ 8 := fun i h => gj.2 (by omega)
 rw [uv (by decide) (by decide), uv (by decide) (by decide), uv (by decide) (by decide)]
 simp only [aa.all, ax, decide_eq_true_eq, decide_eq_false_iff_not, S6, show Int.toNat 16 = 16 from rfl, show Int.toNat 8 = 8 from rfl]
 refine ⟨fun h1 => ⟨by omega, fun h2 => ⟨by omega, ?_⟩, fun h2 => ?_⟩, fun h1 => ⟨fun h2 => ⟨by omega, ?_⟩, fun h2 => ?_⟩⟩
 ·have h3 : x / 2 ^ 16 / 2 ^ 8 < 256 := by omega
  have e : aV x = 16 + (8 + aV (x / 2 ^ 16 / 2 ^ 8)) := by rw [qb (k := 16) (by omega), qb (x := x / 2 ^ 16) (k := 8) (by omega)]
  rw [xW h3]
  refine ⟨by omega, br ?_⟩
  rw [Int.toNat_natCast, x9 h3, e]
  have := b8 _ h3
  rw [wrap_i64 (x := ((aV (x / 2 ^ 16 / 2 ^ 8) : Nat) : Int)) (by omega) (by omega), wrap_i64 (x := (16 : Int) + 8) (by omega) (by omega), wrap_i64 (by omega) (by omega)]
  omega
 ·have h3 : x / 2 ^ 16 < 256 := by omega
  have e : aV x = 16 + aV (x / 2 ^ 16) := by rw [qb (k := 16) (by omega)]
  rw [xW h3]
  refine ⟨by omega, br ?_⟩
  rw [Int.toNat_natCast, x9 h3, e]
  have := b8 _ h3
  rw [wrap_i64 (x := ((aV (x / 2 ^ 16) : Nat) : Int)) (by omega) (by omega), wrap_i64 (by omega) (by omega)]
  omega
 ·have h3 : x / 2 ^ 8 < 256 := by omega
  have e : aV x = 8 + aV (x / 2 ^ 8) := by rw [qb (k := 8) (by omega)]
  rw [xW h3]
  refine ⟨by omega, br ?_⟩
  rw [Int.toNat_natCast, x9 h3, e]
  have := b8 _ h3
  rw [wrap_i64 (x := ((aV (x / 2 ^ 8) : Nat) : Int)) (by omega) (by omega), wrap_i64 (x := (0 : Int) + 8) (by omega) (by omega), wrap_i64 (by omega) (by omega)]
  omega
 ·have h3 : x < 256 := by omega
  rw [xW h3]
  refine ⟨by omega, br ?_⟩
  rw [Int.toNat_natCast, x9 h3]
  have := b8 _ h3
  rw [wrap_i64 (x := ((aV x : Nat) : Int)) (by omega) (by omega), wrap_i64 (by omega) (by omega)]
  omega
theorem JU : ∀ K args pre r, Cy K args pre = some r → aB P qh K args pre r := by
 refine bJ fun K args r hk hs _ => ?_
 split at hs
 ·rename_i x
  simp only [Option.some.injEq] at hs
  subst hs
  intro need
  obtain ⟨h1, h2⟩ : 0 ≤ x ∧ x < 2 ^ 32 := need
  obtain ⟨y, rfl⟩ := Int.eq_ofNat_of_zero_le h1
  exact TG (x := y) (by omega) K [] trivial
 ·simp at hs
theorem TF {x : Nat} : bB T [(qh, Cy)] [] 30 rO (au rO) ⟨aO 0 [.int .u32 x], [], 0⟩ =
  some (aa.af [(0 : Int) ≤ (↑x : Int) ∧ (↑x : Int) < (2 : Int) ^ 32] (aa.leaf ah.ret [int IntKind.i64 (IntKind.i64.wrap ((32 : Int) - (↑(aV (↑x : Int).toNat) : Int)))])) := by kernel_rfl
theorem Zn {n : Nat} {z : Nat → Nat} : bB T ((qh, Cy) :: G1) [7] 30 qV (au qV) ⟨aO 0 [.aj 1 n (ag z)], [], 0⟩ =
  some (aa.af [cM n (ag z), n < 2 ^ 62] (aa.fork ((↑(nl (val n fun (i : Nat) ↦ numOf (ag z i))) : Int) == (0 : Int)) (aa.leaf ah.ret [int IntKind.i64 (0 : Int)]) (aa.af [(0 : Int) ≤ IntKind.i64.wrap ((↑(nl (val n fun (i : Nat) ↦ numOf (ag z i))) : Int) - (1 : Int)) ∧ (IntKind.i64.wrap ((↑(nl (val n fun (i : Nat) ↦ numOf (ag z i))) : Int) - (1 : Int))).toNat < nl (val n fun (i : Nat) ↦ numOf (ag z i)), (0 : Int) ≤ (↑(aq (val n fun (i : Nat) ↦ numOf (ag z i)) (IntKind.i64.wrap ((↑(nl (val n fun (i : Nat) ↦ numOf (ag z i))) : Int) - (1 : Int))).toNat) : Int) ∧ (↑(aq (val n fun (i : Nat) ↦ numOf (ag z i)) (IntKind.i64.wrap ((↑(nl (val n fun (i : Nat) ↦ numOf (ag z i))) : Int) - (1 : Int))).toNat) : Int) < (2 : Int) ^ 32] (aa.leaf ah.ret [int IntKind.i64 (IntKind.i64.wrap (IntKind.i64.wrap ((32 : Int) * IntKind.i64.wrap ((↑(nl (val n fun (i : Nat) ↦ numOf (ag z i))) : Int) - (1 : Int))) + (↑(aV (↑(aq (val n fun (i : Nat) ↦ numOf (ag z i)) (IntKind.i64.wrap ((↑(nl (val n fun (i : Nat) ↦ numOf (ag z i))) : Int) - (1 : Int))).toNat) : Int).toNat) : Int)))])))) := by kernel_rfl
theorem Rp {x : Nat} (hx : x < 2 ^ 32) (K : Nat) (pre : aD) : aB P ue K [.int .u32 x] pre (aH (.int .i64 (32 - aV x : Nat)) []) := by
 refine bF hT (aE JU aY) hm R3 rfl (of_decide_eq_true (by kernel_rfl)) rfl 30 TF (fun _ => ?_) K pre
 have h1 : aV x ≤ 32 := gj.2 hx
 simp only [aa.all, ax]
 refine ⟨by omega, br ?_⟩
 rw [Int.toNat_natCast, wrap_i64 (by omega) (by omega)]; omega
theorem RA {n : Nat} {z : Nat → Nat} (hz : ∀ i, i < n → z i < 2 ^ 32) (hn : n < 2 ^ 40) (K : Nat) (pre : aD) : aB P vl K [.aj 1 n (ag z)] pre (aH (.int .i64 (aV (val n z) : Nat)) []) := by
 refine bF hT (aE JU fe) hm Kx rfl (of_decide_eq_true (by kernel_rfl)) rfl 30 Zn (fun _ => ?_) K pre
 have hnl : nl (val n z) ≤ n := cu.2 (eo hz)
 simp only [aa.all, ax, gC, beq_iff_eq, beq_eq_false_iff_ne, ne_eq]
 generalize val n z = N at *
 refine ⟨⟨eM hz, by omega⟩, fun h => br ?_, fun h => ?_⟩
 ·have : N = 0 := by
   rcases Nat.eq_zero_or_pos N with h1 | h1
   ·exact h1
   ·have := eH.2 (show N ≠ 0 by omega); omega
  simp [this, aV]
 ·have h0 : N ≠ 0 := eH.1 (by omega)
  have hp := eH.2 h0
  have e : IntKind.i64.wrap ((nl N : Int) - 1) = ((nl N - 1 : Nat) : Int) := by rw [wrap_i64 (by omega) (by omega)]; omega
  rw [e, Int.toNat_natCast, Int.toNat_natCast]
  have hl := cG (N := N) (i := nl N - 1)
  have hb := HJ h0
  have h32 : aV (aq N (nl N - 1)) ≤ 32 := gj.2 hl
  refine ⟨⟨by omega, by omega⟩, br ?_⟩
  rw [hb, wrap_i64 (x := 32 * ((nl N - 1 : Nat) : Int)) (by omega) (by omega), wrap_i64 (by omega) (by omega)]
  omega
def Eh : Spec := bt fun l => match l with
 | [.int .u32 x] => some (aH (.int .i64 (32 - aV x.toNat : Nat)) [0 ≤ x ∧ x < 2 ^ 32])
 | _ => none
theorem RT : ∀ K args pre r, Eh K args pre = some r → aB P ue K args pre r := by
 refine bJ fun K args r hk hs _ => ?_
 split at hs
 ·rename_i x
  simp only [Option.some.injEq] at hs
  subst hs
  intro need
  obtain ⟨h1, h2⟩ : 0 ≤ x ∧ x < 2 ^ 32 := need
  obtain ⟨y, rfl⟩ := Int.eq_ofNat_of_zero_le h1
  exact Rp (x := y) (by omega) K [] trivial
 ·simp at hs
def JI (N n : Nat) : cD := aH (.int .i64 (aV N : Nat)) [n < 2 ^ 40]
theorem aaN : ∀ K args pre r, bt (jk JI) K args pre = some r → aB P vl K args pre r :=
 bJ (pZ fun _ _ K hz need => RA hz need K [])
end Go.Am.B
