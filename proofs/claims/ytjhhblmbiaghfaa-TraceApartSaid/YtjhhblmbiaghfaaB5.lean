/- bits.Len32, bits.LeadingZeros32, natural.Bits, slices.Clone, slices.Equal. -/
import Derived.Test.YtjhhblmbiaghfaaB4
set_option linter.unusedVariables false
namespace Go.Am.B
open Go Go.Am.N AV
theorem Ou : aO P o3 qV (ax qV) := aS Ho (by kernel_rfl) (by kernel_rfl) (by kernel_rfl)
theorem UE : aO P qD rL (ax rL) := aS J4 (by kernel_rfl) (by kernel_rfl) (by kernel_rfl)
theorem PS : aO P q7 qU (ax qU) := aS Hx (by kernel_rfl) (by kernel_rfl) (by kernel_rfl)
abbrev gr : ByteArray := ⟨((List.range 256).map fun i => UInt8.ofNat (aY i)).toArray⟩
def zI : Spec := bp fun l => match l with
 | [.int .u32 x] => some (aJ (.int .i64 (aY x.toNat : Nat)) [0 ≤ x ∧ x < 2 ^ 32])
 | _ => none
theorem KK {x : Nat} : bA T [] [4, 8] 30 qV (ax qV) ⟨aM 0 [.int .u32 x], [], 0⟩ =
  some (aa.fork (decide ((↑x : Int) ≥ (65536 : Int))) (aa.af [(0 : Int) ≤ (16 : Int)] (aa.fork (decide ((↑x : Int).fdiv ((2 : Int) ^ min (Int.toNat (16 : Int)) IntKind.u32.bits) ≥ (256 : Int))) (aa.af [(0 : Int) ≤ (8 : Int)] (aa.af [(0 : Int) ≤ IntKind.u8.wrap (((↑x : Int).fdiv ((2 : Int) ^ min (Int.toNat (16 : Int)) IntKind.u32.bits)).fdiv ((2 : Int) ^ min (Int.toNat (8 : Int)) IntKind.u32.bits)) ∧ IntKind.u8.wrap (((↑x : Int).fdiv ((2 : Int) ^ min (Int.toNat (16 : Int)) IntKind.u32.bits)).fdiv ((2 : Int) ^ min (Int.toNat (8 : Int)) IntKind.u32.bits)) < (↑gr.size : Int)] (aa.leaf aj.ret [int IntKind.i64 (IntKind.i64.wrap (IntKind.i64.wrap ((16 : Int) + (8 : Int)) + IntKind.i64.wrap (↑(iS gr (IntKind.u8.wrap (((↑x : Int).fdiv ((2 : Int) ^ min (Int.toNat (16 : Int)) IntKind.u32.bits)).fdiv ((2 : Int) ^ min (Int.toNat (8 : Int)) IntKind.u32.bits))).toNat) : Int)))]))) (aa.af [(0 : Int) ≤ IntKind.u8.wrap ((↑x : Int).fdiv ((2 : Int) ^ min (Int.toNat (16 : Int)) IntKind.u32.bits)) ∧ IntKind.u8.wrap ((↑x : Int).fdiv ((2 : Int) ^ min (Int.toNat (16 : Int)) IntKind.u32.bits)) < (↑gr.size : Int)] (aa.leaf aj.ret [int IntKind.i64 (IntKind.i64.wrap ((16 : Int) + IntKind.i64.wrap (↑(iS gr (IntKind.u8.wrap ((↑x : Int).fdiv ((2 : Int) ^ min (Int.toNat (16 : Int)) IntKind.u32.bits))).toNat) : Int)))])))) (aa.fork (decide ((↑x : Int) ≥ (256 : Int))) (aa.af [(0 : Int) ≤ (8 : Int)] (aa.af [(0 : Int) ≤ IntKind.u8.wrap ((↑x : Int).fdiv ((2 : Int) ^ min (Int.toNat (8 : Int)) IntKind.u32.bits)) ∧ IntKind.u8.wrap ((↑x : Int).fdiv ((2 : Int) ^ min (Int.toNat (8 : Int)) IntKind.u32.bits)) < (↑gr.size : Int)] (aa.leaf aj.ret [int IntKind.i64 (IntKind.i64.wrap (IntKind.i64.wrap ((0 : Int) + (8 : Int)) + IntKind.i64.wrap (↑(iS gr (IntKind.u8.wrap ((↑x : Int).fdiv ((2 : Int) ^ min (Int.toNat (8 : Int)) IntKind.u32.bits))).toNat) : Int)))]))) (aa.af [(0 : Int) ≤ IntKind.u8.wrap (↑x : Int) ∧ IntKind.u8.wrap (↑x : Int) < (↑gr.size : Int)] (aa.leaf aj.ret [int IntKind.i64 (IntKind.i64.wrap ((0 : Int) + IntKind.i64.wrap (↑(iS gr (IntKind.u8.wrap (↑x : Int)).toNat) : Int)))])))) := by kernel_rfl
theorem qM {i : Nat} (h : i < 256) : iS gr i = aY i := by
 have h8 : aY i ≤ 8 := fJ.2 (by omega)
 unfold iS
 have : gr.data[i]? = some (UInt8.ofNat (aY i)) := by simp [gr, h]
 rw [this]
 simp only [UInt8.toNat_ofNat']
 omega
theorem Cs : gr.size = 256 := by
 show (List.map _ (List.range 256)).toArray.size = 256
 simp
theorem qF {x : Nat} {s : Int} (hs : 0 ≤ s) (h : s < 32) : (x : Int).fdiv (2 ^ min s.toNat IntKind.u32.bits) = ((x / 2 ^ s.toNat : Nat) : Int) := by
 have : IntKind.u32.bits = 32 := rfl
 rw [this, Nat.min_eq_left (by omega), Int.fdiv_eq_ediv_of_nonneg _ (by exact Int.le_of_lt (Int.pow_pos (by decide)))]
 simp
theorem ru {x : Nat} (h : x < 256) : IntKind.u8.wrap (x : Int) = x := by
 simp [IntKind.wrap, IntKind.bits, IntKind.signed]; omega
theorem Is {x : Nat} (hx : x < 2 ^ 32) (K : Nat) (pre : aA) : aC P o3 K [.int .u32 x] pre (aJ (.int .i64 (aY x : Nat)) []) := by
 refine bE hT aZ hm Ou rfl (of_decide_eq_true (by kernel_rfl)) rfl 30 KK (fun _ => ?_) K pre
 have b8 : ∀ i : Nat, i < 256 → aY i ≤ 8 := fun i h => fJ.2 (by omega)
 rw [qF (by decide) (by decide), qF (by decide) (by decide), qF (by decide) (by decide)]
 simp only [aa.all, az, decide_eq_true_eq, decide_eq_false_iff_not, Cs, show Int.toNat 16 = 16 from rfl, show Int.toNat 8 = 8 from rfl]
 refine ⟨fun h1 => ⟨by omega, fun h2 => ⟨by omega, ?_⟩, fun h2 => ?_⟩, fun h1 => ⟨fun h2 => ⟨by omega, ?_⟩, fun h2 => ?_⟩⟩
 ·have h3 : x / 2 ^ 16 / 2 ^ 8 < 256 := by omega
  have e : aY x = 16 + (8 + aY (x / 2 ^ 16 / 2 ^ 8)) := by rw [ni (k := 16) (by omega), ni (x := x / 2 ^ 16) (k := 8) (by omega)]
  rw [ru h3]
  refine ⟨by omega, bm ?_⟩
  rw [Int.toNat_natCast, qM h3, e]
  have := b8 _ h3
  rw [wrap_i64 (x := ((aY (x / 2 ^ 16 / 2 ^ 8) : Nat) : Int)) (by omega) (by omega), wrap_i64 (x := (16 : Int) + 8) (by omega) (by omega), wrap_i64 (by omega) (by omega)]
  omega
 ·have h3 : x / 2 ^ 16 < 256 := by omega
  have e : aY x = 16 + aY (x / 2 ^ 16) := by rw [ni (k := 16) (by omega)]
  rw [ru h3]
  refine ⟨by omega, bm ?_⟩
  rw [Int.toNat_natCast, qM h3, e]
  have := b8 _ h3
  rw [wrap_i64 (x := ((aY (x / 2 ^ 16) : Nat) : Int)) (by omega) (by omega), wrap_i64 (by omega) (by omega)]
  omega
 ·have h3 : x / 2 ^ 8 < 256 := by omega
  have e : aY x = 8 + aY (x / 2 ^ 8) := by rw [ni (k := 8) (by omega)]
  rw [ru h3]
  refine ⟨by omega, bm ?_⟩
  rw [Int.toNat_natCast, qM h3, e]
  have := b8 _ h3
  rw [wrap_i64 (x := ((aY (x / 2 ^ 8) : Nat) : Int)) (by omega) (by omega), wrap_i64 (x := (0 : Int) + 8) (by omega) (by omega), wrap_i64 (by omega) (by omega)]
  omega
 ·have h3 : x < 256 := by omega
  rw [ru h3]
  refine ⟨by omega, bm ?_⟩
  rw [Int.toNat_natCast, qM h3]
  have := b8 _ h3
  rw [wrap_i64 (x := ((aY x : Nat) : Int)) (by omega) (by omega), wrap_i64 (by omega) (by omega)]
  omega
theorem B8 : ∀ K args pre r, zI K args pre = some r → aC P o3 K args pre r := by
 refine bK fun K args r hk hs _ => ?_
 split at hs
 ·rename_i x
  simp only [Option.some.injEq] at hs
  subst hs
  intro need
  obtain ⟨h1, h2⟩ : 0 ≤ x ∧ x < 2 ^ 32 := need
  obtain ⟨y, rfl⟩ := Int.eq_ofNat_of_zero_le h1
  exact Is (x := y) (by omega) K [] trivial
 ·simp at hs
theorem Gj {x : Nat} : bA T [(o3, zI)] [] 30 rL (ax rL) ⟨aM 0 [.int .u32 x], [], 0⟩ =
  some (aa.af [(0 : Int) ≤ (↑x : Int) ∧ (↑x : Int) < (2 : Int) ^ 32] (aa.leaf aj.ret [int IntKind.i64 (IntKind.i64.wrap ((32 : Int) - (↑(aY (↑x : Int).toNat) : Int)))])) := by kernel_rfl
theorem G8 {n : Nat} {z : Nat → Nat} : bA T ((o3, zI) :: G1) [7] 30 qU (ax qU) ⟨aM 0 [.ah 1 n (ag z)], [], 0⟩ =
  some (aa.af [cD n (ag z), n < 2 ^ 62] (aa.fork ((↑(nl (val n fun (i : Nat) ↦ numOf (ag z i))) : Int) == (0 : Int)) (aa.leaf aj.ret [int IntKind.i64 (0 : Int)]) (aa.af [(0 : Int) ≤ IntKind.i64.wrap ((↑(nl (val n fun (i : Nat) ↦ numOf (ag z i))) : Int) - (1 : Int)) ∧ (IntKind.i64.wrap ((↑(nl (val n fun (i : Nat) ↦ numOf (ag z i))) : Int) - (1 : Int))).toNat < nl (val n fun (i : Nat) ↦ numOf (ag z i)), (0 : Int) ≤ (↑(au (val n fun (i : Nat) ↦ numOf (ag z i)) (IntKind.i64.wrap ((↑(nl (val n fun (i : Nat) ↦ numOf (ag z i))) : Int) - (1 : Int))).toNat) : Int) ∧ (↑(au (val n fun (i : Nat) ↦ numOf (ag z i)) (IntKind.i64.wrap ((↑(nl (val n fun (i : Nat) ↦ numOf (ag z i))) : Int) - (1 : Int))).toNat) : Int) < (2 : Int) ^ 32] (aa.leaf aj.ret [int IntKind.i64 (IntKind.i64.wrap (IntKind.i64.wrap ((32 : Int) * IntKind.i64.wrap ((↑(nl (val n fun (i : Nat) ↦ numOf (ag z i))) : Int) - (1 : Int))) + (↑(aY (↑(au (val n fun (i : Nat) ↦ numOf (ag z i)) (IntKind.i64.wrap ((↑(nl (val n fun (i : Nat) ↦ numOf (ag z i))) : Int) - (1 : Int))).toNat) : Int).toNat) : Int)))])))) := by kernel_rfl
theorem H9 {x : Nat} (hx : x < 2 ^ 32) (K : Nat) (pre : aA) : aC P qD K [.int .u32 x] pre (aJ (.int .i64 (32 - aY x : Nat)) []) := by
 refine bE hT (aK B8 aZ) hm UE rfl (of_decide_eq_true (by kernel_rfl)) rfl 30 Gj (fun _ => ?_) K pre
 have h1 : aY x ≤ 32 := fJ.2 hx
 simp only [aa.all, az]
 refine ⟨by omega, bm ?_⟩
 rw [Int.toNat_natCast, wrap_i64 (by omega) (by omega)]; omega
theorem SL {n : Nat} {z : Nat → Nat} (hz : ∀ i, i < n → z i < 2 ^ 32) (hn : n < 2 ^ 40) (K : Nat) (pre : aA) : aC P q7 K [.ah 1 n (ag z)] pre (aJ (.int .i64 (aY (val n z) : Nat)) []) := by
 refine bE hT (aK B8 eA) hm PS rfl (of_decide_eq_true (by kernel_rfl)) rfl 30 G8 (fun _ => ?_) K pre
 have hnl : nl (val n z) ≤ n := cm.2 (dN hz)
 simp only [aa.all, az, gd, beq_iff_eq, beq_eq_false_iff_ne, ne_eq]
 generalize val n z = N at *
 refine ⟨⟨er hz, by omega⟩, fun h => bm ?_, fun h => ?_⟩
 ·have : N = 0 := by
   rcases Nat.eq_zero_or_pos N with h1 | h1
   ·exact h1
   ·have := ew.2 (show N ≠ 0 by omega); omega
  simp [this, aY]
 ·have h0 : N ≠ 0 := ew.1 (by omega)
  have hp := ew.2 h0
  have e : IntKind.i64.wrap ((nl N : Int) - 1) = ((nl N - 1 : Nat) : Int) := by rw [wrap_i64 (by omega) (by omega)]; omega
  rw [e, Int.toNat_natCast, Int.toNat_natCast]
  have hl := ct (N := N) (i := nl N - 1)
  have hb := Ac h0
  have h32 : aY (au N (nl N - 1)) ≤ 32 := fJ.2 hl
  refine ⟨⟨by omega, by omega⟩, bm ?_⟩
  rw [hb, wrap_i64 (x := 32 * ((nl N - 1 : Nat) : Int)) (by omega) (by omega), wrap_i64 (by omega) (by omega)]
  omega
def BM : Spec := bp fun l => match l with
 | [.int .u32 x] => some (aJ (.int .i64 (32 - aY x.toNat : Nat)) [0 ≤ x ∧ x < 2 ^ 32])
 | _ => none
theorem L5 : ∀ K args pre r, BM K args pre = some r → aC P qD K args pre r := by
 refine bK fun K args r hk hs _ => ?_
 split at hs
 ·rename_i x
  simp only [Option.some.injEq] at hs
  subst hs
  intro need
  obtain ⟨h1, h2⟩ : 0 ≤ x ∧ x < 2 ^ 32 := need
  obtain ⟨y, rfl⟩ := Int.eq_ofNat_of_zero_le h1
  exact H9 (x := y) (by omega) K [] trivial
 ·simp at hs
def DT (N n : Nat) : cq := aJ (.int .i64 (aY N : Nat)) [n < 2 ^ 40]
theorem MC : ∀ K args pre r, bp (iR DT) K args pre = some r → aC P q7 K args pre r :=
 bK (oL fun _ _ K hz need => SL hz need K [])
end Go.Am.B
