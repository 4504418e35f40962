/- bits.Len32, bits.LeadingZeros32, natural.Bits, slices.Clone, slices.Equal. -/
import Derived.Test.YtbghpkgbokbmlaaGreatB4
set_option linter.unusedVariables false
namespace Go.Am.B
open Go Go.Am.N AV
theorem Pj : aO P nr ri (au ri) := aL KA (by kernel_rfl) (by kernel_rfl) (by kernel_rfl)
theorem RU : aO P sx qZ (au qZ) := aL Qu (by kernel_rfl) (by kernel_rfl) (by kernel_rfl)
theorem P7 : aO P q7 o4 (au o4) := aL Ol (by kernel_rfl) (by kernel_rfl) (by kernel_rfl)
abbrev gT : ByteArray := ⟨((List.range 256).map fun i => UInt8.ofNat (aN i)).toArray⟩
def wG : Spec := bk fun l => match l with
 | [.int .u32 x] => some (aG (.int .i64 (aN x.toNat : Nat)) [0 ≤ x ∧ x < 2 ^ 32])
 | _ => none
theorem T8 {x : Nat} : bw T [] [4, 8] 30 ri (au ri) ⟨aM 0 [.int .u32 x], [], 0⟩ =
  some (aa.fork (decide ((↑x : Int) ≥ (65536 : Int))) (aa.af [(0 : Int) ≤ (16 : Int)] (aa.fork (decide ((↑x : Int).fdiv ((2 : Int) ^ min (Int.toNat (16 : Int)) IntKind.u32.bits) ≥ (256 : Int))) (aa.af [(0 : Int) ≤ (8 : Int)] (aa.af [(0 : Int) ≤ IntKind.u8.wrap (((↑x : Int).fdiv ((2 : Int) ^ min (Int.toNat (16 : Int)) IntKind.u32.bits)).fdiv ((2 : Int) ^ min (Int.toNat (8 : Int)) IntKind.u32.bits)) ∧ IntKind.u8.wrap (((↑x : Int).fdiv ((2 : Int) ^ min (Int.toNat (16 : Int)) IntKind.u32.bits)).fdiv ((2 : Int) ^ min (Int.toNat (8 : Int)) IntKind.u32.bits)) < (↑gT.size : Int)] (aa.leaf ah.ret [int IntKind.i64 (IntKind.i64.wrap (IntKind.i64.wrap ((16 : Int) + (8 : Int)) + IntKind.i64.wrap (↑(iD gT (IntKind.u8.wrap (((↑x : Int).fdiv ((2 : Int) ^ min (Int.toNat (16 : Int)) IntKind.u32.bits)).fdiv ((2 : Int) ^ min (Int.toNat (8 : Int)) IntKind.u32.bits))).toNat) : Int)))]))) (aa.af [(0 : Int) ≤ IntKind.u8.wrap ((↑x : Int).fdiv ((2 : Int) ^ min (Int.toNat (16 : Int)) IntKind.u32.bits)) ∧ IntKind.u8.wrap ((↑x : Int).fdiv ((2 : Int) ^ min (Int.toNat (16 : Int)) IntKind.u32.bits)) < (↑gT.size : Int)] (aa.leaf ah.ret [int IntKind.i64 (IntKind.i64.wrap ((16 : Int) + IntKind.i64.wrap (↑(iD gT (IntKind.u8.wrap ((↑x : Int).fdiv ((2 : Int) ^ min (Int.toNat (16 : Int)) IntKind.u32.bits))).toNat) : Int)))])))) (aa.fork (decide ((↑x : Int) ≥ (256 : Int))) (aa.af [(0 : Int) ≤ (8 : Int)] (aa.af [(0 : Int) ≤ IntKind.u8.wrap ((↑x : Int).fdiv ((2 : Int) ^ min (Int.toNat (8 : Int)) IntKind.u32.bits)) ∧ IntKind.u8.wrap ((↑x : Int).fdiv ((2 : Int) ^ min (Int.toNat (8 : Int)) IntKind.u32.bits)) < (↑gT.size : Int)] (aa.leaf ah.ret [int IntKind.i64 (IntKind.i64.wrap (IntKind.i64.wrap ((0 : Int) + (8 : Int)) + IntKind.i64.wrap (↑(iD gT (IntKind.u8.wrap ((↑x : Int).fdiv ((2 : Int) ^ min (Int.toNat (8 : Int)) IntKind.u32.bits))).toNat) : Int)))]))) (aa.af [(0 : Int) ≤ IntKind.u8.wrap (↑x : Int) ∧ IntKind.u8.wrap (↑x : Int) < (↑gT.size : Int)] (aa.leaf ah.ret [int IntKind.i64 (IntKind.i64.wrap ((0 : Int) + IntKind.i64.wrap (↑(iD gT (IntKind.u8.wrap (↑x : Int)).toNat) : Int)))])))) := by kernel_rfl
theorem sM {i : Nat} (h : i < 256) : iD gT i = aN i := by
 have h8 : aN i ≤ 8 := fH.2 (by omega)
 unfold iD
 have : gT.data[i]? = some (UInt8.ofNat (aN i)) := by simp [gT, h]
 rw [this]
 simp only [UInt8.toNat_ofNat']
 omega
theorem Jm : gT.size = 256 := by
 show (List.map _ (List.range 256)).toArray.size = 256
 simp
theorem qx {x : Nat} {s : Int} (hs : 0 ≤ s) (h : s < 32) : (x : Int).fdiv (2 ^ min s.toNat IntKind.u32.bits) = ((x / 2 ^ s.toNat : Nat) : Int) := by
 have : IntKind.u32.bits = 32 := rfl
 rw [this, Nat.min_eq_left (by omega), Int.fdiv_eq_ediv_of_nonneg _ (by exact Int.le_of_lt (Int.pow_pos (by decide)))]
 simp
theorem tO {x : Nat} (h : x < 256) : IntKind.u8.wrap (x : Int) = x := by
 simp [IntKind.wrap, IntKind.bits, IntKind.signed]; omega
theorem G8 {x : Nat} (hx : x < 2 ^ 32) (K : Nat) (pre : aC) : az P nr K [.int .u32 x] pre (aG (.int .i64 (aN x : Nat)) []) := by
 refine bC hT aZ hm Pj rfl (of_decide_eq_true (by kernel_rfl)) rfl 30 T8 (fun _ => ?_) K pre
 have b8 : ∀ i : Nat, i < 256 → aN i ≤ 8 := fun i h => fH.2 (by omega)
 rw [qx (by decide) (by decide), qx (by decide) (by decide), qx (by decide) (by decide)]
 simp only [aa.all, ay, decide_eq_true_eq, decide_eq_false_iff_not, Jm, show Int.toNat 16 = 16 from rfl, show Int.toNat 8 = 8 from rfl]
 refine ⟨fun h1 => ⟨by omega, fun h2 => ⟨by omega, ?_⟩, fun h2 => ?_⟩, fun h1 => ⟨fun h2 => ⟨by omega, ?_⟩, fun h2 => ?_⟩⟩
 ·have h3 : x / 2 ^ 16 / 2 ^ 8 < 256 := by omega
  have e : aN x = 16 + (8 + aN (x / 2 ^ 16 / 2 ^ 8)) := by rw [oC (k := 16) (by omega), oC (x := x / 2 ^ 16) (k := 8) (by omega)]
  rw [tO h3]
  refine ⟨by omega, bf ?_⟩
  rw [Int.toNat_natCast, sM h3, e]
  have := b8 _ h3
  rw [wrap_i64 (x := ((aN (x / 2 ^ 16 / 2 ^ 8) : Nat) : Int)) (by omega) (by omega), wrap_i64 (x := (16 : Int) + 8) (by omega) (by omega), wrap_i64 (by omega) (by omega)]
  omega
 ·have h3 : x / 2 ^ 16 < 256 := by omega
  have e : aN x = 16 + aN (x / 2 ^ 16) := by rw [oC (k := 16) (by omega)]
  rw [tO h3]
  refine ⟨by omega, bf ?_⟩
  rw [Int.toNat_natCast, sM h3, e]
  have := b8 _ h3
  rw [wrap_i64 (x := ((aN (x / 2 ^ 16) : Nat) : Int)) (by omega) (by omega), wrap_i64 (by omega) (by omega)]
  omega
 ·have h3 : x / 2 ^ 8 < 256 := by omega
  have e : aN x = 8 + aN (x / 2 ^ 8) := by rw [oC (k := 8) (by omega)]
  rw [tO h3]
  refine ⟨by omega, bf ?_⟩
  rw [Int.toNat_natCast, sM h3, e]
  have := b8 _ h3
  rw [wrap_i64 (x := ((aN (x / 2 ^ 8) : Nat) : Int)) (by omega) (by omega), wrap_i64 (x := (0 : Int) + 8) (by omega) (by omega), wrap_i64 (by omega) (by omega)]
  omega
 ·have h3 : x < 256 := by omega
  rw [tO h3]
  refine ⟨by omega, bf ?_⟩
  rw [Int.toNat_natCast, sM h3]
  have := b8 _ h3
  rw [wrap_i64 (x := ((aN x : Nat) : Int)) (by omega) (by omega), wrap_i64 (by omega) (by omega)]
  omega
theorem Cf : ∀ K args pre r, wG K args pre = some r → az P nr K args pre r := by
 refine bD fun K args r hk hs _ => ?_
 split at hs
 ·rename_i x
  simp only [Option.some.injEq] at hs
  subst hs
  intro need
  obtain ⟨h1, h2⟩ : 0 ≤ x ∧ x < 2 ^ 32 := need
  obtain ⟨y, rfl⟩ := Int.eq_ofNat_of_zero_le h1
  exact G8 (x := y) (by omega) K [] trivial
 ·simp at hs
theorem UX {x : Nat} : bw T [(nr, wG)] [] 30 qZ (au qZ) ⟨aM 0 [.int .u32 x], [], 0⟩ =
  some (aa.af [(0 : Int) ≤ (↑x : Int) ∧ (↑x : Int) < (2 : Int) ^ 32] (aa.leaf ah.ret [int IntKind.i64 (IntKind.i64.wrap ((32 : Int) - (↑(aN (↑x : Int).toNat) : Int)))])) := by kernel_rfl
theorem UH {n : Nat} {z : Nat → Nat} : bw T ((nr, wG) :: G1) [7] 30 o4 (au o4) ⟨aM 0 [.ak 1 n (ag z)], [], 0⟩ =
  some (aa.af [cB n (ag z), n < 2 ^ 62] (aa.fork ((↑(nl (val n fun (i : Nat) ↦ numOf (ag z i))) : Int) == (0 : Int)) (aa.leaf ah.ret [int IntKind.i64 (0 : Int)]) (aa.af [(0 : Int) ≤ IntKind.i64.wrap ((↑(nl (val n fun (i : Nat) ↦ numOf (ag z i))) : Int) - (1 : Int)) ∧ (IntKind.i64.wrap ((↑(nl (val n fun (i : Nat) ↦ numOf (ag z i))) : Int) - (1 : Int))).toNat < nl (val n fun (i : Nat) ↦ numOf (ag z i)), (0 : Int) ≤ (↑(aj (val n fun (i : Nat) ↦ numOf (ag z i)) (IntKind.i64.wrap ((↑(nl (val n fun (i : Nat) ↦ numOf (ag z i))) : Int) - (1 : Int))).toNat) : Int) ∧ (↑(aj (val n fun (i : Nat) ↦ numOf (ag z i)) (IntKind.i64.wrap ((↑(nl (val n fun (i : Nat) ↦ numOf (ag z i))) : Int) - (1 : Int))).toNat) : Int) < (2 : Int) ^ 32] (aa.leaf ah.ret [int IntKind.i64 (IntKind.i64.wrap (IntKind.i64.wrap ((32 : Int) * IntKind.i64.wrap ((↑(nl (val n fun (i : Nat) ↦ numOf (ag z i))) : Int) - (1 : Int))) + (↑(aN (↑(aj (val n fun (i : Nat) ↦ numOf (ag z i)) (IntKind.i64.wrap ((↑(nl (val n fun (i : Nat) ↦ numOf (ag z i))) : Int) - (1 : Int))).toNat) : Int).toNat) : Int)))])))) := by kernel_rfl
theorem Mt {x : Nat} (hx : x < 2 ^ 32) (K : Nat) (pre : aC) : az P sx K [.int .u32 x] pre (aG (.int .i64 (32 - aN x : Nat)) []) := by
 refine bC hT (aE Cf aZ) hm RU rfl (of_decide_eq_true (by kernel_rfl)) rfl 30 UX (fun _ => ?_) K pre
 have h1 : aN x ≤ 32 := fH.2 hx
 simp only [aa.all, ay]
 refine ⟨by omega, bf ?_⟩
 rw [Int.toNat_natCast, wrap_i64 (by omega) (by omega)]; omega
theorem I7 {n : Nat} {z : Nat → Nat} (hz : ∀ i, i < n → z i < 2 ^ 32) (hn : n < 2 ^ 40) (K : Nat) (pre : aC) : az P q7 K [.ak 1 n (ag z)] pre (aG (.int .i64 (aN (val n z) : Nat)) []) := by
 refine bC hT (aE Cf er) hm P7 rfl (of_decide_eq_true (by kernel_rfl)) rfl 30 UH (fun _ => ?_) K pre
 have hnl : nl (val n z) ≤ n := bX.2 (dO hz)
 simp only [aa.all, ay, fS, beq_iff_eq, beq_eq_false_iff_ne, ne_eq]
 generalize val n z = N at *
 refine ⟨⟨ef hz, by omega⟩, fun h => bf ?_, fun h => ?_⟩
 ·have : N = 0 := by
   rcases Nat.eq_zero_or_pos N with h1 | h1
   ·exact h1
   ·have := dS.2 (show N ≠ 0 by omega); omega
  simp [this, aN]
 ·have h0 : N ≠ 0 := dS.1 (by omega)
  have hp := dS.2 h0
  have e : IntKind.i64.wrap ((nl N : Int) - 1) = ((nl N - 1 : Nat) : Int) := by rw [wrap_i64 (by omega) (by omega)]; omega
  rw [e, Int.toNat_natCast, Int.toNat_natCast]
  have hl := b9 (N := N) (i := nl N - 1)
  have hb := B5 h0
  have h32 : aN (aj N (nl N - 1)) ≤ 32 := fH.2 hl
  refine ⟨⟨by omega, by omega⟩, bf ?_⟩
  rw [hb, wrap_i64 (x := 32 * ((nl N - 1 : Nat) : Int)) (by omega) (by omega), wrap_i64 (by omega) (by omega)]
  omega
def Bm : Spec := bk fun l => match l with
 | [.int .u32 x] => some (aG (.int .i64 (32 - aN x.toNat : Nat)) [0 ≤ x ∧ x < 2 ^ 32])
 | _ => none
theorem Pc : ∀ K args pre r, Bm K args pre = some r → az P sx K args pre r := by
 refine bD fun K args r hk hs _ => ?_
 split at hs
 ·rename_i x
  simp only [Option.some.injEq] at hs
  subst hs
  intro need
  obtain ⟨h1, h2⟩ : 0 ≤ x ∧ x < 2 ^ 32 := need
  obtain ⟨y, rfl⟩ := Int.eq_ofNat_of_zero_le h1
  exact Mt (x := y) (by omega) K [] trivial
 ·simp at hs
def E1 (N n : Nat) : b7 := aG (.int .i64 (aN N : Nat)) [n < 2 ^ 40]
theorem Rg : ∀ K args pre r, bk (iw E1) K args pre = some r → az P q7 K args pre r :=
 bD (mK fun _ _ K hz need => I7 hz need K [])
end Go.Am.B
