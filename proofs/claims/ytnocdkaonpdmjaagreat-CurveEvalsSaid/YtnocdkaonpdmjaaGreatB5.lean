/- bits.Len32, bits.LeadingZeros32, natural.Bits, slices.Clone, slices.Equal. -/
import Derived.Test.YtnocdkaonpdmjaaGreatB4
set_option linter.unusedVariables false
namespace Go.Am.B
open Go Go.Am.N AV
theorem adX : aN P qR sP (au sP) := aP YI (by kernel_rfl) (by kernel_rfl) (by kernel_rfl)
theorem Ou : aN P tJ r8 (au r8) := aP PJ (by kernel_rfl) (by kernel_rfl) (by kernel_rfl)
theorem N5 : aN P rI u5 (au u5) := aP MG (by kernel_rfl) (by kernel_rfl) (by kernel_rfl)
abbrev jy : ByteArray := ⟨((List.range 256).map fun i => UInt8.ofNat (bg i)).toArray⟩
def DD : Spec := bw fun l => match l with
 | [.int .u32 x] => some (aG (.int .i64 (bg x.toNat : Nat)) [0 ≤ x ∧ x < 2 ^ 32])
 | _ => none
theorem ZF {x : Nat} : bu T [] [4, 8] 30 sP (au sP) ⟨aL 0 [.int .u32 x], [], 0⟩ =
  some (aa.fork (decide ((↑x : Int) ≥ (65536 : Int))) (aa.ag [(0 : Int) ≤ (16 : Int)] (aa.fork (decide ((↑x : Int).fdiv ((2 : Int) ^ min (Int.toNat (16 : Int)) IntKind.u32.bits) ≥ (256 : Int))) (aa.ag [(0 : Int) ≤ (8 : Int)] (aa.ag [(0 : Int) ≤ IntKind.u8.wrap (((↑x : Int).fdiv ((2 : Int) ^ min (Int.toNat (16 : Int)) IntKind.u32.bits)).fdiv ((2 : Int) ^ min (Int.toNat (8 : Int)) IntKind.u32.bits)) ∧ IntKind.u8.wrap (((↑x : Int).fdiv ((2 : Int) ^ min (Int.toNat (16 : Int)) IntKind.u32.bits)).fdiv ((2 : Int) ^ min (Int.toNat (8 : Int)) IntKind.u32.bits)) < (↑jy.size : Int)] (aa.leaf ah.ret [int IntKind.i64 (IntKind.i64.wrap (IntKind.i64.wrap ((16 : Int) + (8 : Int)) + IntKind.i64.wrap (↑(kg jy (IntKind.u8.wrap (((↑x : Int).fdiv ((2 : Int) ^ min (Int.toNat (16 : Int)) IntKind.u32.bits)).fdiv ((2 : Int) ^ min (Int.toNat (8 : Int)) IntKind.u32.bits))).toNat) : Int)))]))) (aa.ag [(0 : Int) ≤ IntKind.u8.wrap ((↑x : Int).fdiv ((2 : Int) ^ min (Int.toNat (16 : Int)) IntKind.u32.bits)) ∧ IntKind.u8.wrap ((↑x : Int).fdiv ((2 : Int) ^ min (Int.toNat (16 : Int)) IntKind.u32.bits)) < (↑jy.size : Int)] (aa.leaf ah.ret [int IntKind.i64 (IntKind.i64.wrap ((16 : Int) + IntKind.i64.wrap (↑(kg jy (IntKind.u8.wrap ((↑x : Int).fdiv ((2 : Int) ^ min (Int.toNat (16 : Int)) IntKind.u32.bits))).toNat) : Int)))])))) (aa.fork (decide ((↑x : Int) ≥ (256 : Int))) (aa.ag [(0 : Int) ≤ (8 : Int)] (aa.ag [(0 : Int) ≤ IntKind.u8.wrap ((↑x : Int).fdiv ((2 : Int) ^ min (Int.toNat (8 : Int)) IntKind.u32.bits)) ∧ IntKind.u8.wrap ((↑x : Int).fdiv ((2 : Int) ^ min (Int.toNat (8 : Int)) IntKind.u32.bits)) < (↑jy.size : Int)] (aa.leaf ah.ret [int IntKind.i64 (IntKind.i64.wrap (IntKind.i64.wrap ((0 : Int) + (8 : Int)) + IntKind.i64.wrap (↑(kg jy (IntKind.u8.wrap ((↑x : Int).fdiv ((2 : Int) ^ min (Int.toNat (8 : Int)) IntKind.u32.bits))).toNat) : Int)))]))) (aa.ag [(0 : Int) ≤ IntKind.u8.wrap (↑x : Int) ∧ IntKind.u8.wrap (↑x : Int) < (↑jy.size : Int)] (aa.leaf ah.ret [int IntKind.i64 (IntKind.i64.wrap ((0 : Int) + IntKind.i64.wrap (↑(kg jy (IntKind.u8.wrap (↑x : Int)).toNat) : Int)))])))) := by kernel_rfl
theorem Az {i : Nat} (h : i < 256) : kg jy i = bg i := by
 have h8 : bg i ≤ 8 := gN.2 (by omega)
 unfold kg
 have : jy.data[i]? = some (UInt8.ofNat (bg i)) := by simp [jy, h]
 rw [this]
 simp only [UInt8.toNat_ofNat']
 omega
theorem RK : jy.size = 256 := by
 show (List.map _ (List.range 256)).toArray.size = 256
 simp
theorem tv {x : Nat} {s : Int} (hs : 0 ≤ s) (h : s < 32) : (x : Int).fdiv (2 ^ min s.toNat IntKind.u32.bits) = ((x / 2 ^ s.toNat : Nat) : Int) := by
 have : IntKind.u32.bits = 32 := rfl
 rw [this, Nat.min_eq_left (by omega), Int.fdiv_eq_ediv_of_nonneg _ (by exact Int.le_of_lt (Int.pow_pos (by decide)))]
 simp
theorem yP {x : Nat} (h : x < 256) : IntKind.u8.wrap (x : Int) = x := by
 simp [IntKind.wrap, IntKind.bits, IntKind.signed]; omega
theorem abh {x : Nat} (hx : x < 2 ^ 32) (K : Nat) (pre : aD) : aA P qR K [.int .u32 x] pre (aG (.int .i64 (bg x : Nat)) []) := by
 refine bC hT bk hm adX rfl (of_decide_eq_true (by kernel_rfl)) rfl 30 ZF (fun _ => ?_) K pre
 have b8 : ∀ i : Nat, i < 256 → bg i ≤ 8 := fun i h => gN.2 (by omega)
 rw [tv (by decide) (by decide), tv (by decide) (by decide), tv (by decide) (by decide)]
 simp only [aa.all, ay, decide_eq_true_eq, decide_eq_false_iff_not, RK, show Int.toNat 16 = 16 from rfl, show Int.toNat 8 = 8 from rfl]
 refine ⟨fun h1 => ⟨by omega, fun h2 => ⟨by omega, ?_⟩, fun h2 => ?_⟩, fun h1 => ⟨fun h2 => ⟨by omega, ?_⟩, fun h2 => ?_⟩⟩
 ·have h3 : x / 2 ^ 16 / 2 ^ 8 < 256 := by omega
  have e : bg x = 16 + (8 + bg (x / 2 ^ 16 / 2 ^ 8)) := by rw [qU (k := 16) (by omega), qU (x := x / 2 ^ 16) (k := 8) (by omega)]
  rw [yP h3]
  refine ⟨by omega, bq ?_⟩
  rw [Int.toNat_natCast, Az h3, e]
  have := b8 _ h3
  rw [wrap_i64 (x := ((bg (x / 2 ^ 16 / 2 ^ 8) : Nat) : Int)) (by omega) (by omega), wrap_i64 (x := (16 : Int) + 8) (by omega) (by omega), wrap_i64 (by omega) (by omega)]
  omega
 ·have h3 : x / 2 ^ 16 < 256 := by omega
  have e : bg x = 16 + bg (x / 2 ^ 16) := by rw [qU (k := 16) (by omega)]
  rw [yP h3]
  refine ⟨by omega, bq ?_⟩
  rw [Int.toNat_natCast, Az h3, e]
  have := b8 _ h3
  rw [wrap_i64 (x := ((bg (x / 2 ^ 16) : Nat) : Int)) (by omega) (by omega), wrap_i64 (by omega) (by omega)]
  omega
 ·have h3 : x / 2 ^ 8 < 256 := by omega
  have e : bg x = 8 + bg (x / 2 ^ 8) := by rw [qU (k := 8) (by omega)]
  rw [yP h3]
  refine ⟨by omega, bq ?_⟩
  rw [Int.toNat_natCast, Az h3, e]
  have := b8 _ h3
  rw [wrap_i64 (x := ((bg (x / 2 ^ 8) : Nat) : Int)) (by omega) (by omega), wrap_i64 (x := (0 : Int) + 8) (by omega) (by omega), wrap_i64 (by omega) (by omega)]
  omega
 ·have h3 : x < 256 := by omega
  rw [yP h3]
  refine ⟨by omega, bq ?_⟩
  rw [Int.toNat_natCast, Az h3]
  have := b8 _ h3
  rw [wrap_i64 (x := ((bg x : Nat) : Int)) (by omega) (by omega), wrap_i64 (by omega) (by omega)]
  omega
theorem IY : ∀ K args pre r, DD K args pre = some r → aA P qR K args pre r := by
 refine bI fun K args r hk hs _ => ?_
 split at hs
 ·rename_i x
  simp only [Option.some.injEq] at hs
  subst hs
  intro need
  obtain ⟨h1, h2⟩ : 0 ≤ x ∧ x < 2 ^ 32 := need
  obtain ⟨y, rfl⟩ := Int.eq_ofNat_of_zero_le h1
  exact abh (x := y) (by omega) K [] trivial
 ·simp at hs
theorem ade {x : Nat} : bu T [(qR, DD)] [] 30 r8 (au r8) ⟨aL 0 [.int .u32 x], [], 0⟩ =
  some (aa.ag [(0 : Int) ≤ (↑x : Int) ∧ (↑x : Int) < (2 : Int) ^ 32] (aa.leaf ah.ret [int IntKind.i64 (IntKind.i64.wrap ((32 : Int) - (↑(bg (↑x : Int).toNat) : Int)))])) := by kernel_rfl
theorem Wx {n : Nat} {z : Nat → Nat} : bu T ((qR, DD) :: G1) [7] 30 u5 (au u5) ⟨aL 0 [.ak 1 n (aj z)], [], 0⟩ =
  some (aa.ag [cV n (aj z), n < 2 ^ 62] (aa.fork ((↑(nl (val n fun (i : Nat) ↦ numOf (aj z i))) : Int) == (0 : Int)) (aa.leaf ah.ret [int IntKind.i64 (0 : Int)]) (aa.ag [(0 : Int) ≤ IntKind.i64.wrap ((↑(nl (val n fun (i : Nat) ↦ numOf (aj z i))) : Int) - (1 : Int)) ∧ (IntKind.i64.wrap ((↑(nl (val n fun (i : Nat) ↦ numOf (aj z i))) : Int) - (1 : Int))).toNat < nl (val n fun (i : Nat) ↦ numOf (aj z i)), (0 : Int) ≤ (↑(ax (val n fun (i : Nat) ↦ numOf (aj z i)) (IntKind.i64.wrap ((↑(nl (val n fun (i : Nat) ↦ numOf (aj z i))) : Int) - (1 : Int))).toNat) : Int) ∧ (↑(ax (val n fun (i : Nat) ↦ numOf (aj z i)) (IntKind.i64.wrap ((↑(nl (val n fun (i : Nat) ↦ numOf (aj z i))) : Int) - (1 : Int))).toNat) : Int) < (2 : Int) ^ 32] (aa.leaf ah.ret [int IntKind.i64 (IntKind.i64.wrap (IntKind.i64.wrap ((32 : Int) * IntKind.i64.wrap ((↑(nl (val n fun (i : Nat) ↦ numOf (aj z i))) : Int) - (1 : Int))) + (↑(bg (↑(ax (val n fun (i : Nat) ↦ numOf (aj z i)) (IntKind.i64.wrap ((↑(nl (val n fun (i : Nat) ↦ numOf (aj z i))) : Int) - (1 : Int))).toNat) : Int).toNat) : Int)))])))) := by kernel_rfl
theorem YE {x : Nat} (hx : x < 2 ^ 32) (K : Nat) (pre : aD) : aA P tJ K [.int .u32 x] pre (aG (.int .i64 (32 - bg x : Nat)) []) := by
 refine bC hT (aF IY bk) hm Ou rfl (of_decide_eq_true (by kernel_rfl)) rfl 30 ade (fun _ => ?_) K pre
 have h1 : bg x ≤ 32 := gN.2 hx
 simp only [aa.all, ay]
 refine ⟨by omega, bq ?_⟩
 rw [Int.toNat_natCast, wrap_i64 (by omega) (by omega)]; omega
theorem W8 {n : Nat} {z : Nat → Nat} (hz : ∀ i, i < n → z i < 2 ^ 32) (hn : n < 2 ^ 40) (K : Nat) (pre : aD) : aA P rI K [.ak 1 n (aj z)] pre (aG (.int .i64 (bg (val n z) : Nat)) []) := by
 refine bC hT (aF IY eW) hm N5 rfl (of_decide_eq_true (by kernel_rfl)) rfl 30 Wx (fun _ => ?_) K pre
 have hnl : nl (val n z) ≤ n := cA.2 (eo hz)
 simp only [aa.all, ay, gV, beq_iff_eq, beq_eq_false_iff_ne, ne_eq]
 generalize val n z = N at *
 refine ⟨⟨eJ hz, by omega⟩, fun h => bq ?_, fun h => ?_⟩
 ·have : N = 0 := by
   rcases Nat.eq_zero_or_pos N with h1 | h1
   ·exact h1
   ·have := eE.2 (show N ≠ 0 by omega); omega
  simp [this, bg]
 ·have h0 : N ≠ 0 := eE.1 (by omega)
  have hp := eE.2 h0
  have e : IntKind.i64.wrap ((nl N : Int) - 1) = ((nl N - 1 : Nat) : Int) := by rw [wrap_i64 (by omega) (by omega)]; omega
  rw [e, Int.toNat_natCast, Int.toNat_natCast]
  have hl := cJ (N := N) (i := nl N - 1)
  have hb := Ks h0
  have h32 : bg (ax N (nl N - 1)) ≤ 32 := gN.2 hl
  refine ⟨⟨by omega, by omega⟩, bq ?_⟩
  rw [hb, wrap_i64 (x := 32 * ((nl N - 1 : Nat) : Int)) (by omega) (by omega), wrap_i64 (by omega) (by omega)]
  omega
def Jt : Spec := bw fun l => match l with
 | [.int .u32 x] => some (aG (.int .i64 (32 - bg x.toNat : Nat)) [0 ≤ x ∧ x < 2 ^ 32])
 | _ => none
theorem Qv : ∀ K args pre r, Jt K args pre = some r → aA P tJ K args pre r := by
 refine bI fun K args r hk hs _ => ?_
 split at hs
 ·rename_i x
  simp only [Option.some.injEq] at hs
  subst hs
  intro need
  obtain ⟨h1, h2⟩ : 0 ≤ x ∧ x < 2 ^ 32 := need
  obtain ⟨y, rfl⟩ := Int.eq_ofNat_of_zero_le h1
  exact YE (x := y) (by omega) K [] trivial
 ·simp at hs
def BI (N n : Nat) : cy := aG (.int .i64 (bg N : Nat)) [n < 2 ^ 40]
theorem GV : ∀ K args pre r, bw (jD BI) K args pre = some r → aA P rI K args pre r :=
 bI (qF fun _ _ K hz need => W8 hz need K [])
end Go.Am.B
