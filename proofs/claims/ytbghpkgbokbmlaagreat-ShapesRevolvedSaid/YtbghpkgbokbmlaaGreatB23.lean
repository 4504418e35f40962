/- ref01: Add, minus, Sub, Mul, byLimb. -/
import Derived.Test.YtbghpkgbokbmlaaGreatB22
set_option linter.unusedVariables false
namespace Go.Am.B
open Go Go.Am.N AV
theorem Rn : aS P vL fz (au fz) := aN WY (by kernel_rfl) (by kernel_rfl) (by kernel_rfl)
abbrev cU : List Nat := [0, 1, 5, 6, 7]
abbrev r9 (A B c i : Nat) : List AV := [.mag A, .mag B, .own 7 1 0 i, .int .u64 c, .int .i64 i]
abbrev kn (i : Nat) (o : Nat → Nat) : aD := [(7, ⟨true, true, 1, i, ag o⟩)]
noncomputable abbrev fX : Code := part (au fz) [1,1,1,0,1,0,0]
theorem SI {A B : Nat} : aI T dy [] 60 cU (before (au fz) [1,1,1,0,1]) ⟨aO 0 [.mag A, .mag B], [], 0⟩ =
  some (aa.leaf ah.normal ([mag A, mag B, nil, int IntKind.u64 (0 : Int), int IntKind.i64 (0 : Int)], [])) := by kernel_rfl
theorem Oq {A B c : Nat} : aI T dy [12, 18, 21] 60 cU [part fX [0]] ⟨aA cU [.mag A, .mag B, .nil, .int .u64 c, .int .i64 0], [], 8⟩ =
  some (aa.fork (decide ((0 : Int) < (↑(nl A) : Int))) (aa.fork true (aa.af [decide ((0 : Int) < (↑(nl A) : Int)) = true, true = true] (aa.fork true (aa.leaf ah.normal ([mag A, mag B, nil, int IntKind.u64 (↑c : Int), int IntKind.i64 (0 : Int)], [])) (aa.leaf (ah.exit 0) ([mag A, mag B, nil, int IntKind.u64 (↑c : Int), int IntKind.i64 (0 : Int)], [])))) (aa.af [decide ((0 : Int) < (↑(nl A) : Int)) = true, true = false] (aa.fork (bif false then true else (↑c : Int) != (0 : Int)) (aa.leaf ah.normal ([mag A, mag B, nil, int IntKind.u64 (↑c : Int), int IntKind.i64 (0 : Int)], [])) (aa.leaf (ah.exit 0) ([mag A, mag B, nil, int IntKind.u64 (↑c : Int), int IntKind.i64 (0 : Int)], []))))) (aa.fork (bif false then true else decide ((0 : Int) < (↑(nl B) : Int))) (aa.af [decide ((0 : Int) < (↑(nl A) : Int)) = false, (bif false then true else decide ((0 : Int) < (↑(nl B) : Int))) = true] (aa.fork true (aa.leaf ah.normal ([mag A, mag B, nil, int IntKind.u64 (↑c : Int), int IntKind.i64 (0 : Int)], [])) (aa.leaf (ah.exit 0) ([mag A, mag B, nil, int IntKind.u64 (↑c : Int), int IntKind.i64 (0 : Int)], [])))) (aa.af [decide ((0 : Int) < (↑(nl A) : Int)) = false, (bif false then true else decide ((0 : Int) < (↑(nl B) : Int))) = false] (aa.fork (bif false then true else (↑c : Int) != (0 : Int)) (aa.leaf ah.normal ([mag A, mag B, nil, int IntKind.u64 (↑c : Int), int IntKind.i64 (0 : Int)], [])) (aa.leaf (ah.exit 0) ([mag A, mag B, nil, int IntKind.u64 (↑c : Int), int IntKind.i64 (0 : Int)], [])))))) := by kernel_rfl
theorem Qd {A B c i : Nat} {o : Nat → Nat} : aI T dy [12, 18, 21] 60 cU [part fX [0]] ⟨aA cU (r9 A B c i), kn i o, 8⟩ =
  some (aa.fork (decide ((↑i : Int) < (↑(nl A) : Int))) (aa.fork true (aa.af [decide ((↑i : Int) < (↑(nl A) : Int)) = true, true = true] (aa.fork true (aa.leaf ah.normal ([mag A, mag B, own 7 1 0 i, int IntKind.u64 (↑c : Int), int IntKind.i64 (↑i : Int)], [((7 : Nat), ⟨true, true, 1, i, ag o⟩)])) (aa.leaf (ah.exit 0) ([mag A, mag B, own 7 1 0 i, int IntKind.u64 (↑c : Int), int IntKind.i64 (↑i : Int)], [((7 : Nat), ⟨true, true, 1, i, ag o⟩)])))) (aa.af [decide ((↑i : Int) < (↑(nl A) : Int)) = true, true = false] (aa.fork (bif false then true else (↑c : Int) != (0 : Int)) (aa.leaf ah.normal ([mag A, mag B, own 7 1 0 i, int IntKind.u64 (↑c : Int), int IntKind.i64 (↑i : Int)], [((7 : Nat), ⟨true, true, 1, i, ag o⟩)])) (aa.leaf (ah.exit 0) ([mag A, mag B, own 7 1 0 i, int IntKind.u64 (↑c : Int), int IntKind.i64 (↑i : Int)], [((7 : Nat), ⟨true, true, 1, i, ag o⟩)]))))) (aa.fork (bif false then true else decide ((↑i : Int) < (↑(nl B) : Int))) (aa.af [decide ((↑i : Int) < (↑(nl A) : Int)) = false, (bif false then true else decide ((↑i : Int) < (↑(nl B) : Int))) = true] (aa.fork true (aa.leaf ah.normal ([mag A, mag B, own 7 1 0 i, int IntKind.u64 (↑c : Int), int IntKind.i64 (↑i : Int)], [((7 : Nat), ⟨true, true, 1, i, ag o⟩)])) (aa.leaf (ah.exit 0) ([mag A, mag B, own 7 1 0 i, int IntKind.u64 (↑c : Int), int IntKind.i64 (↑i : Int)], [((7 : Nat), ⟨true, true, 1, i, ag o⟩)])))) (aa.af [decide ((↑i : Int) < (↑(nl A) : Int)) = false, (bif false then true else decide ((↑i : Int) < (↑(nl B) : Int))) = false] (aa.fork (bif false then true else (↑c : Int) != (0 : Int)) (aa.leaf ah.normal ([mag A, mag B, own 7 1 0 i, int IntKind.u64 (↑c : Int), int IntKind.i64 (↑i : Int)], [((7 : Nat), ⟨true, true, 1, i, ag o⟩)])) (aa.leaf (ah.exit 0) ([mag A, mag B, own 7 1 0 i, int IntKind.u64 (↑c : Int), int IntKind.i64 (↑i : Int)], [((7 : Nat), ⟨true, true, 1, i, ag o⟩)])))))) := by kernel_rfl
theorem ZD {A B c : Nat} : aI T dy [27, 38] 60 cU (before (part fX [1,0,0]) [1,1]) ⟨aA cU [.mag A, .mag B, .nil, .int .u64 c, .int .i64 0], [], 8⟩ =
  some (aa.fork (decide ((0 : Int) < (↑(nl A) : Int))) (aa.af [(0 : Int) ≤ (0 : Int) ∧ Int.toNat (0 : Int) < nl A] (aa.fork (decide ((0 : Int) < (↑(nl B) : Int))) (aa.af [(0 : Int) ≤ (0 : Int) ∧ Int.toNat (0 : Int) < nl B] (aa.leaf ah.normal ([mag A, mag B, nil, int IntKind.u64 (IntKind.u64.wrap (IntKind.u64.wrap ((↑c : Int) + IntKind.u64.wrap (↑(aq A (Int.toNat (0 : Int))) : Int)) + IntKind.u64.wrap (↑(aq B (Int.toNat (0 : Int))) : Int))), int IntKind.i64 (0 : Int)], []))) (aa.leaf ah.normal ([mag A, mag B, nil, int IntKind.u64 (IntKind.u64.wrap ((↑c : Int) + IntKind.u64.wrap (↑(aq A (Int.toNat (0 : Int))) : Int))), int IntKind.i64 (0 : Int)], [])))) (aa.fork (decide ((0 : Int) < (↑(nl B) : Int))) (aa.af [(0 : Int) ≤ (0 : Int) ∧ Int.toNat (0 : Int) < nl B] (aa.leaf ah.normal ([mag A, mag B, nil, int IntKind.u64 (IntKind.u64.wrap ((↑c : Int) + IntKind.u64.wrap (↑(aq B (Int.toNat (0 : Int))) : Int))), int IntKind.i64 (0 : Int)], []))) (aa.leaf ah.normal ([mag A, mag B, nil, int IntKind.u64 (↑c : Int), int IntKind.i64 (0 : Int)], [])))) := by kernel_rfl
theorem Q5 {A B c i : Nat} {o : Nat → Nat} : aI T dy [27, 38] 60 cU (before (part fX [1,0,0]) [1,1]) ⟨aA cU (r9 A B c i), kn i o, 8⟩ =
  some (aa.fork (decide ((↑i : Int) < (↑(nl A) : Int))) (aa.af [(0 : Int) ≤ (↑i : Int) ∧ (↑i : Int).toNat < nl A] (aa.fork (decide ((↑i : Int) < (↑(nl B) : Int))) (aa.af [(0 : Int) ≤ (↑i : Int) ∧ (↑i : Int).toNat < nl B] (aa.leaf ah.normal ([mag A, mag B, own 7 1 0 i, int IntKind.u64 (IntKind.u64.wrap (IntKind.u64.wrap ((↑c : Int) + IntKind.u64.wrap (↑(aq A (↑i : Int).toNat) : Int)) + IntKind.u64.wrap (↑(aq B (↑i : Int).toNat) : Int))), int IntKind.i64 (↑i : Int)], [((7 : Nat), ⟨true, true, 1, i, ag o⟩)]))) (aa.leaf ah.normal ([mag A, mag B, own 7 1 0 i, int IntKind.u64 (IntKind.u64.wrap ((↑c : Int) + IntKind.u64.wrap (↑(aq A (↑i : Int).toNat) : Int))), int IntKind.i64 (↑i : Int)], [((7 : Nat), ⟨true, true, 1, i, ag o⟩)])))) (aa.fork (decide ((↑i : Int) < (↑(nl B) : Int))) (aa.af [(0 : Int) ≤ (↑i : Int) ∧ (↑i : Int).toNat < nl B] (aa.leaf ah.normal ([mag A, mag B, own 7 1 0 i, int IntKind.u64 (IntKind.u64.wrap ((↑c : Int) + IntKind.u64.wrap (↑(aq B (↑i : Int).toNat) : Int))), int IntKind.i64 (↑i : Int)], [((7 : Nat), ⟨true, true, 1, i, ag o⟩)]))) (aa.leaf ah.normal ([mag A, mag B, own 7 1 0 i, int IntKind.u64 (↑c : Int), int IntKind.i64 (↑i : Int)], [((7 : Nat), ⟨true, true, 1, i, ag o⟩)])))) := by kernel_rfl
theorem TJ {A B c : Nat} : aI T dy [] 60 cU [part (part fX [1,0,0]) [1,1]] ⟨aA cU [.mag A, .mag B, .nil, .int .u64 c, .int .i64 0], [], 8⟩ =
  some (aa.af [(1 : Nat) * 1 ≤ 2 ^ 24, (0 : Nat) < 1 ∧ 1 * ((4 : Nat) + 1) * 2 ≤ 2 ^ 47] (aa.af [(0 : Int) ≤ (32 : Int)] (aa.leaf ah.normal ([mag A, mag B, own 16392 1 0 1, int IntKind.u64 ((↑c : Int).fdiv ((2 : Int) ^ min (Int.toNat (32 : Int)) IntKind.u64.bits)), int IntKind.i64 (0 : Int)], [((16392 : Nat), ⟨true, true, 1, 1, fun (i : Nat) ↦ nth [int IntKind.u32 (IntKind.u32.wrap (↑c : Int))] (int IntKind.u32 (0 : Int)) (i + 0)⟩)])))) := by kernel_rfl
theorem aaw {A B c i : Nat} {o : Nat → Nat} : aI T dy [] 60 cU [part (part fX [1,0,0]) [1,1]] ⟨aA cU (r9 A B c i), kn i o, 8⟩ =
  some (aa.af [(1 : Nat) * 1 ≤ 2 ^ 24, (i + 1) * ((4 : Nat) + 1) * 2 ≤ 2 ^ 47] (aa.af [(0 : Int) ≤ (32 : Int)] (aa.leaf ah.normal ([mag A, mag B, own 16392 1 0 (i + 1), int IntKind.u64 ((↑c : Int).fdiv ((2 : Int) ^ min (Int.toNat (32 : Int)) IntKind.u64.bits)), int IntKind.i64 (↑i : Int)], [((16392 : Nat), ⟨true, true, 1, i + 1, fun (i_1 : Nat) ↦ if i_1 < i then ag o i_1 else nth [int IntKind.u32 (IntKind.u32.wrap (↑c : Int))] (int IntKind.u32 (0 : Int)) (i_1 - i + 0)⟩)])))) := by kernel_rfl
theorem aba {A B c i j : Nat} {o : Nat → Nat} : aI T dy [] 60 cU [part fX [1,1]] ⟨aA cU [.mag A, .mag B, .own 7 1 0 i, .int .u64 c, .int .i64 j], kn i o, 8⟩ =
  some (aa.leaf ah.normal ([mag A, mag B, own 7 1 0 i, int IntKind.u64 (↑c : Int), int IntKind.i64 (IntKind.i64.wrap ((↑j : Int) + (1 : Int)))], [((7 : Nat), ⟨true, true, 1, i, ag o⟩)])) := by kernel_rfl
theorem U1 {A B c : Nat} : b9 T dy [] 60 fz (behind (au fz) [1,1,1,0,1]) ⟨aA cU [.mag A, .mag B, .nil, .int .u64 c, .int .i64 0], [], 8⟩ =
  some (aa.leaf ah.ret [nil]) := by kernel_rfl
theorem OM {A B c i : Nat} {o : Nat → Nat} : b9 T dy [] 60 fz (behind (au fz) [1,1,1,0,1]) ⟨aA cU (r9 A B c i), kn i o, 8⟩ =
  some (aa.leaf ah.ret [aj 1 i fun (i : Nat) ↦ ag o (i + 0)]) := by kernel_rfl
theorem gp {A i : Nat} (h : nl A ≤ i) : aq A i = 0 := by
 unfold aq
 rw [Nat.div_eq_of_lt (cu.1 h)]
def jd (A B c : Nat) : Nat → List AV
 | 0 => [.mag A, .mag B, .nil, .int .u64 c, .int .i64 0]
 | i + 1 => r9 A B c (i + 1)
def jl (o : Nat → Nat) : Nat → aD
 | 0 => []
 | i + 1 => kn (i + 1) o
theorem mb {A B c i : Nat} : gH 8 (jd A B c i) = true := by cases i <;> rfl
theorem mC {o : Nat → Nat} {i : Nat} : fC 8 (jl o i) := by
 cases i
 ·trivial
 ·exact ⟨⟨by omega, fun _ _ => rfl⟩, trivial⟩
section fadd
variable {c0 : Ctx} (h0 : c0.k0 = aX) {A B : Nat} {Q : ah → aF → Prop}
include h0 in
theorem RD {c i : Nat} {o : Nat → Nat} {s' : aF} (hc : c ≤ 1) (hv : aW cU s' = some (jd A B c i, jl o i))
  (fin : ∀ s', aW cU s' = some (jd A B (c + aq A i + aq B i) i, jl o i) → Q .normal s') : az P c0 fz.ntmps (before (part fX [1,0,0]) [1,1]) s' Q := by
 have la := cG (N := A) (i := i)
 have lb := cG (N := B) (i := i)
 have wa : IntKind.u64.wrap (aq A i : Int) = ((aq A i : Nat) : Int) := bC (by omega) (by omega)
 have wb : IntKind.u64.wrap (aq B i : Int) = ((aq B i : Nat) : Int) := bC (by omega) (by omega)
 have w1 : IntKind.u64.wrap ((c : Int) + ((aq A i : Nat) : Int)) = ((c + aq A i : Nat) : Int) := by rw [bC (by omega) (by omega)]; omega
 have w2 : IntKind.u64.wrap ((c : Int) + ((aq B i : Nat) : Int)) = ((c + aq B i : Nat) : Int) := by rw [bC (by omega) (by omega)]; omega
 have w3 : IntKind.u64.wrap (((c + aq A i : Nat) : Int) + ((aq B i : Nat) : Int)) = ((c + aq A i + aq B i : Nat) : Int) := by rw [bC (by omega) (by omega)]; omega
 cases i with
 | zero =>
  refine az.dI hT dB hm 60 hv (gN h0) mb mC cU ZD (by kernel_rfl) (by kernel_rfl) ?_
  simp only [aa.all, ax, decide_eq_true_eq, decide_eq_false_iff_not, Int.toNat_zero]
  rw [wa, wb, w1, w2, w3]
  refine ⟨fun h1 => ⟨by omega, fun h2 => ⟨by omega, fun s' hv => fin s' hv⟩, fun h2 s' hv => fin s' (cH hv ?_ rfl)⟩, fun h1 => ⟨fun h2 => ⟨by omega, fun s' hv => fin s' (cH hv ?_ rfl)⟩, fun h2 s' hv => fin s' (cH hv ?_ rfl)⟩⟩
  ·rw [gp (A := B) (by omega)]; rfl
  ·rw [gp (A := A) (by omega)]; rfl
  ·rw [gp (A := A) (by omega), gp (A := B) (by omega)]; rfl
 | succ i =>
  refine az.dI hT dB hm 60 hv (gN h0) mb mC cU Q5 (by kernel_rfl) (by kernel_rfl) ?_
  simp only [aa.all, ax, decide_eq_true_eq, decide_eq_false_iff_not, Int.toNat_natCast]
  rw [wa, wb, w1, w2, w3]
  refine ⟨fun h1 => ⟨by omega, fun h2 => ⟨by omega, fun s' hv => fin s' hv⟩, fun h2 s' hv => fin s' (cH hv ?_ rfl)⟩, fun h1 => ⟨fun h2 => ⟨by omega, fun s' hv => fin s' (cH hv ?_ rfl)⟩, fun h2 s' hv => fin s' (cH hv ?_ rfl)⟩⟩
  ·rw [gp (A := B) (by omega)]; rfl
  ·rw [gp (A := A) (by omega)]; rfl
  ·rw [gp (A := A) (by omega), gp (A := B) (by omega)]; rfl
include h0 in
theorem OO {c i : Nat} {o : Nat → Nat} {s' : aF} (hi : i < 2 ^ 41) (hv : aW cU s' = some (jd A B c i, jl o i))
  (fin : ∀ s', (∃ ρ, Le c0 ρ s' ⟨aA cU [.mag A, .mag B, .own 7 1 0 (i + 1), .int .u64 (c / 4294967296 : Nat), .int .i64 i], kn (i + 1) (bH o i (c % 4294967296)), 8⟩) → Q .normal s') : ak P c0 fz.ntmps (part (part fX [1,0,0]) [1,1]) s' Q := by
 have hd : (c : Int).fdiv (2 ^ min (Int.toNat 32) IntKind.u64.bits) = ((c / 4294967296 : Nat) : Int) := by rw [iU]; omega
 cases i with
 | zero =>
  refine ak.dI hT dB hm 60 hv (gN h0) mb mC cU TJ (by kernel_rfl) ?_
  rw [hd]
  simp only [aa.all, ax]
  refine ⟨⟨by omega, by omega, by omega⟩, by omega, fun s' hv => fin s' ?_⟩
  refine cw (vs := [.mag A, .mag B, .own 7 1 0 1, .int .u64 (c / 4294967296 : Nat), .int .i64 0]) (ps := kn 1 (bH o 0 (c % 4294967296))) (nx := 8) [(7, 16392)] hv h0 rfl ⟨⟨rfl, aG rfl⟩, ⟨rfl, aG rfl⟩, ⟨rfl, b7 rfl rfl rfl⟩, ⟨rfl, aG rfl⟩, ⟨rfl, aG rfl⟩, trivial⟩
   ⟨⟨_, _, rfl, rfl, dU rfl fun j hj => ?_⟩, trivial⟩
  have : j = 0 := by omega
  subst this
  simp [nth, ag, gR, gG]
 | succ i =>
  refine ak.dI hT dB hm 60 hv (gN h0) mb mC cU aaw (by kernel_rfl) ?_
  rw [hd]
  simp only [aa.all, ax]
  refine ⟨⟨by omega, by omega⟩, by omega, fun s' hv => fin s' ?_⟩
  refine cw (vs := [.mag A, .mag B, .own 7 1 0 (i + 1 + 1), .int .u64 (c / 4294967296 : Nat), .int .i64 ((i + 1 : Nat) : Int)]) (ps := kn (i + 1 + 1) (bH o (i + 1) (c % 4294967296))) (nx := 8) [(7, 16392)] hv h0 rfl ⟨⟨rfl, aG rfl⟩, ⟨rfl, aG rfl⟩, ⟨rfl, b7 rfl rfl rfl⟩, ⟨rfl, aG rfl⟩, ⟨rfl, aG rfl⟩, trivial⟩
   ⟨⟨_, _, rfl, rfl, dU rfl fun j hj => ?_⟩, trivial⟩
  by_cases h : j < i + 1
  ·rw [if_pos h]; unfold ag; rw [ej (by omega)]
  ·have : j = i + 1 := by omega
   subst this
   simp [nth, ag, gR, gG]
end fadd
theorem aa1 {c i : Nat} {o : Nat → Nat} {c0 : Ctx} {Q : ah → aF → Prop} {A B : Nat} (yes : ∀ s', (i < nl A ∨ i < nl B ∨ c ≠ 0) → aW cU s' = some (jd A B c i, jl o i) → Q .normal s')
  (no : ∀ s', nl A ≤ i → nl B ≤ i → c = 0 → aW cU s' = some (jd A B c i, jl o i) → Q (.exit 0) s') : ak P c0 fz.ntmps (part fX [0]) ⟨aA cU (jd A B c i), jl o i, 8⟩ Q := by
 cases i with
 | zero =>
  refine ak.bk hT dB hm 60 cU Oq (by kernel_rfl) ?_
  refine ⟨fun h => ⟨fun _ => ⟨⟨h, rfl⟩, fun _ s' hv => yes s' (.inl (by have := of_decide_eq_true h; omega)) hv, fun hf => by simp at hf⟩, fun hf => by simp at hf⟩,
   fun h => ⟨fun h2 => ⟨⟨h, h2⟩, fun _ s' hv => yes s' (.inr (.inl (by have := of_decide_eq_true (fG h2); omega))) hv, fun hf => by simp at hf⟩,
    fun h2 => ⟨⟨h, h2⟩, fun h3 s' hv => yes s' (.inr (.inr ?_)) hv, fun h3 s' hv => no s' ?_ ?_ ?_ hv⟩⟩⟩
  ·have := fG h3
   simp at this; exact this
  ·have := of_decide_eq_false h; omega
  ·have := of_decide_eq_false (fG h2); omega
  ·have := fG h3
   simp at this; exact this
 | succ i =>
  refine ak.bk hT dB hm 60 cU Qd (by kernel_rfl) ?_
  refine ⟨fun h => ⟨fun _ => ⟨⟨h, rfl⟩, fun _ s' hv => yes s' (.inl (by have := of_decide_eq_true h; omega)) hv, fun hf => by simp at hf⟩, fun hf => by simp at hf⟩,
   fun h => ⟨fun h2 => ⟨⟨h, h2⟩, fun _ s' hv => yes s' (.inr (.inl (by have := of_decide_eq_true (fG h2); omega))) hv, fun hf => by simp at hf⟩,
    fun h2 => ⟨⟨h, h2⟩, fun h3 s' hv => yes s' (.inr (.inr ?_)) hv, fun h3 s' hv => no s' ?_ ?_ ?_ hv⟩⟩⟩
  ·have := fG h3
   simp at this; exact this
  ·have := of_decide_eq_false h; omega
  ·have := of_decide_eq_false (fG h2); omega
  ·have := fG h3
   simp at this; exact this
theorem Z5 {A B : Nat} (hA : nl A < 2 ^ 40) (hB : nl B < 2 ^ 40) (K : Nat) : aB P vL K [.mag A, .mag B] [] (aH (.mag (A + B)) []) := by
 refine gI hT Rn rfl (of_decide_eq_true (by kernel_rfl)) rfl (fun _ c0 h0 => .down ?_) K []
 refine ak.hole [1,1,1,0,1] (by kernel_rfl) (az.bk hT dB hm 60 cU SI (by kernel_rfl) fun s' hv => bL ?_)
 refine ak.fV (i := 0) (y := fX) (by kernel_rfl) (fun p : Nat × Nat × (Nat → Nat) => ⟨aA cU (jd A B p.2.1 p.1), jl p.2.2 p.1, 8⟩)
  (fun p => (p.1 ≤ max (nl A) (nl B) ∨ (p.1 = max (nl A) (nl B) + 1 ∧ p.2.1 = 0 ∧ 2 ^ (32 * max (nl A) (nl B)) ≤ A + B)) ∧ p.2.1 ≤ 1 ∧ (∀ j, j < p.1 → p.2.2 j < 2 ^ 32) ∧ val p.1 p.2.2 + p.2.1 * 2 ^ (32 * p.1) = val p.1 (aq A) + val p.1 (aq B))
  (fun p => max (nl A) (nl B) + 1 - p.1) (0, 0, fun _ => 0) (kX hv (gN h0) mb mC) ⟨by simp, by simp, fun j hj => by simp only at hj; omega, by simp [val]⟩ ?_
 rintro ⟨i, c, o⟩ ⟨hi, hc, ho, hval⟩
 simp only at hi hc ho hval
 have hAv : max (nl A) (nl B) ≤ i → val i (aq A) + val i (aq B) = A + B := fun h => by
  rw [mm (cu.1 (by omega)), mm (cu.1 (by omega))]
 -- a round
 have body : ∀ {s' : aF}, (i < nl A ∨ i < nl B ∨ c ≠ 0) → aW cU s' = some (jd A B c i, jl o i) → ∀ {QF : ah → aF → Prop},
   ak P c0 fz.ntmps (part fX [1]) s' (cT (fun s' => ∃ k : Nat × Nat × (Nat → Nat), (∃ ρ, Le c0 ρ s' ⟨aA cU (jd A B k.2.1 k.1), jl k.2.2 k.1, 8⟩) ∧
    ((k.1 ≤ max (nl A) (nl B) ∨ (k.1 = max (nl A) (nl B) + 1 ∧ k.2.1 = 0 ∧ 2 ^ (32 * max (nl A) (nl B)) ≤ A + B)) ∧ k.2.1 ≤ 1 ∧ (∀ j, j < k.1 → k.2.2 j < 2 ^ 32) ∧ val k.1 k.2.2 + k.2.1 * 2 ^ (32 * k.1) = val k.1 (aq A) + val k.1 (aq B)) ∧
    max (nl A) (nl B) + 1 - k.1 < max (nl A) (nl B) + 1 - i) QF) := by
  intro s' hcont hv QF
  have hi' : i ≤ max (nl A) (nl B) := by omega
  have la := cG (N := A) (i := i)
  have lb := cG (N := B) (i := i)
  refine ak.hole [0] (by kernel_rfl) ?_
  show ak P c0 fz.ntmps (part fX [1,0]) s' _
  refine ak.mM (i := 1) (y := part fX [1,0,0]) (by kernel_rfl) ?_
  refine ak.hole [1,1] (by kernel_rfl) (RD h0 hc hv fun s' hv => bL (OO h0 (by omega) hv fun s' hle => bL ?_))
  show az P c0 fz.ntmps [part fX [1,1]] s' _
  refine az.weak rfl hle (az.bk hT dB hm 60 cU aba (by kernel_rfl) fun s' hv => bL ?_)
  have hs := A1 (B := 2 ^ (32 * i)) (c := c) (z := aq A i) (y := aq B i) rfl hval
  refine ⟨(i + 1, (c + aq A i + aq B i) / 4294967296, bH o i ((c + aq A i + aq B i) % 4294967296)), kX (cH hv ?_ rfl) (gN h0) mb mC, ⟨?_, by simp only; omega, fun j hj => ?_, ?_⟩, by simp only; omega⟩
  ·rw [dj (a := (i : Int) + 1) (n := i + 1) (by omega) (by omega)]; rfl
  ·simp only
   by_cases h : i < max (nl A) (nl B)
   ·exact .inl (by omega)
   ·have e : i = max (nl A) (nl B) := by omega
    have lA := gp (A := A) (i := i) (by omega)
    have lB := gp (A := B) (i := i) (by omega)
    refine .inr ⟨by omega, by rw [lA, lB]; omega, ?_⟩
    rw [hAv (by omega)] at hval
    have hc1 : c = 1 := by omega
    rw [hc1, Nat.one_mul, e] at hval
    omega
  ·simp only at hj ⊢
   unfold bH
   split
   ·omega
   ·exact ho j (by omega)
  ·simp only
   rw [nQ, val, val, fA]
   omega
 -- the end
 have fin : ∀ {s' : aF}, nl A ≤ i → nl B ≤ i → c = 0 → aW cU s' = some (jd A B c i, jl o i) → az P c0 fz.ntmps (behind (au fz) [1,1,1,0,1]) s' (dD c0 (Fin T fz (.mag (A + B)))) := by
  intro s' h1 h2 h3 hv
  have hsum : val i o = A + B := by rw [hAv (by omega), h3] at hval; omega
  cases i with
  | zero =>
   have : A + B = 0 := by rw [← hsum]; rfl
   refine az.ig hT dB hm 60 hv (gN h0) mb mC U1 (by kernel_rfl) (by kernel_rfl) ?_
   rw [this]
   exact iw
  | succ i =>
   refine az.ig hT dB hm 60 hv (gN h0) mb mC OM (by kernel_rfl) (by kernel_rfl) ?_
   refine iQ ?_ fun j hj => ?_
   ·have l1 : nl (A + B) ≤ i + 1 := cu.2 (by rw [← hsum]; exact eo ho)
    have l2 : ¬ nl (A + B) ≤ i := by
     intro h
     rcases hi with hi | ⟨hi, _, hi2⟩
     ·have := ff (show A ≤ A + B by omega)
      have := ff (show B ≤ A + B by omega)
      omega
     ·rw [cu] at h
      rw [show max (nl A) (nl B) = i by omega] at hi2
      omega
    omega
   ·rw [← hsum, mz ho hj]; rfl
 refine ak.hole [0] (by kernel_rfl) (show ak P c0 fz.ntmps (part fX [0]) _ _ from aa1 (fun s' h hv => bL ?_) fun s' h1 h2 h3 hv => mR (dQ (bL (fin h1 h2 h3 hv))))
 show az P c0 fz.ntmps [part fX [1]] s' _
 exact body h hv
def Dx : Spec := jH (fun A B => .mag (A + B)) Bm
theorem Vg : ∀ K args pre r, Dx K args pre = some r → aB P vL K args pre r := mO fun h => Z5 h.1 h.2
end Go.Am.B
