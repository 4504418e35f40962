/- ref01: Add, minus, Sub, Mul, byLimb. -/
import Derived.Test.YtnocdkaonpdmjaaGreatB22
set_option linter.unusedVariables false
namespace Go.Am.B
open Go Go.Am.N AV
theorem VQ : aN P xC fB (au fB) := aP TK (by kernel_rfl) (by kernel_rfl) (by kernel_rfl)
abbrev de : List Nat := [0, 1, 5, 6, 7]
abbrev ua (A B c i : Nat) : List AV := [.mag A, .mag B, .own 7 1 0 i, .int .u64 c, .int .i64 i]
abbrev k7 (i : Nat) (o : Nat → Nat) : aD := [(7, ⟨true, true, 1, i, aj o⟩)]
noncomputable abbrev gm : Code := part (au fB) [1,1,1,0,1,0,0]
theorem aej {A B : Nat} : aI T dG [] 60 de (before (au fB) [1,1,1,0,1]) ⟨aL 0 [.mag A, .mag B], [], 0⟩ =
  some (aa.leaf ah.normal ([mag A, mag B, nil, int IntKind.u64 (0 : Int), int IntKind.i64 (0 : Int)], [])) := by kernel_rfl
theorem NL {A B c : Nat} : aI T dG [12, 18, 21] 60 de [part gm [0]] ⟨aB de [.mag A, .mag B, .nil, .int .u64 c, .int .i64 0], [], 8⟩ =
  some (aa.fork (decide ((0 : Int) < (↑(nl A) : Int))) (aa.fork true (aa.ag [decide ((0 : Int) < (↑(nl A) : Int)) = true, true = true] (aa.fork true (aa.leaf ah.normal ([mag A, mag B, nil, int IntKind.u64 (↑c : Int), int IntKind.i64 (0 : Int)], [])) (aa.leaf (ah.exit 0) ([mag A, mag B, nil, int IntKind.u64 (↑c : Int), int IntKind.i64 (0 : Int)], [])))) (aa.ag [decide ((0 : Int) < (↑(nl A) : Int)) = true, true = false] (aa.fork (bif false then true else (↑c : Int) != (0 : Int)) (aa.leaf ah.normal ([mag A, mag B, nil, int IntKind.u64 (↑c : Int), int IntKind.i64 (0 : Int)], [])) (aa.leaf (ah.exit 0) ([mag A, mag B, nil, int IntKind.u64 (↑c : Int), int IntKind.i64 (0 : Int)], []))))) (aa.fork (bif false then true else decide ((0 : Int) < (↑(nl B) : Int))) (aa.ag [decide ((0 : Int) < (↑(nl A) : Int)) = false, (bif false then true else decide ((0 : Int) < (↑(nl B) : Int))) = true] (aa.fork true (aa.leaf ah.normal ([mag A, mag B, nil, int IntKind.u64 (↑c : Int), int IntKind.i64 (0 : Int)], [])) (aa.leaf (ah.exit 0) ([mag A, mag B, nil, int IntKind.u64 (↑c : Int), int IntKind.i64 (0 : Int)], [])))) (aa.ag [decide ((0 : Int) < (↑(nl A) : Int)) = false, (bif false then true else decide ((0 : Int) < (↑(nl B) : Int))) = false] (aa.fork (bif false then true else (↑c : Int) != (0 : Int)) (aa.leaf ah.normal ([mag A, mag B, nil, int IntKind.u64 (↑c : Int), int IntKind.i64 (0 : Int)], [])) (aa.leaf (ah.exit 0) ([mag A, mag B, nil, int IntKind.u64 (↑c : Int), int IntKind.i64 (0 : Int)], [])))))) := by kernel_rfl
theorem Qm {A B c i : Nat} {o : Nat → Nat} : aI T dG [12, 18, 21] 60 de [part gm [0]] ⟨aB de (ua A B c i), k7 i o, 8⟩ =
  some (aa.fork (decide ((↑i : Int) < (↑(nl A) : Int))) (aa.fork true (aa.ag [decide ((↑i : Int) < (↑(nl A) : Int)) = true, true = true] (aa.fork true (aa.leaf ah.normal ([mag A, mag B, own 7 1 0 i, int IntKind.u64 (↑c : Int), int IntKind.i64 (↑i : Int)], [((7 : Nat), ⟨true, true, 1, i, aj o⟩)])) (aa.leaf (ah.exit 0) ([mag A, mag B, own 7 1 0 i, int IntKind.u64 (↑c : Int), int IntKind.i64 (↑i : Int)], [((7 : Nat), ⟨true, true, 1, i, aj o⟩)])))) (aa.ag [decide ((↑i : Int) < (↑(nl A) : Int)) = true, true = false] (aa.fork (bif false then true else (↑c : Int) != (0 : Int)) (aa.leaf ah.normal ([mag A, mag B, own 7 1 0 i, int IntKind.u64 (↑c : Int), int IntKind.i64 (↑i : Int)], [((7 : Nat), ⟨true, true, 1, i, aj o⟩)])) (aa.leaf (ah.exit 0) ([mag A, mag B, own 7 1 0 i, int IntKind.u64 (↑c : Int), int IntKind.i64 (↑i : Int)], [((7 : Nat), ⟨true, true, 1, i, aj o⟩)]))))) (aa.fork (bif false then true else decide ((↑i : Int) < (↑(nl B) : Int))) (aa.ag [decide ((↑i : Int) < (↑(nl A) : Int)) = false, (bif false then true else decide ((↑i : Int) < (↑(nl B) : Int))) = true] (aa.fork true (aa.leaf ah.normal ([mag A, mag B, own 7 1 0 i, int IntKind.u64 (↑c : Int), int IntKind.i64 (↑i : Int)], [((7 : Nat), ⟨true, true, 1, i, aj o⟩)])) (aa.leaf (ah.exit 0) ([mag A, mag B, own 7 1 0 i, int IntKind.u64 (↑c : Int), int IntKind.i64 (↑i : Int)], [((7 : Nat), ⟨true, true, 1, i, aj o⟩)])))) (aa.ag [decide ((↑i : Int) < (↑(nl A) : Int)) = false, (bif false then true else decide ((↑i : Int) < (↑(nl B) : Int))) = false] (aa.fork (bif false then true else (↑c : Int) != (0 : Int)) (aa.leaf ah.normal ([mag A, mag B, own 7 1 0 i, int IntKind.u64 (↑c : Int), int IntKind.i64 (↑i : Int)], [((7 : Nat), ⟨true, true, 1, i, aj o⟩)])) (aa.leaf (ah.exit 0) ([mag A, mag B, own 7 1 0 i, int IntKind.u64 (↑c : Int), int IntKind.i64 (↑i : Int)], [((7 : Nat), ⟨true, true, 1, i, aj o⟩)])))))) := by kernel_rfl
theorem acu {A B c : Nat} : aI T dG [27, 38] 60 de (before (part gm [1,0,0]) [1,1]) ⟨aB de [.mag A, .mag B, .nil, .int .u64 c, .int .i64 0], [], 8⟩ =
  some (aa.fork (decide ((0 : Int) < (↑(nl A) : Int))) (aa.ag [(0 : Int) ≤ (0 : Int) ∧ Int.toNat (0 : Int) < nl A] (aa.fork (decide ((0 : Int) < (↑(nl B) : Int))) (aa.ag [(0 : Int) ≤ (0 : Int) ∧ Int.toNat (0 : Int) < nl B] (aa.leaf ah.normal ([mag A, mag B, nil, int IntKind.u64 (IntKind.u64.wrap (IntKind.u64.wrap ((↑c : Int) + IntKind.u64.wrap (↑(ax A (Int.toNat (0 : Int))) : Int)) + IntKind.u64.wrap (↑(ax B (Int.toNat (0 : Int))) : Int))), int IntKind.i64 (0 : Int)], []))) (aa.leaf ah.normal ([mag A, mag B, nil, int IntKind.u64 (IntKind.u64.wrap ((↑c : Int) + IntKind.u64.wrap (↑(ax A (Int.toNat (0 : Int))) : Int))), int IntKind.i64 (0 : Int)], [])))) (aa.fork (decide ((0 : Int) < (↑(nl B) : Int))) (aa.ag [(0 : Int) ≤ (0 : Int) ∧ Int.toNat (0 : Int) < nl B] (aa.leaf ah.normal ([mag A, mag B, nil, int IntKind.u64 (IntKind.u64.wrap ((↑c : Int) + IntKind.u64.wrap (↑(ax B (Int.toNat (0 : Int))) : Int))), int IntKind.i64 (0 : Int)], []))) (aa.leaf ah.normal ([mag A, mag B, nil, int IntKind.u64 (↑c : Int), int IntKind.i64 (0 : Int)], [])))) := by kernel_rfl
theorem NT {A B c i : Nat} {o : Nat → Nat} : aI T dG [27, 38] 60 de (before (part gm [1,0,0]) [1,1]) ⟨aB de (ua A B c i), k7 i o, 8⟩ =
  some (aa.fork (decide ((↑i : Int) < (↑(nl A) : Int))) (aa.ag [(0 : Int) ≤ (↑i : Int) ∧ (↑i : Int).toNat < nl A] (aa.fork (decide ((↑i : Int) < (↑(nl B) : Int))) (aa.ag [(0 : Int) ≤ (↑i : Int) ∧ (↑i : Int).toNat < nl B] (aa.leaf ah.normal ([mag A, mag B, own 7 1 0 i, int IntKind.u64 (IntKind.u64.wrap (IntKind.u64.wrap ((↑c : Int) + IntKind.u64.wrap (↑(ax A (↑i : Int).toNat) : Int)) + IntKind.u64.wrap (↑(ax B (↑i : Int).toNat) : Int))), int IntKind.i64 (↑i : Int)], [((7 : Nat), ⟨true, true, 1, i, aj o⟩)]))) (aa.leaf ah.normal ([mag A, mag B, own 7 1 0 i, int IntKind.u64 (IntKind.u64.wrap ((↑c : Int) + IntKind.u64.wrap (↑(ax A (↑i : Int).toNat) : Int))), int IntKind.i64 (↑i : Int)], [((7 : Nat), ⟨true, true, 1, i, aj o⟩)])))) (aa.fork (decide ((↑i : Int) < (↑(nl B) : Int))) (aa.ag [(0 : Int) ≤ (↑i : Int) ∧ (↑i : Int).toNat < nl B] (aa.leaf ah.normal ([mag A, mag B, own 7 1 0 i, int IntKind.u64 (IntKind.u64.wrap ((↑c : Int) + IntKind.u64.wrap (↑(ax B (↑i : Int).toNat) : Int))), int IntKind.i64 (↑i : Int)], [((7 : Nat), ⟨true, true, 1, i, aj o⟩)]))) (aa.leaf ah.normal ([mag A, mag B, own 7 1 0 i, int IntKind.u64 (↑c : Int), int IntKind.i64 (↑i : Int)], [((7 : Nat), ⟨true, true, 1, i, aj o⟩)])))) := by kernel_rfl
theorem aas {A B c : Nat} : aI T dG [] 60 de [part (part gm [1,0,0]) [1,1]] ⟨aB de [.mag A, .mag B, .nil, .int .u64 c, .int .i64 0], [], 8⟩ =
  some (aa.ag [(1 : Nat) * 1 ≤ 2 ^ 24, (0 : Nat) < 1 ∧ 1 * ((4 : Nat) + 1) * 2 ≤ 2 ^ 47] (aa.ag [(0 : Int) ≤ (32 : Int)] (aa.leaf ah.normal ([mag A, mag B, own 16392 1 0 1, int IntKind.u64 ((↑c : Int).fdiv ((2 : Int) ^ min (Int.toNat (32 : Int)) IntKind.u64.bits)), int IntKind.i64 (0 : Int)], [((16392 : Nat), ⟨true, true, 1, 1, fun (i : Nat) ↦ nth [int IntKind.u32 (IntKind.u32.wrap (↑c : Int))] (int IntKind.u32 (0 : Int)) (i + 0)⟩)])))) := by kernel_rfl
theorem P8 {A B c i : Nat} {o : Nat → Nat} : aI T dG [] 60 de [part (part gm [1,0,0]) [1,1]] ⟨aB de (ua A B c i), k7 i o, 8⟩ =
  some (aa.ag [(1 : Nat) * 1 ≤ 2 ^ 24, (i + 1) * ((4 : Nat) + 1) * 2 ≤ 2 ^ 47] (aa.ag [(0 : Int) ≤ (32 : Int)] (aa.leaf ah.normal ([mag A, mag B, own 16392 1 0 (i + 1), int IntKind.u64 ((↑c : Int).fdiv ((2 : Int) ^ min (Int.toNat (32 : Int)) IntKind.u64.bits)), int IntKind.i64 (↑i : Int)], [((16392 : Nat), ⟨true, true, 1, i + 1, fun (i_1 : Nat) ↦ if i_1 < i then aj o i_1 else nth [int IntKind.u32 (IntKind.u32.wrap (↑c : Int))] (int IntKind.u32 (0 : Int)) (i_1 - i + 0)⟩)])))) := by kernel_rfl
theorem MF {A B c i j : Nat} {o : Nat → Nat} : aI T dG [] 60 de [part gm [1,1]] ⟨aB de [.mag A, .mag B, .own 7 1 0 i, .int .u64 c, .int .i64 j], k7 i o, 8⟩ =
  some (aa.leaf ah.normal ([mag A, mag B, own 7 1 0 i, int IntKind.u64 (↑c : Int), int IntKind.i64 (IntKind.i64.wrap ((↑j : Int) + (1 : Int)))], [((7 : Nat), ⟨true, true, 1, i, aj o⟩)])) := by kernel_rfl
theorem Yi {A B c : Nat} : b9 T dG [] 60 fB (behind (au fB) [1,1,1,0,1]) ⟨aB de [.mag A, .mag B, .nil, .int .u64 c, .int .i64 0], [], 8⟩ =
  some (aa.leaf ah.ret [nil]) := by kernel_rfl
theorem Oy {A B c i : Nat} {o : Nat → Nat} : b9 T dG [] 60 fB (behind (au fB) [1,1,1,0,1]) ⟨aB de (ua A B c i), k7 i o, 8⟩ =
  some (aa.leaf ah.ret [ak 1 i fun (i : Nat) ↦ aj o (i + 0)]) := by kernel_rfl
theorem gy {A i : Nat} (h : nl A ≤ i) : ax A i = 0 := by
 unfold ax
 rw [Nat.div_eq_of_lt (cA.1 h)]
def jS (A B c : Nat) : Nat → List AV
 | 0 => [.mag A, .mag B, .nil, .int .u64 c, .int .i64 0]
 | i + 1 => ua A B c (i + 1)
def jM (o : Nat → Nat) : Nat → aD
 | 0 => []
 | i + 1 => k7 (i + 1) o
theorem me {A B c i : Nat} : gC 8 (jS A B c i) = true := by cases i <;> rfl
theorem mI {o : Nat → Nat} {i : Nat} : fe 8 (jM o i) := by
 cases i
 ·trivial
 ·exact ⟨⟨by omega, fun _ _ => rfl⟩, trivial⟩
section fadd
variable {c0 : Ctx} (h0 : c0.k0 = aX) {A B : Nat} {Q : ah → aE → Prop}
include h0 in
theorem Uw {c i : Nat} {o : Nat → Nat} {s' : aE} (hc : c ≤ 1) (hv : aV de s' = some (jS A B c i, jM o i))
  (fin : ∀ s', aV de s' = some (jS A B (c + ax A i + ax B i) i, jM o i) → Q .normal s') : aC P c0 fB.ntmps (before (part gm [1,0,0]) [1,1]) s' Q := by
 have la := cJ (N := A) (i := i)
 have lb := cJ (N := B) (i := i)
 have wa : IntKind.u64.wrap (ax A i : Int) = ((ax A i : Nat) : Int) := wrap_u64 (by omega) (by omega)
 have wb : IntKind.u64.wrap (ax B i : Int) = ((ax B i : Nat) : Int) := wrap_u64 (by omega) (by omega)
 have w1 : IntKind.u64.wrap ((c : Int) + ((ax A i : Nat) : Int)) = ((c + ax A i : Nat) : Int) := by rw [wrap_u64 (by omega) (by omega)]; omega
 have w2 : IntKind.u64.wrap ((c : Int) + ((ax B i : Nat) : Int)) = ((c + ax B i : Nat) : Int) := by rw [wrap_u64 (by omega) (by omega)]; omega
 have w3 : IntKind.u64.wrap (((c + ax A i : Nat) : Int) + ((ax B i : Nat) : Int)) = ((c + ax A i + ax B i : Nat) : Int) := by rw [wrap_u64 (by omega) (by omega)]; omega
 cases i with
 | zero =>
  refine aC.dQ hT dM hm 60 hv (iy h0) me mI de acu (by kernel_rfl) (by kernel_rfl) ?_
  simp only [aa.all, ay, decide_eq_true_eq, decide_eq_false_iff_not, Int.toNat_zero]
  rw [wa, wb, w1, w2, w3]
  refine ⟨fun h1 => ⟨by omega, fun h2 => ⟨by omega, fun s' hv => fin s' hv⟩, fun h2 s' hv => fin s' (cN hv ?_ rfl)⟩, fun h1 => ⟨fun h2 => ⟨by omega, fun s' hv => fin s' (cN hv ?_ rfl)⟩, fun h2 s' hv => fin s' (cN hv ?_ rfl)⟩⟩
  ·rw [gy (A := B) (by omega)]; rfl
  ·rw [gy (A := A) (by omega)]; rfl
  ·rw [gy (A := A) (by omega), gy (A := B) (by omega)]; rfl
 | succ i =>
  refine aC.dQ hT dM hm 60 hv (iy h0) me mI de NT (by kernel_rfl) (by kernel_rfl) ?_
  simp only [aa.all, ay, decide_eq_true_eq, decide_eq_false_iff_not, Int.toNat_natCast]
  rw [wa, wb, w1, w2, w3]
  refine ⟨fun h1 => ⟨by omega, fun h2 => ⟨by omega, fun s' hv => fin s' hv⟩, fun h2 s' hv => fin s' (cN hv ?_ rfl)⟩, fun h1 => ⟨fun h2 => ⟨by omega, fun s' hv => fin s' (cN hv ?_ rfl)⟩, fun h2 s' hv => fin s' (cN hv ?_ rfl)⟩⟩
  ·rw [gy (A := B) (by omega)]; rfl
  ·rw [gy (A := A) (by omega)]; rfl
  ·rw [gy (A := A) (by omega), gy (A := B) (by omega)]; rfl
include h0 in
theorem Yd {c i : Nat} {o : Nat → Nat} {s' : aE} (hi : i < 2 ^ 41) (hv : aV de s' = some (jS A B c i, jM o i))
  (fin : ∀ s', (∃ ρ, Le c0 ρ s' ⟨aB de [.mag A, .mag B, .own 7 1 0 (i + 1), .int .u64 (c / 4294967296 : Nat), .int .i64 i], k7 (i + 1) (bJ o i (c % 4294967296)), 8⟩) → Q .normal s') : aq P c0 fB.ntmps (part (part gm [1,0,0]) [1,1]) s' Q := by
 have hd : (c : Int).fdiv (2 ^ min (Int.toNat 32) IntKind.u64.bits) = ((c / 4294967296 : Nat) : Int) := by rw [jq]; omega
 cases i with
 | zero =>
  refine aq.dQ hT dM hm 60 hv (iy h0) me mI de aas (by kernel_rfl) ?_
  rw [hd]
  simp only [aa.all, ay]
  refine ⟨⟨by omega, by omega, by omega⟩, by omega, fun s' hv => fin s' ?_⟩
  refine cB (vs := [.mag A, .mag B, .own 7 1 0 1, .int .u64 (c / 4294967296 : Nat), .int .i64 0]) (ps := k7 1 (bJ o 0 (c % 4294967296))) (nx := 8) [(7, 16392)] hv h0 rfl ⟨⟨rfl, aH rfl⟩, ⟨rfl, aH rfl⟩, ⟨rfl, cF rfl rfl rfl⟩, ⟨rfl, aH rfl⟩, ⟨rfl, aH rfl⟩, trivial⟩
   ⟨⟨_, _, rfl, rfl, ee rfl fun j hj => ?_⟩, trivial⟩
  have : j = 0 := by omega
  subst this
  simp [nth, aj, iD, gU]
 | succ i =>
  refine aq.dQ hT dM hm 60 hv (iy h0) me mI de P8 (by kernel_rfl) ?_
  rw [hd]
  simp only [aa.all, ay]
  refine ⟨⟨by omega, by omega⟩, by omega, fun s' hv => fin s' ?_⟩
  refine cB (vs := [.mag A, .mag B, .own 7 1 0 (i + 1 + 1), .int .u64 (c / 4294967296 : Nat), .int .i64 ((i + 1 : Nat) : Int)]) (ps := k7 (i + 1 + 1) (bJ o (i + 1) (c % 4294967296))) (nx := 8) [(7, 16392)] hv h0 rfl ⟨⟨rfl, aH rfl⟩, ⟨rfl, aH rfl⟩, ⟨rfl, cF rfl rfl rfl⟩, ⟨rfl, aH rfl⟩, ⟨rfl, aH rfl⟩, trivial⟩
   ⟨⟨_, _, rfl, rfl, ee rfl fun j hj => ?_⟩, trivial⟩
  by_cases h : j < i + 1
  ·rw [if_pos h]; unfold aj; rw [ej (by omega)]
  ·have : j = i + 1 := by omega
   subst this
   simp [nth, aj, iD, gU]
end fadd
theorem Sy {c i : Nat} {o : Nat → Nat} {c0 : Ctx} {Q : ah → aE → Prop} {A B : Nat} (yes : ∀ s', (i < nl A ∨ i < nl B ∨ c ≠ 0) → aV de s' = some (jS A B c i, jM o i) → Q .normal s')
  (no : ∀ s', nl A ≤ i → nl B ≤ i → c = 0 → aV de s' = some (jS A B c i, jM o i) → Q (.exit 0) s') : aq P c0 fB.ntmps (part gm [0]) ⟨aB de (jS A B c i), jM o i, 8⟩ Q := by
 cases i with
 | zero =>
  refine aq.aZ hT dM hm 60 de NL (by kernel_rfl) ?_
  refine ⟨fun h => ⟨fun _ => ⟨⟨h, rfl⟩, fun _ s' hv => yes s' (.inl (by have := of_decide_eq_true h; omega)) hv, fun hf => by simp at hf⟩, fun hf => by simp at hf⟩,
   fun h => ⟨fun h2 => ⟨⟨h, h2⟩, fun _ s' hv => yes s' (.inr (.inl (by have := of_decide_eq_true (fD h2); omega))) hv, fun hf => by simp at hf⟩,
    fun h2 => ⟨⟨h, h2⟩, fun h3 s' hv => yes s' (.inr (.inr ?_)) hv, fun h3 s' hv => no s' ?_ ?_ ?_ hv⟩⟩⟩
  ·have := fD h3
   simp at this; exact this
  ·have := of_decide_eq_false h; omega
  ·have := of_decide_eq_false (fD h2); omega
  ·have := fD h3
   simp at this; exact this
 | succ i =>
  refine aq.aZ hT dM hm 60 de Qm (by kernel_rfl) ?_
  refine ⟨fun h => ⟨fun _ => ⟨⟨h, rfl⟩, fun _ s' hv => yes s' (.inl (by have := of_decide_eq_true h; omega)) hv, fun hf => by simp at hf⟩, fun hf => by simp at hf⟩,
   fun h => ⟨fun h2 => ⟨⟨h, h2⟩, fun _ s' hv => yes s' (.inr (.inl (by have := of_decide_eq_true (fD h2); omega))) hv, fun hf => by simp at hf⟩,
    fun h2 => ⟨⟨h, h2⟩, fun h3 s' hv => yes s' (.inr (.inr ?_)) hv, fun h3 s' hv => no s' ?_ ?_ ?_ hv⟩⟩⟩
  ·have := fD h3
   simp at this; exact this
  ·have := of_decide_eq_false h; omega
  ·have := of_decide_eq_false (fD h2); omega
  ·have := fD h3
   simp at this; exact this
theorem ZW {A B : Nat} (hA : nl A < 2 ^ 40) (hB : nl B < 2 ^ 40) (K : Nat) : aA P xC K [.mag A, .mag B] [] (aG (.mag (A + B)) []) := by
 refine gZ hT VQ rfl (of_decide_eq_true (by kernel_rfl)) rfl (fun _ c0 h0 => .down ?_) K []
 refine aq.hole [1,1,1,0,1] (by kernel_rfl) (aC.aZ hT dM hm 60 de aej (by kernel_rfl) fun s' hv => bP ?_)
 refine aq.gh (i := 0) (y := gm) (by kernel_rfl) (fun p : Nat × Nat × (Nat → Nat) => ⟨aB de (jS A B p.2.1 p.1), jM p.2.2 p.1, 8⟩)
  (fun p => (p.1 ≤ max (nl A) (nl B) ∨ (p.1 = max (nl A) (nl B) + 1 ∧ p.2.1 = 0 ∧ 2 ^ (32 * max (nl A) (nl B)) ≤ A + B)) ∧ p.2.1 ≤ 1 ∧ (∀ j, j < p.1 → p.2.2 j < 2 ^ 32) ∧ val p.1 p.2.2 + p.2.1 * 2 ^ (32 * p.1) = val p.1 (ax A) + val p.1 (ax B))
  (fun p => max (nl A) (nl B) + 1 - p.1) (0, 0, fun _ => 0) (kH hv (iy h0) me mI) ⟨by simp, by simp, fun j hj => by simp only at hj; omega, by simp [val]⟩ ?_
 rintro ⟨i, c, o⟩ ⟨hi, hc, ho, hval⟩
 simp only at hi hc ho hval
 have hAv : max (nl A) (nl B) ≤ i → val i (ax A) + val i (ax B) = A + B := fun h => by
  rw [ny (cA.1 (by omega)), ny (cA.1 (by omega))]
 -- a round
 have body : ∀ {s' : aE}, (i < nl A ∨ i < nl B ∨ c ≠ 0) → aV de s' = some (jS A B c i, jM o i) → ∀ {QF : ah → aE → Prop},
   aq P c0 fB.ntmps (part gm [1]) s' (cX (fun s' => ∃ k : Nat × Nat × (Nat → Nat), (∃ ρ, Le c0 ρ s' ⟨aB de (jS A B k.2.1 k.1), jM k.2.2 k.1, 8⟩) ∧
    ((k.1 ≤ max (nl A) (nl B) ∨ (k.1 = max (nl A) (nl B) + 1 ∧ k.2.1 = 0 ∧ 2 ^ (32 * max (nl A) (nl B)) ≤ A + B)) ∧ k.2.1 ≤ 1 ∧ (∀ j, j < k.1 → k.2.2 j < 2 ^ 32) ∧ val k.1 k.2.2 + k.2.1 * 2 ^ (32 * k.1) = val k.1 (ax A) + val k.1 (ax B)) ∧
    max (nl A) (nl B) + 1 - k.1 < max (nl A) (nl B) + 1 - i) QF) := by
  intro s' hcont hv QF
  have hi' : i ≤ max (nl A) (nl B) := by omega
  have la := cJ (N := A) (i := i)
  have lb := cJ (N := B) (i := i)
  refine aq.hole [0] (by kernel_rfl) ?_
  show aq P c0 fB.ntmps (part gm [1,0]) s' _
  refine aq.m8 (i := 1) (y := part gm [1,0,0]) (by kernel_rfl) ?_
  refine aq.hole [1,1] (by kernel_rfl) (Uw h0 hc hv fun s' hv => bP (Yd h0 (by omega) hv fun s' hle => bP ?_))
  show aC P c0 fB.ntmps [part gm [1,1]] s' _
  refine aC.weak rfl hle (aC.aZ hT dM hm 60 de MF (by kernel_rfl) fun s' hv => bP ?_)
  have hs := B0 (B := 2 ^ (32 * i)) (c := c) (z := ax A i) (y := ax B i) rfl hval
  refine ⟨(i + 1, (c + ax A i + ax B i) / 4294967296, bJ o i ((c + ax A i + ax B i) % 4294967296)), kH (cN hv ?_ rfl) (iy h0) me mI, ⟨?_, by simp only; omega, fun j hj => ?_, ?_⟩, by simp only; omega⟩
  ·rw [dr (a := (i : Int) + 1) (n := i + 1) (by omega) (by omega)]; rfl
  ·simp only
   by_cases h : i < max (nl A) (nl B)
   ·exact .inl (by omega)
   ·have e : i = max (nl A) (nl B) := by omega
    have lA := gy (A := A) (i := i) (by omega)
    have lB := gy (A := B) (i := i) (by omega)
    refine .inr ⟨by omega, by rw [lA, lB]; omega, ?_⟩
    rw [hAv (by omega)] at hval
    have hc1 : c = 1 := by omega
    rw [hc1, Nat.one_mul, e] at hval
    omega
  ·simp only at hj ⊢
   unfold bJ
   split
   ·omega
   ·exact ho j (by omega)
  ·simp only
   rw [ou, val, val, fu]
   omega
 -- the end
 have fin : ∀ {s' : aE}, nl A ≤ i → nl B ≤ i → c = 0 → aV de s' = some (jS A B c i, jM o i) → aC P c0 fB.ntmps (behind (au fB) [1,1,1,0,1]) s' (dh c0 (Fin T fB (.mag (A + B)))) := by
  intro s' h1 h2 h3 hv
  have hsum : val i o = A + B := by rw [hAv (by omega), h3] at hval; omega
  cases i with
  | zero =>
   have : A + B = 0 := by rw [← hsum]; rfl
   refine aC.iE hT dM hm 60 hv (iy h0) me mI Yi (by kernel_rfl) (by kernel_rfl) ?_
   rw [this]
   exact iP
  | succ i =>
   refine aC.iE hT dM hm 60 hv (iy h0) me mI Oy (by kernel_rfl) (by kernel_rfl) ?_
   refine jh ?_ fun j hj => ?_
   ·have l1 : nl (A + B) ≤ i + 1 := cA.2 (by rw [← hsum]; exact eo ho)
    have l2 : ¬ nl (A + B) ≤ i := by
     intro h
     rcases hi with hi | ⟨hi, _, hi2⟩
     ·have := fC (show A ≤ A + B by omega)
      have := fC (show B ≤ A + B by omega)
      omega
     ·rw [cA] at h
      rw [show max (nl A) (nl B) = i by omega] at hi2
      omega
    omega
   ·rw [← hsum, mD ho hj]; rfl
 refine aq.hole [0] (by kernel_rfl) (show aq P c0 fB.ntmps (part gm [0]) _ _ from Sy (fun s' h hv => bP ?_) fun s' h1 h2 h3 hv => oQ (dS (bP (fin h1 h2 h3 hv))))
 show aC P c0 fB.ntmps [part gm [1]] s' _
 exact body h hv
def Il : Spec := kO (fun A B => .mag (A + B)) Ez
theorem abe : ∀ K args pre r, Il K args pre = some r → aA P xC K args pre r := nh fun h => ZW h.1 h.2
end Go.Am.B
