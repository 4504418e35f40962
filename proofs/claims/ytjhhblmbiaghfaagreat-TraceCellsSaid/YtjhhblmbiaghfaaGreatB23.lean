/- ref01: Add, minus, Sub, Mul, byLimb. -/
import Derived.Test.YtjhhblmbiaghfaaGreatB22
set_option linter.unusedVariables false
namespace Go.Am.B
open Go Go.Am.N AV
theorem WN : aO P ug fu (ax fu) := aP Tj (by kernel_rfl) (by kernel_rfl) (by kernel_rfl)
abbrev cY : List Nat := [0, 1, 5, 6, 7]
abbrev tD (A B c i : Nat) : List AV := [.mag A, .mag B, .own 7 1 0 i, .int .u64 c, .int .i64 i]
abbrev kz (i : Nat) (o : Nat → Nat) : aB := [(7, ⟨true, true, 1, i, aj o⟩)]
noncomputable abbrev gi : Code := part (ax fu) [1,1,1,0,1,0,0]
theorem RS {A B : Nat} : aF T dw [] 60 cY (before (ax fu) [1,1,1,0,1]) ⟨aN 0 [.mag A, .mag B], [], 0⟩ =
  some (af.leaf ak.normal ([mag A, mag B, nil, int IntKind.u64 (0 : Int), int IntKind.i64 (0 : Int)], [])) := by kernel_rfl
theorem We {A B c : Nat} : aF T dw [12, 18, 21] 60 cY [part gi [0]] ⟨az cY [.mag A, .mag B, .nil, .int .u64 c, .int .i64 0], [], 8⟩ =
  some (af.fork (decide ((0 : Int) < (↑(nl A) : Int))) (af.fork true (af.ag [decide ((0 : Int) < (↑(nl A) : Int)) = true, true = true] (af.fork true (af.leaf ak.normal ([mag A, mag B, nil, int IntKind.u64 (↑c : Int), int IntKind.i64 (0 : Int)], [])) (af.leaf (ak.exit 0) ([mag A, mag B, nil, int IntKind.u64 (↑c : Int), int IntKind.i64 (0 : Int)], [])))) (af.ag [decide ((0 : Int) < (↑(nl A) : Int)) = true, true = false] (af.fork (bif false then true else (↑c : Int) != (0 : Int)) (af.leaf ak.normal ([mag A, mag B, nil, int IntKind.u64 (↑c : Int), int IntKind.i64 (0 : Int)], [])) (af.leaf (ak.exit 0) ([mag A, mag B, nil, int IntKind.u64 (↑c : Int), int IntKind.i64 (0 : Int)], []))))) (af.fork (bif false then true else decide ((0 : Int) < (↑(nl B) : Int))) (af.ag [decide ((0 : Int) < (↑(nl A) : Int)) = false, (bif false then true else decide ((0 : Int) < (↑(nl B) : Int))) = true] (af.fork true (af.leaf ak.normal ([mag A, mag B, nil, int IntKind.u64 (↑c : Int), int IntKind.i64 (0 : Int)], [])) (af.leaf (ak.exit 0) ([mag A, mag B, nil, int IntKind.u64 (↑c : Int), int IntKind.i64 (0 : Int)], [])))) (af.ag [decide ((0 : Int) < (↑(nl A) : Int)) = false, (bif false then true else decide ((0 : Int) < (↑(nl B) : Int))) = false] (af.fork (bif false then true else (↑c : Int) != (0 : Int)) (af.leaf ak.normal ([mag A, mag B, nil, int IntKind.u64 (↑c : Int), int IntKind.i64 (0 : Int)], [])) (af.leaf (ak.exit 0) ([mag A, mag B, nil, int IntKind.u64 (↑c : Int), int IntKind.i64 (0 : Int)], [])))))) := by kernel_rfl
theorem Pr {A B c i : Nat} {o : Nat → Nat} : aF T dw [12, 18, 21] 60 cY [part gi [0]] ⟨az cY (tD A B c i), kz i o, 8⟩ =
  some (af.fork (decide ((↑i : Int) < (↑(nl A) : Int))) (af.fork true (af.ag [decide ((↑i : Int) < (↑(nl A) : Int)) = true, true = true] (af.fork true (af.leaf ak.normal ([mag A, mag B, own 7 1 0 i, int IntKind.u64 (↑c : Int), int IntKind.i64 (↑i : Int)], [((7 : Nat), ⟨true, true, 1, i, aj o⟩)])) (af.leaf (ak.exit 0) ([mag A, mag B, own 7 1 0 i, int IntKind.u64 (↑c : Int), int IntKind.i64 (↑i : Int)], [((7 : Nat), ⟨true, true, 1, i, aj o⟩)])))) (af.ag [decide ((↑i : Int) < (↑(nl A) : Int)) = true, true = false] (af.fork (bif false then true else (↑c : Int) != (0 : Int)) (af.leaf ak.normal ([mag A, mag B, own 7 1 0 i, int IntKind.u64 (↑c : Int), int IntKind.i64 (↑i : Int)], [((7 : Nat), ⟨true, true, 1, i, aj o⟩)])) (af.leaf (ak.exit 0) ([mag A, mag B, own 7 1 0 i, int IntKind.u64 (↑c : Int), int IntKind.i64 (↑i : Int)], [((7 : Nat), ⟨true, true, 1, i, aj o⟩)]))))) (af.fork (bif false then true else decide ((↑i : Int) < (↑(nl B) : Int))) (af.ag [decide ((↑i : Int) < (↑(nl A) : Int)) = false, (bif false then true else decide ((↑i : Int) < (↑(nl B) : Int))) = true] (af.fork true (af.leaf ak.normal ([mag A, mag B, own 7 1 0 i, int IntKind.u64 (↑c : Int), int IntKind.i64 (↑i : Int)], [((7 : Nat), ⟨true, true, 1, i, aj o⟩)])) (af.leaf (ak.exit 0) ([mag A, mag B, own 7 1 0 i, int IntKind.u64 (↑c : Int), int IntKind.i64 (↑i : Int)], [((7 : Nat), ⟨true, true, 1, i, aj o⟩)])))) (af.ag [decide ((↑i : Int) < (↑(nl A) : Int)) = false, (bif false then true else decide ((↑i : Int) < (↑(nl B) : Int))) = false] (af.fork (bif false then true else (↑c : Int) != (0 : Int)) (af.leaf ak.normal ([mag A, mag B, own 7 1 0 i, int IntKind.u64 (↑c : Int), int IntKind.i64 (↑i : Int)], [((7 : Nat), ⟨true, true, 1, i, aj o⟩)])) (af.leaf (ak.exit 0) ([mag A, mag B, own 7 1 0 i, int IntKind.u64 (↑c : Int), int IntKind.i64 (↑i : Int)], [((7 : Nat), ⟨true, true, 1, i, aj o⟩)])))))) := by kernel_rfl
theorem LU {A B c : Nat} : aF T dw [27, 38] 60 cY (before (part gi [1,0,0]) [1,1]) ⟨az cY [.mag A, .mag B, .nil, .int .u64 c, .int .i64 0], [], 8⟩ =
  some (af.fork (decide ((0 : Int) < (↑(nl A) : Int))) (af.ag [(0 : Int) ≤ (0 : Int) ∧ Int.toNat (0 : Int) < nl A] (af.fork (decide ((0 : Int) < (↑(nl B) : Int))) (af.ag [(0 : Int) ≤ (0 : Int) ∧ Int.toNat (0 : Int) < nl B] (af.leaf ak.normal ([mag A, mag B, nil, int IntKind.u64 (IntKind.u64.wrap (IntKind.u64.wrap ((↑c : Int) + IntKind.u64.wrap (↑(au A (Int.toNat (0 : Int))) : Int)) + IntKind.u64.wrap (↑(au B (Int.toNat (0 : Int))) : Int))), int IntKind.i64 (0 : Int)], []))) (af.leaf ak.normal ([mag A, mag B, nil, int IntKind.u64 (IntKind.u64.wrap ((↑c : Int) + IntKind.u64.wrap (↑(au A (Int.toNat (0 : Int))) : Int))), int IntKind.i64 (0 : Int)], [])))) (af.fork (decide ((0 : Int) < (↑(nl B) : Int))) (af.ag [(0 : Int) ≤ (0 : Int) ∧ Int.toNat (0 : Int) < nl B] (af.leaf ak.normal ([mag A, mag B, nil, int IntKind.u64 (IntKind.u64.wrap ((↑c : Int) + IntKind.u64.wrap (↑(au B (Int.toNat (0 : Int))) : Int))), int IntKind.i64 (0 : Int)], []))) (af.leaf ak.normal ([mag A, mag B, nil, int IntKind.u64 (↑c : Int), int IntKind.i64 (0 : Int)], [])))) := by kernel_rfl
theorem Z1 {A B c i : Nat} {o : Nat → Nat} : aF T dw [27, 38] 60 cY (before (part gi [1,0,0]) [1,1]) ⟨az cY (tD A B c i), kz i o, 8⟩ =
  some (af.fork (decide ((↑i : Int) < (↑(nl A) : Int))) (af.ag [(0 : Int) ≤ (↑i : Int) ∧ (↑i : Int).toNat < nl A] (af.fork (decide ((↑i : Int) < (↑(nl B) : Int))) (af.ag [(0 : Int) ≤ (↑i : Int) ∧ (↑i : Int).toNat < nl B] (af.leaf ak.normal ([mag A, mag B, own 7 1 0 i, int IntKind.u64 (IntKind.u64.wrap (IntKind.u64.wrap ((↑c : Int) + IntKind.u64.wrap (↑(au A (↑i : Int).toNat) : Int)) + IntKind.u64.wrap (↑(au B (↑i : Int).toNat) : Int))), int IntKind.i64 (↑i : Int)], [((7 : Nat), ⟨true, true, 1, i, aj o⟩)]))) (af.leaf ak.normal ([mag A, mag B, own 7 1 0 i, int IntKind.u64 (IntKind.u64.wrap ((↑c : Int) + IntKind.u64.wrap (↑(au A (↑i : Int).toNat) : Int))), int IntKind.i64 (↑i : Int)], [((7 : Nat), ⟨true, true, 1, i, aj o⟩)])))) (af.fork (decide ((↑i : Int) < (↑(nl B) : Int))) (af.ag [(0 : Int) ≤ (↑i : Int) ∧ (↑i : Int).toNat < nl B] (af.leaf ak.normal ([mag A, mag B, own 7 1 0 i, int IntKind.u64 (IntKind.u64.wrap ((↑c : Int) + IntKind.u64.wrap (↑(au B (↑i : Int).toNat) : Int))), int IntKind.i64 (↑i : Int)], [((7 : Nat), ⟨true, true, 1, i, aj o⟩)]))) (af.leaf ak.normal ([mag A, mag B, own 7 1 0 i, int IntKind.u64 (↑c : Int), int IntKind.i64 (↑i : Int)], [((7 : Nat), ⟨true, true, 1, i, aj o⟩)])))) := by kernel_rfl
theorem OK {A B c : Nat} : aF T dw [] 60 cY [part (part gi [1,0,0]) [1,1]] ⟨az cY [.mag A, .mag B, .nil, .int .u64 c, .int .i64 0], [], 8⟩ =
  some (af.ag [(1 : Nat) * 1 ≤ 2 ^ 24, (0 : Nat) < 1 ∧ 1 * ((4 : Nat) + 1) * 2 ≤ 2 ^ 47] (af.ag [(0 : Int) ≤ (32 : Int)] (af.leaf ak.normal ([mag A, mag B, own 16392 1 0 1, int IntKind.u64 ((↑c : Int).fdiv ((2 : Int) ^ min (Int.toNat (32 : Int)) IntKind.u64.bits)), int IntKind.i64 (0 : Int)], [((16392 : Nat), ⟨true, true, 1, 1, fun (i : Nat) ↦ nth [int IntKind.u32 (IntKind.u32.wrap (↑c : Int))] (int IntKind.u32 (0 : Int)) (i + 0)⟩)])))) := by kernel_rfl
theorem NR {A B c i : Nat} {o : Nat → Nat} : aF T dw [] 60 cY [part (part gi [1,0,0]) [1,1]] ⟨az cY (tD A B c i), kz i o, 8⟩ =
  some (af.ag [(1 : Nat) * 1 ≤ 2 ^ 24, (i + 1) * ((4 : Nat) + 1) * 2 ≤ 2 ^ 47] (af.ag [(0 : Int) ≤ (32 : Int)] (af.leaf ak.normal ([mag A, mag B, own 16392 1 0 (i + 1), int IntKind.u64 ((↑c : Int).fdiv ((2 : Int) ^ min (Int.toNat (32 : Int)) IntKind.u64.bits)), int IntKind.i64 (↑i : Int)], [((16392 : Nat), ⟨true, true, 1, i + 1, fun (i_1 : Nat) ↦ if i_1 < i then aj o i_1 else nth [int IntKind.u32 (IntKind.u32.wrap (↑c : Int))] (int IntKind.u32 (0 : Int)) (i_1 - i + 0)⟩)])))) := by kernel_rfl
theorem JU {A B c i j : Nat} {o : Nat → Nat} : aF T dw [] 60 cY [part gi [1,1]] ⟨az cY [.mag A, .mag B, .own 7 1 0 i, .int .u64 c, .int .i64 j], kz i o, 8⟩ =
  some (af.leaf ak.normal ([mag A, mag B, own 7 1 0 i, int IntKind.u64 (↑c : Int), int IntKind.i64 (IntKind.i64.wrap ((↑j : Int) + (1 : Int)))], [((7 : Nat), ⟨true, true, 1, i, aj o⟩)])) := by kernel_rfl
theorem Lg {A B c : Nat} : b9 T dw [] 60 fu (behind (ax fu) [1,1,1,0,1]) ⟨az cY [.mag A, .mag B, .nil, .int .u64 c, .int .i64 0], [], 8⟩ =
  some (af.leaf ak.ret [nil]) := by kernel_rfl
theorem V0 {A B c i : Nat} {o : Nat → Nat} : b9 T dw [] 60 fu (behind (ax fu) [1,1,1,0,1]) ⟨az cY (tD A B c i), kz i o, 8⟩ =
  some (af.leaf ak.ret [ah 1 i fun (i : Nat) ↦ aj o (i + 0)]) := by kernel_rfl
theorem gq {A i : Nat} (h : nl A ≤ i) : au A i = 0 := by
 unfold au
 rw [Nat.div_eq_of_lt (cw.1 h)]
def jz (A B c : Nat) : Nat → List AV
 | 0 => [.mag A, .mag B, .nil, .int .u64 c, .int .i64 0]
 | i + 1 => tD A B c (i + 1)
def jd (o : Nat → Nat) : Nat → aB
 | 0 => []
 | i + 1 => kz (i + 1) o
theorem l9 {A B c i : Nat} : gD 8 (jz A B c i) = true := by cases i <;> rfl
theorem lH {o : Nat → Nat} {i : Nat} : fe 8 (jd o i) := by
 cases i
 ·trivial
 ·exact ⟨⟨by omega, fun _ _ => rfl⟩, trivial⟩
section fadd
variable {c0 : Ctx} (h0 : c0.k0 = aR) {A B : Nat} {Q : ak → aE → Prop}
include h0 in
theorem U7 {c i : Nat} {o : Nat → Nat} {s' : aE} (hc : c ≤ 1) (hv : aQ cY s' = some (jz A B c i, jd o i))
  (fin : ∀ s', aQ cY s' = some (jz A B (c + au A i + au B i) i, jd o i) → Q .normal s') : aA P c0 fu.ntmps (before (part gi [1,0,0]) [1,1]) s' Q := by
 have la := cE (N := A) (i := i)
 have lb := cE (N := B) (i := i)
 have wa : IntKind.u64.wrap (au A i : Int) = ((au A i : Nat) : Int) := bA (by omega) (by omega)
 have wb : IntKind.u64.wrap (au B i : Int) = ((au B i : Nat) : Int) := bA (by omega) (by omega)
 have w1 : IntKind.u64.wrap ((c : Int) + ((au A i : Nat) : Int)) = ((c + au A i : Nat) : Int) := by rw [bA (by omega) (by omega)]; omega
 have w2 : IntKind.u64.wrap ((c : Int) + ((au B i : Nat) : Int)) = ((c + au B i : Nat) : Int) := by rw [bA (by omega) (by omega)]; omega
 have w3 : IntKind.u64.wrap (((c + au A i : Nat) : Int) + ((au B i : Nat) : Int)) = ((c + au A i + au B i : Nat) : Int) := by rw [bA (by omega) (by omega)]; omega
 cases i with
 | zero =>
  refine aA.dB hT dx hm 60 hv (gT h0) l9 lH cY LU (by kernel_rfl) (by kernel_rfl) ?_
  simp only [af.all, ay, decide_eq_true_eq, decide_eq_false_iff_not, Int.toNat_zero]
  rw [wa, wb, w1, w2, w3]
  refine ⟨fun h1 => ⟨by omega, fun h2 => ⟨by omega, fun s' hv => fin s' hv⟩, fun h2 s' hv => fin s' (cG hv ?_ rfl)⟩, fun h1 => ⟨fun h2 => ⟨by omega, fun s' hv => fin s' (cG hv ?_ rfl)⟩, fun h2 s' hv => fin s' (cG hv ?_ rfl)⟩⟩
  ·rw [gq (A := B) (by omega)]; rfl
  ·rw [gq (A := A) (by omega)]; rfl
  ·rw [gq (A := A) (by omega), gq (A := B) (by omega)]; rfl
 | succ i =>
  refine aA.dB hT dx hm 60 hv (gT h0) l9 lH cY Z1 (by kernel_rfl) (by kernel_rfl) ?_
  simp only [af.all, ay, decide_eq_true_eq, decide_eq_false_iff_not, Int.toNat_natCast]
  rw [wa, wb, w1, w2, w3]
  refine ⟨fun h1 => ⟨by omega, fun h2 => ⟨by omega, fun s' hv => fin s' hv⟩, fun h2 s' hv => fin s' (cG hv ?_ rfl)⟩, fun h1 => ⟨fun h2 => ⟨by omega, fun s' hv => fin s' (cG hv ?_ rfl)⟩, fun h2 s' hv => fin s' (cG hv ?_ rfl)⟩⟩
  ·rw [gq (A := B) (by omega)]; rfl
  ·rw [gq (A := A) (by omega)]; rfl
  ·rw [gq (A := A) (by omega), gq (A := B) (by omega)]; rfl
include h0 in
theorem YB {c i : Nat} {o : Nat → Nat} {s' : aE} (hi : i < 2 ^ 41) (hv : aQ cY s' = some (jz A B c i, jd o i))
  (fin : ∀ s', (∃ ρ, Le c0 ρ s' ⟨az cY [.mag A, .mag B, .own 7 1 0 (i + 1), .int .u64 (c / 4294967296 : Nat), .int .i64 i], kz (i + 1) (bI o i (c % 4294967296)), 8⟩) → Q .normal s') : aq P c0 fu.ntmps (part (part gi [1,0,0]) [1,1]) s' Q := by
 have hd : (c : Int).fdiv (2 ^ min (Int.toNat 32) IntKind.u64.bits) = ((c / 4294967296 : Nat) : Int) := by rw [iY]; omega
 cases i with
 | zero =>
  refine aq.dB hT dx hm 60 hv (gT h0) l9 lH cY OK (by kernel_rfl) ?_
  rw [hd]
  simp only [af.all, ay]
  refine ⟨⟨by omega, by omega, by omega⟩, by omega, fun s' hv => fin s' ?_⟩
  refine cz (vs := [.mag A, .mag B, .own 7 1 0 1, .int .u64 (c / 4294967296 : Nat), .int .i64 0]) (ps := kz 1 (bI o 0 (c % 4294967296))) (nx := 8) [(7, 16392)] hv h0 rfl ⟨⟨rfl, aG rfl⟩, ⟨rfl, aG rfl⟩, ⟨rfl, cH rfl rfl rfl⟩, ⟨rfl, aG rfl⟩, ⟨rfl, aG rfl⟩, trivial⟩
   ⟨⟨_, _, rfl, rfl, dU rfl fun j hj => ?_⟩, trivial⟩
  have : j = 0 := by omega
  subst this
  simp [nth, aj, gQ, gC]
 | succ i =>
  refine aq.dB hT dx hm 60 hv (gT h0) l9 lH cY NR (by kernel_rfl) ?_
  rw [hd]
  simp only [af.all, ay]
  refine ⟨⟨by omega, by omega⟩, by omega, fun s' hv => fin s' ?_⟩
  refine cz (vs := [.mag A, .mag B, .own 7 1 0 (i + 1 + 1), .int .u64 (c / 4294967296 : Nat), .int .i64 ((i + 1 : Nat) : Int)]) (ps := kz (i + 1 + 1) (bI o (i + 1) (c % 4294967296))) (nx := 8) [(7, 16392)] hv h0 rfl ⟨⟨rfl, aG rfl⟩, ⟨rfl, aG rfl⟩, ⟨rfl, cH rfl rfl rfl⟩, ⟨rfl, aG rfl⟩, ⟨rfl, aG rfl⟩, trivial⟩
   ⟨⟨_, _, rfl, rfl, dU rfl fun j hj => ?_⟩, trivial⟩
  by_cases h : j < i + 1
  ·rw [if_pos h]; unfold aj; rw [dY (by omega)]
  ·have : j = i + 1 := by omega
   subst this
   simp [nth, aj, gQ, gC]
end fadd
theorem JR {c i : Nat} {o : Nat → Nat} {c0 : Ctx} {Q : ak → aE → Prop} {A B : Nat} (yes : ∀ s', (i < nl A ∨ i < nl B ∨ c ≠ 0) → aQ cY s' = some (jz A B c i, jd o i) → Q .normal s')
  (no : ∀ s', nl A ≤ i → nl B ≤ i → c = 0 → aQ cY s' = some (jz A B c i, jd o i) → Q (.exit 0) s') : aq P c0 fu.ntmps (part gi [0]) ⟨az cY (jz A B c i), jd o i, 8⟩ Q := by
 cases i with
 | zero =>
  refine aq.aS hT dx hm 60 cY We (by kernel_rfl) ?_
  refine ⟨fun h => ⟨fun _ => ⟨⟨h, rfl⟩, fun _ s' hv => yes s' (.inl (by have := of_decide_eq_true h; omega)) hv, fun hf => by simp at hf⟩, fun hf => by simp at hf⟩,
   fun h => ⟨fun h2 => ⟨⟨h, h2⟩, fun _ s' hv => yes s' (.inr (.inl (by have := of_decide_eq_true (fL h2); omega))) hv, fun hf => by simp at hf⟩,
    fun h2 => ⟨⟨h, h2⟩, fun h3 s' hv => yes s' (.inr (.inr ?_)) hv, fun h3 s' hv => no s' ?_ ?_ ?_ hv⟩⟩⟩
  ·have := fL h3
   simp at this; exact this
  ·have := of_decide_eq_false h; omega
  ·have := of_decide_eq_false (fL h2); omega
  ·have := fL h3
   simp at this; exact this
 | succ i =>
  refine aq.aS hT dx hm 60 cY Pr (by kernel_rfl) ?_
  refine ⟨fun h => ⟨fun _ => ⟨⟨h, rfl⟩, fun _ s' hv => yes s' (.inl (by have := of_decide_eq_true h; omega)) hv, fun hf => by simp at hf⟩, fun hf => by simp at hf⟩,
   fun h => ⟨fun h2 => ⟨⟨h, h2⟩, fun _ s' hv => yes s' (.inr (.inl (by have := of_decide_eq_true (fL h2); omega))) hv, fun hf => by simp at hf⟩,
    fun h2 => ⟨⟨h, h2⟩, fun h3 s' hv => yes s' (.inr (.inr ?_)) hv, fun h3 s' hv => no s' ?_ ?_ ?_ hv⟩⟩⟩
  ·have := fL h3
   simp at this; exact this
  ·have := of_decide_eq_false h; omega
  ·have := of_decide_eq_false (fL h2); omega
  ·have := fL h3
   simp at this; exact this
theorem KU {A B : Nat} (hA : nl A < 2 ^ 40) (hB : nl B < 2 ^ 40) (K : Nat) : aC P ug K [.mag A, .mag B] [] (aK (.mag (A + B)) []) := by
 refine gA hT WN rfl (of_decide_eq_true (by kernel_rfl)) rfl (fun _ c0 h0 => .down ?_) K []
 refine aq.hole [1,1,1,0,1] (by kernel_rfl) (aA.aS hT dx hm 60 cY RS (by kernel_rfl) fun s' hv => bL ?_)
 refine aq.fz (i := 0) (y := gi) (by kernel_rfl) (fun p : Nat × Nat × (Nat → Nat) => ⟨az cY (jz A B p.2.1 p.1), jd p.2.2 p.1, 8⟩)
  (fun p => (p.1 ≤ max (nl A) (nl B) ∨ (p.1 = max (nl A) (nl B) + 1 ∧ p.2.1 = 0 ∧ 2 ^ (32 * max (nl A) (nl B)) ≤ A + B)) ∧ p.2.1 ≤ 1 ∧ (∀ j, j < p.1 → p.2.2 j < 2 ^ 32) ∧ val p.1 p.2.2 + p.2.1 * 2 ^ (32 * p.1) = val p.1 (au A) + val p.1 (au B))
  (fun p => max (nl A) (nl B) + 1 - p.1) (0, 0, fun _ => 0) (kJ hv (gT h0) l9 lH) ⟨by simp, by simp, fun j hj => by simp only at hj; omega, by simp [val]⟩ ?_
 rintro ⟨i, c, o⟩ ⟨hi, hc, ho, hval⟩
 simp only at hi hc ho hval
 have hAv : max (nl A) (nl B) ≤ i → val i (au A) + val i (au B) = A + B := fun h => by
  rw [lY (cw.1 (by omega)), lY (cw.1 (by omega))]
 -- a round
 have body : ∀ {s' : aE}, (i < nl A ∨ i < nl B ∨ c ≠ 0) → aQ cY s' = some (jz A B c i, jd o i) → ∀ {QF : ak → aE → Prop},
   aq P c0 fu.ntmps (part gi [1]) s' (cS (fun s' => ∃ k : Nat × Nat × (Nat → Nat), (∃ ρ, Le c0 ρ s' ⟨az cY (jz A B k.2.1 k.1), jd k.2.2 k.1, 8⟩) ∧
    ((k.1 ≤ max (nl A) (nl B) ∨ (k.1 = max (nl A) (nl B) + 1 ∧ k.2.1 = 0 ∧ 2 ^ (32 * max (nl A) (nl B)) ≤ A + B)) ∧ k.2.1 ≤ 1 ∧ (∀ j, j < k.1 → k.2.2 j < 2 ^ 32) ∧ val k.1 k.2.2 + k.2.1 * 2 ^ (32 * k.1) = val k.1 (au A) + val k.1 (au B)) ∧
    max (nl A) (nl B) + 1 - k.1 < max (nl A) (nl B) + 1 - i) QF) := by
  intro s' hcont hv QF
  have hi' : i ≤ max (nl A) (nl B) := by omega
  have la := cE (N := A) (i := i)
  have lb := cE (N := B) (i := i)
  refine aq.hole [0] (by kernel_rfl) ?_
  show aq P c0 fu.ntmps (part gi [1,0]) s' _
  refine aq.mM (i := 1) (y := part gi [1,0,0]) (by kernel_rfl) ?_
  refine aq.hole [1,1] (by kernel_rfl) (U7 h0 hc hv fun s' hv => bL (YB h0 (by omega) hv fun s' hle => bL ?_))
  show aA P c0 fu.ntmps [part gi [1,1]] s' _
  refine aA.weak rfl hle (aA.aS hT dx hm 60 cY JU (by kernel_rfl) fun s' hv => bL ?_)
  have hs := Ai (B := 2 ^ (32 * i)) (c := c) (z := au A i) (y := au B i) rfl hval
  refine ⟨(i + 1, (c + au A i + au B i) / 4294967296, bI o i ((c + au A i + au B i) % 4294967296)), kJ (cG hv ?_ rfl) (gT h0) l9 lH, ⟨?_, by simp only; omega, fun j hj => ?_, ?_⟩, by simp only; omega⟩
  ·rw [dh (a := (i : Int) + 1) (n := i + 1) (by omega) (by omega)]; rfl
  ·simp only
   by_cases h : i < max (nl A) (nl B)
   ·exact .inl (by omega)
   ·have e : i = max (nl A) (nl B) := by omega
    have lA := gq (A := A) (i := i) (by omega)
    have lB := gq (A := B) (i := i) (by omega)
    refine .inr ⟨by omega, by rw [lA, lB]; omega, ?_⟩
    rw [hAv (by omega)] at hval
    have hc1 : c = 1 := by omega
    rw [hc1, Nat.one_mul, e] at hval
    omega
  ·simp only at hj ⊢
   unfold bI
   split
   ·omega
   ·exact ho j (by omega)
  ·simp only
   rw [nL, val, val, fq]
   omega
 -- the end
 have fin : ∀ {s' : aE}, nl A ≤ i → nl B ≤ i → c = 0 → aQ cY s' = some (jz A B c i, jd o i) → aA P c0 fu.ntmps (behind (ax fu) [1,1,1,0,1]) s' (dy c0 (Fin T fu (.mag (A + B)))) := by
  intro s' h1 h2 h3 hv
  have hsum : val i o = A + B := by rw [hAv (by omega), h3] at hval; omega
  cases i with
  | zero =>
   have : A + B = 0 := by rw [← hsum]; rfl
   refine aA.gY hT dx hm 60 hv (gT h0) l9 lH Lg (by kernel_rfl) (by kernel_rfl) ?_
   rw [this]
   exact iB
  | succ i =>
   refine aA.gY hT dx hm 60 hv (gT h0) l9 lH V0 (by kernel_rfl) (by kernel_rfl) ?_
   refine iM ?_ fun j hj => ?_
   ·have l1 : nl (A + B) ≤ i + 1 := cw.2 (by rw [← hsum]; exact ec ho)
    have l2 : ¬ nl (A + B) ≤ i := by
     intro h
     rcases hi with hi | ⟨hi, _, hi2⟩
     ·have := fo (show A ≤ A + B by omega)
      have := fo (show B ≤ A + B by omega)
      omega
     ·rw [cw] at h
      rw [show max (nl A) (nl B) = i by omega] at hi2
      omega
    omega
   ·rw [← hsum, lV ho hj]; rfl
 refine aq.hole [0] (by kernel_rfl) (show aq P c0 fu.ntmps (part gi [0]) _ _ from JR (fun s' h hv => bL ?_) fun s' h1 h2 h3 hv => nq (dI (bL (fin h1 h2 h3 hv))))
 show aA P c0 fu.ntmps [part gi [1]] s' _
 exact body h hv
def Hr : Spec := jH (fun A B => .mag (A + B)) BN
theorem Ms : ∀ K args pre r, Hr K args pre = some r → aC P ug K args pre r := lQ fun h => KU h.1 h.2
end Go.Am.B
