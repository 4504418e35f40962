/- ref01: Add, minus, Sub, Mul, byLimb. -/
import Derived.Test.YtbghpkgbokbmlaaGreatB22
set_option linter.unusedVariables false
namespace Go.Am.B
open Go Go.Am.N AV
theorem L9 : aP P s9 fy (au fy) := aL Q1 (by kernel_rfl) (by kernel_rfl) (by kernel_rfl)
abbrev cZ : List Nat := [0, 1, 5, 6, 7]
abbrev uH (A B c i : Nat) : List AV := [.mag A, .mag B, .own 7 1 0 i, .int .u64 c, .int .i64 i]
abbrev ko (i : Nat) (o : Nat → Nat) : aC := [(7, ⟨true, true, 1, i, ag o⟩)]
noncomputable abbrev gb : Code := part (au fy) [1,1,1,0,1,0,0]
theorem XL {A B : Nat} : aI T dx [] 60 cZ (before (au fy) [1,1,1,0,1]) ⟨aK 0 [.mag A, .mag B], [], 0⟩ =
  some (aa.leaf ah.normal ([mag A, mag B, nil, int IntKind.u64 (0 : Int), int IntKind.i64 (0 : Int)], [])) := by kernel_rfl
theorem PW {A B c : Nat} : aI T dx [12, 18, 21] 60 cZ [part gb [0]] ⟨aB cZ [.mag A, .mag B, .nil, .int .u64 c, .int .i64 0], [], 8⟩ =
  some (aa.fork (decide ((0 : Int) < (↑(nl A) : Int))) (aa.fork true (aa.af [decide ((0 : Int) < (↑(nl A) : Int)) = true, true = true] (aa.fork true (aa.leaf ah.normal ([mag A, mag B, nil, int IntKind.u64 (↑c : Int), int IntKind.i64 (0 : Int)], [])) (aa.leaf (ah.exit 0) ([mag A, mag B, nil, int IntKind.u64 (↑c : Int), int IntKind.i64 (0 : Int)], [])))) (aa.af [decide ((0 : Int) < (↑(nl A) : Int)) = true, true = false] (aa.fork (bif false then true else (↑c : Int) != (0 : Int)) (aa.leaf ah.normal ([mag A, mag B, nil, int IntKind.u64 (↑c : Int), int IntKind.i64 (0 : Int)], [])) (aa.leaf (ah.exit 0) ([mag A, mag B, nil, int IntKind.u64 (↑c : Int), int IntKind.i64 (0 : Int)], []))))) (aa.fork (bif false then true else decide ((0 : Int) < (↑(nl B) : Int))) (aa.af [decide ((0 : Int) < (↑(nl A) : Int)) = false, (bif false then true else decide ((0 : Int) < (↑(nl B) : Int))) = true] (aa.fork true (aa.leaf ah.normal ([mag A, mag B, nil, int IntKind.u64 (↑c : Int), int IntKind.i64 (0 : Int)], [])) (aa.leaf (ah.exit 0) ([mag A, mag B, nil, int IntKind.u64 (↑c : Int), int IntKind.i64 (0 : Int)], [])))) (aa.af [decide ((0 : Int) < (↑(nl A) : Int)) = false, (bif false then true else decide ((0 : Int) < (↑(nl B) : Int))) = false] (aa.fork (bif false then true else (↑c : Int) != (0 : Int)) (aa.leaf ah.normal ([mag A, mag B, nil, int IntKind.u64 (↑c : Int), int IntKind.i64 (0 : Int)], [])) (aa.leaf (ah.exit 0) ([mag A, mag B, nil, int IntKind.u64 (↑c : Int), int IntKind.i64 (0 : Int)], [])))))) := by kernel_rfl
theorem Ll {A B c i : Nat} {o : Nat → Nat} : aI T dx [12, 18, 21] 60 cZ [part gb [0]] ⟨aB cZ (uH A B c i), ko i o, 8⟩ =
  some (aa.fork (decide ((↑i : Int) < (↑(nl A) : Int))) (aa.fork true (aa.af [decide ((↑i : Int) < (↑(nl A) : Int)) = true, true = true] (aa.fork true (aa.leaf ah.normal ([mag A, mag B, own 7 1 0 i, int IntKind.u64 (↑c : Int), int IntKind.i64 (↑i : Int)], [((7 : Nat), ⟨true, true, 1, i, ag o⟩)])) (aa.leaf (ah.exit 0) ([mag A, mag B, own 7 1 0 i, int IntKind.u64 (↑c : Int), int IntKind.i64 (↑i : Int)], [((7 : Nat), ⟨true, true, 1, i, ag o⟩)])))) (aa.af [decide ((↑i : Int) < (↑(nl A) : Int)) = true, true = false] (aa.fork (bif false then true else (↑c : Int) != (0 : Int)) (aa.leaf ah.normal ([mag A, mag B, own 7 1 0 i, int IntKind.u64 (↑c : Int), int IntKind.i64 (↑i : Int)], [((7 : Nat), ⟨true, true, 1, i, ag o⟩)])) (aa.leaf (ah.exit 0) ([mag A, mag B, own 7 1 0 i, int IntKind.u64 (↑c : Int), int IntKind.i64 (↑i : Int)], [((7 : Nat), ⟨true, true, 1, i, ag o⟩)]))))) (aa.fork (bif false then true else decide ((↑i : Int) < (↑(nl B) : Int))) (aa.af [decide ((↑i : Int) < (↑(nl A) : Int)) = false, (bif false then true else decide ((↑i : Int) < (↑(nl B) : Int))) = true] (aa.fork true (aa.leaf ah.normal ([mag A, mag B, own 7 1 0 i, int IntKind.u64 (↑c : Int), int IntKind.i64 (↑i : Int)], [((7 : Nat), ⟨true, true, 1, i, ag o⟩)])) (aa.leaf (ah.exit 0) ([mag A, mag B, own 7 1 0 i, int IntKind.u64 (↑c : Int), int IntKind.i64 (↑i : Int)], [((7 : Nat), ⟨true, true, 1, i, ag o⟩)])))) (aa.af [decide ((↑i : Int) < (↑(nl A) : Int)) = false, (bif false then true else decide ((↑i : Int) < (↑(nl B) : Int))) = false] (aa.fork (bif false then true else (↑c : Int) != (0 : Int)) (aa.leaf ah.normal ([mag A, mag B, own 7 1 0 i, int IntKind.u64 (↑c : Int), int IntKind.i64 (↑i : Int)], [((7 : Nat), ⟨true, true, 1, i, ag o⟩)])) (aa.leaf (ah.exit 0) ([mag A, mag B, own 7 1 0 i, int IntKind.u64 (↑c : Int), int IntKind.i64 (↑i : Int)], [((7 : Nat), ⟨true, true, 1, i, ag o⟩)])))))) := by kernel_rfl
theorem aah {A B c : Nat} : aI T dx [27, 38] 60 cZ (before (part gb [1,0,0]) [1,1]) ⟨aB cZ [.mag A, .mag B, .nil, .int .u64 c, .int .i64 0], [], 8⟩ =
  some (aa.fork (decide ((0 : Int) < (↑(nl A) : Int))) (aa.af [(0 : Int) ≤ (0 : Int) ∧ Int.toNat (0 : Int) < nl A] (aa.fork (decide ((0 : Int) < (↑(nl B) : Int))) (aa.af [(0 : Int) ≤ (0 : Int) ∧ Int.toNat (0 : Int) < nl B] (aa.leaf ah.normal ([mag A, mag B, nil, int IntKind.u64 (IntKind.u64.wrap (IntKind.u64.wrap ((↑c : Int) + IntKind.u64.wrap (↑(aq A (Int.toNat (0 : Int))) : Int)) + IntKind.u64.wrap (↑(aq B (Int.toNat (0 : Int))) : Int))), int IntKind.i64 (0 : Int)], []))) (aa.leaf ah.normal ([mag A, mag B, nil, int IntKind.u64 (IntKind.u64.wrap ((↑c : Int) + IntKind.u64.wrap (↑(aq A (Int.toNat (0 : Int))) : Int))), int IntKind.i64 (0 : Int)], [])))) (aa.fork (decide ((0 : Int) < (↑(nl B) : Int))) (aa.af [(0 : Int) ≤ (0 : Int) ∧ Int.toNat (0 : Int) < nl B] (aa.leaf ah.normal ([mag A, mag B, nil, int IntKind.u64 (IntKind.u64.wrap ((↑c : Int) + IntKind.u64.wrap (↑(aq B (Int.toNat (0 : Int))) : Int))), int IntKind.i64 (0 : Int)], []))) (aa.leaf ah.normal ([mag A, mag B, nil, int IntKind.u64 (↑c : Int), int IntKind.i64 (0 : Int)], [])))) := by kernel_rfl
theorem Ls {A B c i : Nat} {o : Nat → Nat} : aI T dx [27, 38] 60 cZ (before (part gb [1,0,0]) [1,1]) ⟨aB cZ (uH A B c i), ko i o, 8⟩ =
  some (aa.fork (decide ((↑i : Int) < (↑(nl A) : Int))) (aa.af [(0 : Int) ≤ (↑i : Int) ∧ (↑i : Int).toNat < nl A] (aa.fork (decide ((↑i : Int) < (↑(nl B) : Int))) (aa.af [(0 : Int) ≤ (↑i : Int) ∧ (↑i : Int).toNat < nl B] (aa.leaf ah.normal ([mag A, mag B, own 7 1 0 i, int IntKind.u64 (IntKind.u64.wrap (IntKind.u64.wrap ((↑c : Int) + IntKind.u64.wrap (↑(aq A (↑i : Int).toNat) : Int)) + IntKind.u64.wrap (↑(aq B (↑i : Int).toNat) : Int))), int IntKind.i64 (↑i : Int)], [((7 : Nat), ⟨true, true, 1, i, ag o⟩)]))) (aa.leaf ah.normal ([mag A, mag B, own 7 1 0 i, int IntKind.u64 (IntKind.u64.wrap ((↑c : Int) + IntKind.u64.wrap (↑(aq A (↑i : Int).toNat) : Int))), int IntKind.i64 (↑i : Int)], [((7 : Nat), ⟨true, true, 1, i, ag o⟩)])))) (aa.fork (decide ((↑i : Int) < (↑(nl B) : Int))) (aa.af [(0 : Int) ≤ (↑i : Int) ∧ (↑i : Int).toNat < nl B] (aa.leaf ah.normal ([mag A, mag B, own 7 1 0 i, int IntKind.u64 (IntKind.u64.wrap ((↑c : Int) + IntKind.u64.wrap (↑(aq B (↑i : Int).toNat) : Int))), int IntKind.i64 (↑i : Int)], [((7 : Nat), ⟨true, true, 1, i, ag o⟩)]))) (aa.leaf ah.normal ([mag A, mag B, own 7 1 0 i, int IntKind.u64 (↑c : Int), int IntKind.i64 (↑i : Int)], [((7 : Nat), ⟨true, true, 1, i, ag o⟩)])))) := by kernel_rfl
theorem NT {A B c : Nat} : aI T dx [] 60 cZ [part (part gb [1,0,0]) [1,1]] ⟨aB cZ [.mag A, .mag B, .nil, .int .u64 c, .int .i64 0], [], 8⟩ =
  some (aa.af [(1 : Nat) * 1 ≤ 2 ^ 24, (0 : Nat) < 1 ∧ 1 * ((4 : Nat) + 1) * 2 ≤ 2 ^ 47] (aa.af [(0 : Int) ≤ (32 : Int)] (aa.leaf ah.normal ([mag A, mag B, own 16392 1 0 1, int IntKind.u64 ((↑c : Int).fdiv ((2 : Int) ^ min (Int.toNat (32 : Int)) IntKind.u64.bits)), int IntKind.i64 (0 : Int)], [((16392 : Nat), ⟨true, true, 1, 1, fun (i : Nat) ↦ nth [int IntKind.u32 (IntKind.u32.wrap (↑c : Int))] (int IntKind.u32 (0 : Int)) (i + 0)⟩)])))) := by kernel_rfl
theorem VZ {A B c i : Nat} {o : Nat → Nat} : aI T dx [] 60 cZ [part (part gb [1,0,0]) [1,1]] ⟨aB cZ (uH A B c i), ko i o, 8⟩ =
  some (aa.af [(1 : Nat) * 1 ≤ 2 ^ 24, (i + 1) * ((4 : Nat) + 1) * 2 ≤ 2 ^ 47] (aa.af [(0 : Int) ≤ (32 : Int)] (aa.leaf ah.normal ([mag A, mag B, own 16392 1 0 (i + 1), int IntKind.u64 ((↑c : Int).fdiv ((2 : Int) ^ min (Int.toNat (32 : Int)) IntKind.u64.bits)), int IntKind.i64 (↑i : Int)], [((16392 : Nat), ⟨true, true, 1, i + 1, fun (i_1 : Nat) ↦ if i_1 < i then ag o i_1 else nth [int IntKind.u32 (IntKind.u32.wrap (↑c : Int))] (int IntKind.u32 (0 : Int)) (i_1 - i + 0)⟩)])))) := by kernel_rfl
theorem XF {A B c i j : Nat} {o : Nat → Nat} : aI T dx [] 60 cZ [part gb [1,1]] ⟨aB cZ [.mag A, .mag B, .own 7 1 0 i, .int .u64 c, .int .i64 j], ko i o, 8⟩ =
  some (aa.leaf ah.normal ([mag A, mag B, own 7 1 0 i, int IntKind.u64 (↑c : Int), int IntKind.i64 (IntKind.i64.wrap ((↑j : Int) + (1 : Int)))], [((7 : Nat), ⟨true, true, 1, i, ag o⟩)])) := by kernel_rfl
theorem Np {A B c : Nat} : ct T dx [] 60 fy (behind (au fy) [1,1,1,0,1]) ⟨aB cZ [.mag A, .mag B, .nil, .int .u64 c, .int .i64 0], [], 8⟩ =
  some (aa.leaf ah.ret [nil]) := by kernel_rfl
theorem Ot {A B c i : Nat} {o : Nat → Nat} : ct T dx [] 60 fy (behind (au fy) [1,1,1,0,1]) ⟨aB cZ (uH A B c i), ko i o, 8⟩ =
  some (aa.leaf ah.ret [aj 1 i fun (i : Nat) ↦ ag o (i + 0)]) := by kernel_rfl
theorem gq {A i : Nat} (h : nl A ≤ i) : aq A i = 0 := by
 unfold aq
 rw [Nat.div_eq_of_lt (cD.1 h)]
def je (A B c : Nat) : Nat → List AV
 | 0 => [.mag A, .mag B, .nil, .int .u64 c, .int .i64 0]
 | i + 1 => uH A B c (i + 1)
def ja (o : Nat → Nat) : Nat → aC
 | 0 => []
 | i + 1 => ko (i + 1) o
theorem lO {A B c i : Nat} : gA 8 (je A B c i) = true := by cases i <;> rfl
theorem mH {o : Nat → Nat} {i : Nat} : fz 8 (ja o i) := by
 cases i
 ·trivial
 ·exact ⟨⟨by omega, fun _ _ => rfl⟩, trivial⟩
section fadd
variable {c0 : Ctx} (h0 : c0.k0 = aX) {A B : Nat} {Q : ah → aE → Prop}
include h0 in
theorem MI {c i : Nat} {o : Nat → Nat} {s' : aE} (hc : c ≤ 1) (hv : aT cZ s' = some (je A B c i, ja o i))
  (fin : ∀ s', aT cZ s' = some (je A B (c + aq A i + aq B i) i, ja o i) → Q .normal s') : az P c0 fy.ntmps (before (part gb [1,0,0]) [1,1]) s' Q := by
 have la := cK (N := A) (i := i)
 have lb := cK (N := B) (i := i)
 have wa : IntKind.u64.wrap (aq A i : Int) = ((aq A i : Nat) : Int) := bE (by omega) (by omega)
 have wb : IntKind.u64.wrap (aq B i : Int) = ((aq B i : Nat) : Int) := bE (by omega) (by omega)
 have w1 : IntKind.u64.wrap ((c : Int) + ((aq A i : Nat) : Int)) = ((c + aq A i : Nat) : Int) := by rw [bE (by omega) (by omega)]; omega
 have w2 : IntKind.u64.wrap ((c : Int) + ((aq B i : Nat) : Int)) = ((c + aq B i : Nat) : Int) := by rw [bE (by omega) (by omega)]; omega
 have w3 : IntKind.u64.wrap (((c + aq A i : Nat) : Int) + ((aq B i : Nat) : Int)) = ((c + aq A i + aq B i : Nat) : Int) := by rw [bE (by omega) (by omega)]; omega
 cases i with
 | zero =>
  refine az.dO hT dD hm 60 hv (gU h0) lO mH cZ aah (by kernel_rfl) (by kernel_rfl) ?_
  simp only [aa.all, ax, decide_eq_true_eq, decide_eq_false_iff_not, Int.toNat_zero]
  rw [wa, wb, w1, w2, w3]
  refine ⟨fun h1 => ⟨by omega, fun h2 => ⟨by omega, fun s' hv => fin s' hv⟩, fun h2 s' hv => fin s' (cL hv ?_ rfl)⟩, fun h1 => ⟨fun h2 => ⟨by omega, fun s' hv => fin s' (cL hv ?_ rfl)⟩, fun h2 s' hv => fin s' (cL hv ?_ rfl)⟩⟩
  ·rw [gq (A := B) (by omega)]; rfl
  ·rw [gq (A := A) (by omega)]; rfl
  ·rw [gq (A := A) (by omega), gq (A := B) (by omega)]; rfl
 | succ i =>
  refine az.dO hT dD hm 60 hv (gU h0) lO mH cZ Ls (by kernel_rfl) (by kernel_rfl) ?_
  simp only [aa.all, ax, decide_eq_true_eq, decide_eq_false_iff_not, Int.toNat_natCast]
  rw [wa, wb, w1, w2, w3]
  refine ⟨fun h1 => ⟨by omega, fun h2 => ⟨by omega, fun s' hv => fin s' hv⟩, fun h2 s' hv => fin s' (cL hv ?_ rfl)⟩, fun h1 => ⟨fun h2 => ⟨by omega, fun s' hv => fin s' (cL hv ?_ rfl)⟩, fun h2 s' hv => fin s' (cL hv ?_ rfl)⟩⟩
  ·rw [gq (A := B) (by omega)]; rfl
  ·rw [gq (A := A) (by omega)]; rfl
  ·rw [gq (A := A) (by omega), gq (A := B) (by omega)]; rfl
include h0 in
theorem SN {c i : Nat} {o : Nat → Nat} {s' : aE} (hi : i < 2 ^ 41) (hv : aT cZ s' = some (je A B c i, ja o i))
  (fin : ∀ s', (∃ ρ, Le c0 ρ s' ⟨aB cZ [.mag A, .mag B, .own 7 1 0 (i + 1), .int .u64 (c / 4294967296 : Nat), .int .i64 i], ko (i + 1) (bK o i (c % 4294967296)), 8⟩) → Q .normal s') : ak P c0 fy.ntmps (part (part gb [1,0,0]) [1,1]) s' Q := by
 have hd : (c : Int).fdiv (2 ^ min (Int.toNat 32) IntKind.u64.bits) = ((c / 4294967296 : Nat) : Int) := by rw [iK]; omega
 cases i with
 | zero =>
  refine ak.dO hT dD hm 60 hv (gU h0) lO mH cZ NT (by kernel_rfl) ?_
  rw [hd]
  simp only [aa.all, ax]
  refine ⟨⟨by omega, by omega, by omega⟩, by omega, fun s' hv => fin s' ?_⟩
  refine cB (vs := [.mag A, .mag B, .own 7 1 0 1, .int .u64 (c / 4294967296 : Nat), .int .i64 0]) (ps := ko 1 (bK o 0 (c % 4294967296))) (nx := 8) [(7, 16392)] hv h0 rfl ⟨⟨rfl, aG rfl⟩, ⟨rfl, aG rfl⟩, ⟨rfl, cy rfl rfl rfl⟩, ⟨rfl, aG rfl⟩, ⟨rfl, aG rfl⟩, trivial⟩
   ⟨⟨_, _, rfl, rfl, eg rfl fun j hj => ?_⟩, trivial⟩
  have : j = 0 := by omega
  subst this
  simp [nth, ag, gR, gz]
 | succ i =>
  refine ak.dO hT dD hm 60 hv (gU h0) lO mH cZ VZ (by kernel_rfl) ?_
  rw [hd]
  simp only [aa.all, ax]
  refine ⟨⟨by omega, by omega⟩, by omega, fun s' hv => fin s' ?_⟩
  refine cB (vs := [.mag A, .mag B, .own 7 1 0 (i + 1 + 1), .int .u64 (c / 4294967296 : Nat), .int .i64 ((i + 1 : Nat) : Int)]) (ps := ko (i + 1 + 1) (bK o (i + 1) (c % 4294967296))) (nx := 8) [(7, 16392)] hv h0 rfl ⟨⟨rfl, aG rfl⟩, ⟨rfl, aG rfl⟩, ⟨rfl, cy rfl rfl rfl⟩, ⟨rfl, aG rfl⟩, ⟨rfl, aG rfl⟩, trivial⟩
   ⟨⟨_, _, rfl, rfl, eg rfl fun j hj => ?_⟩, trivial⟩
  by_cases h : j < i + 1
  ·rw [if_pos h]; unfold ag; rw [er (by omega)]
  ·have : j = i + 1 := by omega
   subst this
   simp [nth, ag, gR, gz]
end fadd
theorem Wk {c i : Nat} {o : Nat → Nat} {c0 : Ctx} {Q : ah → aE → Prop} {A B : Nat} (yes : ∀ s', (i < nl A ∨ i < nl B ∨ c ≠ 0) → aT cZ s' = some (je A B c i, ja o i) → Q .normal s')
  (no : ∀ s', nl A ≤ i → nl B ≤ i → c = 0 → aT cZ s' = some (je A B c i, ja o i) → Q (.exit 0) s') : ak P c0 fy.ntmps (part gb [0]) ⟨aB cZ (je A B c i), ja o i, 8⟩ Q := by
 cases i with
 | zero =>
  refine ak.bk hT dD hm 60 cZ PW (by kernel_rfl) ?_
  refine ⟨fun h => ⟨fun _ => ⟨⟨h, rfl⟩, fun _ s' hv => yes s' (.inl (by have := of_decide_eq_true h; omega)) hv, fun hf => by simp at hf⟩, fun hf => by simp at hf⟩,
   fun h => ⟨fun h2 => ⟨⟨h, h2⟩, fun _ s' hv => yes s' (.inr (.inl (by have := of_decide_eq_true (fH h2); omega))) hv, fun hf => by simp at hf⟩,
    fun h2 => ⟨⟨h, h2⟩, fun h3 s' hv => yes s' (.inr (.inr ?_)) hv, fun h3 s' hv => no s' ?_ ?_ ?_ hv⟩⟩⟩
  ·have := fH h3
   simp at this; exact this
  ·have := of_decide_eq_false h; omega
  ·have := of_decide_eq_false (fH h2); omega
  ·have := fH h3
   simp at this; exact this
 | succ i =>
  refine ak.bk hT dD hm 60 cZ Ll (by kernel_rfl) ?_
  refine ⟨fun h => ⟨fun _ => ⟨⟨h, rfl⟩, fun _ s' hv => yes s' (.inl (by have := of_decide_eq_true h; omega)) hv, fun hf => by simp at hf⟩, fun hf => by simp at hf⟩,
   fun h => ⟨fun h2 => ⟨⟨h, h2⟩, fun _ s' hv => yes s' (.inr (.inl (by have := of_decide_eq_true (fH h2); omega))) hv, fun hf => by simp at hf⟩,
    fun h2 => ⟨⟨h, h2⟩, fun h3 s' hv => yes s' (.inr (.inr ?_)) hv, fun h3 s' hv => no s' ?_ ?_ ?_ hv⟩⟩⟩
  ·have := fH h3
   simp at this; exact this
  ·have := of_decide_eq_false h; omega
  ·have := of_decide_eq_false (fH h2); omega
  ·have := fH h3
   simp at this; exact this
theorem ZO {A B : Nat} (hA : nl A < 2 ^ 40) (hB : nl B < 2 ^ 40) (K : Nat) : ay P s9 K [.mag A, .mag B] [] (aF (.mag (A + B)) []) := by
 refine gF hT L9 rfl (of_decide_eq_true (by kernel_rfl)) rfl (fun _ c0 h0 => .down ?_) K []
 refine ak.hole [1,1,1,0,1] (by kernel_rfl) (az.bk hT dD hm 60 cZ XL (by kernel_rfl) fun s' hv => bM ?_)
 refine ak.fR (i := 0) (y := gb) (by kernel_rfl) (fun p : Nat × Nat × (Nat → Nat) => ⟨aB cZ (je A B p.2.1 p.1), ja p.2.2 p.1, 8⟩)
  (fun p => (p.1 ≤ max (nl A) (nl B) ∨ (p.1 = max (nl A) (nl B) + 1 ∧ p.2.1 = 0 ∧ 2 ^ (32 * max (nl A) (nl B)) ≤ A + B)) ∧ p.2.1 ≤ 1 ∧ (∀ j, j < p.1 → p.2.2 j < 2 ^ 32) ∧ val p.1 p.2.2 + p.2.1 * 2 ^ (32 * p.1) = val p.1 (aq A) + val p.1 (aq B))
  (fun p => max (nl A) (nl B) + 1 - p.1) (0, 0, fun _ => 0) (kZ hv (gU h0) lO mH) ⟨by simp, by simp, fun j hj => by simp only at hj; omega, by simp [val]⟩ ?_
 rintro ⟨i, c, o⟩ ⟨hi, hc, ho, hval⟩
 simp only at hi hc ho hval
 have hAv : max (nl A) (nl B) ≤ i → val i (aq A) + val i (aq B) = A + B := fun h => by
  rw [lV (cD.1 (by omega)), lV (cD.1 (by omega))]
 -- a round
 have body : ∀ {s' : aE}, (i < nl A ∨ i < nl B ∨ c ≠ 0) → aT cZ s' = some (je A B c i, ja o i) → ∀ {QF : ah → aE → Prop},
   ak P c0 fy.ntmps (part gb [1]) s' (dc (fun s' => ∃ k : Nat × Nat × (Nat → Nat), (∃ ρ, Le c0 ρ s' ⟨aB cZ (je A B k.2.1 k.1), ja k.2.2 k.1, 8⟩) ∧
    ((k.1 ≤ max (nl A) (nl B) ∨ (k.1 = max (nl A) (nl B) + 1 ∧ k.2.1 = 0 ∧ 2 ^ (32 * max (nl A) (nl B)) ≤ A + B)) ∧ k.2.1 ≤ 1 ∧ (∀ j, j < k.1 → k.2.2 j < 2 ^ 32) ∧ val k.1 k.2.2 + k.2.1 * 2 ^ (32 * k.1) = val k.1 (aq A) + val k.1 (aq B)) ∧
    max (nl A) (nl B) + 1 - k.1 < max (nl A) (nl B) + 1 - i) QF) := by
  intro s' hcont hv QF
  have hi' : i ≤ max (nl A) (nl B) := by omega
  have la := cK (N := A) (i := i)
  have lb := cK (N := B) (i := i)
  refine ak.hole [0] (by kernel_rfl) ?_
  show ak P c0 fy.ntmps (part gb [1,0]) s' _
  refine ak.lY (i := 1) (y := part gb [1,0,0]) (by kernel_rfl) ?_
  refine ak.hole [1,1] (by kernel_rfl) (MI h0 hc hv fun s' hv => bM (SN h0 (by omega) hv fun s' hle => bM ?_))
  show az P c0 fy.ntmps [part gb [1,1]] s' _
  refine az.weak rfl hle (az.bk hT dD hm 60 cZ XF (by kernel_rfl) fun s' hv => bM ?_)
  have hs := BQ (B := 2 ^ (32 * i)) (c := c) (z := aq A i) (y := aq B i) rfl hval
  refine ⟨(i + 1, (c + aq A i + aq B i) / 4294967296, bK o i ((c + aq A i + aq B i) % 4294967296)), kZ (cL hv ?_ rfl) (gU h0) lO mH, ⟨?_, by simp only; omega, fun j hj => ?_, ?_⟩, by simp only; omega⟩
  ·rw [dr (a := (i : Int) + 1) (n := i + 1) (by omega) (by omega)]; rfl
  ·simp only
   by_cases h : i < max (nl A) (nl B)
   ·exact .inl (by omega)
   ·have e : i = max (nl A) (nl B) := by omega
    have lA := gq (A := A) (i := i) (by omega)
    have lB := gq (A := B) (i := i) (by omega)
    refine .inr ⟨by omega, by rw [lA, lB]; omega, ?_⟩
    rw [hAv (by omega)] at hval
    have hc1 : c = 1 := by omega
    rw [hc1, Nat.one_mul, e] at hval
    omega
  ·simp only at hj ⊢
   unfold bK
   split
   ·omega
   ·exact ho j (by omega)
  ·simp only
   rw [mT, val, val, fE]
   omega
 -- the end
 have fin : ∀ {s' : aE}, nl A ≤ i → nl B ≤ i → c = 0 → aT cZ s' = some (je A B c i, ja o i) → az P c0 fy.ntmps (behind (au fy) [1,1,1,0,1]) s' (dI c0 (Fin T fy (.mag (A + B)))) := by
  intro s' h1 h2 h3 hv
  have hsum : val i o = A + B := by rw [hAv (by omega), h3] at hval; omega
  cases i with
  | zero =>
   have : A + B = 0 := by rw [← hsum]; rfl
   refine az.gZ hT dD hm 60 hv (gU h0) lO mH Np (by kernel_rfl) (by kernel_rfl) ?_
   rw [this]
   exact iu
  | succ i =>
   refine az.gZ hT dD hm 60 hv (gU h0) lO mH Ot (by kernel_rfl) (by kernel_rfl) ?_
   refine iW ?_ fun j hj => ?_
   ·have l1 : nl (A + B) ≤ i + 1 := cD.2 (by rw [← hsum]; exact eA ho)
    have l2 : ¬ nl (A + B) ≤ i := by
     intro h
     rcases hi with hi | ⟨hi, _, hi2⟩
     ·have := fA (show A ≤ A + B by omega)
      have := fA (show B ≤ A + B by omega)
      omega
     ·rw [cD] at h
      rw [show max (nl A) (nl B) = i by omega] at hi2
      omega
    omega
   ·rw [← hsum, mB ho hj]; rfl
 refine ak.hole [0] (by kernel_rfl) (show ak P c0 fy.ntmps (part gb [0]) _ _ from Wk (fun s' h hv => bM ?_) fun s' h1 h2 h3 hv => nq (dX (bM (fin h1 h2 h3 hv))))
 show az P c0 fy.ntmps [part gb [1]] s' _
 exact body h hv
def Dk : Spec := jT (fun A B => .mag (A + B)) BE
theorem Xc : ∀ K args pre r, Dk K args pre = some r → ay P s9 K args pre r := lP fun h => ZO h.1 h.2
end Go.Am.B
