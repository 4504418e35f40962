/- ref01: Add, minus, Sub, Mul, byLimb. -/
import Derived.Test.YtnocdkaonpdmjaaGreatB22
set_option linter.unusedVariables false
namespace Go.Am.B
open Go Go.Am.N AV
theorem V1 : aO P vO fA (ax fA) := aP Xx (by kernel_rfl) (by kernel_rfl) (by kernel_rfl)
abbrev cZ : List Nat := [0, 1, 5, 6, 7]
abbrev xH (A B c i : Nat) : List AV := [.mag A, .mag B, .own 7 1 0 i, .int .u64 c, .int .i64 i]
abbrev lK (i : Nat) (o : Nat → Nat) : aD := [(7, ⟨true, true, 1, i, ah o⟩)]
noncomputable abbrev gj : Code := part (ax fA) [1,1,1,0,1,0,0]
theorem SE {A B : Nat} : aI T dx [] 60 cZ (before (ax fA) [1,1,1,0,1]) ⟨aL 0 [.mag A, .mag B], [], 0⟩ =
  some (aa.leaf aj.normal ([mag A, mag B, nil, int IntKind.u64 (0 : Int), int IntKind.i64 (0 : Int)], [])) := by kernel_rfl
theorem K7 {A B c : Nat} : aI T dx [12, 18, 21] 60 cZ [part gj [0]] ⟨aC cZ [.mag A, .mag B, .nil, .int .u64 c, .int .i64 0], [], 8⟩ =
  some (aa.fork (decide ((0 : Int) < (↑(nl A) : Int))) (aa.fork true (aa.ag [decide ((0 : Int) < (↑(nl A) : Int)) = true, true = true] (aa.fork true (aa.leaf aj.normal ([mag A, mag B, nil, int IntKind.u64 (↑c : Int), int IntKind.i64 (0 : Int)], [])) (aa.leaf (aj.exit 0) ([mag A, mag B, nil, int IntKind.u64 (↑c : Int), int IntKind.i64 (0 : Int)], [])))) (aa.ag [decide ((0 : Int) < (↑(nl A) : Int)) = true, true = false] (aa.fork (bif false then true else (↑c : Int) != (0 : Int)) (aa.leaf aj.normal ([mag A, mag B, nil, int IntKind.u64 (↑c : Int), int IntKind.i64 (0 : Int)], [])) (aa.leaf (aj.exit 0) ([mag A, mag B, nil, int IntKind.u64 (↑c : Int), int IntKind.i64 (0 : Int)], []))))) (aa.fork (bif false then true else decide ((0 : Int) < (↑(nl B) : Int))) (aa.ag [decide ((0 : Int) < (↑(nl A) : Int)) = false, (bif false then true else decide ((0 : Int) < (↑(nl B) : Int))) = true] (aa.fork true (aa.leaf aj.normal ([mag A, mag B, nil, int IntKind.u64 (↑c : Int), int IntKind.i64 (0 : Int)], [])) (aa.leaf (aj.exit 0) ([mag A, mag B, nil, int IntKind.u64 (↑c : Int), int IntKind.i64 (0 : Int)], [])))) (aa.ag [decide ((0 : Int) < (↑(nl A) : Int)) = false, (bif false then true else decide ((0 : Int) < (↑(nl B) : Int))) = false] (aa.fork (bif false then true else (↑c : Int) != (0 : Int)) (aa.leaf aj.normal ([mag A, mag B, nil, int IntKind.u64 (↑c : Int), int IntKind.i64 (0 : Int)], [])) (aa.leaf (aj.exit 0) ([mag A, mag B, nil, int IntKind.u64 (↑c : Int), int IntKind.i64 (0 : Int)], [])))))) := by kernel_rfl
theorem abV {A B c i : Nat} {o : Nat → Nat} : aI T dx [12, 18, 21] 60 cZ [part gj [0]] ⟨aC cZ (xH A B c i), lK i o, 8⟩ =
  some (aa.fork (decide ((↑i : Int) < (↑(nl A) : Int))) (aa.fork true (aa.ag [decide ((↑i : Int) < (↑(nl A) : Int)) = true, true = true] (aa.fork true (aa.leaf aj.normal ([mag A, mag B, own 7 1 0 i, int IntKind.u64 (↑c : Int), int IntKind.i64 (↑i : Int)], [((7 : Nat), ⟨true, true, 1, i, ah o⟩)])) (aa.leaf (aj.exit 0) ([mag A, mag B, own 7 1 0 i, int IntKind.u64 (↑c : Int), int IntKind.i64 (↑i : Int)], [((7 : Nat), ⟨true, true, 1, i, ah o⟩)])))) (aa.ag [decide ((↑i : Int) < (↑(nl A) : Int)) = true, true = false] (aa.fork (bif false then true else (↑c : Int) != (0 : Int)) (aa.leaf aj.normal ([mag A, mag B, own 7 1 0 i, int IntKind.u64 (↑c : Int), int IntKind.i64 (↑i : Int)], [((7 : Nat), ⟨true, true, 1, i, ah o⟩)])) (aa.leaf (aj.exit 0) ([mag A, mag B, own 7 1 0 i, int IntKind.u64 (↑c : Int), int IntKind.i64 (↑i : Int)], [((7 : Nat), ⟨true, true, 1, i, ah o⟩)]))))) (aa.fork (bif false then true else decide ((↑i : Int) < (↑(nl B) : Int))) (aa.ag [decide ((↑i : Int) < (↑(nl A) : Int)) = false, (bif false then true else decide ((↑i : Int) < (↑(nl B) : Int))) = true] (aa.fork true (aa.leaf aj.normal ([mag A, mag B, own 7 1 0 i, int IntKind.u64 (↑c : Int), int IntKind.i64 (↑i : Int)], [((7 : Nat), ⟨true, true, 1, i, ah o⟩)])) (aa.leaf (aj.exit 0) ([mag A, mag B, own 7 1 0 i, int IntKind.u64 (↑c : Int), int IntKind.i64 (↑i : Int)], [((7 : Nat), ⟨true, true, 1, i, ah o⟩)])))) (aa.ag [decide ((↑i : Int) < (↑(nl A) : Int)) = false, (bif false then true else decide ((↑i : Int) < (↑(nl B) : Int))) = false] (aa.fork (bif false then true else (↑c : Int) != (0 : Int)) (aa.leaf aj.normal ([mag A, mag B, own 7 1 0 i, int IntKind.u64 (↑c : Int), int IntKind.i64 (↑i : Int)], [((7 : Nat), ⟨true, true, 1, i, ah o⟩)])) (aa.leaf (aj.exit 0) ([mag A, mag B, own 7 1 0 i, int IntKind.u64 (↑c : Int), int IntKind.i64 (↑i : Int)], [((7 : Nat), ⟨true, true, 1, i, ah o⟩)])))))) := by kernel_rfl
theorem aaL {A B c : Nat} : aI T dx [27, 38] 60 cZ (before (part gj [1,0,0]) [1,1]) ⟨aC cZ [.mag A, .mag B, .nil, .int .u64 c, .int .i64 0], [], 8⟩ =
  some (aa.fork (decide ((0 : Int) < (↑(nl A) : Int))) (aa.ag [(0 : Int) ≤ (0 : Int) ∧ Int.toNat (0 : Int) < nl A] (aa.fork (decide ((0 : Int) < (↑(nl B) : Int))) (aa.ag [(0 : Int) ≤ (0 : Int) ∧ Int.toNat (0 : Int) < nl B] (aa.leaf aj.normal ([mag A, mag B, nil, int IntKind.u64 (IntKind.u64.wrap (IntKind.u64.wrap ((↑c : Int) + IntKind.u64.wrap (↑(au A (Int.toNat (0 : Int))) : Int)) + IntKind.u64.wrap (↑(au B (Int.toNat (0 : Int))) : Int))), int IntKind.i64 (0 : Int)], []))) (aa.leaf aj.normal ([mag A, mag B, nil, int IntKind.u64 (IntKind.u64.wrap ((↑c : Int) + IntKind.u64.wrap (↑(au A (Int.toNat (0 : Int))) : Int))), int IntKind.i64 (0 : Int)], [])))) (aa.fork (decide ((0 : Int) < (↑(nl B) : Int))) (aa.ag [(0 : Int) ≤ (0 : Int) ∧ Int.toNat (0 : Int) < nl B] (aa.leaf aj.normal ([mag A, mag B, nil, int IntKind.u64 (IntKind.u64.wrap ((↑c : Int) + IntKind.u64.wrap (↑(au B (Int.toNat (0 : Int))) : Int))), int IntKind.i64 (0 : Int)], []))) (aa.leaf aj.normal ([mag A, mag B, nil, int IntKind.u64 (↑c : Int), int IntKind.i64 (0 : Int)], [])))) := by kernel_rfl
theorem Ou {A B c i : Nat} {o : Nat → Nat} : aI T dx [27, 38] 60 cZ (before (part gj [1,0,0]) [1,1]) ⟨aC cZ (xH A B c i), lK i o, 8⟩ =
  some (aa.fork (decide ((↑i : Int) < (↑(nl A) : Int))) (aa.ag [(0 : Int) ≤ (↑i : Int) ∧ (↑i : Int).toNat < nl A] (aa.fork (decide ((↑i : Int) < (↑(nl B) : Int))) (aa.ag [(0 : Int) ≤ (↑i : Int) ∧ (↑i : Int).toNat < nl B] (aa.leaf aj.normal ([mag A, mag B, own 7 1 0 i, int IntKind.u64 (IntKind.u64.wrap (IntKind.u64.wrap ((↑c : Int) + IntKind.u64.wrap (↑(au A (↑i : Int).toNat) : Int)) + IntKind.u64.wrap (↑(au B (↑i : Int).toNat) : Int))), int IntKind.i64 (↑i : Int)], [((7 : Nat), ⟨true, true, 1, i, ah o⟩)]))) (aa.leaf aj.normal ([mag A, mag B, own 7 1 0 i, int IntKind.u64 (IntKind.u64.wrap ((↑c : Int) + IntKind.u64.wrap (↑(au A (↑i : Int).toNat) : Int))), int IntKind.i64 (↑i : Int)], [((7 : Nat), ⟨true, true, 1, i, ah o⟩)])))) (aa.fork (decide ((↑i : Int) < (↑(nl B) : Int))) (aa.ag [(0 : Int) ≤ (↑i : Int) ∧ (↑i : Int).toNat < nl B] (aa.leaf aj.normal ([mag A, mag B, own 7 1 0 i, int IntKind.u64 (IntKind.u64.wrap ((↑c : Int) + IntKind.u64.wrap (↑(au B (↑i : Int).toNat) : Int))), int IntKind.i64 (↑i : Int)], [((7 : Nat), ⟨true, true, 1, i, ah o⟩)]))) (aa.leaf aj.normal ([mag A, mag B, own 7 1 0 i, int IntKind.u64 (↑c : Int), int IntKind.i64 (↑i : Int)], [((7 : Nat), ⟨true, true, 1, i, ah o⟩)])))) := by kernel_rfl
theorem PO {A B c : Nat} : aI T dx [] 60 cZ [part (part gj [1,0,0]) [1,1]] ⟨aC cZ [.mag A, .mag B, .nil, .int .u64 c, .int .i64 0], [], 8⟩ =
  some (aa.ag [(1 : Nat) * 1 ≤ 2 ^ 24, (0 : Nat) < 1 ∧ 1 * ((4 : Nat) + 1) * 2 ≤ 2 ^ 47] (aa.ag [(0 : Int) ≤ (32 : Int)] (aa.leaf aj.normal ([mag A, mag B, own 16392 1 0 1, int IntKind.u64 ((↑c : Int).fdiv ((2 : Int) ^ min (Int.toNat (32 : Int)) IntKind.u64.bits)), int IntKind.i64 (0 : Int)], [((16392 : Nat), ⟨true, true, 1, 1, fun (i : Nat) ↦ nth [int IntKind.u32 (IntKind.u32.wrap (↑c : Int))] (int IntKind.u32 (0 : Int)) (i + 0)⟩)])))) := by kernel_rfl
theorem ab4 {A B c i : Nat} {o : Nat → Nat} : aI T dx [] 60 cZ [part (part gj [1,0,0]) [1,1]] ⟨aC cZ (xH A B c i), lK i o, 8⟩ =
  some (aa.ag [(1 : Nat) * 1 ≤ 2 ^ 24, (i + 1) * ((4 : Nat) + 1) * 2 ≤ 2 ^ 47] (aa.ag [(0 : Int) ≤ (32 : Int)] (aa.leaf aj.normal ([mag A, mag B, own 16392 1 0 (i + 1), int IntKind.u64 ((↑c : Int).fdiv ((2 : Int) ^ min (Int.toNat (32 : Int)) IntKind.u64.bits)), int IntKind.i64 (↑i : Int)], [((16392 : Nat), ⟨true, true, 1, i + 1, fun (i_1 : Nat) ↦ if i_1 < i then ah o i_1 else nth [int IntKind.u32 (IntKind.u32.wrap (↑c : Int))] (int IntKind.u32 (0 : Int)) (i_1 - i + 0)⟩)])))) := by kernel_rfl
theorem UB {A B c i j : Nat} {o : Nat → Nat} : aI T dx [] 60 cZ [part gj [1,1]] ⟨aC cZ [.mag A, .mag B, .own 7 1 0 i, .int .u64 c, .int .i64 j], lK i o, 8⟩ =
  some (aa.leaf aj.normal ([mag A, mag B, own 7 1 0 i, int IntKind.u64 (↑c : Int), int IntKind.i64 (IntKind.i64.wrap ((↑j : Int) + (1 : Int)))], [((7 : Nat), ⟨true, true, 1, i, ah o⟩)])) := by kernel_rfl
theorem VH {A B c : Nat} : cq T dx [] 60 fA (behind (ax fA) [1,1,1,0,1]) ⟨aC cZ [.mag A, .mag B, .nil, .int .u64 c, .int .i64 0], [], 8⟩ =
  some (aa.leaf aj.ret [nil]) := by kernel_rfl
theorem Tu {A B c i : Nat} {o : Nat → Nat} : cq T dx [] 60 fA (behind (ax fA) [1,1,1,0,1]) ⟨aC cZ (xH A B c i), lK i o, 8⟩ =
  some (aa.leaf aj.ret [ak 1 i fun (i : Nat) ↦ ah o (i + 0)]) := by kernel_rfl
theorem gv {A i : Nat} (h : nl A ≤ i) : au A i = 0 := by
 unfold au
 rw [Nat.div_eq_of_lt (cB.1 h)]
def jG (A B c : Nat) : Nat → List AV
 | 0 => [.mag A, .mag B, .nil, .int .u64 c, .int .i64 0]
 | i + 1 => xH A B c (i + 1)
def jJ (o : Nat → Nat) : Nat → aD
 | 0 => []
 | i + 1 => lK (i + 1) o
theorem mX {A B c i : Nat} : gC 8 (jG A B c i) = true := by cases i <;> rfl
theorem mh {o : Nat → Nat} {i : Nat} : fk 8 (jJ o i) := by
 cases i
 ·trivial
 ·exact ⟨⟨by omega, fun _ _ => rfl⟩, trivial⟩
section fadd
variable {c0 : Ctx} (h0 : c0.k0 = aW) {A B : Nat} {Q : aj → aE → Prop}
include h0 in
theorem Yk {c i : Nat} {o : Nat → Nat} {s' : aE} (hc : c ≤ 1) (hv : aU cZ s' = some (jG A B c i, jJ o i))
  (fin : ∀ s', aU cZ s' = some (jG A B (c + au A i + au B i) i, jJ o i) → Q .normal s') : aB P c0 fA.ntmps (before (part gj [1,0,0]) [1,1]) s' Q := by
 have la := cH (N := A) (i := i)
 have lb := cH (N := B) (i := i)
 have wa : IntKind.u64.wrap (au A i : Int) = ((au A i : Nat) : Int) := wrap_u64 (by omega) (by omega)
 have wb : IntKind.u64.wrap (au B i : Int) = ((au B i : Nat) : Int) := wrap_u64 (by omega) (by omega)
 have w1 : IntKind.u64.wrap ((c : Int) + ((au A i : Nat) : Int)) = ((c + au A i : Nat) : Int) := by rw [wrap_u64 (by omega) (by omega)]; omega
 have w2 : IntKind.u64.wrap ((c : Int) + ((au B i : Nat) : Int)) = ((c + au B i : Nat) : Int) := by rw [wrap_u64 (by omega) (by omega)]; omega
 have w3 : IntKind.u64.wrap (((c + au A i : Nat) : Int) + ((au B i : Nat) : Int)) = ((c + au A i + au B i : Nat) : Int) := by rw [wrap_u64 (by omega) (by omega)]; omega
 cases i with
 | zero =>
  refine aB.dN hT dJ hm 60 hv (ir h0) mX mh cZ aaL (by kernel_rfl) (by kernel_rfl) ?_
  simp only [aa.all, ay, decide_eq_true_eq, decide_eq_false_iff_not, Int.toNat_zero]
  rw [wa, wb, w1, w2, w3]
  refine ⟨fun h1 => ⟨by omega, fun h2 => ⟨by omega, fun s' hv => fin s' hv⟩, fun h2 s' hv => fin s' (cJ hv ?_ rfl)⟩, fun h1 => ⟨fun h2 => ⟨by omega, fun s' hv => fin s' (cJ hv ?_ rfl)⟩, fun h2 s' hv => fin s' (cJ hv ?_ rfl)⟩⟩
  ·rw [gv (A := B) (by omega)]; rfl
  ·rw [gv (A := A) (by omega)]; rfl
  ·rw [gv (A := A) (by omega), gv (A := B) (by omega)]; rfl
 | succ i =>
  refine aB.dN hT dJ hm 60 hv (ir h0) mX mh cZ Ou (by kernel_rfl) (by kernel_rfl) ?_
  simp only [aa.all, ay, decide_eq_true_eq, decide_eq_false_iff_not, Int.toNat_natCast]
  rw [wa, wb, w1, w2, w3]
  refine ⟨fun h1 => ⟨by omega, fun h2 => ⟨by omega, fun s' hv => fin s' hv⟩, fun h2 s' hv => fin s' (cJ hv ?_ rfl)⟩, fun h1 => ⟨fun h2 => ⟨by omega, fun s' hv => fin s' (cJ hv ?_ rfl)⟩, fun h2 s' hv => fin s' (cJ hv ?_ rfl)⟩⟩
  ·rw [gv (A := B) (by omega)]; rfl
  ·rw [gv (A := A) (by omega)]; rfl
  ·rw [gv (A := A) (by omega), gv (A := B) (by omega)]; rfl
include h0 in
theorem Ll {c i : Nat} {o : Nat → Nat} {s' : aE} (hi : i < 2 ^ 41) (hv : aU cZ s' = some (jG A B c i, jJ o i))
  (fin : ∀ s', (∃ ρ, Le c0 ρ s' ⟨aC cZ [.mag A, .mag B, .own 7 1 0 (i + 1), .int .u64 (c / 4294967296 : Nat), .int .i64 i], lK (i + 1) (bJ o i (c % 4294967296)), 8⟩) → Q .normal s') : aq P c0 fA.ntmps (part (part gj [1,0,0]) [1,1]) s' Q := by
 have hd : (c : Int).fdiv (2 ^ min (Int.toNat 32) IntKind.u64.bits) = ((c / 4294967296 : Nat) : Int) := by rw [jo]; omega
 cases i with
 | zero =>
  refine aq.dN hT dJ hm 60 hv (ir h0) mX mh cZ PO (by kernel_rfl) ?_
  rw [hd]
  simp only [aa.all, ay]
  refine ⟨⟨by omega, by omega, by omega⟩, by omega, fun s' hv => fin s' ?_⟩
  refine cC (vs := [.mag A, .mag B, .own 7 1 0 1, .int .u64 (c / 4294967296 : Nat), .int .i64 0]) (ps := lK 1 (bJ o 0 (c % 4294967296))) (nx := 8) [(7, 16392)] hv h0 rfl ⟨⟨rfl, aF rfl⟩, ⟨rfl, aF rfl⟩, ⟨rfl, cF rfl rfl rfl⟩, ⟨rfl, aF rfl⟩, ⟨rfl, aF rfl⟩, trivial⟩
   ⟨⟨_, _, rfl, rfl, dZ rfl fun j hj => ?_⟩, trivial⟩
  have : j = 0 := by omega
  subst this
  simp [nth, ah, ia, gZ]
 | succ i =>
  refine aq.dN hT dJ hm 60 hv (ir h0) mX mh cZ ab4 (by kernel_rfl) ?_
  rw [hd]
  simp only [aa.all, ay]
  refine ⟨⟨by omega, by omega⟩, by omega, fun s' hv => fin s' ?_⟩
  refine cC (vs := [.mag A, .mag B, .own 7 1 0 (i + 1 + 1), .int .u64 (c / 4294967296 : Nat), .int .i64 ((i + 1 : Nat) : Int)]) (ps := lK (i + 1 + 1) (bJ o (i + 1) (c % 4294967296))) (nx := 8) [(7, 16392)] hv h0 rfl ⟨⟨rfl, aF rfl⟩, ⟨rfl, aF rfl⟩, ⟨rfl, cF rfl rfl rfl⟩, ⟨rfl, aF rfl⟩, ⟨rfl, aF rfl⟩, trivial⟩
   ⟨⟨_, _, rfl, rfl, dZ rfl fun j hj => ?_⟩, trivial⟩
  by_cases h : j < i + 1
  ·rw [if_pos h]; unfold ah; rw [eg (by omega)]
  ·have : j = i + 1 := by omega
   subst this
   simp [nth, ah, ia, gZ]
end fadd
theorem Xs {c i : Nat} {o : Nat → Nat} {c0 : Ctx} {Q : aj → aE → Prop} {A B : Nat} (yes : ∀ s', (i < nl A ∨ i < nl B ∨ c ≠ 0) → aU cZ s' = some (jG A B c i, jJ o i) → Q .normal s')
  (no : ∀ s', nl A ≤ i → nl B ≤ i → c = 0 → aU cZ s' = some (jG A B c i, jJ o i) → Q (.exit 0) s') : aq P c0 fA.ntmps (part gj [0]) ⟨aC cZ (jG A B c i), jJ o i, 8⟩ Q := by
 cases i with
 | zero =>
  refine aq.aX hT dJ hm 60 cZ K7 (by kernel_rfl) ?_
  refine ⟨fun h => ⟨fun _ => ⟨⟨h, rfl⟩, fun _ s' hv => yes s' (.inl (by have := of_decide_eq_true h; omega)) hv, fun hf => by simp at hf⟩, fun hf => by simp at hf⟩,
   fun h => ⟨fun h2 => ⟨⟨h, h2⟩, fun _ s' hv => yes s' (.inr (.inl (by have := of_decide_eq_true (fJ h2); omega))) hv, fun hf => by simp at hf⟩,
    fun h2 => ⟨⟨h, h2⟩, fun h3 s' hv => yes s' (.inr (.inr ?_)) hv, fun h3 s' hv => no s' ?_ ?_ ?_ hv⟩⟩⟩
  ·have := fJ h3
   simp at this; exact this
  ·have := of_decide_eq_false h; omega
  ·have := of_decide_eq_false (fJ h2); omega
  ·have := fJ h3
   simp at this; exact this
 | succ i =>
  refine aq.aX hT dJ hm 60 cZ abV (by kernel_rfl) ?_
  refine ⟨fun h => ⟨fun _ => ⟨⟨h, rfl⟩, fun _ s' hv => yes s' (.inl (by have := of_decide_eq_true h; omega)) hv, fun hf => by simp at hf⟩, fun hf => by simp at hf⟩,
   fun h => ⟨fun h2 => ⟨⟨h, h2⟩, fun _ s' hv => yes s' (.inr (.inl (by have := of_decide_eq_true (fJ h2); omega))) hv, fun hf => by simp at hf⟩,
    fun h2 => ⟨⟨h, h2⟩, fun h3 s' hv => yes s' (.inr (.inr ?_)) hv, fun h3 s' hv => no s' ?_ ?_ ?_ hv⟩⟩⟩
  ·have := fJ h3
   simp at this; exact this
  ·have := of_decide_eq_false h; omega
  ·have := of_decide_eq_false (fJ h2); omega
  ·have := fJ h3
   simp at this; exact this
theorem aaC {A B : Nat} (hA : nl A < 2 ^ 40) (hB : nl B < 2 ^ 40) (K : Nat) : aA P vO K [.mag A, .mag B] [] (aG (.mag (A + B)) []) := by
 refine gQ hT V1 rfl (of_decide_eq_true (by kernel_rfl)) rfl (fun _ c0 h0 => .down ?_) K []
 refine aq.hole [1,1,1,0,1] (by kernel_rfl) (aB.aX hT dJ hm 60 cZ SE (by kernel_rfl) fun s' hv => bP ?_)
 refine aq.gp (i := 0) (y := gj) (by kernel_rfl) (fun p : Nat × Nat × (Nat → Nat) => ⟨aC cZ (jG A B p.2.1 p.1), jJ p.2.2 p.1, 8⟩)
  (fun p => (p.1 ≤ max (nl A) (nl B) ∨ (p.1 = max (nl A) (nl B) + 1 ∧ p.2.1 = 0 ∧ 2 ^ (32 * max (nl A) (nl B)) ≤ A + B)) ∧ p.2.1 ≤ 1 ∧ (∀ j, j < p.1 → p.2.2 j < 2 ^ 32) ∧ val p.1 p.2.2 + p.2.1 * 2 ^ (32 * p.1) = val p.1 (au A) + val p.1 (au B))
  (fun p => max (nl A) (nl B) + 1 - p.1) (0, 0, fun _ => 0) (jW hv (ir h0) mX mh) ⟨by simp, by simp, fun j hj => by simp only at hj; omega, by simp [val]⟩ ?_
 rintro ⟨i, c, o⟩ ⟨hi, hc, ho, hval⟩
 simp only at hi hc ho hval
 have hAv : max (nl A) (nl B) ≤ i → val i (au A) + val i (au B) = A + B := fun h => by
  rw [lW (cB.1 (by omega)), lW (cB.1 (by omega))]
 -- a round
 have body : ∀ {s' : aE}, (i < nl A ∨ i < nl B ∨ c ≠ 0) → aU cZ s' = some (jG A B c i, jJ o i) → ∀ {QF : aj → aE → Prop},
   aq P c0 fA.ntmps (part gj [1]) s' (cP (fun s' => ∃ k : Nat × Nat × (Nat → Nat), (∃ ρ, Le c0 ρ s' ⟨aC cZ (jG A B k.2.1 k.1), jJ k.2.2 k.1, 8⟩) ∧
    ((k.1 ≤ max (nl A) (nl B) ∨ (k.1 = max (nl A) (nl B) + 1 ∧ k.2.1 = 0 ∧ 2 ^ (32 * max (nl A) (nl B)) ≤ A + B)) ∧ k.2.1 ≤ 1 ∧ (∀ j, j < k.1 → k.2.2 j < 2 ^ 32) ∧ val k.1 k.2.2 + k.2.1 * 2 ^ (32 * k.1) = val k.1 (au A) + val k.1 (au B)) ∧
    max (nl A) (nl B) + 1 - k.1 < max (nl A) (nl B) + 1 - i) QF) := by
  intro s' hcont hv QF
  have hi' : i ≤ max (nl A) (nl B) := by omega
  have la := cH (N := A) (i := i)
  have lb := cH (N := B) (i := i)
  refine aq.hole [0] (by kernel_rfl) ?_
  show aq P c0 fA.ntmps (part gj [1,0]) s' _
  refine aq.m9 (i := 1) (y := part gj [1,0,0]) (by kernel_rfl) ?_
  refine aq.hole [1,1] (by kernel_rfl) (Yk h0 hc hv fun s' hv => bP (Ll h0 (by omega) hv fun s' hle => bP ?_))
  show aB P c0 fA.ntmps [part gj [1,1]] s' _
  refine aB.weak rfl hle (aB.aX hT dJ hm 60 cZ UB (by kernel_rfl) fun s' hv => bP ?_)
  have hs := Dh (B := 2 ^ (32 * i)) (c := c) (z := au A i) (y := au B i) rfl hval
  refine ⟨(i + 1, (c + au A i + au B i) / 4294967296, bJ o i ((c + au A i + au B i) % 4294967296)), jW (cJ hv ?_ rfl) (ir h0) mX mh, ⟨?_, by simp only; omega, fun j hj => ?_, ?_⟩, by simp only; omega⟩
  ·rw [dw (a := (i : Int) + 1) (n := i + 1) (by omega) (by omega)]; rfl
  ·simp only
   by_cases h : i < max (nl A) (nl B)
   ·exact .inl (by omega)
   ·have e : i = max (nl A) (nl B) := by omega
    have lA := gv (A := A) (i := i) (by omega)
    have lB := gv (A := B) (i := i) (by omega)
    refine .inr ⟨by omega, by rw [lA, lB]; omega, ?_⟩
    rw [hAv (by omega)] at hval
    have hc1 : c = 1 := by omega
    rw [hc1, Nat.one_mul, e] at hval
    omega
  ·simp only at hj ⊢
   unfold bJ
   split
   ·omega
   ·exact ho j (by omega)
  ·simp only
   rw [nD, val, val, fB]
   omega
 -- the end
 have fin : ∀ {s' : aE}, nl A ≤ i → nl B ≤ i → c = 0 → aU cZ s' = some (jG A B c i, jJ o i) → aB P c0 fA.ntmps (behind (ax fA) [1,1,1,0,1]) s' (dc c0 (Fin T fA (.mag (A + B)))) := by
  intro s' h1 h2 h3 hv
  have hsum : val i o = A + B := by rw [hAv (by omega), h3] at hval; omega
  cases i with
  | zero =>
   have : A + B = 0 := by rw [← hsum]; rfl
   refine aB.iC hT dJ hm 60 hv (ir h0) mX mh VH (by kernel_rfl) (by kernel_rfl) ?_
   rw [this]
   exact iG
  | succ i =>
   refine aB.iC hT dJ hm 60 hv (ir h0) mX mh Tu (by kernel_rfl) (by kernel_rfl) ?_
   refine jd ?_ fun j hj => ?_
   ·have l1 : nl (A + B) ≤ i + 1 := cB.2 (by rw [← hsum]; exact eo ho)
    have l2 : ¬ nl (A + B) ≤ i := by
     intro h
     rcases hi with hi | ⟨hi, _, hi2⟩
     ·have := fu (show A ≤ A + B by omega)
      have := fu (show B ≤ A + B by omega)
      omega
     ·rw [cB] at h
      rw [show max (nl A) (nl B) = i by omega] at hi2
      omega
    omega
   ·rw [← hsum, mI ho hj]; rfl
 refine aq.hole [0] (by kernel_rfl) (show aq P c0 fA.ntmps (part gj [0]) _ _ from Xs (fun s' h hv => bP ?_) fun s' h1 h2 h3 hv => nE (dQ (bP (fin h1 h2 h3 hv))))
 show aB P c0 fA.ntmps [part gj [1]] s' _
 exact body h hv
def Hq : Spec := kn (fun A B => .mag (A + B)) BX
theorem abH : ∀ K args pre r, Hq K args pre = some r → aA P vO K args pre r := nh fun h => aaC h.1 h.2
end Go.Am.B
