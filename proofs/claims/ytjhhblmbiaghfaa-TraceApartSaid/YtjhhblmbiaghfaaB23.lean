/- ref01: Add, minus, Sub, Mul, byLimb. -/
import Derived.Test.YtjhhblmbiaghfaaB22
set_option linter.unusedVariables false
namespace Go.Am.B
open Go Go.Am.N AV
theorem SK : aO P rZ eM (ax eM) := aS Pt (by kernel_rfl) (by kernel_rfl) (by kernel_rfl)
abbrev cL : List Nat := [0, 1, 5, 6, 7]
abbrev qG (A B c i : Nat) : List AV := [.mag A, .mag B, .own 7 1 0 i, .int .u64 c, .int .i64 i]
abbrev j7 (i : Nat) (o : Nat → Nat) : aA := [(7, ⟨true, true, 1, i, ag o⟩)]
noncomputable abbrev fF : Code := part (ax eM) [1,1,1,0,1,0,0]
theorem Rs {A B : Nat} : aG T cW [] 60 cL (before (ax eM) [1,1,1,0,1]) ⟨aM 0 [.mag A, .mag B], [], 0⟩ =
  some (aa.leaf aj.normal ([mag A, mag B, nil, int IntKind.u64 (0 : Int), int IntKind.i64 (0 : Int)], [])) := by kernel_rfl
theorem QI {A B c : Nat} : aG T cW [12, 18, 21] 60 cL [part fF [0]] ⟨aB cL [.mag A, .mag B, .nil, .int .u64 c, .int .i64 0], [], 8⟩ =
  some (aa.fork (decide ((0 : Int) < (↑(nl A) : Int))) (aa.fork true (aa.af [decide ((0 : Int) < (↑(nl A) : Int)) = true, true = true] (aa.fork true (aa.leaf aj.normal ([mag A, mag B, nil, int IntKind.u64 (↑c : Int), int IntKind.i64 (0 : Int)], [])) (aa.leaf (aj.exit 0) ([mag A, mag B, nil, int IntKind.u64 (↑c : Int), int IntKind.i64 (0 : Int)], [])))) (aa.af [decide ((0 : Int) < (↑(nl A) : Int)) = true, true = false] (aa.fork (bif false then true else (↑c : Int) != (0 : Int)) (aa.leaf aj.normal ([mag A, mag B, nil, int IntKind.u64 (↑c : Int), int IntKind.i64 (0 : Int)], [])) (aa.leaf (aj.exit 0) ([mag A, mag B, nil, int IntKind.u64 (↑c : Int), int IntKind.i64 (0 : Int)], []))))) (aa.fork (bif false then true else decide ((0 : Int) < (↑(nl B) : Int))) (aa.af [decide ((0 : Int) < (↑(nl A) : Int)) = false, (bif false then true else decide ((0 : Int) < (↑(nl B) : Int))) = true] (aa.fork true (aa.leaf aj.normal ([mag A, mag B, nil, int IntKind.u64 (↑c : Int), int IntKind.i64 (0 : Int)], [])) (aa.leaf (aj.exit 0) ([mag A, mag B, nil, int IntKind.u64 (↑c : Int), int IntKind.i64 (0 : Int)], [])))) (aa.af [decide ((0 : Int) < (↑(nl A) : Int)) = false, (bif false then true else decide ((0 : Int) < (↑(nl B) : Int))) = false] (aa.fork (bif false then true else (↑c : Int) != (0 : Int)) (aa.leaf aj.normal ([mag A, mag B, nil, int IntKind.u64 (↑c : Int), int IntKind.i64 (0 : Int)], [])) (aa.leaf (aj.exit 0) ([mag A, mag B, nil, int IntKind.u64 (↑c : Int), int IntKind.i64 (0 : Int)], [])))))) := by kernel_rfl
theorem IE {A B c i : Nat} {o : Nat → Nat} : aG T cW [12, 18, 21] 60 cL [part fF [0]] ⟨aB cL (qG A B c i), j7 i o, 8⟩ =
  some (aa.fork (decide ((↑i : Int) < (↑(nl A) : Int))) (aa.fork true (aa.af [decide ((↑i : Int) < (↑(nl A) : Int)) = true, true = true] (aa.fork true (aa.leaf aj.normal ([mag A, mag B, own 7 1 0 i, int IntKind.u64 (↑c : Int), int IntKind.i64 (↑i : Int)], [((7 : Nat), ⟨true, true, 1, i, ag o⟩)])) (aa.leaf (aj.exit 0) ([mag A, mag B, own 7 1 0 i, int IntKind.u64 (↑c : Int), int IntKind.i64 (↑i : Int)], [((7 : Nat), ⟨true, true, 1, i, ag o⟩)])))) (aa.af [decide ((↑i : Int) < (↑(nl A) : Int)) = true, true = false] (aa.fork (bif false then true else (↑c : Int) != (0 : Int)) (aa.leaf aj.normal ([mag A, mag B, own 7 1 0 i, int IntKind.u64 (↑c : Int), int IntKind.i64 (↑i : Int)], [((7 : Nat), ⟨true, true, 1, i, ag o⟩)])) (aa.leaf (aj.exit 0) ([mag A, mag B, own 7 1 0 i, int IntKind.u64 (↑c : Int), int IntKind.i64 (↑i : Int)], [((7 : Nat), ⟨true, true, 1, i, ag o⟩)]))))) (aa.fork (bif false then true else decide ((↑i : Int) < (↑(nl B) : Int))) (aa.af [decide ((↑i : Int) < (↑(nl A) : Int)) = false, (bif false then true else decide ((↑i : Int) < (↑(nl B) : Int))) = true] (aa.fork true (aa.leaf aj.normal ([mag A, mag B, own 7 1 0 i, int IntKind.u64 (↑c : Int), int IntKind.i64 (↑i : Int)], [((7 : Nat), ⟨true, true, 1, i, ag o⟩)])) (aa.leaf (aj.exit 0) ([mag A, mag B, own 7 1 0 i, int IntKind.u64 (↑c : Int), int IntKind.i64 (↑i : Int)], [((7 : Nat), ⟨true, true, 1, i, ag o⟩)])))) (aa.af [decide ((↑i : Int) < (↑(nl A) : Int)) = false, (bif false then true else decide ((↑i : Int) < (↑(nl B) : Int))) = false] (aa.fork (bif false then true else (↑c : Int) != (0 : Int)) (aa.leaf aj.normal ([mag A, mag B, own 7 1 0 i, int IntKind.u64 (↑c : Int), int IntKind.i64 (↑i : Int)], [((7 : Nat), ⟨true, true, 1, i, ag o⟩)])) (aa.leaf (aj.exit 0) ([mag A, mag B, own 7 1 0 i, int IntKind.u64 (↑c : Int), int IntKind.i64 (↑i : Int)], [((7 : Nat), ⟨true, true, 1, i, ag o⟩)])))))) := by kernel_rfl
theorem P9 {A B c : Nat} : aG T cW [27, 38] 60 cL (before (part fF [1,0,0]) [1,1]) ⟨aB cL [.mag A, .mag B, .nil, .int .u64 c, .int .i64 0], [], 8⟩ =
  some (aa.fork (decide ((0 : Int) < (↑(nl A) : Int))) (aa.af [(0 : Int) ≤ (0 : Int) ∧ Int.toNat (0 : Int) < nl A] (aa.fork (decide ((0 : Int) < (↑(nl B) : Int))) (aa.af [(0 : Int) ≤ (0 : Int) ∧ Int.toNat (0 : Int) < nl B] (aa.leaf aj.normal ([mag A, mag B, nil, int IntKind.u64 (IntKind.u64.wrap (IntKind.u64.wrap ((↑c : Int) + IntKind.u64.wrap (↑(au A (Int.toNat (0 : Int))) : Int)) + IntKind.u64.wrap (↑(au B (Int.toNat (0 : Int))) : Int))), int IntKind.i64 (0 : Int)], []))) (aa.leaf aj.normal ([mag A, mag B, nil, int IntKind.u64 (IntKind.u64.wrap ((↑c : Int) + IntKind.u64.wrap (↑(au A (Int.toNat (0 : Int))) : Int))), int IntKind.i64 (0 : Int)], [])))) (aa.fork (decide ((0 : Int) < (↑(nl B) : Int))) (aa.af [(0 : Int) ≤ (0 : Int) ∧ Int.toNat (0 : Int) < nl B] (aa.leaf aj.normal ([mag A, mag B, nil, int IntKind.u64 (IntKind.u64.wrap ((↑c : Int) + IntKind.u64.wrap (↑(au B (Int.toNat (0 : Int))) : Int))), int IntKind.i64 (0 : Int)], []))) (aa.leaf aj.normal ([mag A, mag B, nil, int IntKind.u64 (↑c : Int), int IntKind.i64 (0 : Int)], [])))) := by kernel_rfl
theorem Qj {A B c i : Nat} {o : Nat → Nat} : aG T cW [27, 38] 60 cL (before (part fF [1,0,0]) [1,1]) ⟨aB cL (qG A B c i), j7 i o, 8⟩ =
  some (aa.fork (decide ((↑i : Int) < (↑(nl A) : Int))) (aa.af [(0 : Int) ≤ (↑i : Int) ∧ (↑i : Int).toNat < nl A] (aa.fork (decide ((↑i : Int) < (↑(nl B) : Int))) (aa.af [(0 : Int) ≤ (↑i : Int) ∧ (↑i : Int).toNat < nl B] (aa.leaf aj.normal ([mag A, mag B, own 7 1 0 i, int IntKind.u64 (IntKind.u64.wrap (IntKind.u64.wrap ((↑c : Int) + IntKind.u64.wrap (↑(au A (↑i : Int).toNat) : Int)) + IntKind.u64.wrap (↑(au B (↑i : Int).toNat) : Int))), int IntKind.i64 (↑i : Int)], [((7 : Nat), ⟨true, true, 1, i, ag o⟩)]))) (aa.leaf aj.normal ([mag A, mag B, own 7 1 0 i, int IntKind.u64 (IntKind.u64.wrap ((↑c : Int) + IntKind.u64.wrap (↑(au A (↑i : Int).toNat) : Int))), int IntKind.i64 (↑i : Int)], [((7 : Nat), ⟨true, true, 1, i, ag o⟩)])))) (aa.fork (decide ((↑i : Int) < (↑(nl B) : Int))) (aa.af [(0 : Int) ≤ (↑i : Int) ∧ (↑i : Int).toNat < nl B] (aa.leaf aj.normal ([mag A, mag B, own 7 1 0 i, int IntKind.u64 (IntKind.u64.wrap ((↑c : Int) + IntKind.u64.wrap (↑(au B (↑i : Int).toNat) : Int))), int IntKind.i64 (↑i : Int)], [((7 : Nat), ⟨true, true, 1, i, ag o⟩)]))) (aa.leaf aj.normal ([mag A, mag B, own 7 1 0 i, int IntKind.u64 (↑c : Int), int IntKind.i64 (↑i : Int)], [((7 : Nat), ⟨true, true, 1, i, ag o⟩)])))) := by kernel_rfl
theorem L7 {A B c : Nat} : aG T cW [] 60 cL [part (part fF [1,0,0]) [1,1]] ⟨aB cL [.mag A, .mag B, .nil, .int .u64 c, .int .i64 0], [], 8⟩ =
  some (aa.af [(1 : Nat) * 1 ≤ 2 ^ 24, (0 : Nat) < 1 ∧ 1 * ((4 : Nat) + 1) * 2 ≤ 2 ^ 47] (aa.af [(0 : Int) ≤ (32 : Int)] (aa.leaf aj.normal ([mag A, mag B, own 16392 1 0 1, int IntKind.u64 ((↑c : Int).fdiv ((2 : Int) ^ min (Int.toNat (32 : Int)) IntKind.u64.bits)), int IntKind.i64 (0 : Int)], [((16392 : Nat), ⟨true, true, 1, 1, fun (i : Nat) ↦ nth [int IntKind.u32 (IntKind.u32.wrap (↑c : Int))] (int IntKind.u32 (0 : Int)) (i + 0)⟩)])))) := by kernel_rfl
theorem Qy {A B c i : Nat} {o : Nat → Nat} : aG T cW [] 60 cL [part (part fF [1,0,0]) [1,1]] ⟨aB cL (qG A B c i), j7 i o, 8⟩ =
  some (aa.af [(1 : Nat) * 1 ≤ 2 ^ 24, (i + 1) * ((4 : Nat) + 1) * 2 ≤ 2 ^ 47] (aa.af [(0 : Int) ≤ (32 : Int)] (aa.leaf aj.normal ([mag A, mag B, own 16392 1 0 (i + 1), int IntKind.u64 ((↑c : Int).fdiv ((2 : Int) ^ min (Int.toNat (32 : Int)) IntKind.u64.bits)), int IntKind.i64 (↑i : Int)], [((16392 : Nat), ⟨true, true, 1, i + 1, fun (i_1 : Nat) ↦ if i_1 < i then ag o i_1 else nth [int IntKind.u32 (IntKind.u32.wrap (↑c : Int))] (int IntKind.u32 (0 : Int)) (i_1 - i + 0)⟩)])))) := by kernel_rfl
theorem UY {A B c i j : Nat} {o : Nat → Nat} : aG T cW [] 60 cL [part fF [1,1]] ⟨aB cL [.mag A, .mag B, .own 7 1 0 i, .int .u64 c, .int .i64 j], j7 i o, 8⟩ =
  some (aa.leaf aj.normal ([mag A, mag B, own 7 1 0 i, int IntKind.u64 (↑c : Int), int IntKind.i64 (IntKind.i64.wrap ((↑j : Int) + (1 : Int)))], [((7 : Nat), ⟨true, true, 1, i, ag o⟩)])) := by kernel_rfl
theorem OC {A B c : Nat} : cJ T cW [] 60 eM (behind (ax eM) [1,1,1,0,1]) ⟨aB cL [.mag A, .mag B, .nil, .int .u64 c, .int .i64 0], [], 8⟩ =
  some (aa.leaf aj.ret [nil]) := by kernel_rfl
theorem OB {A B c i : Nat} {o : Nat → Nat} : cJ T cW [] 60 eM (behind (ax eM) [1,1,1,0,1]) ⟨aB cL (qG A B c i), j7 i o, 8⟩ =
  some (aa.leaf aj.ret [ah 1 i fun (i : Nat) ↦ ag o (i + 0)]) := by kernel_rfl
theorem fU {A i : Nat} (h : nl A ≤ i) : au A i = 0 := by
 unfold au
 rw [Nat.div_eq_of_lt (cm.1 h)]
def jc (A B c : Nat) : Nat → List AV
 | 0 => [.mag A, .mag B, .nil, .int .u64 c, .int .i64 0]
 | i + 1 => qG A B c (i + 1)
def iX (o : Nat → Nat) : Nat → aA
 | 0 => []
 | i + 1 => j7 (i + 1) o
theorem kS {A B c i : Nat} : gh 8 (jc A B c i) = true := by cases i <;> rfl
theorem lP {o : Nat → Nat} {i : Nat} : eP 8 (iX o i) := by
 cases i
 ·trivial
 ·exact ⟨⟨by omega, fun _ _ => rfl⟩, trivial⟩
section fadd
variable {c0 : Ctx} (h0 : c0.k0 = aQ) {A B : Nat} {Q : aj → aD → Prop}
include h0 in
theorem O8 {c i : Nat} {o : Nat → Nat} {s' : aD} (hc : c ≤ 1) (hv : aN cL s' = some (jc A B c i, iX o i))
  (fin : ∀ s', aN cL s' = some (jc A B (c + au A i + au B i) i, iX o i) → Q .normal s') : ay P c0 eM.ntmps (before (part fF [1,0,0]) [1,1]) s' Q := by
 have la := ct (N := A) (i := i)
 have lb := ct (N := B) (i := i)
 have wa : IntKind.u64.wrap (au A i : Int) = ((au A i : Nat) : Int) := bt (by omega) (by omega)
 have wb : IntKind.u64.wrap (au B i : Int) = ((au B i : Nat) : Int) := bt (by omega) (by omega)
 have w1 : IntKind.u64.wrap ((c : Int) + ((au A i : Nat) : Int)) = ((c + au A i : Nat) : Int) := by rw [bt (by omega) (by omega)]; omega
 have w2 : IntKind.u64.wrap ((c : Int) + ((au B i : Nat) : Int)) = ((c + au B i : Nat) : Int) := by rw [bt (by omega) (by omega)]; omega
 have w3 : IntKind.u64.wrap (((c + au A i : Nat) : Int) + ((au B i : Nat) : Int)) = ((c + au A i + au B i : Nat) : Int) := by rw [bt (by omega) (by omega)]; omega
 cases i with
 | zero =>
  refine ay.de hT cX hm 60 hv (gE h0) kS lP cL P9 (by kernel_rfl) (by kernel_rfl) ?_
  simp only [aa.all, az, decide_eq_true_eq, decide_eq_false_iff_not, Int.toNat_zero]
  rw [wa, wb, w1, w2, w3]
  refine ⟨fun h1 => ⟨by omega, fun h2 => ⟨by omega, fun s' hv => fin s' hv⟩, fun h2 s' hv => fin s' (cy hv ?_ rfl)⟩, fun h1 => ⟨fun h2 => ⟨by omega, fun s' hv => fin s' (cy hv ?_ rfl)⟩, fun h2 s' hv => fin s' (cy hv ?_ rfl)⟩⟩
  ·rw [fU (A := B) (by omega)]; rfl
  ·rw [fU (A := A) (by omega)]; rfl
  ·rw [fU (A := A) (by omega), fU (A := B) (by omega)]; rfl
 | succ i =>
  refine ay.de hT cX hm 60 hv (gE h0) kS lP cL Qj (by kernel_rfl) (by kernel_rfl) ?_
  simp only [aa.all, az, decide_eq_true_eq, decide_eq_false_iff_not, Int.toNat_natCast]
  rw [wa, wb, w1, w2, w3]
  refine ⟨fun h1 => ⟨by omega, fun h2 => ⟨by omega, fun s' hv => fin s' hv⟩, fun h2 s' hv => fin s' (cy hv ?_ rfl)⟩, fun h1 => ⟨fun h2 => ⟨by omega, fun s' hv => fin s' (cy hv ?_ rfl)⟩, fun h2 s' hv => fin s' (cy hv ?_ rfl)⟩⟩
  ·rw [fU (A := B) (by omega)]; rfl
  ·rw [fU (A := A) (by omega)]; rfl
  ·rw [fU (A := A) (by omega), fU (A := B) (by omega)]; rfl
include h0 in
theorem Sv {c i : Nat} {o : Nat → Nat} {s' : aD} (hi : i < 2 ^ 41) (hv : aN cL s' = some (jc A B c i, iX o i))
  (fin : ∀ s', (∃ ρ, Le c0 ρ s' ⟨aB cL [.mag A, .mag B, .own 7 1 0 (i + 1), .int .u64 (c / 4294967296 : Nat), .int .i64 i], j7 (i + 1) (bB o i (c % 4294967296)), 8⟩) → Q .normal s') : aq P c0 eM.ntmps (part (part fF [1,0,0]) [1,1]) s' Q := by
 have hd : (c : Int).fdiv (2 ^ min (Int.toNat 32) IntKind.u64.bits) = ((c / 4294967296 : Nat) : Int) := by rw [hH]; omega
 cases i with
 | zero =>
  refine aq.de hT cX hm 60 hv (gE h0) kS lP cL L7 (by kernel_rfl) ?_
  rw [hd]
  simp only [aa.all, az]
  refine ⟨⟨by omega, by omega, by omega⟩, by omega, fun s' hv => fin s' ?_⟩
  refine b9 (vs := [.mag A, .mag B, .own 7 1 0 1, .int .u64 (c / 4294967296 : Nat), .int .i64 0]) (ps := j7 1 (bB o 0 (c % 4294967296))) (nx := 8) [(7, 16392)] hv h0 rfl ⟨⟨rfl, aE rfl⟩, ⟨rfl, aE rfl⟩, ⟨rfl, cz rfl rfl rfl⟩, ⟨rfl, aE rfl⟩, ⟨rfl, aE rfl⟩, trivial⟩
   ⟨⟨_, _, rfl, rfl, dA rfl fun j hj => ?_⟩, trivial⟩
  have : j = 0 := by omega
  subst this
  simp [nth, ag, gA, gl]
 | succ i =>
  refine aq.de hT cX hm 60 hv (gE h0) kS lP cL Qy (by kernel_rfl) ?_
  rw [hd]
  simp only [aa.all, az]
  refine ⟨⟨by omega, by omega⟩, by omega, fun s' hv => fin s' ?_⟩
  refine b9 (vs := [.mag A, .mag B, .own 7 1 0 (i + 1 + 1), .int .u64 (c / 4294967296 : Nat), .int .i64 ((i + 1 : Nat) : Int)]) (ps := j7 (i + 1 + 1) (bB o (i + 1) (c % 4294967296))) (nx := 8) [(7, 16392)] hv h0 rfl ⟨⟨rfl, aE rfl⟩, ⟨rfl, aE rfl⟩, ⟨rfl, cz rfl rfl rfl⟩, ⟨rfl, aE rfl⟩, ⟨rfl, aE rfl⟩, trivial⟩
   ⟨⟨_, _, rfl, rfl, dA rfl fun j hj => ?_⟩, trivial⟩
  by_cases h : j < i + 1
  ·rw [if_pos h]; unfold ag; rw [dH (by omega)]
  ·have : j = i + 1 := by omega
   subst this
   simp [nth, ag, gA, gl]
end fadd
theorem KR {c i : Nat} {o : Nat → Nat} {c0 : Ctx} {Q : aj → aD → Prop} {A B : Nat} (yes : ∀ s', (i < nl A ∨ i < nl B ∨ c ≠ 0) → aN cL s' = some (jc A B c i, iX o i) → Q .normal s')
  (no : ∀ s', nl A ≤ i → nl B ≤ i → c = 0 → aN cL s' = some (jc A B c i, iX o i) → Q (.exit 0) s') : aq P c0 eM.ntmps (part fF [0]) ⟨aB cL (jc A B c i), iX o i, 8⟩ Q := by
 cases i with
 | zero =>
  refine aq.aR hT cX hm 60 cL QI (by kernel_rfl) ?_
  refine ⟨fun h => ⟨fun _ => ⟨⟨h, rfl⟩, fun _ s' hv => yes s' (.inl (by have := of_decide_eq_true h; omega)) hv, fun hf => by simp at hf⟩, fun hf => by simp at hf⟩,
   fun h => ⟨fun h2 => ⟨⟨h, h2⟩, fun _ s' hv => yes s' (.inr (.inl (by have := of_decide_eq_true (eW h2); omega))) hv, fun hf => by simp at hf⟩,
    fun h2 => ⟨⟨h, h2⟩, fun h3 s' hv => yes s' (.inr (.inr ?_)) hv, fun h3 s' hv => no s' ?_ ?_ ?_ hv⟩⟩⟩
  ·have := eW h3
   simp at this; exact this
  ·have := of_decide_eq_false h; omega
  ·have := of_decide_eq_false (eW h2); omega
  ·have := eW h3
   simp at this; exact this
 | succ i =>
  refine aq.aR hT cX hm 60 cL IE (by kernel_rfl) ?_
  refine ⟨fun h => ⟨fun _ => ⟨⟨h, rfl⟩, fun _ s' hv => yes s' (.inl (by have := of_decide_eq_true h; omega)) hv, fun hf => by simp at hf⟩, fun hf => by simp at hf⟩,
   fun h => ⟨fun h2 => ⟨⟨h, h2⟩, fun _ s' hv => yes s' (.inr (.inl (by have := of_decide_eq_true (eW h2); omega))) hv, fun hf => by simp at hf⟩,
    fun h2 => ⟨⟨h, h2⟩, fun h3 s' hv => yes s' (.inr (.inr ?_)) hv, fun h3 s' hv => no s' ?_ ?_ ?_ hv⟩⟩⟩
  ·have := eW h3
   simp at this; exact this
  ·have := of_decide_eq_false h; omega
  ·have := of_decide_eq_false (eW h2); omega
  ·have := eW h3
   simp at this; exact this
theorem TD {A B : Nat} (hA : nl A < 2 ^ 40) (hB : nl B < 2 ^ 40) (K : Nat) : aC P rZ K [.mag A, .mag B] [] (aJ (.mag (A + B)) []) := by
 refine gn hT SK rfl (of_decide_eq_true (by kernel_rfl)) rfl (fun _ c0 h0 => .down ?_) K []
 refine aq.hole [1,1,1,0,1] (by kernel_rfl) (ay.aR hT cX hm 60 cL Rs (by kernel_rfl) fun s' hv => bD ?_)
 refine aq.fh (i := 0) (y := fF) (by kernel_rfl) (fun p : Nat × Nat × (Nat → Nat) => ⟨aB cL (jc A B p.2.1 p.1), iX p.2.2 p.1, 8⟩)
  (fun p => (p.1 ≤ max (nl A) (nl B) ∨ (p.1 = max (nl A) (nl B) + 1 ∧ p.2.1 = 0 ∧ 2 ^ (32 * max (nl A) (nl B)) ≤ A + B)) ∧ p.2.1 ≤ 1 ∧ (∀ j, j < p.1 → p.2.2 j < 2 ^ 32) ∧ val p.1 p.2.2 + p.2.1 * 2 ^ (32 * p.1) = val p.1 (au A) + val p.1 (au B))
  (fun p => max (nl A) (nl B) + 1 - p.1) (0, 0, fun _ => 0) (jA hv (gE h0) kS lP) ⟨by simp, by simp, fun j hj => by simp only at hj; omega, by simp [val]⟩ ?_
 rintro ⟨i, c, o⟩ ⟨hi, hc, ho, hval⟩
 simp only at hi hc ho hval
 have hAv : max (nl A) (nl B) ≤ i → val i (au A) + val i (au B) = A + B := fun h => by
  rw [kM (cm.1 (by omega)), kM (cm.1 (by omega))]
 -- a round
 have body : ∀ {s' : aD}, (i < nl A ∨ i < nl B ∨ c ≠ 0) → aN cL s' = some (jc A B c i, iX o i) → ∀ {QF : aj → aD → Prop},
   aq P c0 eM.ntmps (part fF [1]) s' (cM (fun s' => ∃ k : Nat × Nat × (Nat → Nat), (∃ ρ, Le c0 ρ s' ⟨aB cL (jc A B k.2.1 k.1), iX k.2.2 k.1, 8⟩) ∧
    ((k.1 ≤ max (nl A) (nl B) ∨ (k.1 = max (nl A) (nl B) + 1 ∧ k.2.1 = 0 ∧ 2 ^ (32 * max (nl A) (nl B)) ≤ A + B)) ∧ k.2.1 ≤ 1 ∧ (∀ j, j < k.1 → k.2.2 j < 2 ^ 32) ∧ val k.1 k.2.2 + k.2.1 * 2 ^ (32 * k.1) = val k.1 (au A) + val k.1 (au B)) ∧
    max (nl A) (nl B) + 1 - k.1 < max (nl A) (nl B) + 1 - i) QF) := by
  intro s' hcont hv QF
  have hi' : i ≤ max (nl A) (nl B) := by omega
  have la := ct (N := A) (i := i)
  have lb := ct (N := B) (i := i)
  refine aq.hole [0] (by kernel_rfl) ?_
  show aq P c0 eM.ntmps (part fF [1,0]) s' _
  refine aq.kn (i := 1) (y := part fF [1,0,0]) (by kernel_rfl) ?_
  refine aq.hole [1,1] (by kernel_rfl) (O8 h0 hc hv fun s' hv => bD (Sv h0 (by omega) hv fun s' hle => bD ?_))
  show ay P c0 eM.ntmps [part fF [1,1]] s' _
  refine ay.weak rfl hle (ay.aR hT cX hm 60 cL UY (by kernel_rfl) fun s' hv => bD ?_)
  have hs := xX (B := 2 ^ (32 * i)) (c := c) (z := au A i) (y := au B i) rfl hval
  refine ⟨(i + 1, (c + au A i + au B i) / 4294967296, bB o i ((c + au A i + au B i) % 4294967296)), jA (cy hv ?_ rfl) (gE h0) kS lP, ⟨?_, by simp only; omega, fun j hj => ?_, ?_⟩, by simp only; omega⟩
  ·rw [cS (a := (i : Int) + 1) (n := i + 1) (by omega) (by omega)]; rfl
  ·simp only
   by_cases h : i < max (nl A) (nl B)
   ·exact .inl (by omega)
   ·have e : i = max (nl A) (nl B) := by omega
    have lA := fU (A := A) (i := i) (by omega)
    have lB := fU (A := B) (i := i) (by omega)
    refine .inr ⟨by omega, by rw [lA, lB]; omega, ?_⟩
    rw [hAv (by omega)] at hval
    have hc1 : c = 1 := by omega
    rw [hc1, Nat.one_mul, e] at hval
    omega
  ·simp only at hj ⊢
   unfold bB
   split
   ·omega
   ·exact ho j (by omega)
  ·simp only
   rw [mA, val, val, eU]
   omega
 -- the end
 have fin : ∀ {s' : aD}, nl A ≤ i → nl B ≤ i → c = 0 → aN cL s' = some (jc A B c i, iX o i) → ay P c0 eM.ntmps (behind (ax eM) [1,1,1,0,1]) s' (dh c0 (Fin T eM (.mag (A + B)))) := by
  intro s' h1 h2 h3 hv
  have hsum : val i o = A + B := by rw [hAv (by omega), h3] at hval; omega
  cases i with
  | zero =>
   have : A + B = 0 := by rw [← hsum]; rfl
   refine ay.gu hT cX hm 60 hv (gE h0) kS lP OC (by kernel_rfl) (by kernel_rfl) ?_
   rw [this]
   exact gL
  | succ i =>
   refine ay.gu hT cX hm 60 hv (gE h0) kS lP OB (by kernel_rfl) (by kernel_rfl) ?_
   refine g9 ?_ fun j hj => ?_
   ·have l1 : nl (A + B) ≤ i + 1 := cm.2 (by rw [← hsum]; exact dN ho)
    have l2 : ¬ nl (A + B) ≤ i := by
     intro h
     rcases hi with hi | ⟨hi, _, hi2⟩
     ·have := eR (show A ≤ A + B by omega)
      have := eR (show B ≤ A + B by omega)
      omega
     ·rw [cm] at h
      rw [show max (nl A) (nl B) = i by omega] at hi2
      omega
    omega
   ·rw [← hsum, kH ho hj]; rfl
 refine aq.hole [0] (by kernel_rfl) (show aq P c0 eM.ntmps (part fF [0]) _ _ from KR (fun s' h hv => bD ?_) fun s' h1 h2 h3 hv => mK (dz (bD (fin h1 h2 h3 hv))))
 show ay P c0 eM.ntmps [part fF [1]] s' _
 exact body h hv
def EB : Spec := jw (fun A B => .mag (A + B)) yU
theorem GK : ∀ K args pre r, EB K args pre = some r → aC P rZ K args pre r := lI fun h => TD h.1 h.2
end Go.Am.B
