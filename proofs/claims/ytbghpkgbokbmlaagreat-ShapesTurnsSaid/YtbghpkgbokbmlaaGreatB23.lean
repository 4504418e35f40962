/- ref01: Add, minus, Sub, Mul, byLimb. -/
import Derived.Test.YtbghpkgbokbmlaaGreatB22
set_option linter.unusedVariables false
namespace Go.Am.B
open Go Go.Am.N AV
theorem OT : aN P r4 fz (au fz) := aK SY (by kernel_rfl) (by kernel_rfl) (by kernel_rfl)
abbrev cS : List Nat := [0, 1, 5, 6, 7]
abbrev rq (A B c i : Nat) : List AV := [.mag A, .mag B, .own 7 1 0 i, .int .u64 c, .int .i64 i]
abbrev jQ (i : Nat) (o : Nat → Nat) : aC := [(7, ⟨true, true, 1, i, ah o⟩)]
noncomputable abbrev fT : Code := part (au fz) [1,1,1,0,1,0,0]
theorem Vm {A B : Nat} : aH T dw [] 60 cS (before (au fz) [1,1,1,0,1]) ⟨aL 0 [.mag A, .mag B], [], 0⟩ =
  some (aa.leaf aj.normal ([mag A, mag B, nil, int IntKind.u64 (0 : Int), int IntKind.i64 (0 : Int)], [])) := by kernel_rfl
theorem KZ {A B c : Nat} : aH T dw [12, 18, 21] 60 cS [part fT [0]] ⟨az cS [.mag A, .mag B, .nil, .int .u64 c, .int .i64 0], [], 8⟩ =
  some (aa.fork (decide ((0 : Int) < (↑(nl A) : Int))) (aa.fork true (aa.af [decide ((0 : Int) < (↑(nl A) : Int)) = true, true = true] (aa.fork true (aa.leaf aj.normal ([mag A, mag B, nil, int IntKind.u64 (↑c : Int), int IntKind.i64 (0 : Int)], [])) (aa.leaf (aj.exit 0) ([mag A, mag B, nil, int IntKind.u64 (↑c : Int), int IntKind.i64 (0 : Int)], [])))) (aa.af [decide ((0 : Int) < (↑(nl A) : Int)) = true, true = false] (aa.fork (bif false then true else (↑c : Int) != (0 : Int)) (aa.leaf aj.normal ([mag A, mag B, nil, int IntKind.u64 (↑c : Int), int IntKind.i64 (0 : Int)], [])) (aa.leaf (aj.exit 0) ([mag A, mag B, nil, int IntKind.u64 (↑c : Int), int IntKind.i64 (0 : Int)], []))))) (aa.fork (bif false then true else decide ((0 : Int) < (↑(nl B) : Int))) (aa.af [decide ((0 : Int) < (↑(nl A) : Int)) = false, (bif false then true else decide ((0 : Int) < (↑(nl B) : Int))) = true] (aa.fork true (aa.leaf aj.normal ([mag A, mag B, nil, int IntKind.u64 (↑c : Int), int IntKind.i64 (0 : Int)], [])) (aa.leaf (aj.exit 0) ([mag A, mag B, nil, int IntKind.u64 (↑c : Int), int IntKind.i64 (0 : Int)], [])))) (aa.af [decide ((0 : Int) < (↑(nl A) : Int)) = false, (bif false then true else decide ((0 : Int) < (↑(nl B) : Int))) = false] (aa.fork (bif false then true else (↑c : Int) != (0 : Int)) (aa.leaf aj.normal ([mag A, mag B, nil, int IntKind.u64 (↑c : Int), int IntKind.i64 (0 : Int)], [])) (aa.leaf (aj.exit 0) ([mag A, mag B, nil, int IntKind.u64 (↑c : Int), int IntKind.i64 (0 : Int)], [])))))) := by kernel_rfl
theorem NA {A B c i : Nat} {o : Nat → Nat} : aH T dw [12, 18, 21] 60 cS [part fT [0]] ⟨az cS (rq A B c i), jQ i o, 8⟩ =
  some (aa.fork (decide ((↑i : Int) < (↑(nl A) : Int))) (aa.fork true (aa.af [decide ((↑i : Int) < (↑(nl A) : Int)) = true, true = true] (aa.fork true (aa.leaf aj.normal ([mag A, mag B, own 7 1 0 i, int IntKind.u64 (↑c : Int), int IntKind.i64 (↑i : Int)], [((7 : Nat), ⟨true, true, 1, i, ah o⟩)])) (aa.leaf (aj.exit 0) ([mag A, mag B, own 7 1 0 i, int IntKind.u64 (↑c : Int), int IntKind.i64 (↑i : Int)], [((7 : Nat), ⟨true, true, 1, i, ah o⟩)])))) (aa.af [decide ((↑i : Int) < (↑(nl A) : Int)) = true, true = false] (aa.fork (bif false then true else (↑c : Int) != (0 : Int)) (aa.leaf aj.normal ([mag A, mag B, own 7 1 0 i, int IntKind.u64 (↑c : Int), int IntKind.i64 (↑i : Int)], [((7 : Nat), ⟨true, true, 1, i, ah o⟩)])) (aa.leaf (aj.exit 0) ([mag A, mag B, own 7 1 0 i, int IntKind.u64 (↑c : Int), int IntKind.i64 (↑i : Int)], [((7 : Nat), ⟨true, true, 1, i, ah o⟩)]))))) (aa.fork (bif false then true else decide ((↑i : Int) < (↑(nl B) : Int))) (aa.af [decide ((↑i : Int) < (↑(nl A) : Int)) = false, (bif false then true else decide ((↑i : Int) < (↑(nl B) : Int))) = true] (aa.fork true (aa.leaf aj.normal ([mag A, mag B, own 7 1 0 i, int IntKind.u64 (↑c : Int), int IntKind.i64 (↑i : Int)], [((7 : Nat), ⟨true, true, 1, i, ah o⟩)])) (aa.leaf (aj.exit 0) ([mag A, mag B, own 7 1 0 i, int IntKind.u64 (↑c : Int), int IntKind.i64 (↑i : Int)], [((7 : Nat), ⟨true, true, 1, i, ah o⟩)])))) (aa.af [decide ((↑i : Int) < (↑(nl A) : Int)) = false, (bif false then true else decide ((↑i : Int) < (↑(nl B) : Int))) = false] (aa.fork (bif false then true else (↑c : Int) != (0 : Int)) (aa.leaf aj.normal ([mag A, mag B, own 7 1 0 i, int IntKind.u64 (↑c : Int), int IntKind.i64 (↑i : Int)], [((7 : Nat), ⟨true, true, 1, i, ah o⟩)])) (aa.leaf (aj.exit 0) ([mag A, mag B, own 7 1 0 i, int IntKind.u64 (↑c : Int), int IntKind.i64 (↑i : Int)], [((7 : Nat), ⟨true, true, 1, i, ah o⟩)])))))) := by kernel_rfl
theorem Ry {A B c : Nat} : aH T dw [27, 38] 60 cS (before (part fT [1,0,0]) [1,1]) ⟨az cS [.mag A, .mag B, .nil, .int .u64 c, .int .i64 0], [], 8⟩ =
  some (aa.fork (decide ((0 : Int) < (↑(nl A) : Int))) (aa.af [(0 : Int) ≤ (0 : Int) ∧ Int.toNat (0 : Int) < nl A] (aa.fork (decide ((0 : Int) < (↑(nl B) : Int))) (aa.af [(0 : Int) ≤ (0 : Int) ∧ Int.toNat (0 : Int) < nl B] (aa.leaf aj.normal ([mag A, mag B, nil, int IntKind.u64 (IntKind.u64.wrap (IntKind.u64.wrap ((↑c : Int) + IntKind.u64.wrap (↑(aq A (Int.toNat (0 : Int))) : Int)) + IntKind.u64.wrap (↑(aq B (Int.toNat (0 : Int))) : Int))), int IntKind.i64 (0 : Int)], []))) (aa.leaf aj.normal ([mag A, mag B, nil, int IntKind.u64 (IntKind.u64.wrap ((↑c : Int) + IntKind.u64.wrap (↑(aq A (Int.toNat (0 : Int))) : Int))), int IntKind.i64 (0 : Int)], [])))) (aa.fork (decide ((0 : Int) < (↑(nl B) : Int))) (aa.af [(0 : Int) ≤ (0 : Int) ∧ Int.toNat (0 : Int) < nl B] (aa.leaf aj.normal ([mag A, mag B, nil, int IntKind.u64 (IntKind.u64.wrap ((↑c : Int) + IntKind.u64.wrap (↑(aq B (Int.toNat (0 : Int))) : Int))), int IntKind.i64 (0 : Int)], []))) (aa.leaf aj.normal ([mag A, mag B, nil, int IntKind.u64 (↑c : Int), int IntKind.i64 (0 : Int)], [])))) := by kernel_rfl
theorem Pt {A B c i : Nat} {o : Nat → Nat} : aH T dw [27, 38] 60 cS (before (part fT [1,0,0]) [1,1]) ⟨az cS (rq A B c i), jQ i o, 8⟩ =
  some (aa.fork (decide ((↑i : Int) < (↑(nl A) : Int))) (aa.af [(0 : Int) ≤ (↑i : Int) ∧ (↑i : Int).toNat < nl A] (aa.fork (decide ((↑i : Int) < (↑(nl B) : Int))) (aa.af [(0 : Int) ≤ (↑i : Int) ∧ (↑i : Int).toNat < nl B] (aa.leaf aj.normal ([mag A, mag B, own 7 1 0 i, int IntKind.u64 (IntKind.u64.wrap (IntKind.u64.wrap ((↑c : Int) + IntKind.u64.wrap (↑(aq A (↑i : Int).toNat) : Int)) + IntKind.u64.wrap (↑(aq B (↑i : Int).toNat) : Int))), int IntKind.i64 (↑i : Int)], [((7 : Nat), ⟨true, true, 1, i, ah o⟩)]))) (aa.leaf aj.normal ([mag A, mag B, own 7 1 0 i, int IntKind.u64 (IntKind.u64.wrap ((↑c : Int) + IntKind.u64.wrap (↑(aq A (↑i : Int).toNat) : Int))), int IntKind.i64 (↑i : Int)], [((7 : Nat), ⟨true, true, 1, i, ah o⟩)])))) (aa.fork (decide ((↑i : Int) < (↑(nl B) : Int))) (aa.af [(0 : Int) ≤ (↑i : Int) ∧ (↑i : Int).toNat < nl B] (aa.leaf aj.normal ([mag A, mag B, own 7 1 0 i, int IntKind.u64 (IntKind.u64.wrap ((↑c : Int) + IntKind.u64.wrap (↑(aq B (↑i : Int).toNat) : Int))), int IntKind.i64 (↑i : Int)], [((7 : Nat), ⟨true, true, 1, i, ah o⟩)]))) (aa.leaf aj.normal ([mag A, mag B, own 7 1 0 i, int IntKind.u64 (↑c : Int), int IntKind.i64 (↑i : Int)], [((7 : Nat), ⟨true, true, 1, i, ah o⟩)])))) := by kernel_rfl
theorem Ty {A B c : Nat} : aH T dw [] 60 cS [part (part fT [1,0,0]) [1,1]] ⟨az cS [.mag A, .mag B, .nil, .int .u64 c, .int .i64 0], [], 8⟩ =
  some (aa.af [(1 : Nat) * 1 ≤ 2 ^ 24, (0 : Nat) < 1 ∧ 1 * ((4 : Nat) + 1) * 2 ≤ 2 ^ 47] (aa.af [(0 : Int) ≤ (32 : Int)] (aa.leaf aj.normal ([mag A, mag B, own 16392 1 0 1, int IntKind.u64 ((↑c : Int).fdiv ((2 : Int) ^ min (Int.toNat (32 : Int)) IntKind.u64.bits)), int IntKind.i64 (0 : Int)], [((16392 : Nat), ⟨true, true, 1, 1, fun (i : Nat) ↦ nth [int IntKind.u32 (IntKind.u32.wrap (↑c : Int))] (int IntKind.u32 (0 : Int)) (i + 0)⟩)])))) := by kernel_rfl
theorem Uz {A B c i : Nat} {o : Nat → Nat} : aH T dw [] 60 cS [part (part fT [1,0,0]) [1,1]] ⟨az cS (rq A B c i), jQ i o, 8⟩ =
  some (aa.af [(1 : Nat) * 1 ≤ 2 ^ 24, (i + 1) * ((4 : Nat) + 1) * 2 ≤ 2 ^ 47] (aa.af [(0 : Int) ≤ (32 : Int)] (aa.leaf aj.normal ([mag A, mag B, own 16392 1 0 (i + 1), int IntKind.u64 ((↑c : Int).fdiv ((2 : Int) ^ min (Int.toNat (32 : Int)) IntKind.u64.bits)), int IntKind.i64 (↑i : Int)], [((16392 : Nat), ⟨true, true, 1, i + 1, fun (i_1 : Nat) ↦ if i_1 < i then ah o i_1 else nth [int IntKind.u32 (IntKind.u32.wrap (↑c : Int))] (int IntKind.u32 (0 : Int)) (i_1 - i + 0)⟩)])))) := by kernel_rfl
theorem QU {A B c i j : Nat} {o : Nat → Nat} : aH T dw [] 60 cS [part fT [1,1]] ⟨az cS [.mag A, .mag B, .own 7 1 0 i, .int .u64 c, .int .i64 j], jQ i o, 8⟩ =
  some (aa.leaf aj.normal ([mag A, mag B, own 7 1 0 i, int IntKind.u64 (↑c : Int), int IntKind.i64 (IntKind.i64.wrap ((↑j : Int) + (1 : Int)))], [((7 : Nat), ⟨true, true, 1, i, ah o⟩)])) := by kernel_rfl
theorem Sd {A B c : Nat} : bR T dw [] 60 fz (behind (au fz) [1,1,1,0,1]) ⟨az cS [.mag A, .mag B, .nil, .int .u64 c, .int .i64 0], [], 8⟩ =
  some (aa.leaf aj.ret [nil]) := by kernel_rfl
theorem aaw {A B c i : Nat} {o : Nat → Nat} : bR T dw [] 60 fz (behind (au fz) [1,1,1,0,1]) ⟨az cS (rq A B c i), jQ i o, 8⟩ =
  some (aa.leaf aj.ret [ag 1 i fun (i : Nat) ↦ ah o (i + 0)]) := by kernel_rfl
theorem gf {A i : Nat} (h : nl A ≤ i) : aq A i = 0 := by
 unfold aq
 rw [Nat.div_eq_of_lt (cj.1 h)]
def jm (A B c : Nat) : Nat → List AV
 | 0 => [.mag A, .mag B, .nil, .int .u64 c, .int .i64 0]
 | i + 1 => rq A B c (i + 1)
def iY (o : Nat → Nat) : Nat → aC
 | 0 => []
 | i + 1 => jQ (i + 1) o
theorem l5 {A B c i : Nat} : gu 8 (jm A B c i) = true := by cases i <;> rfl
theorem lK {o : Nat → Nat} {i : Nat} : fo 8 (iY o i) := by
 cases i
 ·trivial
 ·exact ⟨⟨by omega, fun _ _ => rfl⟩, trivial⟩
section fadd
variable {c0 : Ctx} (h0 : c0.k0 = aS) {A B : Nat} {Q : aj → aE → Prop}
include h0 in
theorem Yd {c i : Nat} {o : Nat → Nat} {s' : aE} (hc : c ≤ 1) (hv : aR cS s' = some (jm A B c i, iY o i))
  (fin : ∀ s', aR cS s' = some (jm A B (c + aq A i + aq B i) i, iY o i) → Q .normal s') : ay P c0 fz.ntmps (before (part fT [1,0,0]) [1,1]) s' Q := by
 have la := cA (N := A) (i := i)
 have lb := cA (N := B) (i := i)
 have wa : IntKind.u64.wrap (aq A i : Int) = ((aq A i : Nat) : Int) := bz (by omega) (by omega)
 have wb : IntKind.u64.wrap (aq B i : Int) = ((aq B i : Nat) : Int) := bz (by omega) (by omega)
 have w1 : IntKind.u64.wrap ((c : Int) + ((aq A i : Nat) : Int)) = ((c + aq A i : Nat) : Int) := by rw [bz (by omega) (by omega)]; omega
 have w2 : IntKind.u64.wrap ((c : Int) + ((aq B i : Nat) : Int)) = ((c + aq B i : Nat) : Int) := by rw [bz (by omega) (by omega)]; omega
 have w3 : IntKind.u64.wrap (((c + aq A i : Nat) : Int) + ((aq B i : Nat) : Int)) = ((c + aq A i + aq B i : Nat) : Int) := by rw [bz (by omega) (by omega)]; omega
 cases i with
 | zero =>
  refine ay.dJ hT dF hm 60 hv (gZ h0) l5 lK cS Ry (by kernel_rfl) (by kernel_rfl) ?_
  simp only [aa.all, ax, decide_eq_true_eq, decide_eq_false_iff_not, Int.toNat_zero]
  rw [wa, wb, w1, w2, w3]
  refine ⟨fun h1 => ⟨by omega, fun h2 => ⟨by omega, fun s' hv => fin s' hv⟩, fun h2 s' hv => fin s' (cD hv ?_ rfl)⟩, fun h1 => ⟨fun h2 => ⟨by omega, fun s' hv => fin s' (cD hv ?_ rfl)⟩, fun h2 s' hv => fin s' (cD hv ?_ rfl)⟩⟩
  ·rw [gf (A := B) (by omega)]; rfl
  ·rw [gf (A := A) (by omega)]; rfl
  ·rw [gf (A := A) (by omega), gf (A := B) (by omega)]; rfl
 | succ i =>
  refine ay.dJ hT dF hm 60 hv (gZ h0) l5 lK cS Pt (by kernel_rfl) (by kernel_rfl) ?_
  simp only [aa.all, ax, decide_eq_true_eq, decide_eq_false_iff_not, Int.toNat_natCast]
  rw [wa, wb, w1, w2, w3]
  refine ⟨fun h1 => ⟨by omega, fun h2 => ⟨by omega, fun s' hv => fin s' hv⟩, fun h2 s' hv => fin s' (cD hv ?_ rfl)⟩, fun h1 => ⟨fun h2 => ⟨by omega, fun s' hv => fin s' (cD hv ?_ rfl)⟩, fun h2 s' hv => fin s' (cD hv ?_ rfl)⟩⟩
  ·rw [gf (A := B) (by omega)]; rfl
  ·rw [gf (A := A) (by omega)]; rfl
  ·rw [gf (A := A) (by omega), gf (A := B) (by omega)]; rfl
include h0 in
theorem Qa {c i : Nat} {o : Nat → Nat} {s' : aE} (hi : i < 2 ^ 41) (hv : aR cS s' = some (jm A B c i, iY o i))
  (fin : ∀ s', (∃ ρ, Le c0 ρ s' ⟨az cS [.mag A, .mag B, .own 7 1 0 (i + 1), .int .u64 (c / 4294967296 : Nat), .int .i64 i], jQ (i + 1) (bE o i (c % 4294967296)), 8⟩) → Q .normal s') : ak P c0 fz.ntmps (part (part fT [1,0,0]) [1,1]) s' Q := by
 have hd : (c : Int).fdiv (2 ^ min (Int.toNat 32) IntKind.u64.bits) = ((c / 4294967296 : Nat) : Int) := by rw [iV]; omega
 cases i with
 | zero =>
  refine ak.dJ hT dF hm 60 hv (gZ h0) l5 lK cS Ty (by kernel_rfl) ?_
  rw [hd]
  simp only [aa.all, ax]
  refine ⟨⟨by omega, by omega, by omega⟩, by omega, fun s' hv => fin s' ?_⟩
  refine ck (vs := [.mag A, .mag B, .own 7 1 0 1, .int .u64 (c / 4294967296 : Nat), .int .i64 0]) (ps := jQ 1 (bE o 0 (c % 4294967296))) (nx := 8) [(7, 16392)] hv h0 rfl ⟨⟨rfl, aF rfl⟩, ⟨rfl, aF rfl⟩, ⟨rfl, cr rfl rfl rfl⟩, ⟨rfl, aF rfl⟩, ⟨rfl, aF rfl⟩, trivial⟩
   ⟨⟨_, _, rfl, rfl, dZ rfl fun j hj => ?_⟩, trivial⟩
  have : j = 0 := by omega
  subst this
  simp [nth, ah, g7, gx]
 | succ i =>
  refine ak.dJ hT dF hm 60 hv (gZ h0) l5 lK cS Uz (by kernel_rfl) ?_
  rw [hd]
  simp only [aa.all, ax]
  refine ⟨⟨by omega, by omega⟩, by omega, fun s' hv => fin s' ?_⟩
  refine ck (vs := [.mag A, .mag B, .own 7 1 0 (i + 1 + 1), .int .u64 (c / 4294967296 : Nat), .int .i64 ((i + 1 : Nat) : Int)]) (ps := jQ (i + 1 + 1) (bE o (i + 1) (c % 4294967296))) (nx := 8) [(7, 16392)] hv h0 rfl ⟨⟨rfl, aF rfl⟩, ⟨rfl, aF rfl⟩, ⟨rfl, cr rfl rfl rfl⟩, ⟨rfl, aF rfl⟩, ⟨rfl, aF rfl⟩, trivial⟩
   ⟨⟨_, _, rfl, rfl, dZ rfl fun j hj => ?_⟩, trivial⟩
  by_cases h : j < i + 1
  ·rw [if_pos h]; unfold ah; rw [eg (by omega)]
  ·have : j = i + 1 := by omega
   subst this
   simp [nth, ah, g7, gx]
end fadd
theorem P3 {c i : Nat} {o : Nat → Nat} {c0 : Ctx} {Q : aj → aE → Prop} {A B : Nat} (yes : ∀ s', (i < nl A ∨ i < nl B ∨ c ≠ 0) → aR cS s' = some (jm A B c i, iY o i) → Q .normal s')
  (no : ∀ s', nl A ≤ i → nl B ≤ i → c = 0 → aR cS s' = some (jm A B c i, iY o i) → Q (.exit 0) s') : ak P c0 fz.ntmps (part fT [0]) ⟨az cS (jm A B c i), iY o i, 8⟩ Q := by
 cases i with
 | zero =>
  refine ak.aY hT dF hm 60 cS KZ (by kernel_rfl) ?_
  refine ⟨fun h => ⟨fun _ => ⟨⟨h, rfl⟩, fun _ s' hv => yes s' (.inl (by have := of_decide_eq_true h; omega)) hv, fun hf => by simp at hf⟩, fun hf => by simp at hf⟩,
   fun h => ⟨fun h2 => ⟨⟨h, h2⟩, fun _ s' hv => yes s' (.inr (.inl (by have := of_decide_eq_true (fG h2); omega))) hv, fun hf => by simp at hf⟩,
    fun h2 => ⟨⟨h, h2⟩, fun h3 s' hv => yes s' (.inr (.inr ?_)) hv, fun h3 s' hv => no s' ?_ ?_ ?_ hv⟩⟩⟩
  ·have := fG h3
   simp at this; exact this
  ·have := of_decide_eq_false h; omega
  ·have := of_decide_eq_false (fG h2); omega
  ·have := fG h3
   simp at this; exact this
 | succ i =>
  refine ak.aY hT dF hm 60 cS NA (by kernel_rfl) ?_
  refine ⟨fun h => ⟨fun _ => ⟨⟨h, rfl⟩, fun _ s' hv => yes s' (.inl (by have := of_decide_eq_true h; omega)) hv, fun hf => by simp at hf⟩, fun hf => by simp at hf⟩,
   fun h => ⟨fun h2 => ⟨⟨h, h2⟩, fun _ s' hv => yes s' (.inr (.inl (by have := of_decide_eq_true (fG h2); omega))) hv, fun hf => by simp at hf⟩,
    fun h2 => ⟨⟨h, h2⟩, fun h3 s' hv => yes s' (.inr (.inr ?_)) hv, fun h3 s' hv => no s' ?_ ?_ ?_ hv⟩⟩⟩
  ·have := fG h3
   simp at this; exact this
  ·have := of_decide_eq_false h; omega
  ·have := of_decide_eq_false (fG h2); omega
  ·have := fG h3
   simp at this; exact this
theorem Ky {A B : Nat} (hA : nl A < 2 ^ 40) (hB : nl B < 2 ^ 40) (K : Nat) : aA P r4 K [.mag A, .mag B] [] (aG (.mag (A + B)) []) := by
 refine gz hT OT rfl (of_decide_eq_true (by kernel_rfl)) rfl (fun _ c0 h0 => .down ?_) K []
 refine ak.hole [1,1,1,0,1] (by kernel_rfl) (ay.aY hT dF hm 60 cS Vm (by kernel_rfl) fun s' hv => bG ?_)
 refine ak.fL (i := 0) (y := fT) (by kernel_rfl) (fun p : Nat × Nat × (Nat → Nat) => ⟨az cS (jm A B p.2.1 p.1), iY p.2.2 p.1, 8⟩)
  (fun p => (p.1 ≤ max (nl A) (nl B) ∨ (p.1 = max (nl A) (nl B) + 1 ∧ p.2.1 = 0 ∧ 2 ^ (32 * max (nl A) (nl B)) ≤ A + B)) ∧ p.2.1 ≤ 1 ∧ (∀ j, j < p.1 → p.2.2 j < 2 ^ 32) ∧ val p.1 p.2.2 + p.2.1 * 2 ^ (32 * p.1) = val p.1 (aq A) + val p.1 (aq B))
  (fun p => max (nl A) (nl B) + 1 - p.1) (0, 0, fun _ => 0) (kH hv (gZ h0) l5 lK) ⟨by simp, by simp, fun j hj => by simp only at hj; omega, by simp [val]⟩ ?_
 rintro ⟨i, c, o⟩ ⟨hi, hc, ho, hval⟩
 simp only at hi hc ho hval
 have hAv : max (nl A) (nl B) ≤ i → val i (aq A) + val i (aq B) = A + B := fun h => by
  rw [k8 (cj.1 (by omega)), k8 (cj.1 (by omega))]
 -- a round
 have body : ∀ {s' : aE}, (i < nl A ∨ i < nl B ∨ c ≠ 0) → aR cS s' = some (jm A B c i, iY o i) → ∀ {QF : aj → aE → Prop},
   ak P c0 fz.ntmps (part fT [1]) s' (cR (fun s' => ∃ k : Nat × Nat × (Nat → Nat), (∃ ρ, Le c0 ρ s' ⟨az cS (jm A B k.2.1 k.1), iY k.2.2 k.1, 8⟩) ∧
    ((k.1 ≤ max (nl A) (nl B) ∨ (k.1 = max (nl A) (nl B) + 1 ∧ k.2.1 = 0 ∧ 2 ^ (32 * max (nl A) (nl B)) ≤ A + B)) ∧ k.2.1 ≤ 1 ∧ (∀ j, j < k.1 → k.2.2 j < 2 ^ 32) ∧ val k.1 k.2.2 + k.2.1 * 2 ^ (32 * k.1) = val k.1 (aq A) + val k.1 (aq B)) ∧
    max (nl A) (nl B) + 1 - k.1 < max (nl A) (nl B) + 1 - i) QF) := by
  intro s' hcont hv QF
  have hi' : i ≤ max (nl A) (nl B) := by omega
  have la := cA (N := A) (i := i)
  have lb := cA (N := B) (i := i)
  refine ak.hole [0] (by kernel_rfl) ?_
  show ak P c0 fz.ntmps (part fT [1,0]) s' _
  refine ak.lJ (i := 1) (y := part fT [1,0,0]) (by kernel_rfl) ?_
  refine ak.hole [1,1] (by kernel_rfl) (Yd h0 hc hv fun s' hv => bG (Qa h0 (by omega) hv fun s' hle => bG ?_))
  show ay P c0 fz.ntmps [part fT [1,1]] s' _
  refine ay.weak rfl hle (ay.aY hT dF hm 60 cS QU (by kernel_rfl) fun s' hv => bG ?_)
  have hs := BW (B := 2 ^ (32 * i)) (c := c) (z := aq A i) (y := aq B i) rfl hval
  refine ⟨(i + 1, (c + aq A i + aq B i) / 4294967296, bE o i ((c + aq A i + aq B i) % 4294967296)), kH (cD hv ?_ rfl) (gZ h0) l5 lK, ⟨?_, by simp only; omega, fun j hj => ?_, ?_⟩, by simp only; omega⟩
  ·rw [dh (a := (i : Int) + 1) (n := i + 1) (by omega) (by omega)]; rfl
  ·simp only
   by_cases h : i < max (nl A) (nl B)
   ·exact .inl (by omega)
   ·have e : i = max (nl A) (nl B) := by omega
    have lA := gf (A := A) (i := i) (by omega)
    have lB := gf (A := B) (i := i) (by omega)
    refine .inr ⟨by omega, by rw [lA, lB]; omega, ?_⟩
    rw [hAv (by omega)] at hval
    have hc1 : c = 1 := by omega
    rw [hc1, Nat.one_mul, e] at hval
    omega
  ·simp only at hj ⊢
   unfold bE
   split
   ·omega
   ·exact ho j (by omega)
  ·simp only
   rw [n6, val, val, fA]
   omega
 -- the end
 have fin : ∀ {s' : aE}, nl A ≤ i → nl B ≤ i → c = 0 → aR cS s' = some (jm A B c i, iY o i) → ay P c0 fz.ntmps (behind (au fz) [1,1,1,0,1]) s' (dD c0 (Fin T fz (.mag (A + B)))) := by
  intro s' h1 h2 h3 hv
  have hsum : val i o = A + B := by rw [hAv (by omega), h3] at hval; omega
  cases i with
  | zero =>
   have : A + B = 0 := by rw [← hsum]; rfl
   refine ay.gQ hT dF hm 60 hv (gZ h0) l5 lK Sd (by kernel_rfl) (by kernel_rfl) ?_
   rw [this]
   exact g9
  | succ i =>
   refine ay.gQ hT dF hm 60 hv (gZ h0) l5 lK aaw (by kernel_rfl) (by kernel_rfl) ?_
   refine iU ?_ fun j hj => ?_
   ·have l1 : nl (A + B) ≤ i + 1 := cj.2 (by rw [← hsum]; exact eo ho)
    have l2 : ¬ nl (A + B) ≤ i := by
     intro h
     rcases hi with hi | ⟨hi, _, hi2⟩
     ·have := fc (show A ≤ A + B by omega)
      have := fc (show B ≤ A + B by omega)
      omega
     ·rw [cj] at h
      rw [show max (nl A) (nl B) = i by omega] at hi2
      omega
    omega
   ·rw [← hsum, kY ho hj]; rfl
 refine ak.hole [0] (by kernel_rfl) (show ak P c0 fz.ntmps (part fT [0]) _ _ from P3 (fun s' h hv => bG ?_) fun s' h1 h2 h3 hv => nk (dK (bG (fin h1 h2 h3 hv))))
 show ay P c0 fz.ntmps [part fT [1]] s' _
 exact body h hv
def C1 : Spec := jD (fun A B => .mag (A + B)) Bh
theorem aaU : ∀ K args pre r, C1 K args pre = some r → aA P r4 K args pre r := mb fun h => Ky h.1 h.2
end Go.Am.B
