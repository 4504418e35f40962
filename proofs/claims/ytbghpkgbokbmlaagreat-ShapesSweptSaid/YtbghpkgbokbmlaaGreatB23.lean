/- ref01: Add, minus, Sub, Mul, byLimb. -/
import Derived.Test.YtbghpkgbokbmlaaGreatB22
set_option linter.unusedVariables false
namespace Go.Am.B
open Go Go.Am.N AV
theorem PZ : aP P tK fH (au fH) := aL M7 (by kernel_rfl) (by kernel_rfl) (by kernel_rfl)
abbrev dh : List Nat := [0, 1, 5, 6, 7]
abbrev sy (A B c i : Nat) : List AV := [.mag A, .mag B, .own 7 1 0 i, .int .u64 c, .int .i64 i]
abbrev ko (i : Nat) (o : Nat → Nat) : aD := [(7, ⟨true, true, 1, i, ah o⟩)]
noncomputable abbrev gp : Code := part (au fH) [1,1,1,0,1,0,0]
theorem PJ {A B : Nat} : aH T dK [] 60 dh (before (au fH) [1,1,1,0,1]) ⟨aM 0 [.mag A, .mag B], [], 0⟩ =
  some (aa.leaf ag.normal ([mag A, mag B, nil, int IntKind.u64 (0 : Int), int IntKind.i64 (0 : Int)], [])) := by kernel_rfl
theorem Rm {A B c : Nat} : aH T dK [12, 18, 21] 60 dh [part gp [0]] ⟨aB dh [.mag A, .mag B, .nil, .int .u64 c, .int .i64 0], [], 8⟩ =
  some (aa.fork (decide ((0 : Int) < (↑(nl A) : Int))) (aa.fork true (aa.af [decide ((0 : Int) < (↑(nl A) : Int)) = true, true = true] (aa.fork true (aa.leaf ag.normal ([mag A, mag B, nil, int IntKind.u64 (↑c : Int), int IntKind.i64 (0 : Int)], [])) (aa.leaf (ag.exit 0) ([mag A, mag B, nil, int IntKind.u64 (↑c : Int), int IntKind.i64 (0 : Int)], [])))) (aa.af [decide ((0 : Int) < (↑(nl A) : Int)) = true, true = false] (aa.fork (bif false then true else (↑c : Int) != (0 : Int)) (aa.leaf ag.normal ([mag A, mag B, nil, int IntKind.u64 (↑c : Int), int IntKind.i64 (0 : Int)], [])) (aa.leaf (ag.exit 0) ([mag A, mag B, nil, int IntKind.u64 (↑c : Int), int IntKind.i64 (0 : Int)], []))))) (aa.fork (bif false then true else decide ((0 : Int) < (↑(nl B) : Int))) (aa.af [decide ((0 : Int) < (↑(nl A) : Int)) = false, (bif false then true else decide ((0 : Int) < (↑(nl B) : Int))) = true] (aa.fork true (aa.leaf ag.normal ([mag A, mag B, nil, int IntKind.u64 (↑c : Int), int IntKind.i64 (0 : Int)], [])) (aa.leaf (ag.exit 0) ([mag A, mag B, nil, int IntKind.u64 (↑c : Int), int IntKind.i64 (0 : Int)], [])))) (aa.af [decide ((0 : Int) < (↑(nl A) : Int)) = false, (bif false then true else decide ((0 : Int) < (↑(nl B) : Int))) = false] (aa.fork (bif false then true else (↑c : Int) != (0 : Int)) (aa.leaf ag.normal ([mag A, mag B, nil, int IntKind.u64 (↑c : Int), int IntKind.i64 (0 : Int)], [])) (aa.leaf (ag.exit 0) ([mag A, mag B, nil, int IntKind.u64 (↑c : Int), int IntKind.i64 (0 : Int)], [])))))) := by kernel_rfl
theorem Vs {A B c i : Nat} {o : Nat → Nat} : aH T dK [12, 18, 21] 60 dh [part gp [0]] ⟨aB dh (sy A B c i), ko i o, 8⟩ =
  some (aa.fork (decide ((↑i : Int) < (↑(nl A) : Int))) (aa.fork true (aa.af [decide ((↑i : Int) < (↑(nl A) : Int)) = true, true = true] (aa.fork true (aa.leaf ag.normal ([mag A, mag B, own 7 1 0 i, int IntKind.u64 (↑c : Int), int IntKind.i64 (↑i : Int)], [((7 : Nat), ⟨true, true, 1, i, ah o⟩)])) (aa.leaf (ag.exit 0) ([mag A, mag B, own 7 1 0 i, int IntKind.u64 (↑c : Int), int IntKind.i64 (↑i : Int)], [((7 : Nat), ⟨true, true, 1, i, ah o⟩)])))) (aa.af [decide ((↑i : Int) < (↑(nl A) : Int)) = true, true = false] (aa.fork (bif false then true else (↑c : Int) != (0 : Int)) (aa.leaf ag.normal ([mag A, mag B, own 7 1 0 i, int IntKind.u64 (↑c : Int), int IntKind.i64 (↑i : Int)], [((7 : Nat), ⟨true, true, 1, i, ah o⟩)])) (aa.leaf (ag.exit 0) ([mag A, mag B, own 7 1 0 i, int IntKind.u64 (↑c : Int), int IntKind.i64 (↑i : Int)], [((7 : Nat), ⟨true, true, 1, i, ah o⟩)]))))) (aa.fork (bif false then true else decide ((↑i : Int) < (↑(nl B) : Int))) (aa.af [decide ((↑i : Int) < (↑(nl A) : Int)) = false, (bif false then true else decide ((↑i : Int) < (↑(nl B) : Int))) = true] (aa.fork true (aa.leaf ag.normal ([mag A, mag B, own 7 1 0 i, int IntKind.u64 (↑c : Int), int IntKind.i64 (↑i : Int)], [((7 : Nat), ⟨true, true, 1, i, ah o⟩)])) (aa.leaf (ag.exit 0) ([mag A, mag B, own 7 1 0 i, int IntKind.u64 (↑c : Int), int IntKind.i64 (↑i : Int)], [((7 : Nat), ⟨true, true, 1, i, ah o⟩)])))) (aa.af [decide ((↑i : Int) < (↑(nl A) : Int)) = false, (bif false then true else decide ((↑i : Int) < (↑(nl B) : Int))) = false] (aa.fork (bif false then true else (↑c : Int) != (0 : Int)) (aa.leaf ag.normal ([mag A, mag B, own 7 1 0 i, int IntKind.u64 (↑c : Int), int IntKind.i64 (↑i : Int)], [((7 : Nat), ⟨true, true, 1, i, ah o⟩)])) (aa.leaf (ag.exit 0) ([mag A, mag B, own 7 1 0 i, int IntKind.u64 (↑c : Int), int IntKind.i64 (↑i : Int)], [((7 : Nat), ⟨true, true, 1, i, ah o⟩)])))))) := by kernel_rfl
theorem Np {A B c : Nat} : aH T dK [27, 38] 60 dh (before (part gp [1,0,0]) [1,1]) ⟨aB dh [.mag A, .mag B, .nil, .int .u64 c, .int .i64 0], [], 8⟩ =
  some (aa.fork (decide ((0 : Int) < (↑(nl A) : Int))) (aa.af [(0 : Int) ≤ (0 : Int) ∧ Int.toNat (0 : Int) < nl A] (aa.fork (decide ((0 : Int) < (↑(nl B) : Int))) (aa.af [(0 : Int) ≤ (0 : Int) ∧ Int.toNat (0 : Int) < nl B] (aa.leaf ag.normal ([mag A, mag B, nil, int IntKind.u64 (IntKind.u64.wrap (IntKind.u64.wrap ((↑c : Int) + IntKind.u64.wrap (↑(ak A (Int.toNat (0 : Int))) : Int)) + IntKind.u64.wrap (↑(ak B (Int.toNat (0 : Int))) : Int))), int IntKind.i64 (0 : Int)], []))) (aa.leaf ag.normal ([mag A, mag B, nil, int IntKind.u64 (IntKind.u64.wrap ((↑c : Int) + IntKind.u64.wrap (↑(ak A (Int.toNat (0 : Int))) : Int))), int IntKind.i64 (0 : Int)], [])))) (aa.fork (decide ((0 : Int) < (↑(nl B) : Int))) (aa.af [(0 : Int) ≤ (0 : Int) ∧ Int.toNat (0 : Int) < nl B] (aa.leaf ag.normal ([mag A, mag B, nil, int IntKind.u64 (IntKind.u64.wrap ((↑c : Int) + IntKind.u64.wrap (↑(ak B (Int.toNat (0 : Int))) : Int))), int IntKind.i64 (0 : Int)], []))) (aa.leaf ag.normal ([mag A, mag B, nil, int IntKind.u64 (↑c : Int), int IntKind.i64 (0 : Int)], [])))) := by kernel_rfl
theorem MH {A B c i : Nat} {o : Nat → Nat} : aH T dK [27, 38] 60 dh (before (part gp [1,0,0]) [1,1]) ⟨aB dh (sy A B c i), ko i o, 8⟩ =
  some (aa.fork (decide ((↑i : Int) < (↑(nl A) : Int))) (aa.af [(0 : Int) ≤ (↑i : Int) ∧ (↑i : Int).toNat < nl A] (aa.fork (decide ((↑i : Int) < (↑(nl B) : Int))) (aa.af [(0 : Int) ≤ (↑i : Int) ∧ (↑i : Int).toNat < nl B] (aa.leaf ag.normal ([mag A, mag B, own 7 1 0 i, int IntKind.u64 (IntKind.u64.wrap (IntKind.u64.wrap ((↑c : Int) + IntKind.u64.wrap (↑(ak A (↑i : Int).toNat) : Int)) + IntKind.u64.wrap (↑(ak B (↑i : Int).toNat) : Int))), int IntKind.i64 (↑i : Int)], [((7 : Nat), ⟨true, true, 1, i, ah o⟩)]))) (aa.leaf ag.normal ([mag A, mag B, own 7 1 0 i, int IntKind.u64 (IntKind.u64.wrap ((↑c : Int) + IntKind.u64.wrap (↑(ak A (↑i : Int).toNat) : Int))), int IntKind.i64 (↑i : Int)], [((7 : Nat), ⟨true, true, 1, i, ah o⟩)])))) (aa.fork (decide ((↑i : Int) < (↑(nl B) : Int))) (aa.af [(0 : Int) ≤ (↑i : Int) ∧ (↑i : Int).toNat < nl B] (aa.leaf ag.normal ([mag A, mag B, own 7 1 0 i, int IntKind.u64 (IntKind.u64.wrap ((↑c : Int) + IntKind.u64.wrap (↑(ak B (↑i : Int).toNat) : Int))), int IntKind.i64 (↑i : Int)], [((7 : Nat), ⟨true, true, 1, i, ah o⟩)]))) (aa.leaf ag.normal ([mag A, mag B, own 7 1 0 i, int IntKind.u64 (↑c : Int), int IntKind.i64 (↑i : Int)], [((7 : Nat), ⟨true, true, 1, i, ah o⟩)])))) := by kernel_rfl
theorem MC {A B c : Nat} : aH T dK [] 60 dh [part (part gp [1,0,0]) [1,1]] ⟨aB dh [.mag A, .mag B, .nil, .int .u64 c, .int .i64 0], [], 8⟩ =
  some (aa.af [(1 : Nat) * 1 ≤ 2 ^ 24, (0 : Nat) < 1 ∧ 1 * ((4 : Nat) + 1) * 2 ≤ 2 ^ 47] (aa.af [(0 : Int) ≤ (32 : Int)] (aa.leaf ag.normal ([mag A, mag B, own 16392 1 0 1, int IntKind.u64 ((↑c : Int).fdiv ((2 : Int) ^ min (Int.toNat (32 : Int)) IntKind.u64.bits)), int IntKind.i64 (0 : Int)], [((16392 : Nat), ⟨true, true, 1, 1, fun (i : Nat) ↦ nth [int IntKind.u32 (IntKind.u32.wrap (↑c : Int))] (int IntKind.u32 (0 : Int)) (i + 0)⟩)])))) := by kernel_rfl
theorem aa7 {A B c i : Nat} {o : Nat → Nat} : aH T dK [] 60 dh [part (part gp [1,0,0]) [1,1]] ⟨aB dh (sy A B c i), ko i o, 8⟩ =
  some (aa.af [(1 : Nat) * 1 ≤ 2 ^ 24, (i + 1) * ((4 : Nat) + 1) * 2 ≤ 2 ^ 47] (aa.af [(0 : Int) ≤ (32 : Int)] (aa.leaf ag.normal ([mag A, mag B, own 16392 1 0 (i + 1), int IntKind.u64 ((↑c : Int).fdiv ((2 : Int) ^ min (Int.toNat (32 : Int)) IntKind.u64.bits)), int IntKind.i64 (↑i : Int)], [((16392 : Nat), ⟨true, true, 1, i + 1, fun (i_1 : Nat) ↦ if i_1 < i then ah o i_1 else nth [int IntKind.u32 (IntKind.u32.wrap (↑c : Int))] (int IntKind.u32 (0 : Int)) (i_1 - i + 0)⟩)])))) := by kernel_rfl
theorem acV {A B c i j : Nat} {o : Nat → Nat} : aH T dK [] 60 dh [part gp [1,1]] ⟨aB dh [.mag A, .mag B, .own 7 1 0 i, .int .u64 c, .int .i64 j], ko i o, 8⟩ =
  some (aa.leaf ag.normal ([mag A, mag B, own 7 1 0 i, int IntKind.u64 (↑c : Int), int IntKind.i64 (IntKind.i64.wrap ((↑j : Int) + (1 : Int)))], [((7 : Nat), ⟨true, true, 1, i, ah o⟩)])) := by kernel_rfl
theorem Wy {A B c : Nat} : bW T dK [] 60 fH (behind (au fH) [1,1,1,0,1]) ⟨aB dh [.mag A, .mag B, .nil, .int .u64 c, .int .i64 0], [], 8⟩ =
  some (aa.leaf ag.ret [nil]) := by kernel_rfl
theorem OC {A B c i : Nat} {o : Nat → Nat} : bW T dK [] 60 fH (behind (au fH) [1,1,1,0,1]) ⟨aB dh (sy A B c i), ko i o, 8⟩ =
  some (aa.leaf ag.ret [aj 1 i fun (i : Nat) ↦ ah o (i + 0)]) := by kernel_rfl
theorem gB {A i : Nat} (h : nl A ≤ i) : ak A i = 0 := by
 unfold ak
 rw [Nat.div_eq_of_lt (cw.1 h)]
def jw (A B c : Nat) : Nat → List AV
 | 0 => [.mag A, .mag B, .nil, .int .u64 c, .int .i64 0]
 | i + 1 => sy A B c (i + 1)
def jH (o : Nat → Nat) : Nat → aD
 | 0 => []
 | i + 1 => ko (i + 1) o
theorem mV {A B c i : Nat} : gY 8 (jw A B c i) = true := by cases i <;> rfl
theorem lR {o : Nat → Nat} {i : Nat} : fE 8 (jH o i) := by
 cases i
 ·trivial
 ·exact ⟨⟨by omega, fun _ _ => rfl⟩, trivial⟩
section fadd
variable {c0 : Ctx} (h0 : c0.k0 = aV) {A B : Nat} {Q : ag → aE → Prop}
include h0 in
theorem Z7 {c i : Nat} {o : Nat → Nat} {s' : aE} (hc : c ≤ 1) (hv : aU dh s' = some (jw A B c i, jH o i))
  (fin : ∀ s', aU dh s' = some (jw A B (c + ak A i + ak B i) i, jH o i) → Q .normal s') : aA P c0 fH.ntmps (before (part gp [1,0,0]) [1,1]) s' Q := by
 have la := cJ (N := A) (i := i)
 have lb := cJ (N := B) (i := i)
 have wa : IntKind.u64.wrap (ak A i : Int) = ((ak A i : Nat) : Int) := bC (by omega) (by omega)
 have wb : IntKind.u64.wrap (ak B i : Int) = ((ak B i : Nat) : Int) := bC (by omega) (by omega)
 have w1 : IntKind.u64.wrap ((c : Int) + ((ak A i : Nat) : Int)) = ((c + ak A i : Nat) : Int) := by rw [bC (by omega) (by omega)]; omega
 have w2 : IntKind.u64.wrap ((c : Int) + ((ak B i : Nat) : Int)) = ((c + ak B i : Nat) : Int) := by rw [bC (by omega) (by omega)]; omega
 have w3 : IntKind.u64.wrap (((c + ak A i : Nat) : Int) + ((ak B i : Nat) : Int)) = ((c + ak A i + ak B i : Nat) : Int) := by rw [bC (by omega) (by omega)]; omega
 cases i with
 | zero =>
  refine aA.dS hT dL hm 60 hv (iA h0) mV lR dh Np (by kernel_rfl) (by kernel_rfl) ?_
  simp only [aa.all, ax, decide_eq_true_eq, decide_eq_false_iff_not, Int.toNat_zero]
  rw [wa, wb, w1, w2, w3]
  refine ⟨fun h1 => ⟨by omega, fun h2 => ⟨by omega, fun s' hv => fin s' hv⟩, fun h2 s' hv => fin s' (cM hv ?_ rfl)⟩, fun h1 => ⟨fun h2 => ⟨by omega, fun s' hv => fin s' (cM hv ?_ rfl)⟩, fun h2 s' hv => fin s' (cM hv ?_ rfl)⟩⟩
  ·rw [gB (A := B) (by omega)]; rfl
  ·rw [gB (A := A) (by omega)]; rfl
  ·rw [gB (A := A) (by omega), gB (A := B) (by omega)]; rfl
 | succ i =>
  refine aA.dS hT dL hm 60 hv (iA h0) mV lR dh MH (by kernel_rfl) (by kernel_rfl) ?_
  simp only [aa.all, ax, decide_eq_true_eq, decide_eq_false_iff_not, Int.toNat_natCast]
  rw [wa, wb, w1, w2, w3]
  refine ⟨fun h1 => ⟨by omega, fun h2 => ⟨by omega, fun s' hv => fin s' hv⟩, fun h2 s' hv => fin s' (cM hv ?_ rfl)⟩, fun h1 => ⟨fun h2 => ⟨by omega, fun s' hv => fin s' (cM hv ?_ rfl)⟩, fun h2 s' hv => fin s' (cM hv ?_ rfl)⟩⟩
  ·rw [gB (A := B) (by omega)]; rfl
  ·rw [gB (A := A) (by omega)]; rfl
  ·rw [gB (A := A) (by omega), gB (A := B) (by omega)]; rfl
include h0 in
theorem Z8 {c i : Nat} {o : Nat → Nat} {s' : aE} (hi : i < 2 ^ 41) (hv : aU dh s' = some (jw A B c i, jH o i))
  (fin : ∀ s', (∃ ρ, Le c0 ρ s' ⟨aB dh [.mag A, .mag B, .own 7 1 0 (i + 1), .int .u64 (c / 4294967296 : Nat), .int .i64 i], ko (i + 1) (bG o i (c % 4294967296)), 8⟩) → Q .normal s') : aq P c0 fH.ntmps (part (part gp [1,0,0]) [1,1]) s' Q := by
 have hd : (c : Int).fdiv (2 ^ min (Int.toNat 32) IntKind.u64.bits) = ((c / 4294967296 : Nat) : Int) := by rw [jb]; omega
 cases i with
 | zero =>
  refine aq.dS hT dL hm 60 hv (iA h0) mV lR dh MC (by kernel_rfl) ?_
  rw [hd]
  simp only [aa.all, ax]
  refine ⟨⟨by omega, by omega, by omega⟩, by omega, fun s' hv => fin s' ?_⟩
  refine cA (vs := [.mag A, .mag B, .own 7 1 0 1, .int .u64 (c / 4294967296 : Nat), .int .i64 0]) (ps := ko 1 (bG o 0 (c % 4294967296))) (nx := 8) [(7, 16392)] hv h0 rfl ⟨⟨rfl, aG rfl⟩, ⟨rfl, aG rfl⟩, ⟨rfl, cj rfl rfl rfl⟩, ⟨rfl, aG rfl⟩, ⟨rfl, aG rfl⟩, trivial⟩
   ⟨⟨_, _, rfl, rfl, ew rfl fun j hj => ?_⟩, trivial⟩
  have : j = 0 := by omega
  subst this
  simp [nth, ah, ia, gU]
 | succ i =>
  refine aq.dS hT dL hm 60 hv (iA h0) mV lR dh aa7 (by kernel_rfl) ?_
  rw [hd]
  simp only [aa.all, ax]
  refine ⟨⟨by omega, by omega⟩, by omega, fun s' hv => fin s' ?_⟩
  refine cA (vs := [.mag A, .mag B, .own 7 1 0 (i + 1 + 1), .int .u64 (c / 4294967296 : Nat), .int .i64 ((i + 1 : Nat) : Int)]) (ps := ko (i + 1 + 1) (bG o (i + 1) (c % 4294967296))) (nx := 8) [(7, 16392)] hv h0 rfl ⟨⟨rfl, aG rfl⟩, ⟨rfl, aG rfl⟩, ⟨rfl, cj rfl rfl rfl⟩, ⟨rfl, aG rfl⟩, ⟨rfl, aG rfl⟩, trivial⟩
   ⟨⟨_, _, rfl, rfl, ew rfl fun j hj => ?_⟩, trivial⟩
  by_cases h : j < i + 1
  ·rw [if_pos h]; unfold ah; rw [eC (by omega)]
  ·have : j = i + 1 := by omega
   subst this
   simp [nth, ah, ia, gU]
end fadd
theorem L4 {c i : Nat} {o : Nat → Nat} {c0 : Ctx} {Q : ag → aE → Prop} {A B : Nat} (yes : ∀ s', (i < nl A ∨ i < nl B ∨ c ≠ 0) → aU dh s' = some (jw A B c i, jH o i) → Q .normal s')
  (no : ∀ s', nl A ≤ i → nl B ≤ i → c = 0 → aU dh s' = some (jw A B c i, jH o i) → Q (.exit 0) s') : aq P c0 fH.ntmps (part gp [0]) ⟨aB dh (jw A B c i), jH o i, 8⟩ Q := by
 cases i with
 | zero =>
  refine aq.aZ hT dL hm 60 dh Rm (by kernel_rfl) ?_
  refine ⟨fun h => ⟨fun _ => ⟨⟨h, rfl⟩, fun _ s' hv => yes s' (.inl (by have := of_decide_eq_true h; omega)) hv, fun hf => by simp at hf⟩, fun hf => by simp at hf⟩,
   fun h => ⟨fun h2 => ⟨⟨h, h2⟩, fun _ s' hv => yes s' (.inr (.inl (by have := of_decide_eq_true (fQ h2); omega))) hv, fun hf => by simp at hf⟩,
    fun h2 => ⟨⟨h, h2⟩, fun h3 s' hv => yes s' (.inr (.inr ?_)) hv, fun h3 s' hv => no s' ?_ ?_ ?_ hv⟩⟩⟩
  ·have := fQ h3
   simp at this; exact this
  ·have := of_decide_eq_false h; omega
  ·have := of_decide_eq_false (fQ h2); omega
  ·have := fQ h3
   simp at this; exact this
 | succ i =>
  refine aq.aZ hT dL hm 60 dh Vs (by kernel_rfl) ?_
  refine ⟨fun h => ⟨fun _ => ⟨⟨h, rfl⟩, fun _ s' hv => yes s' (.inl (by have := of_decide_eq_true h; omega)) hv, fun hf => by simp at hf⟩, fun hf => by simp at hf⟩,
   fun h => ⟨fun h2 => ⟨⟨h, h2⟩, fun _ s' hv => yes s' (.inr (.inl (by have := of_decide_eq_true (fQ h2); omega))) hv, fun hf => by simp at hf⟩,
    fun h2 => ⟨⟨h, h2⟩, fun h3 s' hv => yes s' (.inr (.inr ?_)) hv, fun h3 s' hv => no s' ?_ ?_ ?_ hv⟩⟩⟩
  ·have := fQ h3
   simp at this; exact this
  ·have := of_decide_eq_false h; omega
  ·have := of_decide_eq_false (fQ h2); omega
  ·have := fQ h3
   simp at this; exact this
theorem adf {A B : Nat} (hA : nl A < 2 ^ 40) (hB : nl B < 2 ^ 40) (K : Nat) : az P tK K [.mag A, .mag B] [] (aF (.mag (A + B)) []) := by
 refine gX hT PZ rfl (of_decide_eq_true (by kernel_rfl)) rfl (fun _ c0 h0 => .down ?_) K []
 refine aq.hole [1,1,1,0,1] (by kernel_rfl) (aA.aZ hT dL hm 60 dh PJ (by kernel_rfl) fun s' hv => bI ?_)
 refine aq.gk (i := 0) (y := gp) (by kernel_rfl) (fun p : Nat × Nat × (Nat → Nat) => ⟨aB dh (jw A B p.2.1 p.1), jH p.2.2 p.1, 8⟩)
  (fun p => (p.1 ≤ max (nl A) (nl B) ∨ (p.1 = max (nl A) (nl B) + 1 ∧ p.2.1 = 0 ∧ 2 ^ (32 * max (nl A) (nl B)) ≤ A + B)) ∧ p.2.1 ≤ 1 ∧ (∀ j, j < p.1 → p.2.2 j < 2 ^ 32) ∧ val p.1 p.2.2 + p.2.1 * 2 ^ (32 * p.1) = val p.1 (ak A) + val p.1 (ak B))
  (fun p => max (nl A) (nl B) + 1 - p.1) (0, 0, fun _ => 0) (kS hv (iA h0) mV lR) ⟨by simp, by simp, fun j hj => by simp only at hj; omega, by simp [val]⟩ ?_
 rintro ⟨i, c, o⟩ ⟨hi, hc, ho, hval⟩
 simp only at hi hc ho hval
 have hAv : max (nl A) (nl B) ≤ i → val i (ak A) + val i (ak B) = A + B := fun h => by
  rw [mN (cw.1 (by omega)), mN (cw.1 (by omega))]
 -- a round
 have body : ∀ {s' : aE}, (i < nl A ∨ i < nl B ∨ c ≠ 0) → aU dh s' = some (jw A B c i, jH o i) → ∀ {QF : ag → aE → Prop},
   aq P c0 fH.ntmps (part gp [1]) s' (dw (fun s' => ∃ k : Nat × Nat × (Nat → Nat), (∃ ρ, Le c0 ρ s' ⟨aB dh (jw A B k.2.1 k.1), jH k.2.2 k.1, 8⟩) ∧
    ((k.1 ≤ max (nl A) (nl B) ∨ (k.1 = max (nl A) (nl B) + 1 ∧ k.2.1 = 0 ∧ 2 ^ (32 * max (nl A) (nl B)) ≤ A + B)) ∧ k.2.1 ≤ 1 ∧ (∀ j, j < k.1 → k.2.2 j < 2 ^ 32) ∧ val k.1 k.2.2 + k.2.1 * 2 ^ (32 * k.1) = val k.1 (ak A) + val k.1 (ak B)) ∧
    max (nl A) (nl B) + 1 - k.1 < max (nl A) (nl B) + 1 - i) QF) := by
  intro s' hcont hv QF
  have hi' : i ≤ max (nl A) (nl B) := by omega
  have la := cJ (N := A) (i := i)
  have lb := cJ (N := B) (i := i)
  refine aq.hole [0] (by kernel_rfl) ?_
  show aq P c0 fH.ntmps (part gp [1,0]) s' _
  refine aq.mo (i := 1) (y := part gp [1,0,0]) (by kernel_rfl) ?_
  refine aq.hole [1,1] (by kernel_rfl) (Z7 h0 hc hv fun s' hv => bI (Z8 h0 (by omega) hv fun s' hle => bI ?_))
  show aA P c0 fH.ntmps [part gp [1,1]] s' _
  refine aA.weak rfl hle (aA.aZ hT dL hm 60 dh acV (by kernel_rfl) fun s' hv => bI ?_)
  have hs := A7 (B := 2 ^ (32 * i)) (c := c) (z := ak A i) (y := ak B i) rfl hval
  refine ⟨(i + 1, (c + ak A i + ak B i) / 4294967296, bG o i ((c + ak A i + ak B i) % 4294967296)), kS (cM hv ?_ rfl) (iA h0) mV lR, ⟨?_, by simp only; omega, fun j hj => ?_, ?_⟩, by simp only; omega⟩
  ·rw [dy (a := (i : Int) + 1) (n := i + 1) (by omega) (by omega)]; rfl
  ·simp only
   by_cases h : i < max (nl A) (nl B)
   ·exact .inl (by omega)
   ·have e : i = max (nl A) (nl B) := by omega
    have lA := gB (A := A) (i := i) (by omega)
    have lB := gB (A := B) (i := i) (by omega)
    refine .inr ⟨by omega, by rw [lA, lB]; omega, ?_⟩
    rw [hAv (by omega)] at hval
    have hc1 : c = 1 := by omega
    rw [hc1, Nat.one_mul, e] at hval
    omega
  ·simp only at hj ⊢
   unfold bG
   split
   ·omega
   ·exact ho j (by omega)
  ·simp only
   rw [oR, val, val, fB]
   omega
 -- the end
 have fin : ∀ {s' : aE}, nl A ≤ i → nl B ≤ i → c = 0 → aU dh s' = some (jw A B c i, jH o i) → aA P c0 fH.ntmps (behind (au fH) [1,1,1,0,1]) s' (dz c0 (Fin T fH (.mag (A + B)))) := by
  intro s' h1 h2 h3 hv
  have hsum : val i o = A + B := by rw [hAv (by omega), h3] at hval; omega
  cases i with
  | zero =>
   have : A + B = 0 := by rw [← hsum]; rfl
   refine aA.ij hT dL hm 60 hv (iA h0) mV lR Wy (by kernel_rfl) (by kernel_rfl) ?_
   rw [this]
   exact iF
  | succ i =>
   refine aA.ij hT dL hm 60 hv (iA h0) mV lR OC (by kernel_rfl) (by kernel_rfl) ?_
   refine jj ?_ fun j hj => ?_
   ·have l1 : nl (A + B) ≤ i + 1 := cw.2 (by rw [← hsum]; exact eE ho)
    have l2 : ¬ nl (A + B) ≤ i := by
     intro h
     rcases hi with hi | ⟨hi, _, hi2⟩
     ·have := fu (show A ≤ A + B by omega)
      have := fu (show B ≤ A + B by omega)
      omega
     ·rw [cw] at h
      rw [show max (nl A) (nl B) = i by omega] at hi2
      omega
    omega
   ·rw [← hsum, mH ho hj]; rfl
 refine aq.hole [0] (by kernel_rfl) (show aq P c0 fH.ntmps (part gp [0]) _ _ from L4 (fun s' h hv => bI ?_) fun s' h1 h2 h3 hv => nZ (ek (bI (fin h1 h2 h3 hv))))
 show aA P c0 fH.ntmps [part gp [1]] s' _
 exact body h hv
def H9 : Spec := jT (fun A B => .mag (A + B)) Dy
theorem U5 : ∀ K args pre r, H9 K args pre = some r → az P tK K args pre r := lT fun h => adf h.1 h.2
end Go.Am.B
