/- ref01: Add, minus, Sub, Mul, byLimb. -/
import Derived.Test.YtbghpkgbokbmlaaGreatB22
set_option linter.unusedVariables false
namespace Go.Am.B
open Go Go.Am.N AV
theorem Pz : aO P pJ eO (au eO) := aL Tx (by kernel_rfl) (by kernel_rfl) (by kernel_rfl)
abbrev cH : List Nat := [0, 1, 5, 6, 7]
abbrev pz (A B c i : Nat) : List AV := [.mag A, .mag B, .own 7 1 0 i, .int .u64 c, .int .i64 i]
abbrev jG (i : Nat) (o : Nat → Nat) : aC := [(7, ⟨true, true, 1, i, ag o⟩)]
noncomputable abbrev fE : Code := part (au eO) [1,1,1,0,1,0,0]
theorem JC {A B : Nat} : aI T cT [] 60 cH (before (au eO) [1,1,1,0,1]) ⟨aM 0 [.mag A, .mag B], [], 0⟩ =
  some (aa.leaf ah.normal ([mag A, mag B, nil, int IntKind.u64 (0 : Int), int IntKind.i64 (0 : Int)], [])) := by kernel_rfl
theorem PG {A B c : Nat} : aI T cT [12, 18, 21] 60 cH [part fE [0]] ⟨aB cH [.mag A, .mag B, .nil, .int .u64 c, .int .i64 0], [], 8⟩ =
  some (aa.fork (decide ((0 : Int) < (↑(nl A) : Int))) (aa.fork true (aa.af [decide ((0 : Int) < (↑(nl A) : Int)) = true, true = true] (aa.fork true (aa.leaf ah.normal ([mag A, mag B, nil, int IntKind.u64 (↑c : Int), int IntKind.i64 (0 : Int)], [])) (aa.leaf (ah.exit 0) ([mag A, mag B, nil, int IntKind.u64 (↑c : Int), int IntKind.i64 (0 : Int)], [])))) (aa.af [decide ((0 : Int) < (↑(nl A) : Int)) = true, true = false] (aa.fork (bif false then true else (↑c : Int) != (0 : Int)) (aa.leaf ah.normal ([mag A, mag B, nil, int IntKind.u64 (↑c : Int), int IntKind.i64 (0 : Int)], [])) (aa.leaf (ah.exit 0) ([mag A, mag B, nil, int IntKind.u64 (↑c : Int), int IntKind.i64 (0 : Int)], []))))) (aa.fork (bif false then true else decide ((0 : Int) < (↑(nl B) : Int))) (aa.af [decide ((0 : Int) < (↑(nl A) : Int)) = false, (bif false then true else decide ((0 : Int) < (↑(nl B) : Int))) = true] (aa.fork true (aa.leaf ah.normal ([mag A, mag B, nil, int IntKind.u64 (↑c : Int), int IntKind.i64 (0 : Int)], [])) (aa.leaf (ah.exit 0) ([mag A, mag B, nil, int IntKind.u64 (↑c : Int), int IntKind.i64 (0 : Int)], [])))) (aa.af [decide ((0 : Int) < (↑(nl A) : Int)) = false, (bif false then true else decide ((0 : Int) < (↑(nl B) : Int))) = false] (aa.fork (bif false then true else (↑c : Int) != (0 : Int)) (aa.leaf ah.normal ([mag A, mag B, nil, int IntKind.u64 (↑c : Int), int IntKind.i64 (0 : Int)], [])) (aa.leaf (ah.exit 0) ([mag A, mag B, nil, int IntKind.u64 (↑c : Int), int IntKind.i64 (0 : Int)], [])))))) := by kernel_rfl
theorem Rf {A B c i : Nat} {o : Nat → Nat} : aI T cT [12, 18, 21] 60 cH [part fE [0]] ⟨aB cH (pz A B c i), jG i o, 8⟩ =
  some (aa.fork (decide ((↑i : Int) < (↑(nl A) : Int))) (aa.fork true (aa.af [decide ((↑i : Int) < (↑(nl A) : Int)) = true, true = true] (aa.fork true (aa.leaf ah.normal ([mag A, mag B, own 7 1 0 i, int IntKind.u64 (↑c : Int), int IntKind.i64 (↑i : Int)], [((7 : Nat), ⟨true, true, 1, i, ag o⟩)])) (aa.leaf (ah.exit 0) ([mag A, mag B, own 7 1 0 i, int IntKind.u64 (↑c : Int), int IntKind.i64 (↑i : Int)], [((7 : Nat), ⟨true, true, 1, i, ag o⟩)])))) (aa.af [decide ((↑i : Int) < (↑(nl A) : Int)) = true, true = false] (aa.fork (bif false then true else (↑c : Int) != (0 : Int)) (aa.leaf ah.normal ([mag A, mag B, own 7 1 0 i, int IntKind.u64 (↑c : Int), int IntKind.i64 (↑i : Int)], [((7 : Nat), ⟨true, true, 1, i, ag o⟩)])) (aa.leaf (ah.exit 0) ([mag A, mag B, own 7 1 0 i, int IntKind.u64 (↑c : Int), int IntKind.i64 (↑i : Int)], [((7 : Nat), ⟨true, true, 1, i, ag o⟩)]))))) (aa.fork (bif false then true else decide ((↑i : Int) < (↑(nl B) : Int))) (aa.af [decide ((↑i : Int) < (↑(nl A) : Int)) = false, (bif false then true else decide ((↑i : Int) < (↑(nl B) : Int))) = true] (aa.fork true (aa.leaf ah.normal ([mag A, mag B, own 7 1 0 i, int IntKind.u64 (↑c : Int), int IntKind.i64 (↑i : Int)], [((7 : Nat), ⟨true, true, 1, i, ag o⟩)])) (aa.leaf (ah.exit 0) ([mag A, mag B, own 7 1 0 i, int IntKind.u64 (↑c : Int), int IntKind.i64 (↑i : Int)], [((7 : Nat), ⟨true, true, 1, i, ag o⟩)])))) (aa.af [decide ((↑i : Int) < (↑(nl A) : Int)) = false, (bif false then true else decide ((↑i : Int) < (↑(nl B) : Int))) = false] (aa.fork (bif false then true else (↑c : Int) != (0 : Int)) (aa.leaf ah.normal ([mag A, mag B, own 7 1 0 i, int IntKind.u64 (↑c : Int), int IntKind.i64 (↑i : Int)], [((7 : Nat), ⟨true, true, 1, i, ag o⟩)])) (aa.leaf (ah.exit 0) ([mag A, mag B, own 7 1 0 i, int IntKind.u64 (↑c : Int), int IntKind.i64 (↑i : Int)], [((7 : Nat), ⟨true, true, 1, i, ag o⟩)])))))) := by kernel_rfl
theorem Is {A B c : Nat} : aI T cT [27, 38] 60 cH (before (part fE [1,0,0]) [1,1]) ⟨aB cH [.mag A, .mag B, .nil, .int .u64 c, .int .i64 0], [], 8⟩ =
  some (aa.fork (decide ((0 : Int) < (↑(nl A) : Int))) (aa.af [(0 : Int) ≤ (0 : Int) ∧ Int.toNat (0 : Int) < nl A] (aa.fork (decide ((0 : Int) < (↑(nl B) : Int))) (aa.af [(0 : Int) ≤ (0 : Int) ∧ Int.toNat (0 : Int) < nl B] (aa.leaf ah.normal ([mag A, mag B, nil, int IntKind.u64 (IntKind.u64.wrap (IntKind.u64.wrap ((↑c : Int) + IntKind.u64.wrap (↑(aj A (Int.toNat (0 : Int))) : Int)) + IntKind.u64.wrap (↑(aj B (Int.toNat (0 : Int))) : Int))), int IntKind.i64 (0 : Int)], []))) (aa.leaf ah.normal ([mag A, mag B, nil, int IntKind.u64 (IntKind.u64.wrap ((↑c : Int) + IntKind.u64.wrap (↑(aj A (Int.toNat (0 : Int))) : Int))), int IntKind.i64 (0 : Int)], [])))) (aa.fork (decide ((0 : Int) < (↑(nl B) : Int))) (aa.af [(0 : Int) ≤ (0 : Int) ∧ Int.toNat (0 : Int) < nl B] (aa.leaf ah.normal ([mag A, mag B, nil, int IntKind.u64 (IntKind.u64.wrap ((↑c : Int) + IntKind.u64.wrap (↑(aj B (Int.toNat (0 : Int))) : Int))), int IntKind.i64 (0 : Int)], []))) (aa.leaf ah.normal ([mag A, mag B, nil, int IntKind.u64 (↑c : Int), int IntKind.i64 (0 : Int)], [])))) := by kernel_rfl
theorem IL {A B c i : Nat} {o : Nat → Nat} : aI T cT [27, 38] 60 cH (before (part fE [1,0,0]) [1,1]) ⟨aB cH (pz A B c i), jG i o, 8⟩ =
  some (aa.fork (decide ((↑i : Int) < (↑(nl A) : Int))) (aa.af [(0 : Int) ≤ (↑i : Int) ∧ (↑i : Int).toNat < nl A] (aa.fork (decide ((↑i : Int) < (↑(nl B) : Int))) (aa.af [(0 : Int) ≤ (↑i : Int) ∧ (↑i : Int).toNat < nl B] (aa.leaf ah.normal ([mag A, mag B, own 7 1 0 i, int IntKind.u64 (IntKind.u64.wrap (IntKind.u64.wrap ((↑c : Int) + IntKind.u64.wrap (↑(aj A (↑i : Int).toNat) : Int)) + IntKind.u64.wrap (↑(aj B (↑i : Int).toNat) : Int))), int IntKind.i64 (↑i : Int)], [((7 : Nat), ⟨true, true, 1, i, ag o⟩)]))) (aa.leaf ah.normal ([mag A, mag B, own 7 1 0 i, int IntKind.u64 (IntKind.u64.wrap ((↑c : Int) + IntKind.u64.wrap (↑(aj A (↑i : Int).toNat) : Int))), int IntKind.i64 (↑i : Int)], [((7 : Nat), ⟨true, true, 1, i, ag o⟩)])))) (aa.fork (decide ((↑i : Int) < (↑(nl B) : Int))) (aa.af [(0 : Int) ≤ (↑i : Int) ∧ (↑i : Int).toNat < nl B] (aa.leaf ah.normal ([mag A, mag B, own 7 1 0 i, int IntKind.u64 (IntKind.u64.wrap ((↑c : Int) + IntKind.u64.wrap (↑(aj B (↑i : Int).toNat) : Int))), int IntKind.i64 (↑i : Int)], [((7 : Nat), ⟨true, true, 1, i, ag o⟩)]))) (aa.leaf ah.normal ([mag A, mag B, own 7 1 0 i, int IntKind.u64 (↑c : Int), int IntKind.i64 (↑i : Int)], [((7 : Nat), ⟨true, true, 1, i, ag o⟩)])))) := by kernel_rfl
theorem KS {A B c : Nat} : aI T cT [] 60 cH [part (part fE [1,0,0]) [1,1]] ⟨aB cH [.mag A, .mag B, .nil, .int .u64 c, .int .i64 0], [], 8⟩ =
  some (aa.af [(1 : Nat) * 1 ≤ 2 ^ 24, (0 : Nat) < 1 ∧ 1 * ((4 : Nat) + 1) * 2 ≤ 2 ^ 47] (aa.af [(0 : Int) ≤ (32 : Int)] (aa.leaf ah.normal ([mag A, mag B, own 16392 1 0 1, int IntKind.u64 ((↑c : Int).fdiv ((2 : Int) ^ min (Int.toNat (32 : Int)) IntKind.u64.bits)), int IntKind.i64 (0 : Int)], [((16392 : Nat), ⟨true, true, 1, 1, fun (i : Nat) ↦ nth [int IntKind.u32 (IntKind.u32.wrap (↑c : Int))] (int IntKind.u32 (0 : Int)) (i + 0)⟩)])))) := by kernel_rfl
theorem Ns {A B c i : Nat} {o : Nat → Nat} : aI T cT [] 60 cH [part (part fE [1,0,0]) [1,1]] ⟨aB cH (pz A B c i), jG i o, 8⟩ =
  some (aa.af [(1 : Nat) * 1 ≤ 2 ^ 24, (i + 1) * ((4 : Nat) + 1) * 2 ≤ 2 ^ 47] (aa.af [(0 : Int) ≤ (32 : Int)] (aa.leaf ah.normal ([mag A, mag B, own 16392 1 0 (i + 1), int IntKind.u64 ((↑c : Int).fdiv ((2 : Int) ^ min (Int.toNat (32 : Int)) IntKind.u64.bits)), int IntKind.i64 (↑i : Int)], [((16392 : Nat), ⟨true, true, 1, i + 1, fun (i_1 : Nat) ↦ if i_1 < i then ag o i_1 else nth [int IntKind.u32 (IntKind.u32.wrap (↑c : Int))] (int IntKind.u32 (0 : Int)) (i_1 - i + 0)⟩)])))) := by kernel_rfl
theorem Ob {A B c i j : Nat} {o : Nat → Nat} : aI T cT [] 60 cH [part fE [1,1]] ⟨aB cH [.mag A, .mag B, .own 7 1 0 i, .int .u64 c, .int .i64 j], jG i o, 8⟩ =
  some (aa.leaf ah.normal ([mag A, mag B, own 7 1 0 i, int IntKind.u64 (↑c : Int), int IntKind.i64 (IntKind.i64.wrap ((↑j : Int) + (1 : Int)))], [((7 : Nat), ⟨true, true, 1, i, ag o⟩)])) := by kernel_rfl
theorem Jj {A B c : Nat} : cr T cT [] 60 eO (behind (au eO) [1,1,1,0,1]) ⟨aB cH [.mag A, .mag B, .nil, .int .u64 c, .int .i64 0], [], 8⟩ =
  some (aa.leaf ah.ret [nil]) := by kernel_rfl
theorem Ih {A B c i : Nat} {o : Nat → Nat} : cr T cT [] 60 eO (behind (au eO) [1,1,1,0,1]) ⟨aB cH (pz A B c i), jG i o, 8⟩ =
  some (aa.leaf ah.ret [ak 1 i fun (i : Nat) ↦ ag o (i + 0)]) := by kernel_rfl
theorem fP {A i : Nat} (h : nl A ≤ i) : aj A i = 0 := by
 unfold aj
 rw [Nat.div_eq_of_lt (bX.1 h)]
def ir (A B c : Nat) : Nat → List AV
 | 0 => [.mag A, .mag B, .nil, .int .u64 c, .int .i64 0]
 | i + 1 => pz A B c (i + 1)
def ia (o : Nat → Nat) : Nat → aC
 | 0 => []
 | i + 1 => jG (i + 1) o
theorem kO {A B c i : Nat} : fR 8 (ir A B c i) = true := by cases i <;> rfl
theorem kf {o : Nat → Nat} {i : Nat} : eH 8 (ia o i) := by
 cases i
 ·trivial
 ·exact ⟨⟨by omega, fun _ _ => rfl⟩, trivial⟩
section fadd
variable {c0 : Ctx} (h0 : c0.k0 = aQ) {A B : Nat} {Q : ah → aA → Prop}
include h0 in
theorem GL {c i : Nat} {o : Nat → Nat} {s' : aA} (hc : c ≤ 1) (hv : aR cH s' = some (ir A B c i, ia o i))
  (fin : ∀ s', aR cH s' = some (ir A B (c + aj A i + aj B i) i, ia o i) → Q .normal s') : ax P c0 eO.ntmps (before (part fE [1,0,0]) [1,1]) s' Q := by
 have la := b9 (N := A) (i := i)
 have lb := b9 (N := B) (i := i)
 have wa : IntKind.u64.wrap (aj A i : Int) = ((aj A i : Nat) : Int) := bn (by omega) (by omega)
 have wb : IntKind.u64.wrap (aj B i : Int) = ((aj B i : Nat) : Int) := bn (by omega) (by omega)
 have w1 : IntKind.u64.wrap ((c : Int) + ((aj A i : Nat) : Int)) = ((c + aj A i : Nat) : Int) := by rw [bn (by omega) (by omega)]; omega
 have w2 : IntKind.u64.wrap ((c : Int) + ((aj B i : Nat) : Int)) = ((c + aj B i : Nat) : Int) := by rw [bn (by omega) (by omega)]; omega
 have w3 : IntKind.u64.wrap (((c + aj A i : Nat) : Int) + ((aj B i : Nat) : Int)) = ((c + aj A i + aj B i : Nat) : Int) := by rw [bn (by omega) (by omega)]; omega
 cases i with
 | zero =>
  refine ax.dn hT cZ hm 60 hv (gr h0) kO kf cH Is (by kernel_rfl) (by kernel_rfl) ?_
  simp only [aa.all, ay, decide_eq_true_eq, decide_eq_false_iff_not, Int.toNat_zero]
  rw [wa, wb, w1, w2, w3]
  refine ⟨fun h1 => ⟨by omega, fun h2 => ⟨by omega, fun s' hv => fin s' hv⟩, fun h2 s' hv => fin s' (cm hv ?_ rfl)⟩, fun h1 => ⟨fun h2 => ⟨by omega, fun s' hv => fin s' (cm hv ?_ rfl)⟩, fun h2 s' hv => fin s' (cm hv ?_ rfl)⟩⟩
  ·rw [fP (A := B) (by omega)]; rfl
  ·rw [fP (A := A) (by omega)]; rfl
  ·rw [fP (A := A) (by omega), fP (A := B) (by omega)]; rfl
 | succ i =>
  refine ax.dn hT cZ hm 60 hv (gr h0) kO kf cH IL (by kernel_rfl) (by kernel_rfl) ?_
  simp only [aa.all, ay, decide_eq_true_eq, decide_eq_false_iff_not, Int.toNat_natCast]
  rw [wa, wb, w1, w2, w3]
  refine ⟨fun h1 => ⟨by omega, fun h2 => ⟨by omega, fun s' hv => fin s' hv⟩, fun h2 s' hv => fin s' (cm hv ?_ rfl)⟩, fun h1 => ⟨fun h2 => ⟨by omega, fun s' hv => fin s' (cm hv ?_ rfl)⟩, fun h2 s' hv => fin s' (cm hv ?_ rfl)⟩⟩
  ·rw [fP (A := B) (by omega)]; rfl
  ·rw [fP (A := A) (by omega)]; rfl
  ·rw [fP (A := A) (by omega), fP (A := B) (by omega)]; rfl
include h0 in
theorem Qb {c i : Nat} {o : Nat → Nat} {s' : aA} (hi : i < 2 ^ 41) (hv : aR cH s' = some (ir A B c i, ia o i))
  (fin : ∀ s', (∃ ρ, Le c0 ρ s' ⟨aB cH [.mag A, .mag B, .own 7 1 0 (i + 1), .int .u64 (c / 4294967296 : Nat), .int .i64 i], jG (i + 1) (bt o i (c % 4294967296)), 8⟩) → Q .normal s') : aq P c0 eO.ntmps (part (part fE [1,0,0]) [1,1]) s' Q := by
 have hd : (c : Int).fdiv (2 ^ min (Int.toNat 32) IntKind.u64.bits) = ((c / 4294967296 : Nat) : Int) := by rw [gZ]; omega
 cases i with
 | zero =>
  refine aq.dn hT cZ hm 60 hv (gr h0) kO kf cH KS (by kernel_rfl) ?_
  rw [hd]
  simp only [aa.all, ay]
  refine ⟨⟨by omega, by omega, by omega⟩, by omega, fun s' hv => fin s' ?_⟩
  refine bY (vs := [.mag A, .mag B, .own 7 1 0 1, .int .u64 (c / 4294967296 : Nat), .int .i64 0]) (ps := jG 1 (bt o 0 (c % 4294967296))) (nx := 8) [(7, 16392)] hv h0 rfl ⟨⟨rfl, aD rfl⟩, ⟨rfl, aD rfl⟩, ⟨rfl, cw rfl rfl rfl⟩, ⟨rfl, aD rfl⟩, ⟨rfl, aD rfl⟩, trivial⟩
   ⟨⟨_, _, rfl, rfl, dH rfl fun j hj => ?_⟩, trivial⟩
  have : j = 0 := by omega
  subst this
  simp [nth, ag, gb, fX]
 | succ i =>
  refine aq.dn hT cZ hm 60 hv (gr h0) kO kf cH Ns (by kernel_rfl) ?_
  rw [hd]
  simp only [aa.all, ay]
  refine ⟨⟨by omega, by omega⟩, by omega, fun s' hv => fin s' ?_⟩
  refine bY (vs := [.mag A, .mag B, .own 7 1 0 (i + 1 + 1), .int .u64 (c / 4294967296 : Nat), .int .i64 ((i + 1 : Nat) : Int)]) (ps := jG (i + 1 + 1) (bt o (i + 1) (c % 4294967296))) (nx := 8) [(7, 16392)] hv h0 rfl ⟨⟨rfl, aD rfl⟩, ⟨rfl, aD rfl⟩, ⟨rfl, cw rfl rfl rfl⟩, ⟨rfl, aD rfl⟩, ⟨rfl, aD rfl⟩, trivial⟩
   ⟨⟨_, _, rfl, rfl, dH rfl fun j hj => ?_⟩, trivial⟩
  by_cases h : j < i + 1
  ·rw [if_pos h]; unfold ag; rw [dI (by omega)]
  ·have : j = i + 1 := by omega
   subst this
   simp [nth, ag, gb, fX]
end fadd
theorem Km {c i : Nat} {o : Nat → Nat} {c0 : Ctx} {Q : ah → aA → Prop} {A B : Nat} (yes : ∀ s', (i < nl A ∨ i < nl B ∨ c ≠ 0) → aR cH s' = some (ir A B c i, ia o i) → Q .normal s')
  (no : ∀ s', nl A ≤ i → nl B ≤ i → c = 0 → aR cH s' = some (ir A B c i, ia o i) → Q (.exit 0) s') : aq P c0 eO.ntmps (part fE [0]) ⟨aB cH (ir A B c i), ia o i, 8⟩ Q := by
 cases i with
 | zero =>
  refine aq.aV hT cZ hm 60 cH PG (by kernel_rfl) ?_
  refine ⟨fun h => ⟨fun _ => ⟨⟨h, rfl⟩, fun _ s' hv => yes s' (.inl (by have := of_decide_eq_true h; omega)) hv, fun hf => by simp at hf⟩, fun hf => by simp at hf⟩,
   fun h => ⟨fun h2 => ⟨⟨h, h2⟩, fun _ s' hv => yes s' (.inr (.inl (by have := of_decide_eq_true (eR h2); omega))) hv, fun hf => by simp at hf⟩,
    fun h2 => ⟨⟨h, h2⟩, fun h3 s' hv => yes s' (.inr (.inr ?_)) hv, fun h3 s' hv => no s' ?_ ?_ ?_ hv⟩⟩⟩
  ·have := eR h3
   simp at this; exact this
  ·have := of_decide_eq_false h; omega
  ·have := of_decide_eq_false (eR h2); omega
  ·have := eR h3
   simp at this; exact this
 | succ i =>
  refine aq.aV hT cZ hm 60 cH Rf (by kernel_rfl) ?_
  refine ⟨fun h => ⟨fun _ => ⟨⟨h, rfl⟩, fun _ s' hv => yes s' (.inl (by have := of_decide_eq_true h; omega)) hv, fun hf => by simp at hf⟩, fun hf => by simp at hf⟩,
   fun h => ⟨fun h2 => ⟨⟨h, h2⟩, fun _ s' hv => yes s' (.inr (.inl (by have := of_decide_eq_true (eR h2); omega))) hv, fun hf => by simp at hf⟩,
    fun h2 => ⟨⟨h, h2⟩, fun h3 s' hv => yes s' (.inr (.inr ?_)) hv, fun h3 s' hv => no s' ?_ ?_ ?_ hv⟩⟩⟩
  ·have := eR h3
   simp at this; exact this
  ·have := of_decide_eq_false h; omega
  ·have := of_decide_eq_false (eR h2); omega
  ·have := eR h3
   simp at this; exact this
theorem Po {A B : Nat} (hA : nl A < 2 ^ 40) (hB : nl B < 2 ^ 40) (K : Nat) : az P pJ K [.mag A, .mag B] [] (aG (.mag (A + B)) []) := by
 refine fY hT Pz rfl (of_decide_eq_true (by kernel_rfl)) rfl (fun _ c0 h0 => .down ?_) K []
 refine aq.hole [1,1,1,0,1] (by kernel_rfl) (ax.aV hT cZ hm 60 cH JC (by kernel_rfl) fun s' hv => bu ?_)
 refine aq.fN (i := 0) (y := fE) (by kernel_rfl) (fun p : Nat × Nat × (Nat → Nat) => ⟨aB cH (ir A B p.2.1 p.1), ia p.2.2 p.1, 8⟩)
  (fun p => (p.1 ≤ max (nl A) (nl B) ∨ (p.1 = max (nl A) (nl B) + 1 ∧ p.2.1 = 0 ∧ 2 ^ (32 * max (nl A) (nl B)) ≤ A + B)) ∧ p.2.1 ≤ 1 ∧ (∀ j, j < p.1 → p.2.2 j < 2 ^ 32) ∧ val p.1 p.2.2 + p.2.1 * 2 ^ (32 * p.1) = val p.1 (aj A) + val p.1 (aj B))
  (fun p => max (nl A) (nl B) + 1 - p.1) (0, 0, fun _ => 0) (jK hv (gr h0) kO kf) ⟨by simp, by simp, fun j hj => by simp only at hj; omega, by simp [val]⟩ ?_
 rintro ⟨i, c, o⟩ ⟨hi, hc, ho, hval⟩
 simp only at hi hc ho hval
 have hAv : max (nl A) (nl B) ≤ i → val i (aj A) + val i (aj B) = A + B := fun h => by
  rw [j8 (bX.1 (by omega)), j8 (bX.1 (by omega))]
 -- a round
 have body : ∀ {s' : aA}, (i < nl A ∨ i < nl B ∨ c ≠ 0) → aR cH s' = some (ir A B c i, ia o i) → ∀ {QF : ah → aA → Prop},
   aq P c0 eO.ntmps (part fE [1]) s' (cU (fun s' => ∃ k : Nat × Nat × (Nat → Nat), (∃ ρ, Le c0 ρ s' ⟨aB cH (ir A B k.2.1 k.1), ia k.2.2 k.1, 8⟩) ∧
    ((k.1 ≤ max (nl A) (nl B) ∨ (k.1 = max (nl A) (nl B) + 1 ∧ k.2.1 = 0 ∧ 2 ^ (32 * max (nl A) (nl B)) ≤ A + B)) ∧ k.2.1 ≤ 1 ∧ (∀ j, j < k.1 → k.2.2 j < 2 ^ 32) ∧ val k.1 k.2.2 + k.2.1 * 2 ^ (32 * k.1) = val k.1 (aj A) + val k.1 (aj B)) ∧
    max (nl A) (nl B) + 1 - k.1 < max (nl A) (nl B) + 1 - i) QF) := by
  intro s' hcont hv QF
  have hi' : i ≤ max (nl A) (nl B) := by omega
  have la := b9 (N := A) (i := i)
  have lb := b9 (N := B) (i := i)
  refine aq.hole [0] (by kernel_rfl) ?_
  show aq P c0 eO.ntmps (part fE [1,0]) s' _
  refine aq.kW (i := 1) (y := part fE [1,0,0]) (by kernel_rfl) ?_
  refine aq.hole [1,1] (by kernel_rfl) (GL h0 hc hv fun s' hv => bu (Qb h0 (by omega) hv fun s' hle => bu ?_))
  show ax P c0 eO.ntmps [part fE [1,1]] s' _
  refine ax.weak rfl hle (ax.aV hT cZ hm 60 cH Ob (by kernel_rfl) fun s' hv => bu ?_)
  have hs := xu (B := 2 ^ (32 * i)) (c := c) (z := aj A i) (y := aj B i) rfl hval
  refine ⟨(i + 1, (c + aj A i + aj B i) / 4294967296, bt o i ((c + aj A i + aj B i) % 4294967296)), jK (cm hv ?_ rfl) (gr h0) kO kf, ⟨?_, by simp only; omega, fun j hj => ?_, ?_⟩, by simp only; omega⟩
  ·rw [cP (a := (i : Int) + 1) (n := i + 1) (by omega) (by omega)]; rfl
  ·simp only
   by_cases h : i < max (nl A) (nl B)
   ·exact .inl (by omega)
   ·have e : i = max (nl A) (nl B) := by omega
    have lA := fP (A := A) (i := i) (by omega)
    have lB := fP (A := B) (i := i) (by omega)
    refine .inr ⟨by omega, by rw [lA, lB]; omega, ?_⟩
    rw [hAv (by omega)] at hval
    have hc1 : c = 1 := by omega
    rw [hc1, Nat.one_mul, e] at hval
    omega
  ·simp only at hj ⊢
   unfold bt
   split
   ·omega
   ·exact ho j (by omega)
  ·simp only
   rw [lW, val, val, eI]
   omega
 -- the end
 have fin : ∀ {s' : aA}, nl A ≤ i → nl B ≤ i → c = 0 → aR cH s' = some (ir A B c i, ia o i) → ax P c0 eO.ntmps (behind (au eO) [1,1,1,0,1]) s' (de c0 (Fin T eO (.mag (A + B)))) := by
  intro s' h1 h2 h3 hv
  have hsum : val i o = A + B := by rw [hAv (by omega), h3] at hval; omega
  cases i with
  | zero =>
   have : A + B = 0 := by rw [← hsum]; rfl
   refine ax.gh hT cZ hm 60 hv (gr h0) kO kf Jj (by kernel_rfl) (by kernel_rfl) ?_
   rw [this]
   exact gy
  | succ i =>
   refine ax.gh hT cZ hm 60 hv (gr h0) kO kf Ih (by kernel_rfl) (by kernel_rfl) ?_
   refine gQ ?_ fun j hj => ?_
   ·have l1 : nl (A + B) ≤ i + 1 := bX.2 (by rw [← hsum]; exact dO ho)
    have l2 : ¬ nl (A + B) ≤ i := by
     intro h
     rcases hi with hi | ⟨hi, _, hi2⟩
     ·have := eJ (show A ≤ A + B by omega)
      have := eJ (show B ≤ A + B by omega)
      omega
     ·rw [bX] at h
      rw [show max (nl A) (nl B) = i by omega] at hi2
      omega
    omega
   ·rw [← hsum, j3 ho hj]; rfl
 refine aq.hole [0] (by kernel_rfl) (show aq P c0 eO.ntmps (part fE [0]) _ _ from Km (fun s' h hv => bu ?_) fun s' h1 h2 h3 hv => lI (dr (bu (fin h1 h2 h3 hv))))
 show ax P c0 eO.ntmps [part fE [1]] s' _
 exact body h hv
def BN : Spec := iI (fun A B => .mag (A + B)) wY
theorem Nb : ∀ K args pre r, BN K args pre = some r → az P pJ K args pre r := kA fun h => Po h.1 h.2
end Go.Am.B
