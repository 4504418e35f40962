/- ref01: Add, minus, Sub, Mul, byLimb. -/
import Derived.Test.YtnocdkaonpdmjaaB22
set_option linter.unusedVariables false
namespace Go.Am.B
open Go Go.Am.N AV
theorem is_fAdd : FnIs P ref01_Add fn_ref01_Add (codeOf fn_ref01_Add) := fnIs get_ref01_Add (by kernel_rfl) (by kernel_rfl) (by kernel_rfl)
abbrev faLs : List Nat := [0, 1, 5, 6, 7]
abbrev faVs (A B c i : Nat) : List AV := [.mag A, .mag B, .own 7 1 0 i, .int .u64 c, .int .i64 i]
abbrev faOs (i : Nat) (o : Nat → Nat) : Store := [(7, ⟨true, true, 1, i, limbsF o⟩)]
noncomputable abbrev faL : Code := part (codeOf fn_ref01_Add) [1,1,1,0,1,0,0]
theorem fadd_pre {A B : Nat} : seeL T GF1 [] 60 faLs (before (codeOf fn_ref01_Add) [1,1,1,0,1]) ⟨zipSlots 0 [.mag A, .mag B], [], 0⟩ =
    some (ATree.leaf AEx.normal ([mag A, mag B, nil, int IntKind.u64 (0 : Int), int IntKind.i64 (0 : Int)], [])) := by kernel_rfl
theorem fadd_h0 {A B c : Nat} : seeL T GF1 [12, 18, 21] 60 faLs [part faL [0]] ⟨zipL faLs [.mag A, .mag B, .nil, .int .u64 c, .int .i64 0], [], 8⟩ =
    some (ATree.fork (decide ((0 : Int) < (↑(nl A) : Int))) (ATree.fork true (ATree.must [decide ((0 : Int) < (↑(nl A) : Int)) = true, true = true] (ATree.fork true (ATree.leaf AEx.normal ([mag A, mag B, nil, int IntKind.u64 (↑c : Int), int IntKind.i64 (0 : Int)], [])) (ATree.leaf (AEx.exit 0) ([mag A, mag B, nil, int IntKind.u64 (↑c : Int), int IntKind.i64 (0 : Int)], [])))) (ATree.must [decide ((0 : Int) < (↑(nl A) : Int)) = true, true = false] (ATree.fork (bif false then true else (↑c : Int) != (0 : Int)) (ATree.leaf AEx.normal ([mag A, mag B, nil, int IntKind.u64 (↑c : Int), int IntKind.i64 (0 : Int)], [])) (ATree.leaf (AEx.exit 0) ([mag A, mag B, nil, int IntKind.u64 (↑c : Int), int IntKind.i64 (0 : Int)], []))))) (ATree.fork (bif false then true else decide ((0 : Int) < (↑(nl B) : Int))) (ATree.must [decide ((0 : Int) < (↑(nl A) : Int)) = false, (bif false then true else decide ((0 : Int) < (↑(nl B) : Int))) = true] (ATree.fork true (ATree.leaf AEx.normal ([mag A, mag B, nil, int IntKind.u64 (↑c : Int), int IntKind.i64 (0 : Int)], [])) (ATree.leaf (AEx.exit 0) ([mag A, mag B, nil, int IntKind.u64 (↑c : Int), int IntKind.i64 (0 : Int)], [])))) (ATree.must [decide ((0 : Int) < (↑(nl A) : Int)) = false, (bif false then true else decide ((0 : Int) < (↑(nl B) : Int))) = false] (ATree.fork (bif false then true else (↑c : Int) != (0 : Int)) (ATree.leaf AEx.normal ([mag A, mag B, nil, int IntKind.u64 (↑c : Int), int IntKind.i64 (0 : Int)], [])) (ATree.leaf (AEx.exit 0) ([mag A, mag B, nil, int IntKind.u64 (↑c : Int), int IntKind.i64 (0 : Int)], [])))))) := by kernel_rfl
theorem fadd_h1 {A B c i : Nat} {o : Nat → Nat} : seeL T GF1 [12, 18, 21] 60 faLs [part faL [0]] ⟨zipL faLs (faVs A B c i), faOs i o, 8⟩ =
    some (ATree.fork (decide ((↑i : Int) < (↑(nl A) : Int))) (ATree.fork true (ATree.must [decide ((↑i : Int) < (↑(nl A) : Int)) = true, true = true] (ATree.fork true (ATree.leaf AEx.normal ([mag A, mag B, own 7 1 0 i, int IntKind.u64 (↑c : Int), int IntKind.i64 (↑i : Int)], [((7 : Nat), { row := true, wr := true, es := 1, len := i, f := limbsF o })])) (ATree.leaf (AEx.exit 0) ([mag A, mag B, own 7 1 0 i, int IntKind.u64 (↑c : Int), int IntKind.i64 (↑i : Int)], [((7 : Nat), { row := true, wr := true, es := 1, len := i, f := limbsF o })])))) (ATree.must [decide ((↑i : Int) < (↑(nl A) : Int)) = true, true = false] (ATree.fork (bif false then true else (↑c : Int) != (0 : Int)) (ATree.leaf AEx.normal ([mag A, mag B, own 7 1 0 i, int IntKind.u64 (↑c : Int), int IntKind.i64 (↑i : Int)], [((7 : Nat), { row := true, wr := true, es := 1, len := i, f := limbsF o })])) (ATree.leaf (AEx.exit 0) ([mag A, mag B, own 7 1 0 i, int IntKind.u64 (↑c : Int), int IntKind.i64 (↑i : Int)], [((7 : Nat), { row := true, wr := true, es := 1, len := i, f := limbsF o })]))))) (ATree.fork (bif false then true else decide ((↑i : Int) < (↑(nl B) : Int))) (ATree.must [decide ((↑i : Int) < (↑(nl A) : Int)) = false, (bif false then true else decide ((↑i : Int) < (↑(nl B) : Int))) = true] (ATree.fork true (ATree.leaf AEx.normal ([mag A, mag B, own 7 1 0 i, int IntKind.u64 (↑c : Int), int IntKind.i64 (↑i : Int)], [((7 : Nat), { row := true, wr := true, es := 1, len := i, f := limbsF o })])) (ATree.leaf (AEx.exit 0) ([mag A, mag B, own 7 1 0 i, int IntKind.u64 (↑c : Int), int IntKind.i64 (↑i : Int)], [((7 : Nat), { row := true, wr := true, es := 1, len := i, f := limbsF o })])))) (ATree.must [decide ((↑i : Int) < (↑(nl A) : Int)) = false, (bif false then true else decide ((↑i : Int) < (↑(nl B) : Int))) = false] (ATree.fork (bif false then true else (↑c : Int) != (0 : Int)) (ATree.leaf AEx.normal ([mag A, mag B, own 7 1 0 i, int IntKind.u64 (↑c : Int), int IntKind.i64 (↑i : Int)], [((7 : Nat), { row := true, wr := true, es := 1, len := i, f := limbsF o })])) (ATree.leaf (AEx.exit 0) ([mag A, mag B, own 7 1 0 i, int IntKind.u64 (↑c : Int), int IntKind.i64 (↑i : Int)], [((7 : Nat), { row := true, wr := true, es := 1, len := i, f := limbsF o })])))))) := by kernel_rfl
theorem fadd_c0 {A B c : Nat} : seeL T GF1 [27, 38] 60 faLs (before (part faL [1,0,0]) [1,1]) ⟨zipL faLs [.mag A, .mag B, .nil, .int .u64 c, .int .i64 0], [], 8⟩ =
    some (ATree.fork (decide ((0 : Int) < (↑(nl A) : Int))) (ATree.must [(0 : Int) ≤ (0 : Int) ∧ Int.toNat (0 : Int) < nl A] (ATree.fork (decide ((0 : Int) < (↑(nl B) : Int))) (ATree.must [(0 : Int) ≤ (0 : Int) ∧ Int.toNat (0 : Int) < nl B] (ATree.leaf AEx.normal ([mag A, mag B, nil, int IntKind.u64 (IntKind.u64.wrap (IntKind.u64.wrap ((↑c : Int) + IntKind.u64.wrap (↑(limb A (Int.toNat (0 : Int))) : Int)) + IntKind.u64.wrap (↑(limb B (Int.toNat (0 : Int))) : Int))), int IntKind.i64 (0 : Int)], []))) (ATree.leaf AEx.normal ([mag A, mag B, nil, int IntKind.u64 (IntKind.u64.wrap ((↑c : Int) + IntKind.u64.wrap (↑(limb A (Int.toNat (0 : Int))) : Int))), int IntKind.i64 (0 : Int)], [])))) (ATree.fork (decide ((0 : Int) < (↑(nl B) : Int))) (ATree.must [(0 : Int) ≤ (0 : Int) ∧ Int.toNat (0 : Int) < nl B] (ATree.leaf AEx.normal ([mag A, mag B, nil, int IntKind.u64 (IntKind.u64.wrap ((↑c : Int) + IntKind.u64.wrap (↑(limb B (Int.toNat (0 : Int))) : Int))), int IntKind.i64 (0 : Int)], []))) (ATree.leaf AEx.normal ([mag A, mag B, nil, int IntKind.u64 (↑c : Int), int IntKind.i64 (0 : Int)], [])))) := by kernel_rfl
theorem fadd_c1 {A B c i : Nat} {o : Nat → Nat} : seeL T GF1 [27, 38] 60 faLs (before (part faL [1,0,0]) [1,1]) ⟨zipL faLs (faVs A B c i), faOs i o, 8⟩ =
    some (ATree.fork (decide ((↑i : Int) < (↑(nl A) : Int))) (ATree.must [(0 : Int) ≤ (↑i : Int) ∧ (↑i : Int).toNat < nl A] (ATree.fork (decide ((↑i : Int) < (↑(nl B) : Int))) (ATree.must [(0 : Int) ≤ (↑i : Int) ∧ (↑i : Int).toNat < nl B] (ATree.leaf AEx.normal ([mag A, mag B, own 7 1 0 i, int IntKind.u64 (IntKind.u64.wrap (IntKind.u64.wrap ((↑c : Int) + IntKind.u64.wrap (↑(limb A (↑i : Int).toNat) : Int)) + IntKind.u64.wrap (↑(limb B (↑i : Int).toNat) : Int))), int IntKind.i64 (↑i : Int)], [((7 : Nat), { row := true, wr := true, es := 1, len := i, f := limbsF o })]))) (ATree.leaf AEx.normal ([mag A, mag B, own 7 1 0 i, int IntKind.u64 (IntKind.u64.wrap ((↑c : Int) + IntKind.u64.wrap (↑(limb A (↑i : Int).toNat) : Int))), int IntKind.i64 (↑i : Int)], [((7 : Nat), { row := true, wr := true, es := 1, len := i, f := limbsF o })])))) (ATree.fork (decide ((↑i : Int) < (↑(nl B) : Int))) (ATree.must [(0 : Int) ≤ (↑i : Int) ∧ (↑i : Int).toNat < nl B] (ATree.leaf AEx.normal ([mag A, mag B, own 7 1 0 i, int IntKind.u64 (IntKind.u64.wrap ((↑c : Int) + IntKind.u64.wrap (↑(limb B (↑i : Int).toNat) : Int))), int IntKind.i64 (↑i : Int)], [((7 : Nat), { row := true, wr := true, es := 1, len := i, f := limbsF o })]))) (ATree.leaf AEx.normal ([mag A, mag B, own 7 1 0 i, int IntKind.u64 (↑c : Int), int IntKind.i64 (↑i : Int)], [((7 : Nat), { row := true, wr := true, es := 1, len := i, f := limbsF o })])))) := by kernel_rfl
theorem fadd_d0 {A B c : Nat} : seeL T GF1 [] 60 faLs [part (part faL [1,0,0]) [1,1]] ⟨zipL faLs [.mag A, .mag B, .nil, .int .u64 c, .int .i64 0], [], 8⟩ =
    some (ATree.must [(1 : Nat) * 1 ≤ 2 ^ 24, (0 : Nat) < 1 ∧ 1 * ((4 : Nat) + 1) * 2 ≤ 2 ^ 47] (ATree.must [(0 : Int) ≤ (32 : Int)] (ATree.leaf AEx.normal ([mag A, mag B, own 16392 1 0 1, int IntKind.u64 ((↑c : Int).fdiv ((2 : Int) ^ min (Int.toNat (32 : Int)) IntKind.u64.bits)), int IntKind.i64 (0 : Int)], [((16392 : Nat), { row := true, wr := true, es := 1, len := 1, f := fun (i : Nat) ↦ nth [int IntKind.u32 (IntKind.u32.wrap (↑c : Int))] (int IntKind.u32 (0 : Int)) (i + 0) })])))) := by kernel_rfl
theorem fadd_d1 {A B c i : Nat} {o : Nat → Nat} : seeL T GF1 [] 60 faLs [part (part faL [1,0,0]) [1,1]] ⟨zipL faLs (faVs A B c i), faOs i o, 8⟩ =
    some (ATree.must [(1 : Nat) * 1 ≤ 2 ^ 24, (i + 1) * ((4 : Nat) + 1) * 2 ≤ 2 ^ 47] (ATree.must [(0 : Int) ≤ (32 : Int)] (ATree.leaf AEx.normal ([mag A, mag B, own 16392 1 0 (i + 1), int IntKind.u64 ((↑c : Int).fdiv ((2 : Int) ^ min (Int.toNat (32 : Int)) IntKind.u64.bits)), int IntKind.i64 (↑i : Int)], [((16392 : Nat), { row := true, wr := true, es := 1, len := i + 1, f := fun (i_1 : Nat) ↦ if i_1 < i then limbsF o i_1 else nth [int IntKind.u32 (IntKind.u32.wrap (↑c : Int))] (int IntKind.u32 (0 : Int)) (i_1 - i + 0) })])))) := by kernel_rfl
theorem fadd_n {A B c i j : Nat} {o : Nat → Nat} : seeL T GF1 [] 60 faLs [part faL [1,1]] ⟨zipL faLs [.mag A, .mag B, .own 7 1 0 i, .int .u64 c, .int .i64 j], faOs i o, 8⟩ =
    some (ATree.leaf AEx.normal ([mag A, mag B, own 7 1 0 i, int IntKind.u64 (↑c : Int), int IntKind.i64 (IntKind.i64.wrap ((↑j : Int) + (1 : Int)))], [((7 : Nat), { row := true, wr := true, es := 1, len := i, f := limbsF o })])) := by kernel_rfl
theorem fadd_e0 {A B c : Nat} : endL T GF1 [] 60 fn_ref01_Add (behind (codeOf fn_ref01_Add) [1,1,1,0,1]) ⟨zipL faLs [.mag A, .mag B, .nil, .int .u64 c, .int .i64 0], [], 8⟩ =
    some (ATree.leaf AEx.ret [nil]) := by kernel_rfl
theorem fadd_e1 {A B c i : Nat} {o : Nat → Nat} : endL T GF1 [] 60 fn_ref01_Add (behind (codeOf fn_ref01_Add) [1,1,1,0,1]) ⟨zipL faLs (faVs A B c i), faOs i o, 8⟩ =
    some (ATree.leaf AEx.ret [tab 1 i fun (i : Nat) ↦ limbsF o (i + 0)]) := by kernel_rfl
theorem limb_above {A i : Nat} (h : nl A ≤ i) : limb A i = 0 := by
  unfold limb
  rw [Nat.div_eq_of_lt (nl_spec.1 h)]
def faV (A B c : Nat) : Nat → List AV
  | 0 => [.mag A, .mag B, .nil, .int .u64 c, .int .i64 0]
  | i + 1 => faVs A B c (i + 1)
def faO (o : Nat → Nat) : Nat → Store
  | 0 => []
  | i + 1 => faOs (i + 1) o
theorem okV_fa {A B c i : Nat} : okV 8 (faV A B c i) = true := by cases i <;> rfl
theorem okO_fa {o : Nat → Nat} {i : Nat} : okO 8 (faO o i) := by
  cases i
  · trivial
  · exact ⟨⟨by omega, fun _ _ => rfl⟩, trivial⟩
section fadd
variable {c0 : Ctx} (h0 : c0.k0 = noKeys) {A B : Nat} {Q : AEx → AState → Prop}
include h0 in
theorem fadd_sum {c i : Nat} {o : Nat → Nat} {s' : AState} (hc : c ≤ 1) (hv : viewAV faLs s' = some (faV A B c i, faO o i))
    (fin : ∀ s', viewAV faLs s' = some (faV A B (c + limb A i + limb B i) i, faO o i) → Q .normal s') : AWpL P c0 fn_ref01_Add.ntmps (before (part faL [1,0,0]) [1,1]) s' Q := by
  have la := limb_lt (N := A) (i := i)
  have lb := limb_lt (N := B) (i := i)
  have wa : IntKind.u64.wrap (limb A i : Int) = ((limb A i : Nat) : Int) := wrap_u64 (by omega) (by omega)
  have wb : IntKind.u64.wrap (limb B i : Int) = ((limb B i : Nat) : Int) := wrap_u64 (by omega) (by omega)
  have w1 : IntKind.u64.wrap ((c : Int) + ((limb A i : Nat) : Int)) = ((c + limb A i : Nat) : Int) := by rw [wrap_u64 (by omega) (by omega)]; omega
  have w2 : IntKind.u64.wrap ((c : Int) + ((limb B i : Nat) : Int)) = ((c + limb B i : Nat) : Int) := by rw [wrap_u64 (by omega) (by omega)]; omega
  have w3 : IntKind.u64.wrap (((c + limb A i : Nat) : Int) + ((limb B i : Nat) : Int)) = ((c + limb A i + limb B i : Nat) : Int) := by rw [wrap_u64 (by omega) (by omega)]; omega
  cases i with
  | zero =>
    refine AWpL.seeV hT GF1_ok hm 60 hv (k0_none h0) okV_fa okO_fa faLs fadd_c0 (by kernel_rfl) (by kernel_rfl) ?_
    simp only [ATree.all, allP, decide_eq_true_eq, decide_eq_false_iff_not, Int.toNat_zero]
    rw [wa, wb, w1, w2, w3]
    refine ⟨fun h1 => ⟨by omega, fun h2 => ⟨by omega, fun s' hv => fin s' hv⟩, fun h2 s' hv => fin s' (view_eq hv ?_ rfl)⟩, fun h1 => ⟨fun h2 => ⟨by omega, fun s' hv => fin s' (view_eq hv ?_ rfl)⟩, fun h2 s' hv => fin s' (view_eq hv ?_ rfl)⟩⟩
    · rw [limb_above (A := B) (by omega)]; rfl
    · rw [limb_above (A := A) (by omega)]; rfl
    · rw [limb_above (A := A) (by omega), limb_above (A := B) (by omega)]; rfl
  | succ i =>
    refine AWpL.seeV hT GF1_ok hm 60 hv (k0_none h0) okV_fa okO_fa faLs fadd_c1 (by kernel_rfl) (by kernel_rfl) ?_
    simp only [ATree.all, allP, decide_eq_true_eq, decide_eq_false_iff_not, Int.toNat_natCast]
    rw [wa, wb, w1, w2, w3]
    refine ⟨fun h1 => ⟨by omega, fun h2 => ⟨by omega, fun s' hv => fin s' hv⟩, fun h2 s' hv => fin s' (view_eq hv ?_ rfl)⟩, fun h1 => ⟨fun h2 => ⟨by omega, fun s' hv => fin s' (view_eq hv ?_ rfl)⟩, fun h2 s' hv => fin s' (view_eq hv ?_ rfl)⟩⟩
    · rw [limb_above (A := B) (by omega)]; rfl
    · rw [limb_above (A := A) (by omega)]; rfl
    · rw [limb_above (A := A) (by omega), limb_above (A := B) (by omega)]; rfl
include h0 in
theorem fadd_push {c i : Nat} {o : Nat → Nat} {s' : AState} (hi : i < 2 ^ 41) (hv : viewAV faLs s' = some (faV A B c i, faO o i))
    (fin : ∀ s', (∃ ρ, Le c0 ρ s' ⟨zipL faLs [.mag A, .mag B, .own 7 1 0 (i + 1), .int .u64 (c / 4294967296 : Nat), .int .i64 i], faOs (i + 1) (setL o i (c % 4294967296)), 8⟩) → Q .normal s') : AWp P c0 fn_ref01_Add.ntmps (part (part faL [1,0,0]) [1,1]) s' Q := by
  have hd : (c : Int).fdiv (2 ^ min (Int.toNat 32) IntKind.u64.bits) = ((c / 4294967296 : Nat) : Int) := by rw [fdiv32]; omega
  cases i with
  | zero =>
    refine AWp.seeV hT GF1_ok hm 60 hv (k0_none h0) okV_fa okO_fa faLs fadd_d0 (by kernel_rfl) ?_
    rw [hd]
    simp only [ATree.all, allP]
    refine ⟨⟨by omega, by omega, by omega⟩, by omega, fun s' hv => fin s' ?_⟩
    refine le_view (vs := [.mag A, .mag B, .own 7 1 0 1, .int .u64 (c / 4294967296 : Nat), .int .i64 0]) (ps := faOs 1 (setL o 0 (c % 4294967296))) (nx := 8) [(7, 16392)] hv h0 rfl ⟨⟨rfl, avLe_pure rfl⟩, ⟨rfl, avLe_pure rfl⟩, ⟨rfl, avLe_own rfl rfl rfl⟩, ⟨rfl, avLe_pure rfl⟩, ⟨rfl, avLe_pure rfl⟩, trivial⟩
      ⟨⟨_, _, rfl, rfl, objLe_limbs rfl fun j hj => ?_⟩, trivial⟩
    have : j = 0 := by omega
    subst this
    simp [nth, limbsF, setL_same, wrap_u32_nat]
  | succ i =>
    refine AWp.seeV hT GF1_ok hm 60 hv (k0_none h0) okV_fa okO_fa faLs fadd_d1 (by kernel_rfl) ?_
    rw [hd]
    simp only [ATree.all, allP]
    refine ⟨⟨by omega, by omega⟩, by omega, fun s' hv => fin s' ?_⟩
    refine le_view (vs := [.mag A, .mag B, .own 7 1 0 (i + 1 + 1), .int .u64 (c / 4294967296 : Nat), .int .i64 ((i + 1 : Nat) : Int)]) (ps := faOs (i + 1 + 1) (setL o (i + 1) (c % 4294967296))) (nx := 8) [(7, 16392)] hv h0 rfl ⟨⟨rfl, avLe_pure rfl⟩, ⟨rfl, avLe_pure rfl⟩, ⟨rfl, avLe_own rfl rfl rfl⟩, ⟨rfl, avLe_pure rfl⟩, ⟨rfl, avLe_pure rfl⟩, trivial⟩
      ⟨⟨_, _, rfl, rfl, objLe_limbs rfl fun j hj => ?_⟩, trivial⟩
    by_cases h : j < i + 1
    · rw [if_pos h]; unfold limbsF; rw [setL_ne (by omega)]
    · have : j = i + 1 := by omega
      subst this
      simp [nth, limbsF, setL_same, wrap_u32_nat]
end fadd
theorem fadd_test {c i : Nat} {o : Nat → Nat} {c0 : Ctx} {Q : AEx → AState → Prop} {A B : Nat} (yes : ∀ s', (i < nl A ∨ i < nl B ∨ c ≠ 0) → viewAV faLs s' = some (faV A B c i, faO o i) → Q .normal s')
    (no : ∀ s', nl A ≤ i → nl B ≤ i → c = 0 → viewAV faLs s' = some (faV A B c i, faO o i) → Q (.exit 0) s') : AWp P c0 fn_ref01_Add.ntmps (part faL [0]) ⟨zipL faLs (faV A B c i), faO o i, 8⟩ Q := by
  cases i with
  | zero =>
    refine AWp.see hT GF1_ok hm 60 faLs fadd_h0 (by kernel_rfl) ?_
    refine ⟨fun h => ⟨fun _ => ⟨⟨h, rfl⟩, fun _ s' hv => yes s' (.inl (by have := of_decide_eq_true h; omega)) hv, fun hf => by simp at hf⟩, fun hf => by simp at hf⟩,
      fun h => ⟨fun h2 => ⟨⟨h, h2⟩, fun _ s' hv => yes s' (.inr (.inl (by have := of_decide_eq_true (bif_ff h2); omega))) hv, fun hf => by simp at hf⟩,
        fun h2 => ⟨⟨h, h2⟩, fun h3 s' hv => yes s' (.inr (.inr ?_)) hv, fun h3 s' hv => no s' ?_ ?_ ?_ hv⟩⟩⟩
    · have := bif_ff h3
      simp at this; exact this
    · have := of_decide_eq_false h; omega
    · have := of_decide_eq_false (bif_ff h2); omega
    · have := bif_ff h3
      simp at this; exact this
  | succ i =>
    refine AWp.see hT GF1_ok hm 60 faLs fadd_h1 (by kernel_rfl) ?_
    refine ⟨fun h => ⟨fun _ => ⟨⟨h, rfl⟩, fun _ s' hv => yes s' (.inl (by have := of_decide_eq_true h; omega)) hv, fun hf => by simp at hf⟩, fun hf => by simp at hf⟩,
      fun h => ⟨fun h2 => ⟨⟨h, h2⟩, fun _ s' hv => yes s' (.inr (.inl (by have := of_decide_eq_true (bif_ff h2); omega))) hv, fun hf => by simp at hf⟩,
        fun h2 => ⟨⟨h, h2⟩, fun h3 s' hv => yes s' (.inr (.inr ?_)) hv, fun h3 s' hv => no s' ?_ ?_ ?_ hv⟩⟩⟩
    · have := bif_ff h3
      simp at this; exact this
    · have := of_decide_eq_false h; omega
    · have := of_decide_eq_false (bif_ff h2); omega
    · have := bif_ff h3
      simp at this; exact this
theorem fAdd_ok {A B : Nat} (hA : nl A < 2 ^ 40) (hB : nl B < 2 ^ 40) (K : Nat) : FOK P ref01_Add K [.mag A, .mag B] [] (pres (.mag (A + B)) []) := by
  refine fok_pure hT is_fAdd rfl (of_decide_eq_true (by kernel_rfl)) rfl (fun _ c0 h0 => .down ?_) K []
  refine AWp.hole [1,1,1,0,1] (by kernel_rfl) (AWpL.see hT GF1_ok hm 60 faLs fadd_pre (by kernel_rfl) fun s' hv => then_go ?_)
  refine AWp.whileLe (i := 0) (y := faL) (by kernel_rfl) (fun p : Nat × Nat × (Nat → Nat) => ⟨zipL faLs (faV A B p.2.1 p.1), faO p.2.2 p.1, 8⟩)
    (fun p => (p.1 ≤ max (nl A) (nl B) ∨ (p.1 = max (nl A) (nl B) + 1 ∧ p.2.1 = 0 ∧ 2 ^ (32 * max (nl A) (nl B)) ≤ A + B)) ∧ p.2.1 ≤ 1 ∧ (∀ j, j < p.1 → p.2.2 j < 2 ^ 32) ∧ val p.1 p.2.2 + p.2.1 * 2 ^ (32 * p.1) = val p.1 (limb A) + val p.1 (limb B))
    (fun p => max (nl A) (nl B) + 1 - p.1) (0, 0, fun _ => 0) (le_same hv (k0_none h0) okV_fa okO_fa) ⟨by simp, by simp, fun j hj => by simp only at hj; omega, by simp [val]⟩ ?_
  rintro ⟨i, c, o⟩ ⟨hi, hc, ho, hval⟩
  simp only at hi hc ho hval
  have hAv : max (nl A) (nl B) ≤ i → val i (limb A) + val i (limb B) = A + B := fun h => by
    rw [val_limb (nl_spec.1 (by omega)), val_limb (nl_spec.1 (by omega))]
  -- a round
  have body : ∀ {s' : AState}, (i < nl A ∨ i < nl B ∨ c ≠ 0) → viewAV faLs s' = some (faV A B c i, faO o i) → ∀ {QF : AEx → AState → Prop},
      AWp P c0 fn_ref01_Add.ntmps (part faL [1]) s' (thenDo (fun s' => ∃ k : Nat × Nat × (Nat → Nat), (∃ ρ, Le c0 ρ s' ⟨zipL faLs (faV A B k.2.1 k.1), faO k.2.2 k.1, 8⟩) ∧
        ((k.1 ≤ max (nl A) (nl B) ∨ (k.1 = max (nl A) (nl B) + 1 ∧ k.2.1 = 0 ∧ 2 ^ (32 * max (nl A) (nl B)) ≤ A + B)) ∧ k.2.1 ≤ 1 ∧ (∀ j, j < k.1 → k.2.2 j < 2 ^ 32) ∧ val k.1 k.2.2 + k.2.1 * 2 ^ (32 * k.1) = val k.1 (limb A) + val k.1 (limb B)) ∧
        max (nl A) (nl B) + 1 - k.1 < max (nl A) (nl B) + 1 - i) QF) := by
    intro s' hcont hv QF
    have hi' : i ≤ max (nl A) (nl B) := by omega
    have la := limb_lt (N := A) (i := i)
    have lb := limb_lt (N := B) (i := i)
    refine AWp.hole [0] (by kernel_rfl) ?_
    show AWp P c0 fn_ref01_Add.ntmps (part faL [1,0]) s' _
    refine AWp.blockAt (i := 1) (y := part faL [1,0,0]) (by kernel_rfl) ?_
    refine AWp.hole [1,1] (by kernel_rfl) (fadd_sum h0 hc hv fun s' hv => then_go (fadd_push h0 (by omega) hv fun s' hle => then_go ?_))
    show AWpL P c0 fn_ref01_Add.ntmps [part faL [1,1]] s' _
    refine AWpL.weak rfl hle (AWpL.see hT GF1_ok hm 60 faLs fadd_n (by kernel_rfl) fun s' hv => then_go ?_)
    have hs := carry_step (B := 2 ^ (32 * i)) (c := c) (z := limb A i) (y := limb B i) rfl hval
    refine ⟨(i + 1, (c + limb A i + limb B i) / 4294967296, setL o i ((c + limb A i + limb B i) % 4294967296)), le_same (view_eq hv ?_ rfl) (k0_none h0) okV_fa okO_fa, ⟨?_, by simp only; omega, fun j hj => ?_, ?_⟩, by simp only; omega⟩
    · rw [i64_nat (a := (i : Int) + 1) (n := i + 1) (by omega) (by omega)]; rfl
    · simp only
      by_cases h : i < max (nl A) (nl B)
      · exact .inl (by omega)
      · have e : i = max (nl A) (nl B) := by omega
        have lA := limb_above (A := A) (i := i) (by omega)
        have lB := limb_above (A := B) (i := i) (by omega)
        refine .inr ⟨by omega, by rw [lA, lB]; omega, ?_⟩
        rw [hAv (by omega)] at hval
        have hc1 : c = 1 := by omega
        rw [hc1, Nat.one_mul, e] at hval
        omega
    · simp only at hj ⊢
      unfold setL
      split
      · omega
      · exact ho j (by omega)
    · simp only
      rw [val_setL_end, val, val, pow_succ32]
      omega
  -- the end
  have fin : ∀ {s' : AState}, nl A ≤ i → nl B ≤ i → c = 0 → viewAV faLs s' = some (faV A B c i, faO o i) → AWpL P c0 fn_ref01_Add.ntmps (behind (codeOf fn_ref01_Add) [1,1,1,0,1]) s' (Lower c0 (Fin T fn_ref01_Add (.mag (A + B)))) := by
    intro s' h1 h2 h3 hv
    have hsum : val i o = A + B := by rw [hAv (by omega), h3] at hval; omega
    cases i with
    | zero =>
      have : A + B = 0 := by rw [← hsum]; rfl
      refine AWpL.finDV hT GF1_ok hm 60 hv (k0_none h0) okV_fa okO_fa fadd_e0 (by kernel_rfl) (by kernel_rfl) ?_
      rw [this]
      exact avLe0_nil_mag
    | succ i =>
      refine AWpL.finDV hT GF1_ok hm 60 hv (k0_none h0) okV_fa okO_fa fadd_e1 (by kernel_rfl) (by kernel_rfl) ?_
      refine avLe0_tab_mag ?_ fun j hj => ?_
      · have l1 : nl (A + B) ≤ i + 1 := nl_spec.2 (by rw [← hsum]; exact val_lt ho)
        have l2 : ¬ nl (A + B) ≤ i := by
          intro h
          rcases hi with hi | ⟨hi, _, hi2⟩
          · have := nl_mono (show A ≤ A + B by omega)
            have := nl_mono (show B ≤ A + B by omega)
            omega
          · rw [nl_spec] at h
            rw [show max (nl A) (nl B) = i by omega] at hi2
            omega
        omega
      · rw [← hsum, limb_val ho hj]; rfl
  refine AWp.hole [0] (by kernel_rfl) (show AWp P c0 fn_ref01_Add.ntmps (part faL [0]) _ _ from fadd_test (fun s' h hv => then_go ?_) fun s' h1 h2 h3 hv => then_pass (then_exit (then_go (fin h1 h2 h3 hv))))
  show AWpL P c0 fn_ref01_Add.ntmps [part faL [1]] s' _
  exact body h hv
def s_fAdd : Spec := spec2m (fun A B => .mag (A + B)) twoN
theorem s_fAdd_ok : ∀ K args pre r, s_fAdd K args pre = some r → FOK P ref01_Add K args pre r := spec2m_ok fun h => fAdd_ok h.1 h.2
end Go.Am.B
