/- ref01: minus, Sub, Mul, byLimb. -/
import Derived.Test.YtnocdkaonpdmjaaB23
set_option linter.unusedVariables false
namespace Go.Am.B
open Go Go.Am.N AV
theorem is_fminus : FnIs P ref01_minus fn_ref01_minus (codeOf fn_ref01_minus) := fnIs get_ref01_minus (by kernel_rfl) (by kernel_rfl) (by kernel_rfl)
theorem is_fSub : FnIs P ref01_Sub fn_ref01_Sub (codeOf fn_ref01_Sub) := fnIs get_ref01_Sub (by kernel_rfl) (by kernel_rfl) (by kernel_rfl)
theorem is_fMul : FnIs P ref01_Mul fn_ref01_Mul (codeOf fn_ref01_Mul) := fnIs get_ref01_Mul (by kernel_rfl) (by kernel_rfl) (by kernel_rfl)
theorem is_fbyLimb : FnIs P ref01_byLimb fn_ref01_byLimb (codeOf fn_ref01_byLimb) := fnIs get_ref01_byLimb (by kernel_rfl) (by kernel_rfl) (by kernel_rfl)
abbrev fmLs : List Nat := [0, 1, 5, 6, 7]
abbrev fmVs (A B c i K : Nat) : List AV := [.mag A, .mag B, .own K 1 0 (nl A), .int .u64 c, .int .i64 i]
abbrev fmOs (K n : Nat) (o : Nat → Nat) : Store := [(K, ⟨true, true, 1, n, limbsF o⟩)]
noncomputable abbrev fmL : Code := part (codeOf fn_ref01_minus) [1,1,1,0,1,0,0]
theorem fmin_pre {A B : Nat} : seeL T GF1 [] 60 fmLs (before (codeOf fn_ref01_minus) [1,1,1,0,1]) ⟨zipSlots 0 [.mag A, .mag B], [], 0⟩ =
    some (ATree.must [(0 : Int) ≤ (↑(nl A) : Int) ∧ (↑(nl A) : Int) ≤ (↑(nl A) : Int) ∧ (↑(nl A) : Int) ≤ (2 : Int) ^ 47 ∧ (↑(nl A) : Int) * (↑(4 : Nat) : Int) ≤ (2 : Int) ^ 47] (ATree.leaf AEx.normal ([mag A, mag B, own 12288 1 0 (↑(nl A) : Int).toNat, int IntKind.u64 (0 : Int), int IntKind.i64 (0 : Int)], [((12288 : Nat), { row := true, wr := true, es := 1, len := (↑(nl A) : Int).toNat, f := fun (x : Nat) ↦ int IntKind.u32 (0 : Int) })]))) := by kernel_rfl
theorem fmin_body {A B c i : Nat} {o : Nat → Nat} : seeL T GF1 [16, 23, 38] 60 fmLs [fmL] ⟨zipL fmLs (fmVs A B c i 12288), fmOs 12288 (nl A) o, 12289⟩ =
    some (ATree.fork (decide ((↑i : Int) < (↑(nl A) : Int))) (ATree.fork (decide ((↑i : Int) < (↑(nl B) : Int))) (ATree.must [(0 : Int) ≤ (↑i : Int) ∧ (↑i : Int).toNat < nl B] (ATree.must [(0 : Int) ≤ (↑i : Int) ∧ (↑i : Int).toNat < nl A] (ATree.fork (decide (IntKind.u64.wrap (↑(limb A (↑i : Int).toNat) : Int) < IntKind.u64.wrap ((↑c : Int) + IntKind.u64.wrap (↑(limb B (↑i : Int).toNat) : Int)))) (ATree.must [(0 : Int) ≤ (↑i : Int) ∧ (↑i : Int).toNat < nl A, (↑i : Int).toNat + 0 < nl A] (ATree.leaf AEx.normal ([mag A, mag B, own 12288 1 0 (nl A), int IntKind.u64 (1 : Int), int IntKind.i64 (IntKind.i64.wrap ((↑i : Int) + (1 : Int)))], [((12288 : Nat), { row := true, wr := true, es := 1, len := nl A, f := fun (j : Nat) ↦ if (j == (↑i : Int).toNat + 0) = true then int IntKind.u32 (IntKind.u32.wrap (IntKind.u64.wrap (IntKind.u64.wrap (IntKind.u64.wrap (↑(limb A (↑i : Int).toNat) : Int) + (4294967296 : Int)) - IntKind.u64.wrap ((↑c : Int) + IntKind.u64.wrap (↑(limb B (↑i : Int).toNat) : Int))))) else limbsF o j })]))) (ATree.must [(0 : Int) ≤ (↑i : Int) ∧ (↑i : Int).toNat < nl A, (↑i : Int).toNat + 0 < nl A] (ATree.leaf AEx.normal ([mag A, mag B, own 12288 1 0 (nl A), int IntKind.u64 (0 : Int), int IntKind.i64 (IntKind.i64.wrap ((↑i : Int) + (1 : Int)))], [((12288 : Nat), { row := true, wr := true, es := 1, len := nl A, f := fun (j : Nat) ↦ if (j == (↑i : Int).toNat + 0) = true then int IntKind.u32 (IntKind.u32.wrap (IntKind.u64.wrap (IntKind.u64.wrap (↑(limb A (↑i : Int).toNat) : Int) - IntKind.u64.wrap ((↑c : Int) + IntKind.u64.wrap (↑(limb B (↑i : Int).toNat) : Int))))) else limbsF o j })])))))) (ATree.must [(0 : Int) ≤ (↑i : Int) ∧ (↑i : Int).toNat < nl A] (ATree.fork (decide (IntKind.u64.wrap (↑(limb A (↑i : Int).toNat) : Int) < (↑c : Int))) (ATree.must [(0 : Int) ≤ (↑i : Int) ∧ (↑i : Int).toNat < nl A, (↑i : Int).toNat + 0 < nl A] (ATree.leaf AEx.normal ([mag A, mag B, own 12288 1 0 (nl A), int IntKind.u64 (1 : Int), int IntKind.i64 (IntKind.i64.wrap ((↑i : Int) + (1 : Int)))], [((12288 : Nat), { row := true, wr := true, es := 1, len := nl A, f := fun (j : Nat) ↦ if (j == (↑i : Int).toNat + 0) = true then int IntKind.u32 (IntKind.u32.wrap (IntKind.u64.wrap (IntKind.u64.wrap (IntKind.u64.wrap (↑(limb A (↑i : Int).toNat) : Int) + (4294967296 : Int)) - (↑c : Int)))) else limbsF o j })]))) (ATree.must [(0 : Int) ≤ (↑i : Int) ∧ (↑i : Int).toNat < nl A, (↑i : Int).toNat + 0 < nl A] (ATree.leaf AEx.normal ([mag A, mag B, own 12288 1 0 (nl A), int IntKind.u64 (0 : Int), int IntKind.i64 (IntKind.i64.wrap ((↑i : Int) + (1 : Int)))], [((12288 : Nat), { row := true, wr := true, es := 1, len := nl A, f := fun (j : Nat) ↦ if (j == (↑i : Int).toNat + 0) = true then int IntKind.u32 (IntKind.u32.wrap (IntKind.u64.wrap (IntKind.u64.wrap (↑(limb A (↑i : Int).toNat) : Int) - (↑c : Int)))) else limbsF o j })])))))) (ATree.leaf (AEx.exit 0) ([mag A, mag B, own 12288 1 0 (nl A), int IntKind.u64 (↑c : Int), int IntKind.i64 (↑i : Int)], [((12288 : Nat), { row := true, wr := true, es := 1, len := nl A, f := limbsF o })]))) := by kernel_rfl
theorem fmin_end {A B c i : Nat} {o : Nat → Nat} : endL T GF1 [] 60 fn_ref01_minus (behind (codeOf fn_ref01_minus) [1,1,1,0,1]) ⟨zipL fmLs (fmVs A B c i 12288), fmOs 12288 (nl A) o, 12289⟩ =
    some (ATree.must [Limbs (nl A) fun (i : Nat) ↦ limbsF o (i + 0), nl A < 2 ^ 40] (ATree.leaf AEx.ret [mag (val (nl A) fun (i : Nat) ↦ numOf (limbsF o (i + 0)))])) := by kernel_rfl
abbrev fpLs : List Nat := [0, 1, 5, 6]
abbrev fpVs (A B i K : Nat) : List AV := [.mag A, .mag B, .own K 1 0 (nl A + nl B), .int .i64 i]
abbrev fpLs2 : List Nat := [0, 1, 5, 6, 7, 8]
abbrev fpVs2 (A B i c j K : Nat) : List AV := [.mag A, .mag B, .own K 1 0 (nl A + nl B), .int .i64 i, .int .u64 c, .int .i64 j]
noncomputable abbrev fpL : Code := part (codeOf fn_ref01_Mul) [1,1,0,1,0,0]
noncomputable abbrev fpC : Code := part fpL [1,0,0]
theorem fmul_pre {A B : Nat} : seeL T GF1 [] 60 fpLs (before (codeOf fn_ref01_Mul) [1,1,0,1]) ⟨zipSlots 0 [.mag A, .mag B], [], 0⟩ =
    some (ATree.must [(0 : Int) ≤ IntKind.i64.wrap ((↑(nl A) : Int) + (↑(nl B) : Int)) ∧ IntKind.i64.wrap ((↑(nl A) : Int) + (↑(nl B) : Int)) ≤ IntKind.i64.wrap ((↑(nl A) : Int) + (↑(nl B) : Int)) ∧ IntKind.i64.wrap ((↑(nl A) : Int) + (↑(nl B) : Int)) ≤ (2 : Int) ^ 47 ∧ IntKind.i64.wrap ((↑(nl A) : Int) + (↑(nl B) : Int)) * (↑(4 : Nat) : Int) ≤ (2 : Int) ^ 47] (ATree.leaf AEx.normal ([mag A, mag B, own 24576 1 0 (IntKind.i64.wrap ((↑(nl A) : Int) + (↑(nl B) : Int))).toNat, int IntKind.i64 (0 : Int)], [((24576 : Nat), { row := true, wr := true, es := 1, len := (IntKind.i64.wrap ((↑(nl A) : Int) + (↑(nl B) : Int))).toNat, f := fun (x : Nat) ↦ int IntKind.u32 (0 : Int) })]))) := by kernel_rfl
theorem fmul_head {A B i : Nat} {o : Nat → Nat} : seeL T GF1 [18] 60 fpLs [part fpL [0]] ⟨zipL fpLs (fpVs A B i 24576), fmOs 24576 (nl A + nl B) o, 24577⟩ =
    some (ATree.fork (decide ((↑i : Int) < (↑(nl A) : Int))) (ATree.leaf AEx.normal ([mag A, mag B, own 24576 1 0 (nl A + nl B), int IntKind.i64 (↑i : Int)], [((24576 : Nat), { row := true, wr := true, es := 1, len := nl A + nl B, f := limbsF o })])) (ATree.leaf (AEx.exit 0) ([mag A, mag B, own 24576 1 0 (nl A + nl B), int IntKind.i64 (↑i : Int)], [((24576 : Nat), { row := true, wr := true, es := 1, len := nl A + nl B, f := limbsF o })]))) := by kernel_rfl
theorem fmul_pre2 {A B i : Nat} {o : Nat → Nat} : seeL T GF1 [] 60 fpLs2 (before fpC [1,0,1]) ⟨zipL fpLs (fpVs A B i 24576), fmOs 24576 (nl A + nl B) o, 24577⟩ =
    some (ATree.leaf AEx.normal ([mag A, mag B, own 24576 1 0 (nl A + nl B), int IntKind.i64 (↑i : Int), int IntKind.u64 (0 : Int), int IntKind.i64 (0 : Int)], [((24576 : Nat), { row := true, wr := true, es := 1, len := nl A + nl B, f := limbsF o })])) := by kernel_rfl
theorem fmul_body {A B i c j : Nat} {o : Nat → Nat} : seeL T GF1 [24] 60 fpLs2 [part fpC [1,0,1,0,0]] ⟨zipL fpLs2 (fpVs2 A B i c j 24576), fmOs 24576 (nl A + nl B) o, 24577⟩ =
    some (ATree.fork (decide ((↑j : Int) < (↑(nl B) : Int))) (ATree.must [(0 : Int) ≤ (↑i : Int) ∧ (↑i : Int).toNat < nl A, (0 : Int) ≤ (↑j : Int) ∧ (↑j : Int).toNat < nl B, (0 : Int) ≤ IntKind.i64.wrap ((↑i : Int) + (↑j : Int)) ∧ (IntKind.i64.wrap ((↑i : Int) + (↑j : Int))).toNat < nl A + nl B, (IntKind.i64.wrap ((↑i : Int) + (↑j : Int))).toNat + 0 < nl A + nl B] (ATree.must [(0 : Int) ≤ IntKind.i64.wrap ((↑i : Int) + (↑j : Int)) ∧ (IntKind.i64.wrap ((↑i : Int) + (↑j : Int))).toNat < nl A + nl B, (IntKind.i64.wrap ((↑i : Int) + (↑j : Int))).toNat + 0 < nl A + nl B] (ATree.must [(0 : Int) ≤ (32 : Int)] (ATree.leaf AEx.normal ([mag A, mag B, own 24576 1 0 (nl A + nl B), int IntKind.i64 (↑i : Int), int IntKind.u64 ((IntKind.u64.wrap ((↑c : Int) + IntKind.u64.wrap (IntKind.u64.wrap (IntKind.u64.wrap (↑(limb A (↑i : Int).toNat) : Int) * IntKind.u64.wrap (↑(limb B (↑j : Int).toNat) : Int)) + IntKind.u64.wrap (↑(o ((IntKind.i64.wrap ((↑i : Int) + (↑j : Int))).toNat + 0)) : Int)))).fdiv ((2 : Int) ^ min (Int.toNat (32 : Int)) IntKind.u64.bits)), int IntKind.i64 (IntKind.i64.wrap ((↑j : Int) + (1 : Int)))], [((24576 : Nat), { row := true, wr := true, es := 1, len := nl A + nl B, f := fun (j_1 : Nat) ↦ if (j_1 == (IntKind.i64.wrap ((↑i : Int) + (↑j : Int))).toNat + 0) = true then int IntKind.u32 (IntKind.u32.wrap (IntKind.u64.wrap ((↑c : Int) + IntKind.u64.wrap (IntKind.u64.wrap (IntKind.u64.wrap (↑(limb A (↑i : Int).toNat) : Int) * IntKind.u64.wrap (↑(limb B (↑j : Int).toNat) : Int)) + IntKind.u64.wrap (↑(o ((IntKind.i64.wrap ((↑i : Int) + (↑j : Int))).toNat + 0)) : Int))))) else limbsF o j_1 })]))))) (ATree.leaf (AEx.exit 2) ([mag A, mag B, own 24576 1 0 (nl A + nl B), int IntKind.i64 (↑i : Int), int IntKind.u64 (↑c : Int), int IntKind.i64 (↑j : Int)], [((24576 : Nat), { row := true, wr := true, es := 1, len := nl A + nl B, f := limbsF o })]))) := by kernel_rfl
theorem fmul_post {A B i c j : Nat} {o : Nat → Nat} : seeL T GF1 [] 60 fpLs (behind fpC [1,0,1]) ⟨zipL fpLs2 (fpVs2 A B i c j 24576), fmOs 24576 (nl A + nl B) o, 24577⟩ =
    some (ATree.must [(0 : Int) ≤ IntKind.i64.wrap ((↑i : Int) + (↑(nl B) : Int)) ∧ (IntKind.i64.wrap ((↑i : Int) + (↑(nl B) : Int))).toNat < nl A + nl B, (IntKind.i64.wrap ((↑i : Int) + (↑(nl B) : Int))).toNat + 0 < nl A + nl B] (ATree.leaf AEx.normal ([mag A, mag B, own 24576 1 0 (nl A + nl B), int IntKind.i64 (↑i : Int)], [((24576 : Nat), { row := true, wr := true, es := 1, len := nl A + nl B, f := fun (j : Nat) ↦ if (j == (IntKind.i64.wrap ((↑i : Int) + (↑(nl B) : Int))).toNat + 0) = true then int IntKind.u32 (IntKind.u32.wrap (↑c : Int)) else limbsF o j })]))) := by kernel_rfl
theorem fmul_next {A B i : Nat} {o : Nat → Nat} : seeL T GF1 [] 60 fpLs [part fpL [1,1]] ⟨zipL fpLs (fpVs A B i 24576), fmOs 24576 (nl A + nl B) o, 24577⟩ =
    some (ATree.leaf AEx.normal ([mag A, mag B, own 24576 1 0 (nl A + nl B), int IntKind.i64 (IntKind.i64.wrap ((↑i : Int) + (1 : Int)))], [((24576 : Nat), { row := true, wr := true, es := 1, len := nl A + nl B, f := limbsF o })])) := by kernel_rfl
theorem fmul_end {A B i : Nat} {o : Nat → Nat} : endL T GF1 [] 60 fn_ref01_Mul (behind (codeOf fn_ref01_Mul) [1,1,0,1]) ⟨zipL fpLs (fpVs A B i 24576), fmOs 24576 (nl A + nl B) o, 24577⟩ =
    some (ATree.must [Limbs (nl A + nl B) fun (i : Nat) ↦ limbsF o (i + 0), nl A + nl B < 2 ^ 40] (ATree.leaf AEx.ret [mag (val (nl A + nl B) fun (i : Nat) ↦ numOf (limbsF o (i + 0)))])) := by kernel_rfl
abbrev fbLs : List Nat := [0, 1, 6, 7, 8]
abbrev fbVs (A b r k K : Nat) : List AV := [.mag A, .int .u32 b, .own K 1 0 (nl A), .int .u64 r, .int .i64 ((k : Int) - 1)]
noncomputable abbrev fbL : Code := part (codeOf fn_ref01_byLimb) [1,1,1,0,1,0,0]
theorem fby_pre {A b : Nat} : seeL T GF1 [] 60 fbLs (before (codeOf fn_ref01_byLimb) [1,1,1,0,1]) ⟨zipSlots 0 [.mag A, .int .u32 b], [], 0⟩ =
    some (ATree.must [(0 : Int) ≤ (↑(nl A) : Int) ∧ (↑(nl A) : Int) ≤ (↑(nl A) : Int) ∧ (↑(nl A) : Int) ≤ (2 : Int) ^ 47 ∧ (↑(nl A) : Int) * (↑(4 : Nat) : Int) ≤ (2 : Int) ^ 47] (ATree.leaf AEx.normal ([mag A, int IntKind.u32 (↑b : Int), own 16384 1 0 (↑(nl A) : Int).toNat, int IntKind.u64 (0 : Int), int IntKind.i64 (IntKind.i64.wrap ((↑(nl A) : Int) - (1 : Int)))], [((16384 : Nat), { row := true, wr := true, es := 1, len := (↑(nl A) : Int).toNat, f := fun (x : Nat) ↦ int IntKind.u32 (0 : Int) })]))) := by kernel_rfl
theorem fby_body {A b r k : Nat} {o : Nat → Nat} : seeL T GF1 [16] 60 fbLs [fbL] ⟨zipL fbLs (fbVs A b r k 16384), fmOs 16384 (nl A) o, 16385⟩ =
    some (ATree.fork (decide ((↑k : Int) - (1 : Int) ≥ (0 : Int))) (ATree.must [(0 : Int) ≤ (32 : Int), (0 : Int) ≤ (↑k : Int) - (1 : Int) ∧ ((↑k : Int) - (1 : Int)).toNat < nl A] (ATree.must [IntKind.u64.wrap (↑b : Int) ≠ (0 : Int), (0 : Int) ≤ (↑k : Int) - (1 : Int) ∧ ((↑k : Int) - (1 : Int)).toNat < nl A, ((↑k : Int) - (1 : Int)).toNat + 0 < nl A] (ATree.must [IntKind.u64.wrap (↑b : Int) ≠ (0 : Int)] (ATree.leaf AEx.normal ([mag A, int IntKind.u32 (↑b : Int), own 16384 1 0 (nl A), int IntKind.u64 ((IntKind.u64.wrap (↑(BitVec.ofInt IntKind.u64.bits (IntKind.u64.wrap ((↑r : Int) * (2 : Int) ^ min (Int.toNat (32 : Int)) IntKind.u64.bits)) ||| BitVec.ofInt IntKind.u64.bits (IntKind.u64.wrap (↑(limb A ((↑k : Int) - (1 : Int)).toNat) : Int))).toNat : Int)).tmod (IntKind.u64.wrap (↑b : Int))), int IntKind.i64 (IntKind.i64.wrap ((↑k : Int) - (1 : Int) - (1 : Int)))], [((16384 : Nat), { row := true, wr := true, es := 1, len := nl A, f := fun (j : Nat) ↦ if (j == ((↑k : Int) - (1 : Int)).toNat + 0) = true then int IntKind.u32 (IntKind.u32.wrap (IntKind.u64.wrap ((IntKind.u64.wrap (↑(BitVec.ofInt IntKind.u64.bits (IntKind.u64.wrap ((↑r : Int) * (2 : Int) ^ min (Int.toNat (32 : Int)) IntKind.u64.bits)) ||| BitVec.ofInt IntKind.u64.bits (IntKind.u64.wrap (↑(limb A ((↑k : Int) - (1 : Int)).toNat) : Int))).toNat : Int)).tdiv (IntKind.u64.wrap (↑b : Int))))) else limbsF o j })]))))) (ATree.leaf (AEx.exit 0) ([mag A, int IntKind.u32 (↑b : Int), own 16384 1 0 (nl A), int IntKind.u64 (↑r : Int), int IntKind.i64 ((↑k : Int) - (1 : Int))], [((16384 : Nat), { row := true, wr := true, es := 1, len := nl A, f := limbsF o })]))) := by kernel_rfl
theorem fby_end {A b r k : Nat} {o : Nat → Nat} : endL T GF1 [] 60 fn_ref01_byLimb (behind (codeOf fn_ref01_byLimb) [1,1,1,0,1]) ⟨zipL fbLs (fbVs A b r k 16384), fmOs 16384 (nl A) o, 16385⟩ =
    some (ATree.must [Limbs (nl A) fun (i : Nat) ↦ limbsF o (i + 0), nl A < 2 ^ 40] (ATree.leaf AEx.ret [mag (val (nl A) fun (i : Nat) ↦ numOf (limbsF o (i + 0))), int IntKind.u32 (IntKind.u32.wrap (↑r : Int))])) := by kernel_rfl
def GF2 : Contracts := [(ref01_Cmp, s_fCmp), (ref01_minus, spec2m (fun A B => .mag (A - B)) fun A B => [B ≤ A, nl A < 2 ^ 40])]
theorem fsub_end {A B : Nat} : funT T GF2 [9] 60 fn_ref01_Sub (codeOf fn_ref01_Sub) ⟨zipSlots 0 [.mag A, .mag B], [], 0⟩ =
    some (ATree.must [nl A < 2 ^ 40, nl B < 2 ^ 40] (ATree.fork (decide (cmpI A B < (0 : Int))) (ATree.leaf AEx.ret [nil, int IntKind.i64 (7 : Int)]) (ATree.must [B ≤ A, nl A < 2 ^ 40] (ATree.leaf AEx.ret [mag (A - B), int IntKind.i64 (0 : Int)])))) := by kernel_rfl
theorem okO_fm {K n nx : Nat} {o : Nat → Nat} (h : K < nx) : okO nx (fmOs K n o) := ⟨⟨h, fun _ _ => rfl⟩, trivial⟩
theorem minus_step {vo va vb ai x c b' un u' B : Nat} (hx : x = c + b') (hu : un + x = ai + 4294967296 * u') (h : va + c * B = vo + vb) : va + ai * B + u' * (4294967296 * B) = vo + un * B + (vb + b' * B) := by
  have e : (un + x) * B = (ai + 4294967296 * u') * B := by rw [hu]
  subst hx
  grind
theorem fminus_ok {A B : Nat} (hAB : B ≤ A) (hA : nl A < 2 ^ 40) (K : Nat) : FOK P ref01_minus K [.mag A, .mag B] [] (pres (.mag (A - B)) []) := by
  have hB : nl B ≤ nl A := nl_mono hAB
  refine fok_down hT is_fminus rfl (of_decide_eq_true (by kernel_rfl)) rfl (fun _ c0 h0 => ?_) K []
  refine AWp.hole [1,1,1,0,1] (by kernel_rfl) (AWpL.see hT GF1_ok hm 60 fmLs fmin_pre (by kernel_rfl) ?_)
  simp only [ATree.all, allP, Int.toNat_natCast]
  refine ⟨by omega, fun s' hv => then_go ?_⟩
  refine AWp.whileV (i := 0) (y := fmL) (by kernel_rfl) fmLs 12289 (h0 _) (fun p : Nat × Nat × (Nat → Nat) => fmVs A B p.2.1 p.1 12288) (fun p => fmOs 12288 (nl A) p.2.2) (fun _ => rfl) (fun _ => okO_fm (by omega))
    (fun p => p.1 ≤ nl A ∧ p.2.1 ≤ 1 ∧ (∀ j, j < nl A → p.2.2 j < 2 ^ 32) ∧ val p.1 (limb A) + p.2.1 * 2 ^ (32 * p.1) = val p.1 p.2.2 + val p.1 (limb B))
    (fun p => nl A - p.1) (0, 0, fun _ => 0) hv ⟨by simp, by simp, fun _ _ => by simp, by simp [val]⟩ ?_
  rintro ⟨i, c, o⟩ ⟨hi, hc, ho, hval⟩
  simp only at hi hc ho hval
  refine AWp.see hT GF1_ok hm 60 fmLs fmin_body (by kernel_rfl) ?_
  have la := limb_lt (N := A) (i := i)
  have lb := limb_lt (N := B) (i := i)
  have wa : IntKind.u64.wrap (limb A i : Int) = ((limb A i : Nat) : Int) := wrap_u64 (by omega) (by omega)
  have wb : IntKind.u64.wrap (limb B i : Int) = ((limb B i : Nat) : Int) := wrap_u64 (by omega) (by omega)
  have w1 : IntKind.u64.wrap ((c : Int) + ((limb B i : Nat) : Int)) = ((c + limb B i : Nat) : Int) := by rw [wrap_u64 (by omega) (by omega)]; omega
  have w2 : IntKind.u64.wrap (((limb A i : Nat) : Int) + 4294967296) = ((limb A i + 4294967296 : Nat) : Int) := by rw [wrap_u64 (by omega) (by omega)]; omega
  have w3 : IntKind.i64.wrap ((i : Int) + 1) = ((i + 1 : Nat) : Int) := by rw [wrap_i64 (by omega) (by omega)]; omega
  simp only [ATree.all, allP, decide_eq_true_eq, decide_eq_false_iff_not, Int.toNat_natCast, Nat.add_zero, beq_iff_eq]
  rw [wa, wb, w1, w2, w3]
  -- what is put down
  have next : ∀ {s' : AState} {x u' : Nat} {v : Int}, i < nl A → x = c + limb B i → u' ≤ 1 → x ≤ limb A i + 4294967296 * u' → limb A i + 4294967296 * u' < x + 4294967296 → v = ((limb A i + 4294967296 * u' - x : Nat) : Int) →
      viewAV fmLs s' = some (fmVs A B u' (i + 1) 12288, [(12288, ⟨true, true, 1, nl A, fun j => if j = i then .int .u32 (IntKind.u32.wrap (IntKind.u64.wrap v)) else limbsF o j⟩)]) →
      ∃ k : Nat × Nat × (Nat → Nat), viewAV fmLs s' = some (fmVs A B k.2.1 k.1 12288, fmOs 12288 (nl A) k.2.2) ∧ (k.1 ≤ nl A ∧ k.2.1 ≤ 1 ∧ (∀ j, j < nl A → k.2.2 j < 2 ^ 32) ∧ val k.1 (limb A) + k.2.1 * 2 ^ (32 * k.1) = val k.1 k.2.2 + val k.1 (limb B)) ∧ nl A - k.1 < nl A - i := by
    intro s' x u' v hin hx hu1 h1 h2 hv1 hv
    refine ⟨(i + 1, u', setL o i (limb A i + 4294967296 * u' - x)), view_eq hv rfl ?_, ⟨by simp only; omega, hu1, setL_lt (by omega) ho, ?_⟩, by simp only; omega⟩
    · simp only [fmOs]
      congr 3
      funext k
      exact limbs_set (by rw [hv1, wrap_u64 (by omega) (by omega), wrap_u32 (by omega) (by omega)]) k
    · simp only
      rw [val_setL_end, val, val, pow_succ32]
      exact minus_step (b' := limb B i) (x := x) hx (by omega) hval
  refine ⟨fun hb => ⟨fun hb2 => ⟨by omega, by omega, fun h3 => ⟨⟨by omega, by omega⟩, fun s' hv => ?_⟩, fun h3 => ⟨⟨by omega, by omega⟩, fun s' hv => ?_⟩⟩, fun hb2 => ⟨by omega, fun h3 => ⟨⟨by omega, by omega⟩, fun s' hv => ?_⟩, fun h3 => ⟨⟨by omega, by omega⟩, fun s' hv => ?_⟩⟩⟩, fun hb s' hv => then_exit (then_go ?_)⟩
  · exact next (u' := 1) (by omega) rfl (by omega) (by omega) (by omega) (by omega) hv
  · exact next (u' := 0) (by omega) rfl (by omega) (by omega) (by omega) (by omega) hv
  · exact next (u' := 1) (x := c) (by omega) (by rw [limb_above (A := B) (by omega)]; rfl) (by omega) (by omega) (by omega) (by omega) hv
  · exact next (u' := 0) (x := c) (by omega) (by rw [limb_above (A := B) (by omega)]; rfl) (by omega) (by omega) (by omega) (by omega) hv
  · have hin : i = nl A := by omega
    refine AWpL.finDV hT GF1_ok hm 60 hv (h0 _) rfl (okO_fm (by omega)) fmin_end (by kernel_rfl) (by kernel_rfl) ?_
    simp only [ATree.all, allP, Nat.add_zero, val_numOf]
    refine ⟨⟨limbs_limbsF ho, hA⟩, avLe0_of_eq (congrArg AV.mag ?_)⟩
    rw [hin, val_nl, val_limb (nl_spec.1 hB)] at hval
    have hlt := val_lt ho
    have : c = 0 := by
      rcases Nat.eq_zero_or_pos c with h | h
      · exact h
      · exfalso
        have h1 : 1 * 2 ^ (32 * nl A) ≤ c * 2 ^ (32 * nl A) := Nat.mul_le_mul_right _ h
        omega
    rw [this] at hval
    omega
theorem GF2_ok : GOK P GF2 := gok_cons s_fCmp_ok (gok_cons (spec2m_ok fun h => fminus_ok h.1 h.2) gok_nil)
theorem fSub_ok {A B : Nat} (hA : nl A < 2 ^ 40) (hB : nl B < 2 ^ 40) (K : Nat) : FOK P ref01_Sub K [.mag A, .mag B] [] (pres (.tuple [.mag (A - B), .int .i64 (if A < B then 7 else 0)]) []) := by
  refine fok_tree hT GF2_ok hm is_fSub rfl (of_decide_eq_true (by kernel_rfl)) rfl 60 fsub_end (fun _ => ?_) K []
  simp only [ATree.all, allP, decide_eq_true_eq, decide_eq_false_iff_not, cmpI_lt]
  refine ⟨⟨hA, hB⟩, fun h => ⟨?_, avLe0_int (by rw [if_pos h]), trivial⟩, fun h => ⟨⟨by omega, hA⟩, .refl _, avLe0_int (by rw [if_neg h]), trivial⟩⟩
  rw [Nat.sub_eq_zero_of_le (by omega)]; exact avLe0_nil_mag
def s_fSub : Spec := spec2m (fun A B => .tuple [.mag (A - B), .int .i64 (if A < B then 7 else 0)]) twoN
theorem s_fSub_ok : ∀ K args pre r, s_fSub K args pre = some r → FOK P ref01_Sub K args pre r := spec2m_ok fun h => fSub_ok h.1 h.2
theorem fMul_ok {A B : Nat} (hA : nl A < 2 ^ 39) (hB : nl B < 2 ^ 39) (K : Nat) : FOK P ref01_Mul K [.mag A, .mag B] [] (pres (.mag (A * B)) []) := by
  refine fok_down hT is_fMul rfl (of_decide_eq_true (by kernel_rfl)) rfl (fun _ c0 h0 => ?_) K []
  refine AWp.hole [1,1,0,1] (by kernel_rfl) (AWpL.see hT GF1_ok hm 60 fpLs fmul_pre (by kernel_rfl) ?_)
  have hw : IntKind.i64.wrap ((nl A : Int) + (nl B : Int)) = ((nl A + nl B : Nat) : Int) := i64_nat (by omega) (by omega)
  rw [hw]
  simp only [ATree.all, allP, Int.toNat_natCast]
  refine ⟨by omega, fun s' hv => then_go ?_⟩
  refine AWp.whileV (i := 0) (y := fpL) (by kernel_rfl) fpLs 24577 (h0 _) (fun p : Nat × (Nat → Nat) => fpVs A B p.1 24576) (fun p => fmOs 24576 (nl A + nl B) p.2) (fun _ => rfl) (fun _ => okO_fm (by omega))
    (fun p => p.1 ≤ nl A ∧ (∀ j, j < nl A + nl B → p.2 j < 2 ^ 32) ∧ (∀ j, p.1 + nl B ≤ j → p.2 j = 0) ∧ val (nl A + nl B) p.2 = val p.1 (limb A) * B)
    (fun p => nl A - p.1) (0, fun _ => 0) hv ⟨by simp, fun _ _ => by simp, fun _ _ => rfl, ?_⟩ ?_
  · simp only
    rw [val_zero fun _ _ => rfl]
    simp [val]
  rintro ⟨i, o⟩ ⟨hi, ho, ho0, hval⟩
  simp only at hi ho ho0 hval
  refine AWp.hole [0] (by kernel_rfl) (show AWp P c0 fn_ref01_Mul.ntmps (part fpL [0]) _ _ from AWp.see hT GF1_ok hm 60 fpLs fmul_head (by kernel_rfl) ?_)
  simp only [ATree.all, decide_eq_true_eq, decide_eq_false_iff_not]
  refine ⟨fun h1 s' hv => then_go ?_, fun h1 s' hv => then_pass (then_exit (then_go ?_))⟩
  · have hin : i < nl A := by omega
    have la := limb_lt (N := A) (i := i)
    show AWpL P c0 fn_ref01_Mul.ntmps [part fpL [1]] s' _
    refine AWp.hole [0] (by kernel_rfl) ?_
    show AWp P c0 fn_ref01_Mul.ntmps (part fpL [1,0]) s' _
    refine AWp.blockAt (i := 1) (y := fpC) (by kernel_rfl) (AWp.fromV hv (h0 24577) rfl (okO_fm (by omega)) ?_)
    refine AWp.hole [1,0,1] (by kernel_rfl) (AWpL.see hT GF1_ok hm 60 fpLs2 fmul_pre2 (by kernel_rfl) fun s' hv => then_go ?_)
    refine AWp.whileV (i := 2) (y := part fpC [1,0,1,0,0]) (by kernel_rfl) fpLs2 24577 (h0 _) (fun p : Nat × Nat × (Nat → Nat) => fpVs2 A B i p.2.1 p.1 24576) (fun p => fmOs 24576 (nl A + nl B) p.2.2) (fun _ => rfl) (fun _ => okO_fm (by omega))
      (fun p => p.1 ≤ nl B ∧ p.2.1 < 2 ^ 32 ∧ (∀ j, j < nl A + nl B → p.2.2 j < 2 ^ 32) ∧ (∀ j, i + nl B ≤ j → p.2.2 j = 0) ∧ val (nl A + nl B) p.2.2 + p.2.1 * 2 ^ (32 * (i + p.1)) = val i (limb A) * B + limb A i * val p.1 (limb B) * 2 ^ (32 * i))
      (fun p => nl B - p.1) (0, 0, o) hv ⟨by simp, by simp, ho, ho0, by simp [val, hval]⟩ ?_
    rintro ⟨j, c, o⟩ ⟨hj, hc, ho, ho0, hval⟩
    simp only at hj hc ho ho0 hval
    refine AWp.see hT GF1_ok hm 60 fpLs2 fmul_body (by kernel_rfl) ?_
    have hij : IntKind.i64.wrap ((i : Int) + (j : Int)) = ((i + j : Nat) : Int) := i64_nat (by omega) (by omega)
    have lb := limb_lt (N := B) (i := j)
    simp only [ATree.all, allP, decide_eq_true_eq, decide_eq_false_iff_not, hij, Int.toNat_natCast, Nat.add_zero, beq_iff_eq]
    refine ⟨fun h2 => ?_, fun h2 s' hv => then_exit ?_⟩
    · have hjm : j < nl B := by omega
      obtain ⟨m1, m2, m3⟩ := mac_u64 hc la lb (ho (i + j) (by omega))
      rw [m1]
      refine ⟨⟨by omega, by omega, by omega, by omega⟩, ⟨by omega, by omega⟩, by omega, fun s' hv => ⟨(j + 1, (c + limb A i * limb B j + o (i + j)) / 4294967296, setL o (i + j) ((c + limb A i * limb B j + o (i + j)) % 4294967296)), view_eq hv ?_ ?_, ⟨by simp only; omega, m3, setL_lt (by omega) ho, fun k hk => ?_, ?_⟩, by simp only; omega⟩⟩
      · rw [fdiv32, i64_nat (a := (j : Int) + 1) (n := j + 1) (by omega) (by omega)]
        simp only [fpVs2, List.cons.injEq, AV.int.injEq, and_true, true_and]
        omega
      · simp only [fmOs]
        congr 3
        funext k
        exact limbs_set (by rw [wrap_u32_nat]) k
      · exact (setL_ne (by omega)).trans (ho0 k hk)
      · simp only
        rw [show 32 * (i + (j + 1)) = 32 * ((i + j) + 1) by omega, pow_succ32, val]
        have hset := val_setL_gen (o := o) (x := (c + limb A i * limb B j + o (i + j)) % 4294967296) (show i + j < nl A + nl B by omega)
        exact mac_step rfl (Nat.div_add_mod _ _) hset (by rw [← Nat.pow_add]; congr 1; omega) hval
    · show AWpL P c0 fn_ref01_Mul.ntmps (behind fpC [1,0,1]) s' _
      have hjm : j = nl B := by omega
      have hib : IntKind.i64.wrap ((i : Int) + (nl B : Int)) = ((i + nl B : Nat) : Int) := i64_nat (by omega) (by omega)
      refine AWpL.seeV hT GF1_ok hm 60 hv (h0 24577) rfl (okO_fm (by omega)) fpLs fmul_post (by kernel_rfl) (by kernel_rfl) ?_
      rw [hib]
      simp only [ATree.all, allP, Int.toNat_natCast, Nat.add_zero, beq_iff_eq]
      refine ⟨⟨by omega, by omega⟩, fun s' hv => ?_⟩
      have hf : (fun k => if k = i + nl B then AV.int .u32 (IntKind.u32.wrap (c : Int)) else limbsF o k) = limbsF (setL o (i + nl B) c) := by
        funext k
        exact limbs_set (wrap_u32 (by omega) (by omega)) k
      rw [hf] at hv
      show AWpL P c0 fn_ref01_Mul.ntmps [part fpL [1,1]] s' _
      refine AWpL.seeV hT GF1_ok hm 60 hv (h0 24577) rfl (okO_fm (by omega)) fpLs fmul_next (by kernel_rfl) (by kernel_rfl) fun s' hv => then_go ?_
      refine ⟨(i + 1, setL o (i + nl B) c), view_eq hv ?_ rfl, ⟨by simp only; omega, setL_lt hc ho, fun k hk => (setL_ne (by simp only at hk; omega)).trans (ho0 k (by simp only at hk; omega)), ?_⟩, by simp only; omega⟩
      · rw [i64_nat (a := (i : Int) + 1) (n := i + 1) (by omega) (by omega)]
      · simp only
        rw [hjm, val_nl] at hval
        rw [val_setL (by omega) (ho0 _ (by omega)), hval, val, Nat.add_mul, Nat.mul_assoc, Nat.mul_assoc, Nat.mul_comm B]
  · have hin : i = nl A := by omega
    refine AWpL.finDV hT GF1_ok hm 60 hv (h0 _) rfl (okO_fm (by omega)) fmul_end (by kernel_rfl) (by kernel_rfl) ?_
    simp only [ATree.all, allP, Nat.add_zero, val_numOf]
    refine ⟨⟨limbs_limbsF ho, by omega⟩, avLe0_of_eq (congrArg AV.mag ?_)⟩
    rw [hval, hin, val_nl]
def s_fMul : Spec := spec2m (fun A B => .mag (A * B)) fun A B => [nl A < 2 ^ 39, nl B < 2 ^ 39]
theorem s_fMul_ok : ∀ K args pre r, s_fMul K args pre = some r → FOK P ref01_Mul K args pre r := spec2m_ok fun h => fMul_ok h.1 h.2
theorem div_mod_of {v b r A : Nat} (h : v * b + r = A) (hr : r < b) : A / b = v ∧ A % b = r := by
  subst h
  refine ⟨?_, ?_⟩
  · rw [Nat.mul_comm, Nat.mul_add_div (by omega), Nat.div_eq_of_lt hr, Nat.add_zero]
  · rw [Nat.mul_comm, Nat.mul_add_mod, Nat.mod_eq_of_lt hr]
theorem fbyLimb_ok {A b : Nat} (hA : nl A < 2 ^ 40) (hb0 : 0 < b) (hb32 : b < 2 ^ 32) (K : Nat) : FOK P ref01_byLimb K [.mag A, .int .u32 b] [] (pres (.tuple [.mag (A / b), .int .u32 (A % b : Nat)]) []) := by
  refine fok_down hT is_fbyLimb rfl (of_decide_eq_true (by kernel_rfl)) rfl (fun _ c0 h0 => ?_) K []
  refine AWp.hole [1,1,1,0,1] (by kernel_rfl) (AWpL.see hT GF1_ok hm 60 fbLs fby_pre (by kernel_rfl) ?_)
  simp only [ATree.all, allP, Int.toNat_natCast]
  refine ⟨by omega, fun s' hv => then_go ?_⟩
  refine AWp.whileV (i := 0) (y := fbL) (by kernel_rfl) fbLs 16385 (h0 _) (fun p : Nat × Nat × (Nat → Nat) => fbVs A b p.2.1 p.1 16384) (fun p => fmOs 16384 (nl A) p.2.2) (fun _ => rfl) (fun _ => okO_fm (by omega))
    (fun p => p.1 ≤ nl A ∧ p.2.1 < b ∧ (∀ j, j < nl A → p.2.2 j < 2 ^ 32) ∧ (∀ j, j < p.1 → p.2.2 j = 0) ∧ val (nl A) p.2.2 * b + p.2.1 * 2 ^ (32 * p.1) + val p.1 (limb A) = A)
    (fun p => p.1) (nl A, 0, fun _ => 0) (view_eq hv (by rw [wrap_i64 (by omega) (by omega)]; rfl) rfl) ⟨by simp, hb0, fun j _ => by simp, fun j _ => rfl, ?_⟩ ?_
  · simp only
    rw [val_zero fun _ _ => rfl, val_nl]
    simp
  rintro ⟨k, r, o⟩ ⟨hk, hr, ho, ho0, hval⟩
  simp only at hk hr ho ho0 hval
  refine AWp.see hT GF1_ok hm 60 fbLs fby_body (by kernel_rfl) ?_
  simp only [ATree.all, allP, decide_eq_true_eq, decide_eq_false_iff_not, Nat.add_zero, beq_iff_eq]
  have hbw : IntKind.u64.wrap (b : Int) = (b : Int) := wrap_u64 (by omega) (by omega)
  refine ⟨fun hb => ?_, fun hb s' hv => then_exit (then_go ?_)⟩
  · obtain ⟨j, rfl⟩ : ∃ j, k = j + 1 := ⟨k - 1, by omega⟩
    have e : (((j + 1 : Nat) : Int) - 1).toNat = j := by omega
    have hzj := limb_lt (N := A) (i := j)
    have hor := or_words (a := r) (b := limb A j) (by omega) hzj
    rw [e, hor, hbw]
    have hq1 : (r * 4294967296 + limb A j) / b < 2 ^ 32 := by
      rw [Nat.div_lt_iff_lt_mul hb0]
      have : (r + 1) * 4294967296 ≤ b * 4294967296 := Nat.mul_le_mul_right _ hr
      omega
    have hdm := Nat.div_add_mod (r * 4294967296 + limb A j) b
    refine ⟨⟨by omega, by omega, by omega⟩, ⟨by omega, ⟨by omega, by omega⟩, by omega⟩, by omega, fun s' hv => ⟨(j, (r * 4294967296 + limb A j) % b, setL o j ((r * 4294967296 + limb A j) / b)), view_eq hv ?_ ?_, ⟨by simp only; omega, Nat.mod_lt _ hb0, setL_lt hq1 ho, fun i hi => ?_, ?_⟩, by simp only; omega⟩⟩
    · rw [← Int.ofNat_tmod, wrap_i64 (by omega) (by omega), show ((j + 1 : Nat) : Int) - 1 - 1 = (j : Int) - 1 by omega]
    · simp only [fmOs]
      congr 3
      funext i
      refine limbs_set ?_ i
      rw [← Int.ofNat_tdiv]
      clear hdm
      generalize (r * 4294967296 + limb A j) / b = q at hq1 ⊢
      rw [wrap_u64 (by omega) (by omega), wrap_u32 (by omega) (by omega)]
    · exact (setL_ne (by simp only at hi; omega)).trans (ho0 i (by simp only at hi; omega))
    · simp only
      rw [val_setL (by omega) (ho0 j (by omega))]
      rw [pow_succ32, val] at hval
      exact small_step hval hdm.symm
  · have hk0 : k = 0 := by omega
    have hv2 : val (nl A) o * b + r = A := by rw [hk0] at hval; simpa [val] using hval
    refine AWpL.finDV hT GF1_ok hm 60 hv (h0 _) rfl (okO_fm (by omega)) fby_end (by kernel_rfl) (by kernel_rfl) ?_
    simp only [ATree.all, allP, Nat.add_zero, val_numOf]
    obtain ⟨hdiv, hmod⟩ := div_mod_of hv2 hr
    exact ⟨⟨limbs_limbsF ho, hA⟩, avLe0_of_eq (congrArg AV.mag hdiv.symm), avLe0_int (by rw [hmod, wrap_u32 (by omega) (by omega)]), trivial⟩
def s_fbyLimb : Spec := pureSpec fun l => match l with
  | [a, .int .u32 b] => match magOf a with
    | some A => some (pres (.tuple [.mag (A / b.toNat), .int .u32 (A % b.toNat : Nat)]) [nl A < 2 ^ 40, 0 < b, b < 2 ^ 32])
    | none => none
  | _ => none
theorem s_fbyLimb_ok : ∀ K args pre r, s_fbyLimb K args pre = some r → FOK P ref01_byLimb K args pre r := by
  refine pureSpec_ok fun K args r hk hs _ => ?_
  split at hs
  · rename_i a b
    split at hs
    · rename_i A hA
      simp only [Option.some.injEq] at hs
      subst hs
      intro need
      obtain ⟨h1, h2, h3⟩ : nl A < 2 ^ 40 ∧ 0 < b ∧ b < 2 ^ 32 := need
      obtain ⟨b, rfl⟩ := Int.eq_ofNat_of_zero_le (Int.le_of_lt h2)
      exact fok_weak (fbyLimb_ok h1 (by omega) (by omega) K) hk ⟨magOf_le hA, .refl _, trivial⟩ [] trivial
    · simp at hs
  · simp at hs
end Go.Am.B
