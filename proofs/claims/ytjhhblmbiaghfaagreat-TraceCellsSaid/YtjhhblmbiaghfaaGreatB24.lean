/- ref01: minus, Sub, Mul, byLimb. -/
import Derived.Test.YtjhhblmbiaghfaaGreatB23
set_option linter.unusedVariables false
namespace Go.Am.B
open Go Go.Am.N AV
theorem Ur : aO P uw mO (ax mO) := aP VG (by kernel_rfl) (by kernel_rfl) (by kernel_rfl)
theorem OY : aO P uR rz (ax rz) := aP S9 (by kernel_rfl) (by kernel_rfl) (by kernel_rfl)
theorem W0 : aO P qe iG (ax iG) := aP Yq (by kernel_rfl) (by kernel_rfl) (by kernel_rfl)
theorem WO : aO P vm oy (ax oy) := aP UU (by kernel_rfl) (by kernel_rfl) (by kernel_rfl)
abbrev kj : List Nat := [0, 1, 5, 6, 7]
abbrev wv (A B c i K : Nat) : List AV := [.mag A, .mag B, .own K 1 0 (nl A), .int .u64 c, .int .i64 i]
abbrev ck (K n : Nat) (o : Nat → Nat) : aB := [(K, ⟨true, true, 1, n, aj o⟩)]
noncomputable abbrev EW : Code := part (ax mO) [1,1,1,0,1,0,0]
theorem Za {A B : Nat} : aF T dw [] 60 kj (before (ax mO) [1,1,1,0,1]) ⟨aN 0 [.mag A, .mag B], [], 0⟩ =
  some (af.ag [(0 : Int) ≤ (↑(nl A) : Int) ∧ (↑(nl A) : Int) ≤ (↑(nl A) : Int) ∧ (↑(nl A) : Int) ≤ (2 : Int) ^ 47 ∧ (↑(nl A) : Int) * (↑(4 : Nat) : Int) ≤ (2 : Int) ^ 47] (af.leaf ak.normal ([mag A, mag B, own 12288 1 0 (↑(nl A) : Int).toNat, int IntKind.u64 (0 : Int), int IntKind.i64 (0 : Int)], [((12288 : Nat), ⟨true, true, 1, (↑(nl A) : Int).toNat, fun (x : Nat) ↦ int IntKind.u32 (0 : Int)⟩)]))) := by kernel_rfl
theorem QB {A B c i : Nat} {o : Nat → Nat} : aF T dw [16, 23, 38] 60 kj [EW] ⟨az kj (wv A B c i 12288), ck 12288 (nl A) o, 12289⟩ =
  some (af.fork (decide ((↑i : Int) < (↑(nl A) : Int))) (af.fork (decide ((↑i : Int) < (↑(nl B) : Int))) (af.ag [(0 : Int) ≤ (↑i : Int) ∧ (↑i : Int).toNat < nl B] (af.ag [(0 : Int) ≤ (↑i : Int) ∧ (↑i : Int).toNat < nl A] (af.fork (decide (IntKind.u64.wrap (↑(au A (↑i : Int).toNat) : Int) < IntKind.u64.wrap ((↑c : Int) + IntKind.u64.wrap (↑(au B (↑i : Int).toNat) : Int)))) (af.ag [(0 : Int) ≤ (↑i : Int) ∧ (↑i : Int).toNat < nl A, (↑i : Int).toNat + 0 < nl A] (af.leaf ak.normal ([mag A, mag B, own 12288 1 0 (nl A), int IntKind.u64 (1 : Int), int IntKind.i64 (IntKind.i64.wrap ((↑i : Int) + (1 : Int)))], [((12288 : Nat), ⟨true, true, 1, nl A, fun (j : Nat) ↦ if (j == (↑i : Int).toNat + 0) = true then int IntKind.u32 (IntKind.u32.wrap (IntKind.u64.wrap (IntKind.u64.wrap (IntKind.u64.wrap (↑(au A (↑i : Int).toNat) : Int) + (4294967296 : Int)) - IntKind.u64.wrap ((↑c : Int) + IntKind.u64.wrap (↑(au B (↑i : Int).toNat) : Int))))) else aj o j⟩)]))) (af.ag [(0 : Int) ≤ (↑i : Int) ∧ (↑i : Int).toNat < nl A, (↑i : Int).toNat + 0 < nl A] (af.leaf ak.normal ([mag A, mag B, own 12288 1 0 (nl A), int IntKind.u64 (0 : Int), int IntKind.i64 (IntKind.i64.wrap ((↑i : Int) + (1 : Int)))], [((12288 : Nat), ⟨true, true, 1, nl A, fun (j : Nat) ↦ if (j == (↑i : Int).toNat + 0) = true then int IntKind.u32 (IntKind.u32.wrap (IntKind.u64.wrap (IntKind.u64.wrap (↑(au A (↑i : Int).toNat) : Int) - IntKind.u64.wrap ((↑c : Int) + IntKind.u64.wrap (↑(au B (↑i : Int).toNat) : Int))))) else aj o j⟩)])))))) (af.ag [(0 : Int) ≤ (↑i : Int) ∧ (↑i : Int).toNat < nl A] (af.fork (decide (IntKind.u64.wrap (↑(au A (↑i : Int).toNat) : Int) < (↑c : Int))) (af.ag [(0 : Int) ≤ (↑i : Int) ∧ (↑i : Int).toNat < nl A, (↑i : Int).toNat + 0 < nl A] (af.leaf ak.normal ([mag A, mag B, own 12288 1 0 (nl A), int IntKind.u64 (1 : Int), int IntKind.i64 (IntKind.i64.wrap ((↑i : Int) + (1 : Int)))], [((12288 : Nat), ⟨true, true, 1, nl A, fun (j : Nat) ↦ if (j == (↑i : Int).toNat + 0) = true then int IntKind.u32 (IntKind.u32.wrap (IntKind.u64.wrap (IntKind.u64.wrap (IntKind.u64.wrap (↑(au A (↑i : Int).toNat) : Int) + (4294967296 : Int)) - (↑c : Int)))) else aj o j⟩)]))) (af.ag [(0 : Int) ≤ (↑i : Int) ∧ (↑i : Int).toNat < nl A, (↑i : Int).toNat + 0 < nl A] (af.leaf ak.normal ([mag A, mag B, own 12288 1 0 (nl A), int IntKind.u64 (0 : Int), int IntKind.i64 (IntKind.i64.wrap ((↑i : Int) + (1 : Int)))], [((12288 : Nat), ⟨true, true, 1, nl A, fun (j : Nat) ↦ if (j == (↑i : Int).toNat + 0) = true then int IntKind.u32 (IntKind.u32.wrap (IntKind.u64.wrap (IntKind.u64.wrap (↑(au A (↑i : Int).toNat) : Int) - (↑c : Int)))) else aj o j⟩)])))))) (af.leaf (ak.exit 0) ([mag A, mag B, own 12288 1 0 (nl A), int IntKind.u64 (↑c : Int), int IntKind.i64 (↑i : Int)], [((12288 : Nat), ⟨true, true, 1, nl A, aj o⟩)]))) := by kernel_rfl
theorem Oa {A B c i : Nat} {o : Nat → Nat} : b9 T dw [] 60 mO (behind (ax mO) [1,1,1,0,1]) ⟨az kj (wv A B c i 12288), ck 12288 (nl A) o, 12289⟩ =
  some (af.ag [cN (nl A) fun (i : Nat) ↦ aj o (i + 0), nl A < 2 ^ 40] (af.leaf ak.ret [mag (val (nl A) fun (i : Nat) ↦ numOf (aj o (i + 0)))])) := by kernel_rfl
abbrev ir : List Nat := [0, 1, 5, 6]
abbrev s9 (A B i K : Nat) : List AV := [.mag A, .mag B, .own K 1 0 (nl A + nl B), .int .i64 i]
abbrev nK : List Nat := [0, 1, 5, 6, 7, 8]
abbrev y6 (A B i c j K : Nat) : List AV := [.mag A, .mag B, .own K 1 0 (nl A + nl B), .int .i64 i, .int .u64 c, .int .i64 j]
noncomputable abbrev lU : Code := part (ax iG) [1,1,0,1,0,0]
noncomputable abbrev qi : Code := part lU [1,0,0]
theorem M7 {A B : Nat} : aF T dw [] 60 ir (before (ax iG) [1,1,0,1]) ⟨aN 0 [.mag A, .mag B], [], 0⟩ =
  some (af.ag [(0 : Int) ≤ IntKind.i64.wrap ((↑(nl A) : Int) + (↑(nl B) : Int)) ∧ IntKind.i64.wrap ((↑(nl A) : Int) + (↑(nl B) : Int)) ≤ IntKind.i64.wrap ((↑(nl A) : Int) + (↑(nl B) : Int)) ∧ IntKind.i64.wrap ((↑(nl A) : Int) + (↑(nl B) : Int)) ≤ (2 : Int) ^ 47 ∧ IntKind.i64.wrap ((↑(nl A) : Int) + (↑(nl B) : Int)) * (↑(4 : Nat) : Int) ≤ (2 : Int) ^ 47] (af.leaf ak.normal ([mag A, mag B, own 24576 1 0 (IntKind.i64.wrap ((↑(nl A) : Int) + (↑(nl B) : Int))).toNat, int IntKind.i64 (0 : Int)], [((24576 : Nat), ⟨true, true, 1, (IntKind.i64.wrap ((↑(nl A) : Int) + (↑(nl B) : Int))).toNat, fun (x : Nat) ↦ int IntKind.u32 (0 : Int)⟩)]))) := by kernel_rfl
theorem Pc {A B i : Nat} {o : Nat → Nat} : aF T dw [18] 60 ir [part lU [0]] ⟨az ir (s9 A B i 24576), ck 24576 (nl A + nl B) o, 24577⟩ =
  some (af.fork (decide ((↑i : Int) < (↑(nl A) : Int))) (af.leaf ak.normal ([mag A, mag B, own 24576 1 0 (nl A + nl B), int IntKind.i64 (↑i : Int)], [((24576 : Nat), ⟨true, true, 1, nl A + nl B, aj o⟩)])) (af.leaf (ak.exit 0) ([mag A, mag B, own 24576 1 0 (nl A + nl B), int IntKind.i64 (↑i : Int)], [((24576 : Nat), ⟨true, true, 1, nl A + nl B, aj o⟩)]))) := by kernel_rfl
theorem TX {A B i : Nat} {o : Nat → Nat} : aF T dw [] 60 nK (before qi [1,0,1]) ⟨az ir (s9 A B i 24576), ck 24576 (nl A + nl B) o, 24577⟩ =
  some (af.leaf ak.normal ([mag A, mag B, own 24576 1 0 (nl A + nl B), int IntKind.i64 (↑i : Int), int IntKind.u64 (0 : Int), int IntKind.i64 (0 : Int)], [((24576 : Nat), ⟨true, true, 1, nl A + nl B, aj o⟩)])) := by kernel_rfl
theorem RD {A B i c j : Nat} {o : Nat → Nat} : aF T dw [24] 60 nK [part qi [1,0,1,0,0]] ⟨az nK (y6 A B i c j 24576), ck 24576 (nl A + nl B) o, 24577⟩ =
  some (af.fork (decide ((↑j : Int) < (↑(nl B) : Int))) (af.ag [(0 : Int) ≤ (↑i : Int) ∧ (↑i : Int).toNat < nl A, (0 : Int) ≤ (↑j : Int) ∧ (↑j : Int).toNat < nl B, (0 : Int) ≤ IntKind.i64.wrap ((↑i : Int) + (↑j : Int)) ∧ (IntKind.i64.wrap ((↑i : Int) + (↑j : Int))).toNat < nl A + nl B, (IntKind.i64.wrap ((↑i : Int) + (↑j : Int))).toNat + 0 < nl A + nl B] (af.ag [(0 : Int) ≤ IntKind.i64.wrap ((↑i : Int) + (↑j : Int)) ∧ (IntKind.i64.wrap ((↑i : Int) + (↑j : Int))).toNat < nl A + nl B, (IntKind.i64.wrap ((↑i : Int) + (↑j : Int))).toNat + 0 < nl A + nl B] (af.ag [(0 : Int) ≤ (32 : Int)] (af.leaf ak.normal ([mag A, mag B, own 24576 1 0 (nl A + nl B), int IntKind.i64 (↑i : Int), int IntKind.u64 ((IntKind.u64.wrap ((↑c : Int) + IntKind.u64.wrap (IntKind.u64.wrap (IntKind.u64.wrap (↑(au A (↑i : Int).toNat) : Int) * IntKind.u64.wrap (↑(au B (↑j : Int).toNat) : Int)) + IntKind.u64.wrap (↑(o ((IntKind.i64.wrap ((↑i : Int) + (↑j : Int))).toNat + 0)) : Int)))).fdiv ((2 : Int) ^ min (Int.toNat (32 : Int)) IntKind.u64.bits)), int IntKind.i64 (IntKind.i64.wrap ((↑j : Int) + (1 : Int)))], [((24576 : Nat), ⟨true, true, 1, nl A + nl B, fun (j_1 : Nat) ↦ if (j_1 == (IntKind.i64.wrap ((↑i : Int) + (↑j : Int))).toNat + 0) = true then int IntKind.u32 (IntKind.u32.wrap (IntKind.u64.wrap ((↑c : Int) + IntKind.u64.wrap (IntKind.u64.wrap (IntKind.u64.wrap (↑(au A (↑i : Int).toNat) : Int) * IntKind.u64.wrap (↑(au B (↑j : Int).toNat) : Int)) + IntKind.u64.wrap (↑(o ((IntKind.i64.wrap ((↑i : Int) + (↑j : Int))).toNat + 0)) : Int))))) else aj o j_1⟩)]))))) (af.leaf (ak.exit 2) ([mag A, mag B, own 24576 1 0 (nl A + nl B), int IntKind.i64 (↑i : Int), int IntKind.u64 (↑c : Int), int IntKind.i64 (↑j : Int)], [((24576 : Nat), ⟨true, true, 1, nl A + nl B, aj o⟩)]))) := by kernel_rfl
theorem RO {A B i c j : Nat} {o : Nat → Nat} : aF T dw [] 60 ir (behind qi [1,0,1]) ⟨az nK (y6 A B i c j 24576), ck 24576 (nl A + nl B) o, 24577⟩ =
  some (af.ag [(0 : Int) ≤ IntKind.i64.wrap ((↑i : Int) + (↑(nl B) : Int)) ∧ (IntKind.i64.wrap ((↑i : Int) + (↑(nl B) : Int))).toNat < nl A + nl B, (IntKind.i64.wrap ((↑i : Int) + (↑(nl B) : Int))).toNat + 0 < nl A + nl B] (af.leaf ak.normal ([mag A, mag B, own 24576 1 0 (nl A + nl B), int IntKind.i64 (↑i : Int)], [((24576 : Nat), ⟨true, true, 1, nl A + nl B, fun (j : Nat) ↦ if (j == (IntKind.i64.wrap ((↑i : Int) + (↑(nl B) : Int))).toNat + 0) = true then int IntKind.u32 (IntKind.u32.wrap (↑c : Int)) else aj o j⟩)]))) := by kernel_rfl
theorem VI {A B i : Nat} {o : Nat → Nat} : aF T dw [] 60 ir [part lU [1,1]] ⟨az ir (s9 A B i 24576), ck 24576 (nl A + nl B) o, 24577⟩ =
  some (af.leaf ak.normal ([mag A, mag B, own 24576 1 0 (nl A + nl B), int IntKind.i64 (IntKind.i64.wrap ((↑i : Int) + (1 : Int)))], [((24576 : Nat), ⟨true, true, 1, nl A + nl B, aj o⟩)])) := by kernel_rfl
theorem QH {A B i : Nat} {o : Nat → Nat} : b9 T dw [] 60 iG (behind (ax iG) [1,1,0,1]) ⟨az ir (s9 A B i 24576), ck 24576 (nl A + nl B) o, 24577⟩ =
  some (af.ag [cN (nl A + nl B) fun (i : Nat) ↦ aj o (i + 0), nl A + nl B < 2 ^ 40] (af.leaf ak.ret [mag (val (nl A + nl B) fun (i : Nat) ↦ numOf (aj o (i + 0)))])) := by kernel_rfl
abbrev m8 : List Nat := [0, 1, 6, 7, 8]
abbrev Cy (A b r k K : Nat) : List AV := [.mag A, .int .u32 b, .own K 1 0 (nl A), .int .u64 r, .int .i64 ((k : Int) - 1)]
noncomputable abbrev DY : Code := part (ax oy) [1,1,1,0,1,0,0]
theorem JE {A b : Nat} : aF T dw [] 60 m8 (before (ax oy) [1,1,1,0,1]) ⟨aN 0 [.mag A, .int .u32 b], [], 0⟩ =
  some (af.ag [(0 : Int) ≤ (↑(nl A) : Int) ∧ (↑(nl A) : Int) ≤ (↑(nl A) : Int) ∧ (↑(nl A) : Int) ≤ (2 : Int) ^ 47 ∧ (↑(nl A) : Int) * (↑(4 : Nat) : Int) ≤ (2 : Int) ^ 47] (af.leaf ak.normal ([mag A, int IntKind.u32 (↑b : Int), own 16384 1 0 (↑(nl A) : Int).toNat, int IntKind.u64 (0 : Int), int IntKind.i64 (IntKind.i64.wrap ((↑(nl A) : Int) - (1 : Int)))], [((16384 : Nat), ⟨true, true, 1, (↑(nl A) : Int).toNat, fun (x : Nat) ↦ int IntKind.u32 (0 : Int)⟩)]))) := by kernel_rfl
theorem Mj {A b r k : Nat} {o : Nat → Nat} : aF T dw [16] 60 m8 [DY] ⟨az m8 (Cy A b r k 16384), ck 16384 (nl A) o, 16385⟩ =
  some (af.fork (decide ((↑k : Int) - (1 : Int) ≥ (0 : Int))) (af.ag [(0 : Int) ≤ (32 : Int), (0 : Int) ≤ (↑k : Int) - (1 : Int) ∧ ((↑k : Int) - (1 : Int)).toNat < nl A] (af.ag [IntKind.u64.wrap (↑b : Int) ≠ (0 : Int), (0 : Int) ≤ (↑k : Int) - (1 : Int) ∧ ((↑k : Int) - (1 : Int)).toNat < nl A, ((↑k : Int) - (1 : Int)).toNat + 0 < nl A] (af.ag [IntKind.u64.wrap (↑b : Int) ≠ (0 : Int)] (af.leaf ak.normal ([mag A, int IntKind.u32 (↑b : Int), own 16384 1 0 (nl A), int IntKind.u64 ((IntKind.u64.wrap (↑(BitVec.ofInt IntKind.u64.bits (IntKind.u64.wrap ((↑r : Int) * (2 : Int) ^ min (Int.toNat (32 : Int)) IntKind.u64.bits)) ||| BitVec.ofInt IntKind.u64.bits (IntKind.u64.wrap (↑(au A ((↑k : Int) - (1 : Int)).toNat) : Int))).toNat : Int)).tmod (IntKind.u64.wrap (↑b : Int))), int IntKind.i64 (IntKind.i64.wrap ((↑k : Int) - (1 : Int) - (1 : Int)))], [((16384 : Nat), ⟨true, true, 1, nl A, fun (j : Nat) ↦ if (j == ((↑k : Int) - (1 : Int)).toNat + 0) = true then int IntKind.u32 (IntKind.u32.wrap (IntKind.u64.wrap ((IntKind.u64.wrap (↑(BitVec.ofInt IntKind.u64.bits (IntKind.u64.wrap ((↑r : Int) * (2 : Int) ^ min (Int.toNat (32 : Int)) IntKind.u64.bits)) ||| BitVec.ofInt IntKind.u64.bits (IntKind.u64.wrap (↑(au A ((↑k : Int) - (1 : Int)).toNat) : Int))).toNat : Int)).tdiv (IntKind.u64.wrap (↑b : Int))))) else aj o j⟩)]))))) (af.leaf (ak.exit 0) ([mag A, int IntKind.u32 (↑b : Int), own 16384 1 0 (nl A), int IntKind.u64 (↑r : Int), int IntKind.i64 ((↑k : Int) - (1 : Int))], [((16384 : Nat), ⟨true, true, 1, nl A, aj o⟩)]))) := by kernel_rfl
theorem J2 {A b r k : Nat} {o : Nat → Nat} : b9 T dw [] 60 oy (behind (ax oy) [1,1,1,0,1]) ⟨az m8 (Cy A b r k 16384), ck 16384 (nl A) o, 16385⟩ =
  some (af.ag [cN (nl A) fun (i : Nat) ↦ aj o (i + 0), nl A < 2 ^ 40] (af.leaf ak.ret [mag (val (nl A) fun (i : Nat) ↦ numOf (aj o (i + 0))), int IntKind.u32 (IntKind.u32.wrap (↑r : Int))])) := by kernel_rfl
def EX : aW := [(mK, vr), (uw, jH (fun A B => .mag (A - B)) fun A B => [B ≤ A, nl A < 2 ^ 40])]
theorem Ll {A B : Nat} : bF T EX [9] 60 rz (ax rz) ⟨aN 0 [.mag A, .mag B], [], 0⟩ =
  some (af.ag [nl A < 2 ^ 40, nl B < 2 ^ 40] (af.fork (decide (bO A B < (0 : Int))) (af.leaf ak.ret [nil, int IntKind.i64 (7 : Int)]) (af.ag [B ≤ A, nl A < 2 ^ 40] (af.leaf ak.ret [mag (A - B), int IntKind.i64 (0 : Int)])))) := by kernel_rfl
theorem e9 {K n nx : Nat} {o : Nat → Nat} (h : K < nx) : fe nx (ck K n o) := ⟨⟨h, fun _ _ => rfl⟩, trivial⟩
theorem Lr {vo va vb ai x c b' un u' B : Nat} (hx : x = c + b') (hu : un + x = ai + 4294967296 * u') (h : va + c * B = vo + vb) : va + ai * B + u' * (4294967296 * B) = vo + un * B + (vb + b' * B) := by
 have e : (un + x) * B = (ai + 4294967296 * u') * B := by rw [hu]
 subst hx
 grind
theorem IJ {A B : Nat} (hAB : B ≤ A) (hA : nl A < 2 ^ 40) (K : Nat) : aC P uw K [.mag A, .mag B] [] (aK (.mag (A - B)) []) := by
 have hB : nl B ≤ nl A := fo hAB
 refine eW hT Ur rfl (of_decide_eq_true (by kernel_rfl)) rfl (fun _ c0 h0 => ?_) K []
 refine aq.hole [1,1,1,0,1] (by kernel_rfl) (aA.aS hT dx hm 60 kj Za (by kernel_rfl) ?_)
 simp only [af.all, ay, Int.toNat_natCast]
 refine ⟨by omega, fun s' hv => bL ?_⟩
 refine aq.fl (i := 0) (y := EW) (by kernel_rfl) kj 12289 (h0 _) (fun p : Nat × Nat × (Nat → Nat) => wv A B p.2.1 p.1 12288) (fun p => ck 12288 (nl A) p.2.2) (fun _ => rfl) (fun _ => e9 (by omega))
  (fun p => p.1 ≤ nl A ∧ p.2.1 ≤ 1 ∧ (∀ j, j < nl A → p.2.2 j < 2 ^ 32) ∧ val p.1 (au A) + p.2.1 * 2 ^ (32 * p.1) = val p.1 p.2.2 + val p.1 (au B))
  (fun p => nl A - p.1) (0, 0, fun _ => 0) hv ⟨by simp, by simp, fun _ _ => by simp, by simp [val]⟩ ?_
 rintro ⟨i, c, o⟩ ⟨hi, hc, ho, hval⟩
 simp only at hi hc ho hval
 refine aq.aS hT dx hm 60 kj QB (by kernel_rfl) ?_
 have la := cE (N := A) (i := i)
 have lb := cE (N := B) (i := i)
 have wa : IntKind.u64.wrap (au A i : Int) = ((au A i : Nat) : Int) := bA (by omega) (by omega)
 have wb : IntKind.u64.wrap (au B i : Int) = ((au B i : Nat) : Int) := bA (by omega) (by omega)
 have w1 : IntKind.u64.wrap ((c : Int) + ((au B i : Nat) : Int)) = ((c + au B i : Nat) : Int) := by rw [bA (by omega) (by omega)]; omega
 have w2 : IntKind.u64.wrap (((au A i : Nat) : Int) + 4294967296) = ((au A i + 4294967296 : Nat) : Int) := by rw [bA (by omega) (by omega)]; omega
 have w3 : IntKind.i64.wrap ((i : Int) + 1) = ((i + 1 : Nat) : Int) := by rw [wrap_i64 (by omega) (by omega)]; omega
 simp only [af.all, ay, decide_eq_true_eq, decide_eq_false_iff_not, Int.toNat_natCast, Nat.add_zero, beq_iff_eq]
 rw [wa, wb, w1, w2, w3]
 -- what is put down
 have next : ∀ {s' : aE} {x u' : Nat} {v : Int}, i < nl A → x = c + au B i → u' ≤ 1 → x ≤ au A i + 4294967296 * u' → au A i + 4294967296 * u' < x + 4294967296 → v = ((au A i + 4294967296 * u' - x : Nat) : Int) →
   aQ kj s' = some (wv A B u' (i + 1) 12288, [(12288, ⟨true, true, 1, nl A, fun j => if j = i then .int .u32 (IntKind.u32.wrap (IntKind.u64.wrap v)) else aj o j⟩)]) →
   ∃ k : Nat × Nat × (Nat → Nat), aQ kj s' = some (wv A B k.2.1 k.1 12288, ck 12288 (nl A) k.2.2) ∧ (k.1 ≤ nl A ∧ k.2.1 ≤ 1 ∧ (∀ j, j < nl A → k.2.2 j < 2 ^ 32) ∧ val k.1 (au A) + k.2.1 * 2 ^ (32 * k.1) = val k.1 k.2.2 + val k.1 (au B)) ∧ nl A - k.1 < nl A - i := by
  intro s' x u' v hin hx hu1 h1 h2 hv1 hv
  refine ⟨(i + 1, u', bI o i (au A i + 4294967296 * u' - x)), cG hv rfl ?_, ⟨by simp only; omega, hu1, fA (by omega) ho, ?_⟩, by simp only; omega⟩
  ·simp only [ck]
   congr 3
   funext k
   exact eZ (by rw [hv1, bA (by omega) (by omega), wrap_u32 (by omega) (by omega)]) k
  ·simp only
   rw [nL, val, val, fq]
   exact Lr (b' := au B i) (x := x) hx (by omega) hval
 refine ⟨fun hb => ⟨fun hb2 => ⟨by omega, by omega, fun h3 => ⟨⟨by omega, by omega⟩, fun s' hv => ?_⟩, fun h3 => ⟨⟨by omega, by omega⟩, fun s' hv => ?_⟩⟩, fun hb2 => ⟨by omega, fun h3 => ⟨⟨by omega, by omega⟩, fun s' hv => ?_⟩, fun h3 => ⟨⟨by omega, by omega⟩, fun s' hv => ?_⟩⟩⟩, fun hb s' hv => dI (bL ?_)⟩
 ·exact next (u' := 1) (by omega) rfl (by omega) (by omega) (by omega) (by omega) hv
 ·exact next (u' := 0) (by omega) rfl (by omega) (by omega) (by omega) (by omega) hv
 ·exact next (u' := 1) (x := c) (by omega) (by rw [gq (A := B) (by omega)]; rfl) (by omega) (by omega) (by omega) (by omega) hv
 ·exact next (u' := 0) (x := c) (by omega) (by rw [gq (A := B) (by omega)]; rfl) (by omega) (by omega) (by omega) (by omega) hv
 ·have hin : i = nl A := by omega
  refine aA.gY hT dx hm 60 hv (h0 _) rfl (e9 (by omega)) Oa (by kernel_rfl) (by kernel_rfl) ?_
  simp only [af.all, ay, Nat.add_zero, gI]
  refine ⟨⟨eG ho, hA⟩, cV (congrArg AV.mag ?_)⟩
  rw [hin, ew, lY (cw.1 hB)] at hval
  have hlt := ec ho
  have : c = 0 := by
   rcases Nat.eq_zero_or_pos c with h | h
   ·exact h
   ·exfalso
    have h1 : 1 * 2 ^ (32 * nl A) ≤ c * 2 ^ (32 * nl A) := Nat.mul_le_mul_right _ h
    omega
  rw [this] at hval
  omega
theorem Us : br P EX := aJ xE (aJ (lQ fun h => IJ h.1 h.2) aY)
theorem Wi {A B : Nat} (hA : nl A < 2 ^ 40) (hB : nl B < 2 ^ 40) (K : Nat) : aC P uR K [.mag A, .mag B] [] (aK (.tuple [.mag (A - B), .int .i64 (if A < B then 7 else 0)]) []) := by
 refine bH hT Us hm OY rfl (of_decide_eq_true (by kernel_rfl)) rfl 60 Ll (fun _ => ?_) K []
 simp only [af.all, ay, decide_eq_true_eq, decide_eq_false_iff_not, wP]
 refine ⟨⟨hA, hB⟩, fun h => ⟨?_, bm (by rw [if_pos h]), trivial⟩, fun h => ⟨⟨by omega, hA⟩, .refl _, bm (by rw [if_neg h]), trivial⟩⟩
 rw [Nat.sub_eq_zero_of_le (by omega)]; exact iB
def IE : Spec := jH (fun A B => .tuple [.mag (A - B), .int .i64 (if A < B then 7 else 0)]) BN
theorem LN : ∀ K args pre r, IE K args pre = some r → aC P uR K args pre r := lQ fun h => Wi h.1 h.2
theorem PW {A B : Nat} (hA : nl A < 2 ^ 39) (hB : nl B < 2 ^ 39) (K : Nat) : aC P qe K [.mag A, .mag B] [] (aK (.mag (A * B)) []) := by
 refine eW hT W0 rfl (of_decide_eq_true (by kernel_rfl)) rfl (fun _ c0 h0 => ?_) K []
 refine aq.hole [1,1,0,1] (by kernel_rfl) (aA.aS hT dx hm 60 ir M7 (by kernel_rfl) ?_)
 have hw : IntKind.i64.wrap ((nl A : Int) + (nl B : Int)) = ((nl A + nl B : Nat) : Int) := dh (by omega) (by omega)
 rw [hw]
 simp only [af.all, ay, Int.toNat_natCast]
 refine ⟨by omega, fun s' hv => bL ?_⟩
 refine aq.fl (i := 0) (y := lU) (by kernel_rfl) ir 24577 (h0 _) (fun p : Nat × (Nat → Nat) => s9 A B p.1 24576) (fun p => ck 24576 (nl A + nl B) p.2) (fun _ => rfl) (fun _ => e9 (by omega))
  (fun p => p.1 ≤ nl A ∧ (∀ j, j < nl A + nl B → p.2 j < 2 ^ 32) ∧ (∀ j, p.1 + nl B ≤ j → p.2 j = 0) ∧ val (nl A + nl B) p.2 = val p.1 (au A) * B)
  (fun p => nl A - p.1) (0, fun _ => 0) hv ⟨by simp, fun _ _ => by simp, fun _ _ => rfl, ?_⟩ ?_
 ·simp only
  rw [val_zero fun _ _ => rfl]
  simp [val]
 rintro ⟨i, o⟩ ⟨hi, ho, ho0, hval⟩
 simp only at hi ho ho0 hval
 refine aq.hole [0] (by kernel_rfl) (show aq P c0 iG.ntmps (part lU [0]) _ _ from aq.aS hT dx hm 60 ir Pc (by kernel_rfl) ?_)
 simp only [af.all, decide_eq_true_eq, decide_eq_false_iff_not]
 refine ⟨fun h1 s' hv => bL ?_, fun h1 s' hv => nq (dI (bL ?_))⟩
 ·have hin : i < nl A := by omega
  have la := cE (N := A) (i := i)
  show aA P c0 iG.ntmps [part lU [1]] s' _
  refine aq.hole [0] (by kernel_rfl) ?_
  show aq P c0 iG.ntmps (part lU [1,0]) s' _
  refine aq.mM (i := 1) (y := qi) (by kernel_rfl) (aq.gZ hv (h0 24577) rfl (e9 (by omega)) ?_)
  refine aq.hole [1,0,1] (by kernel_rfl) (aA.aS hT dx hm 60 nK TX (by kernel_rfl) fun s' hv => bL ?_)
  refine aq.fl (i := 2) (y := part qi [1,0,1,0,0]) (by kernel_rfl) nK 24577 (h0 _) (fun p : Nat × Nat × (Nat → Nat) => y6 A B i p.2.1 p.1 24576) (fun p => ck 24576 (nl A + nl B) p.2.2) (fun _ => rfl) (fun _ => e9 (by omega))
   (fun p => p.1 ≤ nl B ∧ p.2.1 < 2 ^ 32 ∧ (∀ j, j < nl A + nl B → p.2.2 j < 2 ^ 32) ∧ (∀ j, i + nl B ≤ j → p.2.2 j = 0) ∧ val (nl A + nl B) p.2.2 + p.2.1 * 2 ^ (32 * (i + p.1)) = val i (au A) * B + au A i * val p.1 (au B) * 2 ^ (32 * i))
   (fun p => nl B - p.1) (0, 0, o) hv ⟨by simp, by simp, ho, ho0, by simp [val, hval]⟩ ?_
  rintro ⟨j, c, o⟩ ⟨hj, hc, ho, ho0, hval⟩
  simp only at hj hc ho ho0 hval
  refine aq.aS hT dx hm 60 nK RD (by kernel_rfl) ?_
  have hij : IntKind.i64.wrap ((i : Int) + (j : Int)) = ((i + j : Nat) : Int) := dh (by omega) (by omega)
  have lb := cE (N := B) (i := j)
  simp only [af.all, ay, decide_eq_true_eq, decide_eq_false_iff_not, hij, Int.toNat_natCast, Nat.add_zero, beq_iff_eq]
  refine ⟨fun h2 => ?_, fun h2 s' hv => dI ?_⟩
  ·have hjm : j < nl B := by omega
   obtain ⟨m1, m2, m3⟩ := Em hc la lb (ho (i + j) (by omega))
   rw [m1]
   refine ⟨⟨by omega, by omega, by omega, by omega⟩, ⟨by omega, by omega⟩, by omega, fun s' hv => ⟨(j + 1, (c + au A i * au B j + o (i + j)) / 4294967296, bI o (i + j) ((c + au A i * au B j + o (i + j)) % 4294967296)), cG hv ?_ ?_, ⟨by simp only; omega, m3, fA (by omega) ho, fun k hk => ?_, ?_⟩, by simp only; omega⟩⟩
   ·rw [iY, dh (a := (j : Int) + 1) (n := j + 1) (by omega) (by omega)]
    simp only [y6, List.cons.injEq, AV.int.injEq, and_true, true_and]
    omega
   ·simp only [ck]
    congr 3
    funext k
    exact eZ (by rw [gC]) k
   ·exact (dY (by omega)).trans (ho0 k hk)
   ·simp only
    rw [show 32 * (i + (j + 1)) = 32 * ((i + j) + 1) by omega, fq, val]
    have hset := Ab (o := o) (x := (c + au A i * au B j + o (i + j)) % 4294967296) (show i + j < nl A + nl B by omega)
    exact Je rfl (Nat.div_add_mod _ _) hset (by rw [← Nat.pow_add]; congr 1; omega) hval
  ·show aA P c0 iG.ntmps (behind qi [1,0,1]) s' _
   have hjm : j = nl B := by omega
   have hib : IntKind.i64.wrap ((i : Int) + (nl B : Int)) = ((i + nl B : Nat) : Int) := dh (by omega) (by omega)
   refine aA.dB hT dx hm 60 hv (h0 24577) rfl (e9 (by omega)) ir RO (by kernel_rfl) (by kernel_rfl) ?_
   rw [hib]
   simp only [af.all, ay, Int.toNat_natCast, Nat.add_zero, beq_iff_eq]
   refine ⟨⟨by omega, by omega⟩, fun s' hv => ?_⟩
   have hf : (fun k => if k = i + nl B then AV.int .u32 (IntKind.u32.wrap (c : Int)) else aj o k) = aj (bI o (i + nl B) c) := by
    funext k
    exact eZ (wrap_u32 (by omega) (by omega)) k
   rw [hf] at hv
   show aA P c0 iG.ntmps [part lU [1,1]] s' _
   refine aA.dB hT dx hm 60 hv (h0 24577) rfl (e9 (by omega)) ir VI (by kernel_rfl) (by kernel_rfl) fun s' hv => bL ?_
   refine ⟨(i + 1, bI o (i + nl B) c), cG hv ?_ rfl, ⟨by simp only; omega, fA hc ho, fun k hk => (dY (by simp only at hk; omega)).trans (ho0 k (by simp only at hk; omega)), ?_⟩, by simp only; omega⟩
   ·rw [dh (a := (i : Int) + 1) (n := i + 1) (by omega) (by omega)]
   ·simp only
    rw [hjm, ew] at hval
    rw [mT (by omega) (ho0 _ (by omega)), hval, val, Nat.add_mul, Nat.mul_assoc, Nat.mul_assoc, Nat.mul_comm B]
 ·have hin : i = nl A := by omega
  refine aA.gY hT dx hm 60 hv (h0 _) rfl (e9 (by omega)) QH (by kernel_rfl) (by kernel_rfl) ?_
  simp only [af.all, ay, Nat.add_zero, gI]
  refine ⟨⟨eG ho, by omega⟩, cV (congrArg AV.mag ?_)⟩
  rw [hval, hin, ew]
def B7 : Spec := jH (fun A B => .mag (A * B)) fun A B => [nl A < 2 ^ 39, nl B < 2 ^ 39]
theorem Fb : ∀ K args pre r, B7 K args pre = some r → aC P qe K args pre r := lQ fun h => PW h.1 h.2
theorem Gz {v b r A : Nat} (h : v * b + r = A) (hr : r < b) : A / b = v ∧ A % b = r := by
 subst h
 refine ⟨?_, ?_⟩
 ·rw [Nat.mul_comm, Nat.mul_add_div (by omega), Nat.div_eq_of_lt hr, Nat.add_zero]
 ·rw [Nat.mul_comm, Nat.mul_add_mod, Nat.mod_eq_of_lt hr]
theorem WL {A b : Nat} (hA : nl A < 2 ^ 40) (hb0 : 0 < b) (hb32 : b < 2 ^ 32) (K : Nat) : aC P vm K [.mag A, .int .u32 b] [] (aK (.tuple [.mag (A / b), .int .u32 (A % b : Nat)]) []) := by
 refine eW hT WO rfl (of_decide_eq_true (by kernel_rfl)) rfl (fun _ c0 h0 => ?_) K []
 refine aq.hole [1,1,1,0,1] (by kernel_rfl) (aA.aS hT dx hm 60 m8 JE (by kernel_rfl) ?_)
 simp only [af.all, ay, Int.toNat_natCast]
 refine ⟨by omega, fun s' hv => bL ?_⟩
 refine aq.fl (i := 0) (y := DY) (by kernel_rfl) m8 16385 (h0 _) (fun p : Nat × Nat × (Nat → Nat) => Cy A b p.2.1 p.1 16384) (fun p => ck 16384 (nl A) p.2.2) (fun _ => rfl) (fun _ => e9 (by omega))
  (fun p => p.1 ≤ nl A ∧ p.2.1 < b ∧ (∀ j, j < nl A → p.2.2 j < 2 ^ 32) ∧ (∀ j, j < p.1 → p.2.2 j = 0) ∧ val (nl A) p.2.2 * b + p.2.1 * 2 ^ (32 * p.1) + val p.1 (au A) = A)
  (fun p => p.1) (nl A, 0, fun _ => 0) (cG hv (by rw [wrap_i64 (by omega) (by omega)]; rfl) rfl) ⟨by simp, hb0, fun j _ => by simp, fun j _ => rfl, ?_⟩ ?_
 ·simp only
  rw [val_zero fun _ _ => rfl, ew]
  simp
 rintro ⟨k, r, o⟩ ⟨hk, hr, ho, ho0, hval⟩
 simp only at hk hr ho ho0 hval
 refine aq.aS hT dx hm 60 m8 Mj (by kernel_rfl) ?_
 simp only [af.all, ay, decide_eq_true_eq, decide_eq_false_iff_not, Nat.add_zero, beq_iff_eq]
 have hbw : IntKind.u64.wrap (b : Int) = (b : Int) := bA (by omega) (by omega)
 refine ⟨fun hb => ?_, fun hb s' hv => dI (bL ?_)⟩
 ·obtain ⟨j, rfl⟩ : ∃ j, k = j + 1 := ⟨k - 1, by omega⟩
  have e : (((j + 1 : Nat) : Int) - 1).toNat = j := by omega
  have hzj := cE (N := A) (i := j)
  have hor := qL (a := r) (b := au A j) (by omega) hzj
  rw [e, hor, hbw]
  have hq1 : (r * 4294967296 + au A j) / b < 2 ^ 32 := by
   rw [Nat.div_lt_iff_lt_mul hb0]
   have : (r + 1) * 4294967296 ≤ b * 4294967296 := Nat.mul_le_mul_right _ hr
   omega
  have hdm := Nat.div_add_mod (r * 4294967296 + au A j) b
  refine ⟨⟨by omega, by omega, by omega⟩, ⟨by omega, ⟨by omega, by omega⟩, by omega⟩, by omega, fun s' hv => ⟨(j, (r * 4294967296 + au A j) % b, bI o j ((r * 4294967296 + au A j) / b)), cG hv ?_ ?_, ⟨by simp only; omega, Nat.mod_lt _ hb0, fA hq1 ho, fun i hi => ?_, ?_⟩, by simp only; omega⟩⟩
  ·rw [← Int.ofNat_tmod, wrap_i64 (by omega) (by omega), show ((j + 1 : Nat) : Int) - 1 - 1 = (j : Int) - 1 by omega]
  ·simp only [ck]
   congr 3
   funext i
   refine eZ ?_ i
   rw [← Int.ofNat_tdiv]
   clear hdm
   generalize (r * 4294967296 + au A j) / b = q at hq1 ⊢
   rw [bA (by omega) (by omega), wrap_u32 (by omega) (by omega)]
  ·exact (dY (by simp only at hi; omega)).trans (ho0 i (by simp only at hi; omega))
  ·simp only
   rw [mT (by omega) (ho0 j (by omega))]
   rw [fq, val] at hval
   exact Gy hval hdm.symm
 ·have hk0 : k = 0 := by omega
  have hv2 : val (nl A) o * b + r = A := by rw [hk0] at hval; simpa [val] using hval
  refine aA.gY hT dx hm 60 hv (h0 _) rfl (e9 (by omega)) J2 (by kernel_rfl) (by kernel_rfl) ?_
  simp only [af.all, ay, Nat.add_zero, gI]
  obtain ⟨hdiv, hmod⟩ := Gz hv2 hr
  exact ⟨⟨eG ho, hA⟩, cV (congrArg AV.mag hdiv.symm), bm (by rw [hmod, wrap_u32 (by omega) (by omega)]), trivial⟩
def Ga : Spec := bu fun l => match l with
 | [a, .int .u32 b] => match gh a with
  | some A => some (aK (.tuple [.mag (A / b.toNat), .int .u32 (A % b.toNat : Nat)]) [nl A < 2 ^ 40, 0 < b, b < 2 ^ 32])
  | none => none
 | _ => none
theorem TE : ∀ K args pre r, Ga K args pre = some r → aC P vm K args pre r := by
 refine bQ fun K args r hk hs _ => ?_
 split at hs
 ·rename_i a b
  split at hs
  ·rename_i A hA
   simp only [Option.some.injEq] at hs
   subst hs
   intro need
   obtain ⟨h1, h2, h3⟩ : nl A < 2 ^ 40 ∧ 0 < b ∧ b < 2 ^ 32 := need
   obtain ⟨b, rfl⟩ := Int.eq_ofNat_of_zero_le (Int.le_of_lt h2)
   exact fm (WL h1 (by omega) (by omega) K) hk ⟨iZ hA, .refl _, trivial⟩ [] trivial
  ·simp at hs
 ·simp at hs
end Go.Am.B
