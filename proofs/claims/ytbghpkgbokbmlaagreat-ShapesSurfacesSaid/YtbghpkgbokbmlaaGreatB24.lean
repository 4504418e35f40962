/- ref01: minus, Sub, Mul, byLimb. -/
import Derived.Test.YtbghpkgbokbmlaaGreatB23
set_option linter.unusedVariables false
namespace Go.Am.B
open Go Go.Am.N AV
theorem LL : aP P uh m0 (au m0) := aL SD (by kernel_rfl) (by kernel_rfl) (by kernel_rfl)
theorem Yu : aP P qV sY (au sY) := aL aai (by kernel_rfl) (by kernel_rfl) (by kernel_rfl)
theorem Mu : aP P oJ iL (au iL) := aL Rz (by kernel_rfl) (by kernel_rfl) (by kernel_rfl)
theorem Ub : aP P pQ oa (au oa) := aL TG (by kernel_rfl) (by kernel_rfl) (by kernel_rfl)
abbrev kY : List Nat := [0, 1, 5, 6, 7]
abbrev rD (A B c i K : Nat) : List AV := [.mag A, .mag B, .own K 1 0 (nl A), .int .u64 c, .int .i64 i]
abbrev cw (K n : Nat) (o : Nat → Nat) : aC := [(K, ⟨true, true, 1, n, ag o⟩)]
noncomputable abbrev DX : Code := part (au m0) [1,1,1,0,1,0,0]
theorem Wa {A B : Nat} : aI T dx [] 60 kY (before (au m0) [1,1,1,0,1]) ⟨aK 0 [.mag A, .mag B], [], 0⟩ =
  some (aa.af [(0 : Int) ≤ (↑(nl A) : Int) ∧ (↑(nl A) : Int) ≤ (↑(nl A) : Int) ∧ (↑(nl A) : Int) ≤ (2 : Int) ^ 47 ∧ (↑(nl A) : Int) * (↑(4 : Nat) : Int) ≤ (2 : Int) ^ 47] (aa.leaf ah.normal ([mag A, mag B, own 12288 1 0 (↑(nl A) : Int).toNat, int IntKind.u64 (0 : Int), int IntKind.i64 (0 : Int)], [((12288 : Nat), ⟨true, true, 1, (↑(nl A) : Int).toNat, fun (x : Nat) ↦ int IntKind.u32 (0 : Int)⟩)]))) := by kernel_rfl
theorem Nt {A B c i : Nat} {o : Nat → Nat} : aI T dx [16, 23, 38] 60 kY [DX] ⟨aB kY (rD A B c i 12288), cw 12288 (nl A) o, 12289⟩ =
  some (aa.fork (decide ((↑i : Int) < (↑(nl A) : Int))) (aa.fork (decide ((↑i : Int) < (↑(nl B) : Int))) (aa.af [(0 : Int) ≤ (↑i : Int) ∧ (↑i : Int).toNat < nl B] (aa.af [(0 : Int) ≤ (↑i : Int) ∧ (↑i : Int).toNat < nl A] (aa.fork (decide (IntKind.u64.wrap (↑(aq A (↑i : Int).toNat) : Int) < IntKind.u64.wrap ((↑c : Int) + IntKind.u64.wrap (↑(aq B (↑i : Int).toNat) : Int)))) (aa.af [(0 : Int) ≤ (↑i : Int) ∧ (↑i : Int).toNat < nl A, (↑i : Int).toNat + 0 < nl A] (aa.leaf ah.normal ([mag A, mag B, own 12288 1 0 (nl A), int IntKind.u64 (1 : Int), int IntKind.i64 (IntKind.i64.wrap ((↑i : Int) + (1 : Int)))], [((12288 : Nat), ⟨true, true, 1, nl A, fun (j : Nat) ↦ if (j == (↑i : Int).toNat + 0) = true then int IntKind.u32 (IntKind.u32.wrap (IntKind.u64.wrap (IntKind.u64.wrap (IntKind.u64.wrap (↑(aq A (↑i : Int).toNat) : Int) + (4294967296 : Int)) - IntKind.u64.wrap ((↑c : Int) + IntKind.u64.wrap (↑(aq B (↑i : Int).toNat) : Int))))) else ag o j⟩)]))) (aa.af [(0 : Int) ≤ (↑i : Int) ∧ (↑i : Int).toNat < nl A, (↑i : Int).toNat + 0 < nl A] (aa.leaf ah.normal ([mag A, mag B, own 12288 1 0 (nl A), int IntKind.u64 (0 : Int), int IntKind.i64 (IntKind.i64.wrap ((↑i : Int) + (1 : Int)))], [((12288 : Nat), ⟨true, true, 1, nl A, fun (j : Nat) ↦ if (j == (↑i : Int).toNat + 0) = true then int IntKind.u32 (IntKind.u32.wrap (IntKind.u64.wrap (IntKind.u64.wrap (↑(aq A (↑i : Int).toNat) : Int) - IntKind.u64.wrap ((↑c : Int) + IntKind.u64.wrap (↑(aq B (↑i : Int).toNat) : Int))))) else ag o j⟩)])))))) (aa.af [(0 : Int) ≤ (↑i : Int) ∧ (↑i : Int).toNat < nl A] (aa.fork (decide (IntKind.u64.wrap (↑(aq A (↑i : Int).toNat) : Int) < (↑c : Int))) (aa.af [(0 : Int) ≤ (↑i : Int) ∧ (↑i : Int).toNat < nl A, (↑i : Int).toNat + 0 < nl A] (aa.leaf ah.normal ([mag A, mag B, own 12288 1 0 (nl A), int IntKind.u64 (1 : Int), int IntKind.i64 (IntKind.i64.wrap ((↑i : Int) + (1 : Int)))], [((12288 : Nat), ⟨true, true, 1, nl A, fun (j : Nat) ↦ if (j == (↑i : Int).toNat + 0) = true then int IntKind.u32 (IntKind.u32.wrap (IntKind.u64.wrap (IntKind.u64.wrap (IntKind.u64.wrap (↑(aq A (↑i : Int).toNat) : Int) + (4294967296 : Int)) - (↑c : Int)))) else ag o j⟩)]))) (aa.af [(0 : Int) ≤ (↑i : Int) ∧ (↑i : Int).toNat < nl A, (↑i : Int).toNat + 0 < nl A] (aa.leaf ah.normal ([mag A, mag B, own 12288 1 0 (nl A), int IntKind.u64 (0 : Int), int IntKind.i64 (IntKind.i64.wrap ((↑i : Int) + (1 : Int)))], [((12288 : Nat), ⟨true, true, 1, nl A, fun (j : Nat) ↦ if (j == (↑i : Int).toNat + 0) = true then int IntKind.u32 (IntKind.u32.wrap (IntKind.u64.wrap (IntKind.u64.wrap (↑(aq A (↑i : Int).toNat) : Int) - (↑c : Int)))) else ag o j⟩)])))))) (aa.leaf (ah.exit 0) ([mag A, mag B, own 12288 1 0 (nl A), int IntKind.u64 (↑c : Int), int IntKind.i64 (↑i : Int)], [((12288 : Nat), ⟨true, true, 1, nl A, ag o⟩)]))) := by kernel_rfl
theorem Ru {A B c i : Nat} {o : Nat → Nat} : ct T dx [] 60 m0 (behind (au m0) [1,1,1,0,1]) ⟨aB kY (rD A B c i 12288), cw 12288 (nl A) o, 12289⟩ =
  some (aa.af [cO (nl A) fun (i : Nat) ↦ ag o (i + 0), nl A < 2 ^ 40] (aa.leaf ah.ret [mag (val (nl A) fun (i : Nat) ↦ numOf (ag o (i + 0)))])) := by kernel_rfl
abbrev iA : List Nat := [0, 1, 5, 6]
abbrev qQ (A B i K : Nat) : List AV := [.mag A, .mag B, .own K 1 0 (nl A + nl B), .int .i64 i]
abbrev nT : List Nat := [0, 1, 5, 6, 7, 8]
abbrev wk (A B i c j K : Nat) : List AV := [.mag A, .mag B, .own K 1 0 (nl A + nl B), .int .i64 i, .int .u64 c, .int .i64 j]
noncomputable abbrev lR : Code := part (au iL) [1,1,0,1,0,0]
noncomputable abbrev pB : Code := part lR [1,0,0]
theorem YR {A B : Nat} : aI T dx [] 60 iA (before (au iL) [1,1,0,1]) ⟨aK 0 [.mag A, .mag B], [], 0⟩ =
  some (aa.af [(0 : Int) ≤ IntKind.i64.wrap ((↑(nl A) : Int) + (↑(nl B) : Int)) ∧ IntKind.i64.wrap ((↑(nl A) : Int) + (↑(nl B) : Int)) ≤ IntKind.i64.wrap ((↑(nl A) : Int) + (↑(nl B) : Int)) ∧ IntKind.i64.wrap ((↑(nl A) : Int) + (↑(nl B) : Int)) ≤ (2 : Int) ^ 47 ∧ IntKind.i64.wrap ((↑(nl A) : Int) + (↑(nl B) : Int)) * (↑(4 : Nat) : Int) ≤ (2 : Int) ^ 47] (aa.leaf ah.normal ([mag A, mag B, own 24576 1 0 (IntKind.i64.wrap ((↑(nl A) : Int) + (↑(nl B) : Int))).toNat, int IntKind.i64 (0 : Int)], [((24576 : Nat), ⟨true, true, 1, (IntKind.i64.wrap ((↑(nl A) : Int) + (↑(nl B) : Int))).toNat, fun (x : Nat) ↦ int IntKind.u32 (0 : Int)⟩)]))) := by kernel_rfl
theorem Vn {A B i : Nat} {o : Nat → Nat} : aI T dx [18] 60 iA [part lR [0]] ⟨aB iA (qQ A B i 24576), cw 24576 (nl A + nl B) o, 24577⟩ =
  some (aa.fork (decide ((↑i : Int) < (↑(nl A) : Int))) (aa.leaf ah.normal ([mag A, mag B, own 24576 1 0 (nl A + nl B), int IntKind.i64 (↑i : Int)], [((24576 : Nat), ⟨true, true, 1, nl A + nl B, ag o⟩)])) (aa.leaf (ah.exit 0) ([mag A, mag B, own 24576 1 0 (nl A + nl B), int IntKind.i64 (↑i : Int)], [((24576 : Nat), ⟨true, true, 1, nl A + nl B, ag o⟩)]))) := by kernel_rfl
theorem PG {A B i : Nat} {o : Nat → Nat} : aI T dx [] 60 nT (before pB [1,0,1]) ⟨aB iA (qQ A B i 24576), cw 24576 (nl A + nl B) o, 24577⟩ =
  some (aa.leaf ah.normal ([mag A, mag B, own 24576 1 0 (nl A + nl B), int IntKind.i64 (↑i : Int), int IntKind.u64 (0 : Int), int IntKind.i64 (0 : Int)], [((24576 : Nat), ⟨true, true, 1, nl A + nl B, ag o⟩)])) := by kernel_rfl
theorem QJ {A B i c j : Nat} {o : Nat → Nat} : aI T dx [24] 60 nT [part pB [1,0,1,0,0]] ⟨aB nT (wk A B i c j 24576), cw 24576 (nl A + nl B) o, 24577⟩ =
  some (aa.fork (decide ((↑j : Int) < (↑(nl B) : Int))) (aa.af [(0 : Int) ≤ (↑i : Int) ∧ (↑i : Int).toNat < nl A, (0 : Int) ≤ (↑j : Int) ∧ (↑j : Int).toNat < nl B, (0 : Int) ≤ IntKind.i64.wrap ((↑i : Int) + (↑j : Int)) ∧ (IntKind.i64.wrap ((↑i : Int) + (↑j : Int))).toNat < nl A + nl B, (IntKind.i64.wrap ((↑i : Int) + (↑j : Int))).toNat + 0 < nl A + nl B] (aa.af [(0 : Int) ≤ IntKind.i64.wrap ((↑i : Int) + (↑j : Int)) ∧ (IntKind.i64.wrap ((↑i : Int) + (↑j : Int))).toNat < nl A + nl B, (IntKind.i64.wrap ((↑i : Int) + (↑j : Int))).toNat + 0 < nl A + nl B] (aa.af [(0 : Int) ≤ (32 : Int)] (aa.leaf ah.normal ([mag A, mag B, own 24576 1 0 (nl A + nl B), int IntKind.i64 (↑i : Int), int IntKind.u64 ((IntKind.u64.wrap ((↑c : Int) + IntKind.u64.wrap (IntKind.u64.wrap (IntKind.u64.wrap (↑(aq A (↑i : Int).toNat) : Int) * IntKind.u64.wrap (↑(aq B (↑j : Int).toNat) : Int)) + IntKind.u64.wrap (↑(o ((IntKind.i64.wrap ((↑i : Int) + (↑j : Int))).toNat + 0)) : Int)))).fdiv ((2 : Int) ^ min (Int.toNat (32 : Int)) IntKind.u64.bits)), int IntKind.i64 (IntKind.i64.wrap ((↑j : Int) + (1 : Int)))], [((24576 : Nat), ⟨true, true, 1, nl A + nl B, fun (j_1 : Nat) ↦ if (j_1 == (IntKind.i64.wrap ((↑i : Int) + (↑j : Int))).toNat + 0) = true then int IntKind.u32 (IntKind.u32.wrap (IntKind.u64.wrap ((↑c : Int) + IntKind.u64.wrap (IntKind.u64.wrap (IntKind.u64.wrap (↑(aq A (↑i : Int).toNat) : Int) * IntKind.u64.wrap (↑(aq B (↑j : Int).toNat) : Int)) + IntKind.u64.wrap (↑(o ((IntKind.i64.wrap ((↑i : Int) + (↑j : Int))).toNat + 0)) : Int))))) else ag o j_1⟩)]))))) (aa.leaf (ah.exit 2) ([mag A, mag B, own 24576 1 0 (nl A + nl B), int IntKind.i64 (↑i : Int), int IntKind.u64 (↑c : Int), int IntKind.i64 (↑j : Int)], [((24576 : Nat), ⟨true, true, 1, nl A + nl B, ag o⟩)]))) := by kernel_rfl
theorem Xo {A B i c j : Nat} {o : Nat → Nat} : aI T dx [] 60 iA (behind pB [1,0,1]) ⟨aB nT (wk A B i c j 24576), cw 24576 (nl A + nl B) o, 24577⟩ =
  some (aa.af [(0 : Int) ≤ IntKind.i64.wrap ((↑i : Int) + (↑(nl B) : Int)) ∧ (IntKind.i64.wrap ((↑i : Int) + (↑(nl B) : Int))).toNat < nl A + nl B, (IntKind.i64.wrap ((↑i : Int) + (↑(nl B) : Int))).toNat + 0 < nl A + nl B] (aa.leaf ah.normal ([mag A, mag B, own 24576 1 0 (nl A + nl B), int IntKind.i64 (↑i : Int)], [((24576 : Nat), ⟨true, true, 1, nl A + nl B, fun (j : Nat) ↦ if (j == (IntKind.i64.wrap ((↑i : Int) + (↑(nl B) : Int))).toNat + 0) = true then int IntKind.u32 (IntKind.u32.wrap (↑c : Int)) else ag o j⟩)]))) := by kernel_rfl
theorem Kz {A B i : Nat} {o : Nat → Nat} : aI T dx [] 60 iA [part lR [1,1]] ⟨aB iA (qQ A B i 24576), cw 24576 (nl A + nl B) o, 24577⟩ =
  some (aa.leaf ah.normal ([mag A, mag B, own 24576 1 0 (nl A + nl B), int IntKind.i64 (IntKind.i64.wrap ((↑i : Int) + (1 : Int)))], [((24576 : Nat), ⟨true, true, 1, nl A + nl B, ag o⟩)])) := by kernel_rfl
theorem O5 {A B i : Nat} {o : Nat → Nat} : ct T dx [] 60 iL (behind (au iL) [1,1,0,1]) ⟨aB iA (qQ A B i 24576), cw 24576 (nl A + nl B) o, 24577⟩ =
  some (aa.af [cO (nl A + nl B) fun (i : Nat) ↦ ag o (i + 0), nl A + nl B < 2 ^ 40] (aa.leaf ah.ret [mag (val (nl A + nl B) fun (i : Nat) ↦ numOf (ag o (i + 0)))])) := by kernel_rfl
abbrev nX : List Nat := [0, 1, 6, 7, 8]
abbrev Br (A b r k K : Nat) : List AV := [.mag A, .int .u32 b, .own K 1 0 (nl A), .int .u64 r, .int .i64 ((k : Int) - 1)]
noncomputable abbrev HZ : Code := part (au oa) [1,1,1,0,1,0,0]
theorem Ku {A b : Nat} : aI T dx [] 60 nX (before (au oa) [1,1,1,0,1]) ⟨aK 0 [.mag A, .int .u32 b], [], 0⟩ =
  some (aa.af [(0 : Int) ≤ (↑(nl A) : Int) ∧ (↑(nl A) : Int) ≤ (↑(nl A) : Int) ∧ (↑(nl A) : Int) ≤ (2 : Int) ^ 47 ∧ (↑(nl A) : Int) * (↑(4 : Nat) : Int) ≤ (2 : Int) ^ 47] (aa.leaf ah.normal ([mag A, int IntKind.u32 (↑b : Int), own 16384 1 0 (↑(nl A) : Int).toNat, int IntKind.u64 (0 : Int), int IntKind.i64 (IntKind.i64.wrap ((↑(nl A) : Int) - (1 : Int)))], [((16384 : Nat), ⟨true, true, 1, (↑(nl A) : Int).toNat, fun (x : Nat) ↦ int IntKind.u32 (0 : Int)⟩)]))) := by kernel_rfl
theorem PB {A b r k : Nat} {o : Nat → Nat} : aI T dx [16] 60 nX [HZ] ⟨aB nX (Br A b r k 16384), cw 16384 (nl A) o, 16385⟩ =
  some (aa.fork (decide ((↑k : Int) - (1 : Int) ≥ (0 : Int))) (aa.af [(0 : Int) ≤ (32 : Int), (0 : Int) ≤ (↑k : Int) - (1 : Int) ∧ ((↑k : Int) - (1 : Int)).toNat < nl A] (aa.af [IntKind.u64.wrap (↑b : Int) ≠ (0 : Int), (0 : Int) ≤ (↑k : Int) - (1 : Int) ∧ ((↑k : Int) - (1 : Int)).toNat < nl A, ((↑k : Int) - (1 : Int)).toNat + 0 < nl A] (aa.af [IntKind.u64.wrap (↑b : Int) ≠ (0 : Int)] (aa.leaf ah.normal ([mag A, int IntKind.u32 (↑b : Int), own 16384 1 0 (nl A), int IntKind.u64 ((IntKind.u64.wrap (↑(BitVec.ofInt IntKind.u64.bits (IntKind.u64.wrap ((↑r : Int) * (2 : Int) ^ min (Int.toNat (32 : Int)) IntKind.u64.bits)) ||| BitVec.ofInt IntKind.u64.bits (IntKind.u64.wrap (↑(aq A ((↑k : Int) - (1 : Int)).toNat) : Int))).toNat : Int)).tmod (IntKind.u64.wrap (↑b : Int))), int IntKind.i64 (IntKind.i64.wrap ((↑k : Int) - (1 : Int) - (1 : Int)))], [((16384 : Nat), ⟨true, true, 1, nl A, fun (j : Nat) ↦ if (j == ((↑k : Int) - (1 : Int)).toNat + 0) = true then int IntKind.u32 (IntKind.u32.wrap (IntKind.u64.wrap ((IntKind.u64.wrap (↑(BitVec.ofInt IntKind.u64.bits (IntKind.u64.wrap ((↑r : Int) * (2 : Int) ^ min (Int.toNat (32 : Int)) IntKind.u64.bits)) ||| BitVec.ofInt IntKind.u64.bits (IntKind.u64.wrap (↑(aq A ((↑k : Int) - (1 : Int)).toNat) : Int))).toNat : Int)).tdiv (IntKind.u64.wrap (↑b : Int))))) else ag o j⟩)]))))) (aa.leaf (ah.exit 0) ([mag A, int IntKind.u32 (↑b : Int), own 16384 1 0 (nl A), int IntKind.u64 (↑r : Int), int IntKind.i64 ((↑k : Int) - (1 : Int))], [((16384 : Nat), ⟨true, true, 1, nl A, ag o⟩)]))) := by kernel_rfl
theorem Tc {A b r k : Nat} {o : Nat → Nat} : ct T dx [] 60 oa (behind (au oa) [1,1,1,0,1]) ⟨aB nX (Br A b r k 16384), cw 16384 (nl A) o, 16385⟩ =
  some (aa.af [cO (nl A) fun (i : Nat) ↦ ag o (i + 0), nl A < 2 ^ 40] (aa.leaf ah.ret [mag (val (nl A) fun (i : Nat) ↦ numOf (ag o (i + 0))), int IntKind.u32 (IntKind.u32.wrap (↑r : Int))])) := by kernel_rfl
def C9 : aO := [(lK, tg), (uh, jT (fun A B => .mag (A - B)) fun A B => [B ≤ A, nl A < 2 ^ 40])]
theorem XO {A B : Nat} : bq T C9 [9] 60 sY (au sY) ⟨aK 0 [.mag A, .mag B], [], 0⟩ =
  some (aa.af [nl A < 2 ^ 40, nl B < 2 ^ 40] (aa.fork (decide (bS A B < (0 : Int))) (aa.leaf ah.ret [nil, int IntKind.i64 (7 : Int)]) (aa.af [B ≤ A, nl A < 2 ^ 40] (aa.leaf ah.ret [mag (A - B), int IntKind.i64 (0 : Int)])))) := by kernel_rfl
theorem fm {K n nx : Nat} {o : Nat → Nat} (h : K < nx) : fz nx (cw K n o) := ⟨⟨h, fun _ _ => rfl⟩, trivial⟩
theorem Lv {vo va vb ai x c b' un u' B : Nat} (hx : x = c + b') (hu : un + x = ai + 4294967296 * u') (h : va + c * B = vo + vb) : va + ai * B + u' * (4294967296 * B) = vo + un * B + (vb + b' * B) := by
 have e : (un + x) * B = (ai + 4294967296 * u') * B := by rw [hu]
 subst hx
 grind
theorem EP {A B : Nat} (hAB : B ≤ A) (hA : nl A < 2 ^ 40) (K : Nat) : ay P uh K [.mag A, .mag B] [] (aF (.mag (A - B)) []) := by
 have hB : nl B ≤ nl A := fA hAB
 refine fX hT LL rfl (of_decide_eq_true (by kernel_rfl)) rfl (fun _ c0 h0 => ?_) K []
 refine ak.hole [1,1,1,0,1] (by kernel_rfl) (az.bk hT dD hm 60 kY Wa (by kernel_rfl) ?_)
 simp only [aa.all, ax, Int.toNat_natCast]
 refine ⟨by omega, fun s' hv => bM ?_⟩
 refine ak.fu (i := 0) (y := DX) (by kernel_rfl) kY 12289 (h0 _) (fun p : Nat × Nat × (Nat → Nat) => rD A B p.2.1 p.1 12288) (fun p => cw 12288 (nl A) p.2.2) (fun _ => rfl) (fun _ => fm (by omega))
  (fun p => p.1 ≤ nl A ∧ p.2.1 ≤ 1 ∧ (∀ j, j < nl A → p.2.2 j < 2 ^ 32) ∧ val p.1 (aq A) + p.2.1 * 2 ^ (32 * p.1) = val p.1 p.2.2 + val p.1 (aq B))
  (fun p => nl A - p.1) (0, 0, fun _ => 0) hv ⟨by simp, by simp, fun _ _ => by simp, by simp [val]⟩ ?_
 rintro ⟨i, c, o⟩ ⟨hi, hc, ho, hval⟩
 simp only at hi hc ho hval
 refine ak.bk hT dD hm 60 kY Nt (by kernel_rfl) ?_
 have la := cK (N := A) (i := i)
 have lb := cK (N := B) (i := i)
 have wa : IntKind.u64.wrap (aq A i : Int) = ((aq A i : Nat) : Int) := bE (by omega) (by omega)
 have wb : IntKind.u64.wrap (aq B i : Int) = ((aq B i : Nat) : Int) := bE (by omega) (by omega)
 have w1 : IntKind.u64.wrap ((c : Int) + ((aq B i : Nat) : Int)) = ((c + aq B i : Nat) : Int) := by rw [bE (by omega) (by omega)]; omega
 have w2 : IntKind.u64.wrap (((aq A i : Nat) : Int) + 4294967296) = ((aq A i + 4294967296 : Nat) : Int) := by rw [bE (by omega) (by omega)]; omega
 have w3 : IntKind.i64.wrap ((i : Int) + 1) = ((i + 1 : Nat) : Int) := by rw [wrap_i64 (by omega) (by omega)]; omega
 simp only [aa.all, ax, decide_eq_true_eq, decide_eq_false_iff_not, Int.toNat_natCast, Nat.add_zero, beq_iff_eq]
 rw [wa, wb, w1, w2, w3]
 -- what is put down
 have next : ∀ {s' : aE} {x u' : Nat} {v : Int}, i < nl A → x = c + aq B i → u' ≤ 1 → x ≤ aq A i + 4294967296 * u' → aq A i + 4294967296 * u' < x + 4294967296 → v = ((aq A i + 4294967296 * u' - x : Nat) : Int) →
   aT kY s' = some (rD A B u' (i + 1) 12288, [(12288, ⟨true, true, 1, nl A, fun j => if j = i then .int .u32 (IntKind.u32.wrap (IntKind.u64.wrap v)) else ag o j⟩)]) →
   ∃ k : Nat × Nat × (Nat → Nat), aT kY s' = some (rD A B k.2.1 k.1 12288, cw 12288 (nl A) k.2.2) ∧ (k.1 ≤ nl A ∧ k.2.1 ≤ 1 ∧ (∀ j, j < nl A → k.2.2 j < 2 ^ 32) ∧ val k.1 (aq A) + k.2.1 * 2 ^ (32 * k.1) = val k.1 k.2.2 + val k.1 (aq B)) ∧ nl A - k.1 < nl A - i := by
  intro s' x u' v hin hx hu1 h1 h2 hv1 hv
  refine ⟨(i + 1, u', bK o i (aq A i + 4294967296 * u' - x)), cL hv rfl ?_, ⟨by simp only; omega, hu1, fI (by omega) ho, ?_⟩, by simp only; omega⟩
  ·simp only [cw]
   congr 3
   funext k
   exact ff (by rw [hv1, bE (by omega) (by omega), wrap_u32 (by omega) (by omega)]) k
  ·simp only
   rw [mT, val, val, fE]
   exact Lv (b' := aq B i) (x := x) hx (by omega) hval
 refine ⟨fun hb => ⟨fun hb2 => ⟨by omega, by omega, fun h3 => ⟨⟨by omega, by omega⟩, fun s' hv => ?_⟩, fun h3 => ⟨⟨by omega, by omega⟩, fun s' hv => ?_⟩⟩, fun hb2 => ⟨by omega, fun h3 => ⟨⟨by omega, by omega⟩, fun s' hv => ?_⟩, fun h3 => ⟨⟨by omega, by omega⟩, fun s' hv => ?_⟩⟩⟩, fun hb s' hv => dX (bM ?_)⟩
 ·exact next (u' := 1) (by omega) rfl (by omega) (by omega) (by omega) (by omega) hv
 ·exact next (u' := 0) (by omega) rfl (by omega) (by omega) (by omega) (by omega) hv
 ·exact next (u' := 1) (x := c) (by omega) (by rw [gq (A := B) (by omega)]; rfl) (by omega) (by omega) (by omega) (by omega) hv
 ·exact next (u' := 0) (x := c) (by omega) (by rw [gq (A := B) (by omega)]; rfl) (by omega) (by omega) (by omega) (by omega) hv
 ·have hin : i = nl A := by omega
  refine az.gZ hT dD hm 60 hv (h0 _) rfl (fm (by omega)) Ru (by kernel_rfl) (by kernel_rfl) ?_
  simp only [aa.all, ax, Nat.add_zero, gE]
  refine ⟨⟨eM ho, hA⟩, de (congrArg AV.mag ?_)⟩
  rw [hin, eI, lV (cD.1 hB)] at hval
  have hlt := eA ho
  have : c = 0 := by
   rcases Nat.eq_zero_or_pos c with h | h
   ·exact h
   ·exfalso
    have h1 : 1 * 2 ^ (32 * nl A) ≤ c * 2 ^ (32 * nl A) := Nat.mul_le_mul_right _ h
    omega
  rw [this] at hval
  omega
theorem Uy : aW P C9 := aD xu (aD (lP fun h => EP h.1 h.2) bg)
theorem Ue {A B : Nat} (hA : nl A < 2 ^ 40) (hB : nl B < 2 ^ 40) (K : Nat) : ay P qV K [.mag A, .mag B] [] (aF (.tuple [.mag (A - B), .int .i64 (if A < B then 7 else 0)]) []) := by
 refine bt hT Uy hm Yu rfl (of_decide_eq_true (by kernel_rfl)) rfl 60 XO (fun _ => ?_) K []
 simp only [aa.all, ax, decide_eq_true_eq, decide_eq_false_iff_not, xp]
 refine ⟨⟨hA, hB⟩, fun h => ⟨?_, bB (by rw [if_pos h]), trivial⟩, fun h => ⟨⟨by omega, hA⟩, .refl _, bB (by rw [if_neg h]), trivial⟩⟩
 rw [Nat.sub_eq_zero_of_le (by omega)]; exact iu
def Ij : Spec := jT (fun A B => .tuple [.mag (A - B), .int .i64 (if A < B then 7 else 0)]) BE
theorem aaT : ∀ K args pre r, Ij K args pre = some r → ay P qV K args pre r := lP fun h => Ue h.1 h.2
theorem Ul {A B : Nat} (hA : nl A < 2 ^ 39) (hB : nl B < 2 ^ 39) (K : Nat) : ay P oJ K [.mag A, .mag B] [] (aF (.mag (A * B)) []) := by
 refine fX hT Mu rfl (of_decide_eq_true (by kernel_rfl)) rfl (fun _ c0 h0 => ?_) K []
 refine ak.hole [1,1,0,1] (by kernel_rfl) (az.bk hT dD hm 60 iA YR (by kernel_rfl) ?_)
 have hw : IntKind.i64.wrap ((nl A : Int) + (nl B : Int)) = ((nl A + nl B : Nat) : Int) := dr (by omega) (by omega)
 rw [hw]
 simp only [aa.all, ax, Int.toNat_natCast]
 refine ⟨by omega, fun s' hv => bM ?_⟩
 refine ak.fu (i := 0) (y := lR) (by kernel_rfl) iA 24577 (h0 _) (fun p : Nat × (Nat → Nat) => qQ A B p.1 24576) (fun p => cw 24576 (nl A + nl B) p.2) (fun _ => rfl) (fun _ => fm (by omega))
  (fun p => p.1 ≤ nl A ∧ (∀ j, j < nl A + nl B → p.2 j < 2 ^ 32) ∧ (∀ j, p.1 + nl B ≤ j → p.2 j = 0) ∧ val (nl A + nl B) p.2 = val p.1 (aq A) * B)
  (fun p => nl A - p.1) (0, fun _ => 0) hv ⟨by simp, fun _ _ => by simp, fun _ _ => rfl, ?_⟩ ?_
 ·simp only
  rw [val_zero fun _ _ => rfl]
  simp [val]
 rintro ⟨i, o⟩ ⟨hi, ho, ho0, hval⟩
 simp only at hi ho ho0 hval
 refine ak.hole [0] (by kernel_rfl) (show ak P c0 iL.ntmps (part lR [0]) _ _ from ak.bk hT dD hm 60 iA Vn (by kernel_rfl) ?_)
 simp only [aa.all, decide_eq_true_eq, decide_eq_false_iff_not]
 refine ⟨fun h1 s' hv => bM ?_, fun h1 s' hv => nq (dX (bM ?_))⟩
 ·have hin : i < nl A := by omega
  have la := cK (N := A) (i := i)
  show az P c0 iL.ntmps [part lR [1]] s' _
  refine ak.hole [0] (by kernel_rfl) ?_
  show ak P c0 iL.ntmps (part lR [1,0]) s' _
  refine ak.lY (i := 1) (y := pB) (by kernel_rfl) (ak.gW hv (h0 24577) rfl (fm (by omega)) ?_)
  refine ak.hole [1,0,1] (by kernel_rfl) (az.bk hT dD hm 60 nT PG (by kernel_rfl) fun s' hv => bM ?_)
  refine ak.fu (i := 2) (y := part pB [1,0,1,0,0]) (by kernel_rfl) nT 24577 (h0 _) (fun p : Nat × Nat × (Nat → Nat) => wk A B i p.2.1 p.1 24576) (fun p => cw 24576 (nl A + nl B) p.2.2) (fun _ => rfl) (fun _ => fm (by omega))
   (fun p => p.1 ≤ nl B ∧ p.2.1 < 2 ^ 32 ∧ (∀ j, j < nl A + nl B → p.2.2 j < 2 ^ 32) ∧ (∀ j, i + nl B ≤ j → p.2.2 j = 0) ∧ val (nl A + nl B) p.2.2 + p.2.1 * 2 ^ (32 * (i + p.1)) = val i (aq A) * B + aq A i * val p.1 (aq B) * 2 ^ (32 * i))
   (fun p => nl B - p.1) (0, 0, o) hv ⟨by simp, by simp, ho, ho0, by simp [val, hval]⟩ ?_
  rintro ⟨j, c, o⟩ ⟨hj, hc, ho, ho0, hval⟩
  simp only at hj hc ho ho0 hval
  refine ak.bk hT dD hm 60 nT QJ (by kernel_rfl) ?_
  have hij : IntKind.i64.wrap ((i : Int) + (j : Int)) = ((i + j : Nat) : Int) := dr (by omega) (by omega)
  have lb := cK (N := B) (i := j)
  simp only [aa.all, ax, decide_eq_true_eq, decide_eq_false_iff_not, hij, Int.toNat_natCast, Nat.add_zero, beq_iff_eq]
  refine ⟨fun h2 => ?_, fun h2 s' hv => dX ?_⟩
  ·have hjm : j < nl B := by omega
   obtain ⟨m1, m2, m3⟩ := DM hc la lb (ho (i + j) (by omega))
   rw [m1]
   refine ⟨⟨by omega, by omega, by omega, by omega⟩, ⟨by omega, by omega⟩, by omega, fun s' hv => ⟨(j + 1, (c + aq A i * aq B j + o (i + j)) / 4294967296, bK o (i + j) ((c + aq A i * aq B j + o (i + j)) % 4294967296)), cL hv ?_ ?_, ⟨by simp only; omega, m3, fI (by omega) ho, fun k hk => ?_, ?_⟩, by simp only; omega⟩⟩
   ·rw [iK, dr (a := (j : Int) + 1) (n := j + 1) (by omega) (by omega)]
    simp only [wk, List.cons.injEq, AV.int.injEq, and_true, true_and]
    omega
   ·simp only [cw]
    congr 3
    funext k
    exact ff (by rw [gz]) k
   ·exact (er (by omega)).trans (ho0 k hk)
   ·simp only
    rw [show 32 * (i + (j + 1)) = 32 * ((i + j) + 1) by omega, fE, val]
    have hset := zF (o := o) (x := (c + aq A i * aq B j + o (i + j)) % 4294967296) (show i + j < nl A + nl B by omega)
    exact GW rfl (Nat.div_add_mod _ _) hset (by rw [← Nat.pow_add]; congr 1; omega) hval
  ·show az P c0 iL.ntmps (behind pB [1,0,1]) s' _
   have hjm : j = nl B := by omega
   have hib : IntKind.i64.wrap ((i : Int) + (nl B : Int)) = ((i + nl B : Nat) : Int) := dr (by omega) (by omega)
   refine az.dO hT dD hm 60 hv (h0 24577) rfl (fm (by omega)) iA Xo (by kernel_rfl) (by kernel_rfl) ?_
   rw [hib]
   simp only [aa.all, ax, Int.toNat_natCast, Nat.add_zero, beq_iff_eq]
   refine ⟨⟨by omega, by omega⟩, fun s' hv => ?_⟩
   have hf : (fun k => if k = i + nl B then AV.int .u32 (IntKind.u32.wrap (c : Int)) else ag o k) = ag (bK o (i + nl B) c) := by
    funext k
    exact ff (wrap_u32 (by omega) (by omega)) k
   rw [hf] at hv
   show az P c0 iL.ntmps [part lR [1,1]] s' _
   refine az.dO hT dD hm 60 hv (h0 24577) rfl (fm (by omega)) iA Kz (by kernel_rfl) (by kernel_rfl) fun s' hv => bM ?_
   refine ⟨(i + 1, bK o (i + nl B) c), cL hv ?_ rfl, ⟨by simp only; omega, fI hc ho, fun k hk => (er (by simp only at hk; omega)).trans (ho0 k (by simp only at hk; omega)), ?_⟩, by simp only; omega⟩
   ·rw [dr (a := (i : Int) + 1) (n := i + 1) (by omega) (by omega)]
   ·simp only
    rw [hjm, eI] at hval
    rw [nK (by omega) (ho0 _ (by omega)), hval, val, Nat.add_mul, Nat.mul_assoc, Nat.mul_assoc, Nat.mul_comm B]
 ·have hin : i = nl A := by omega
  refine az.gZ hT dD hm 60 hv (h0 _) rfl (fm (by omega)) O5 (by kernel_rfl) (by kernel_rfl) ?_
  simp only [aa.all, ax, Nat.add_zero, gE]
  refine ⟨⟨eM ho, by omega⟩, de (congrArg AV.mag ?_)⟩
  rw [hval, hin, eI]
def Bs : Spec := jT (fun A B => .mag (A * B)) fun A B => [nl A < 2 ^ 39, nl B < 2 ^ 39]
theorem DK : ∀ K args pre r, Bs K args pre = some r → ay P oJ K args pre r := lP fun h => Ul h.1 h.2
theorem D6 {v b r A : Nat} (h : v * b + r = A) (hr : r < b) : A / b = v ∧ A % b = r := by
 subst h
 refine ⟨?_, ?_⟩
 ·rw [Nat.mul_comm, Nat.mul_add_div (by omega), Nat.div_eq_of_lt hr, Nat.add_zero]
 ·rw [Nat.mul_comm, Nat.mul_add_mod, Nat.mod_eq_of_lt hr]
theorem Re {A b : Nat} (hA : nl A < 2 ^ 40) (hb0 : 0 < b) (hb32 : b < 2 ^ 32) (K : Nat) : ay P pQ K [.mag A, .int .u32 b] [] (aF (.tuple [.mag (A / b), .int .u32 (A % b : Nat)]) []) := by
 refine fX hT Ub rfl (of_decide_eq_true (by kernel_rfl)) rfl (fun _ c0 h0 => ?_) K []
 refine ak.hole [1,1,1,0,1] (by kernel_rfl) (az.bk hT dD hm 60 nX Ku (by kernel_rfl) ?_)
 simp only [aa.all, ax, Int.toNat_natCast]
 refine ⟨by omega, fun s' hv => bM ?_⟩
 refine ak.fu (i := 0) (y := HZ) (by kernel_rfl) nX 16385 (h0 _) (fun p : Nat × Nat × (Nat → Nat) => Br A b p.2.1 p.1 16384) (fun p => cw 16384 (nl A) p.2.2) (fun _ => rfl) (fun _ => fm (by omega))
  (fun p => p.1 ≤ nl A ∧ p.2.1 < b ∧ (∀ j, j < nl A → p.2.2 j < 2 ^ 32) ∧ (∀ j, j < p.1 → p.2.2 j = 0) ∧ val (nl A) p.2.2 * b + p.2.1 * 2 ^ (32 * p.1) + val p.1 (aq A) = A)
  (fun p => p.1) (nl A, 0, fun _ => 0) (cL hv (by rw [wrap_i64 (by omega) (by omega)]; rfl) rfl) ⟨by simp, hb0, fun j _ => by simp, fun j _ => rfl, ?_⟩ ?_
 ·simp only
  rw [val_zero fun _ _ => rfl, eI]
  simp
 rintro ⟨k, r, o⟩ ⟨hk, hr, ho, ho0, hval⟩
 simp only at hk hr ho ho0 hval
 refine ak.bk hT dD hm 60 nX PB (by kernel_rfl) ?_
 simp only [aa.all, ax, decide_eq_true_eq, decide_eq_false_iff_not, Nat.add_zero, beq_iff_eq]
 have hbw : IntKind.u64.wrap (b : Int) = (b : Int) := bE (by omega) (by omega)
 refine ⟨fun hb => ?_, fun hb s' hv => dX (bM ?_)⟩
 ·obtain ⟨j, rfl⟩ : ∃ j, k = j + 1 := ⟨k - 1, by omega⟩
  have e : (((j + 1 : Nat) : Int) - 1).toNat = j := by omega
  have hzj := cK (N := A) (i := j)
  have hor := oX (a := r) (b := aq A j) (by omega) hzj
  rw [e, hor, hbw]
  have hq1 : (r * 4294967296 + aq A j) / b < 2 ^ 32 := by
   rw [Nat.div_lt_iff_lt_mul hb0]
   have : (r + 1) * 4294967296 ≤ b * 4294967296 := Nat.mul_le_mul_right _ hr
   omega
  have hdm := Nat.div_add_mod (r * 4294967296 + aq A j) b
  refine ⟨⟨by omega, by omega, by omega⟩, ⟨by omega, ⟨by omega, by omega⟩, by omega⟩, by omega, fun s' hv => ⟨(j, (r * 4294967296 + aq A j) % b, bK o j ((r * 4294967296 + aq A j) / b)), cL hv ?_ ?_, ⟨by simp only; omega, Nat.mod_lt _ hb0, fI hq1 ho, fun i hi => ?_, ?_⟩, by simp only; omega⟩⟩
  ·rw [← Int.ofNat_tmod, wrap_i64 (by omega) (by omega), show ((j + 1 : Nat) : Int) - 1 - 1 = (j : Int) - 1 by omega]
  ·simp only [cw]
   congr 3
   funext i
   refine ff ?_ i
   rw [← Int.ofNat_tdiv]
   clear hdm
   generalize (r * 4294967296 + aq A j) / b = q at hq1 ⊢
   rw [bE (by omega) (by omega), wrap_u32 (by omega) (by omega)]
  ·exact (er (by simp only at hi; omega)).trans (ho0 i (by simp only at hi; omega))
  ·simp only
   rw [nK (by omega) (ho0 j (by omega))]
   rw [fE, val] at hval
   exact GX hval hdm.symm
 ·have hk0 : k = 0 := by omega
  have hv2 : val (nl A) o * b + r = A := by rw [hk0] at hval; simpa [val] using hval
  refine az.gZ hT dD hm 60 hv (h0 _) rfl (fm (by omega)) Tc (by kernel_rfl) (by kernel_rfl) ?_
  simp only [aa.all, ax, Nat.add_zero, gE]
  obtain ⟨hdiv, hmod⟩ := D6 hv2 hr
  exact ⟨⟨eM ho, hA⟩, de (congrArg AV.mag hdiv.symm), bB (by rw [hmod, wrap_u32 (by omega) (by omega)]), trivial⟩
def zP : Spec := bA fun l => match l with
 | [a, .int .u32 b] => match gi a with
  | some A => some (aF (.tuple [.mag (A / b.toNat), .int .u32 (A % b.toNat : Nat)]) [nl A < 2 ^ 40, 0 < b, b < 2 ^ 32])
  | none => none
 | _ => none
theorem DQ : ∀ K args pre r, zP K args pre = some r → ay P pQ K args pre r := by
 refine bQ fun K args r hk hs _ => ?_
 split at hs
 ·rename_i a b
  split at hs
  ·rename_i A hA
   simp only [Option.some.injEq] at hs
   subst hs
   intro need
   obtain ⟨h1, h2, h3⟩ : nl A < 2 ^ 40 ∧ 0 < b ∧ b < 2 ^ 32 := need
   obtain ⟨b, rfl⟩ := Int.eq_ofNat_of_zero_le (Int.le_of_lt h2)
   exact fk (Re h1 (by omega) (by omega) K) hk ⟨iY hA, .refl _, trivial⟩ [] trivial
  ·simp at hs
 ·simp at hs
end Go.Am.B
