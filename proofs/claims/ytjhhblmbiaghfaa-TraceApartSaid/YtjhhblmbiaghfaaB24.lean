/- ref01: minus, Sub, Mul, byLimb. -/
import Derived.Test.YtjhhblmbiaghfaaB23
set_option linter.unusedVariables false
namespace Go.Am.B
open Go Go.Am.N AV
theorem S8 : aO P qP l8 (ax l8) := aS KU (by kernel_rfl) (by kernel_rfl) (by kernel_rfl)
theorem Jf : aO P rm rq (ax rq) := aS PE (by kernel_rfl) (by kernel_rfl) (by kernel_rfl)
theorem LL : aO P oA hJ (ax hJ) := aS QL (by kernel_rfl) (by kernel_rfl) (by kernel_rfl)
theorem LX : aO P pH mU (ax mU) := aS Ov (by kernel_rfl) (by kernel_rfl) (by kernel_rfl)
abbrev jC : List Nat := [0, 1, 5, 6, 7]
abbrev qA (A B c i K : Nat) : List AV := [.mag A, .mag B, .own K 1 0 (nl A), .int .u64 c, .int .i64 i]
abbrev b6 (K n : Nat) (o : Nat → Nat) : aA := [(K, ⟨true, true, 1, n, ag o⟩)]
noncomputable abbrev Bp : Code := part (ax l8) [1,1,1,0,1,0,0]
theorem JG {A B : Nat} : aG T cW [] 60 jC (before (ax l8) [1,1,1,0,1]) ⟨aM 0 [.mag A, .mag B], [], 0⟩ =
  some (aa.af [(0 : Int) ≤ (↑(nl A) : Int) ∧ (↑(nl A) : Int) ≤ (↑(nl A) : Int) ∧ (↑(nl A) : Int) ≤ (2 : Int) ^ 47 ∧ (↑(nl A) : Int) * (↑(4 : Nat) : Int) ≤ (2 : Int) ^ 47] (aa.leaf aj.normal ([mag A, mag B, own 12288 1 0 (↑(nl A) : Int).toNat, int IntKind.u64 (0 : Int), int IntKind.i64 (0 : Int)], [((12288 : Nat), ⟨true, true, 1, (↑(nl A) : Int).toNat, fun (x : Nat) ↦ int IntKind.u32 (0 : Int)⟩)]))) := by kernel_rfl
theorem I7 {A B c i : Nat} {o : Nat → Nat} : aG T cW [16, 23, 38] 60 jC [Bp] ⟨aB jC (qA A B c i 12288), b6 12288 (nl A) o, 12289⟩ =
  some (aa.fork (decide ((↑i : Int) < (↑(nl A) : Int))) (aa.fork (decide ((↑i : Int) < (↑(nl B) : Int))) (aa.af [(0 : Int) ≤ (↑i : Int) ∧ (↑i : Int).toNat < nl B] (aa.af [(0 : Int) ≤ (↑i : Int) ∧ (↑i : Int).toNat < nl A] (aa.fork (decide (IntKind.u64.wrap (↑(au A (↑i : Int).toNat) : Int) < IntKind.u64.wrap ((↑c : Int) + IntKind.u64.wrap (↑(au B (↑i : Int).toNat) : Int)))) (aa.af [(0 : Int) ≤ (↑i : Int) ∧ (↑i : Int).toNat < nl A, (↑i : Int).toNat + 0 < nl A] (aa.leaf aj.normal ([mag A, mag B, own 12288 1 0 (nl A), int IntKind.u64 (1 : Int), int IntKind.i64 (IntKind.i64.wrap ((↑i : Int) + (1 : Int)))], [((12288 : Nat), ⟨true, true, 1, nl A, fun (j : Nat) ↦ if (j == (↑i : Int).toNat + 0) = true then int IntKind.u32 (IntKind.u32.wrap (IntKind.u64.wrap (IntKind.u64.wrap (IntKind.u64.wrap (↑(au A (↑i : Int).toNat) : Int) + (4294967296 : Int)) - IntKind.u64.wrap ((↑c : Int) + IntKind.u64.wrap (↑(au B (↑i : Int).toNat) : Int))))) else ag o j⟩)]))) (aa.af [(0 : Int) ≤ (↑i : Int) ∧ (↑i : Int).toNat < nl A, (↑i : Int).toNat + 0 < nl A] (aa.leaf aj.normal ([mag A, mag B, own 12288 1 0 (nl A), int IntKind.u64 (0 : Int), int IntKind.i64 (IntKind.i64.wrap ((↑i : Int) + (1 : Int)))], [((12288 : Nat), ⟨true, true, 1, nl A, fun (j : Nat) ↦ if (j == (↑i : Int).toNat + 0) = true then int IntKind.u32 (IntKind.u32.wrap (IntKind.u64.wrap (IntKind.u64.wrap (↑(au A (↑i : Int).toNat) : Int) - IntKind.u64.wrap ((↑c : Int) + IntKind.u64.wrap (↑(au B (↑i : Int).toNat) : Int))))) else ag o j⟩)])))))) (aa.af [(0 : Int) ≤ (↑i : Int) ∧ (↑i : Int).toNat < nl A] (aa.fork (decide (IntKind.u64.wrap (↑(au A (↑i : Int).toNat) : Int) < (↑c : Int))) (aa.af [(0 : Int) ≤ (↑i : Int) ∧ (↑i : Int).toNat < nl A, (↑i : Int).toNat + 0 < nl A] (aa.leaf aj.normal ([mag A, mag B, own 12288 1 0 (nl A), int IntKind.u64 (1 : Int), int IntKind.i64 (IntKind.i64.wrap ((↑i : Int) + (1 : Int)))], [((12288 : Nat), ⟨true, true, 1, nl A, fun (j : Nat) ↦ if (j == (↑i : Int).toNat + 0) = true then int IntKind.u32 (IntKind.u32.wrap (IntKind.u64.wrap (IntKind.u64.wrap (IntKind.u64.wrap (↑(au A (↑i : Int).toNat) : Int) + (4294967296 : Int)) - (↑c : Int)))) else ag o j⟩)]))) (aa.af [(0 : Int) ≤ (↑i : Int) ∧ (↑i : Int).toNat < nl A, (↑i : Int).toNat + 0 < nl A] (aa.leaf aj.normal ([mag A, mag B, own 12288 1 0 (nl A), int IntKind.u64 (0 : Int), int IntKind.i64 (IntKind.i64.wrap ((↑i : Int) + (1 : Int)))], [((12288 : Nat), ⟨true, true, 1, nl A, fun (j : Nat) ↦ if (j == (↑i : Int).toNat + 0) = true then int IntKind.u32 (IntKind.u32.wrap (IntKind.u64.wrap (IntKind.u64.wrap (↑(au A (↑i : Int).toNat) : Int) - (↑c : Int)))) else ag o j⟩)])))))) (aa.leaf (aj.exit 0) ([mag A, mag B, own 12288 1 0 (nl A), int IntKind.u64 (↑c : Int), int IntKind.i64 (↑i : Int)], [((12288 : Nat), ⟨true, true, 1, nl A, ag o⟩)]))) := by kernel_rfl
theorem LB {A B c i : Nat} {o : Nat → Nat} : cJ T cW [] 60 l8 (behind (ax l8) [1,1,1,0,1]) ⟨aB jC (qA A B c i 12288), b6 12288 (nl A) o, 12289⟩ =
  some (aa.af [cD (nl A) fun (i : Nat) ↦ ag o (i + 0), nl A < 2 ^ 40] (aa.leaf aj.ret [mag (val (nl A) fun (i : Nat) ↦ numOf (ag o (i + 0)))])) := by kernel_rfl
abbrev gG : List Nat := [0, 1, 5, 6]
abbrev r5 (A B i K : Nat) : List AV := [.mag A, .mag B, .own K 1 0 (nl A + nl B), .int .i64 i]
abbrev mY : List Nat := [0, 1, 5, 6, 7, 8]
abbrev tQ (A B i c j K : Nat) : List AV := [.mag A, .mag B, .own K 1 0 (nl A + nl B), .int .i64 i, .int .u64 c, .int .i64 j]
noncomputable abbrev kY : Code := part (ax hJ) [1,1,0,1,0,0]
noncomputable abbrev nM : Code := part kY [1,0,0]
theorem RY {A B : Nat} : aG T cW [] 60 gG (before (ax hJ) [1,1,0,1]) ⟨aM 0 [.mag A, .mag B], [], 0⟩ =
  some (aa.af [(0 : Int) ≤ IntKind.i64.wrap ((↑(nl A) : Int) + (↑(nl B) : Int)) ∧ IntKind.i64.wrap ((↑(nl A) : Int) + (↑(nl B) : Int)) ≤ IntKind.i64.wrap ((↑(nl A) : Int) + (↑(nl B) : Int)) ∧ IntKind.i64.wrap ((↑(nl A) : Int) + (↑(nl B) : Int)) ≤ (2 : Int) ^ 47 ∧ IntKind.i64.wrap ((↑(nl A) : Int) + (↑(nl B) : Int)) * (↑(4 : Nat) : Int) ≤ (2 : Int) ^ 47] (aa.leaf aj.normal ([mag A, mag B, own 24576 1 0 (IntKind.i64.wrap ((↑(nl A) : Int) + (↑(nl B) : Int))).toNat, int IntKind.i64 (0 : Int)], [((24576 : Nat), ⟨true, true, 1, (IntKind.i64.wrap ((↑(nl A) : Int) + (↑(nl B) : Int))).toNat, fun (x : Nat) ↦ int IntKind.u32 (0 : Int)⟩)]))) := by kernel_rfl
theorem Mo {A B i : Nat} {o : Nat → Nat} : aG T cW [18] 60 gG [part kY [0]] ⟨aB gG (r5 A B i 24576), b6 24576 (nl A + nl B) o, 24577⟩ =
  some (aa.fork (decide ((↑i : Int) < (↑(nl A) : Int))) (aa.leaf aj.normal ([mag A, mag B, own 24576 1 0 (nl A + nl B), int IntKind.i64 (↑i : Int)], [((24576 : Nat), ⟨true, true, 1, nl A + nl B, ag o⟩)])) (aa.leaf (aj.exit 0) ([mag A, mag B, own 24576 1 0 (nl A + nl B), int IntKind.i64 (↑i : Int)], [((24576 : Nat), ⟨true, true, 1, nl A + nl B, ag o⟩)]))) := by kernel_rfl
theorem NA {A B i : Nat} {o : Nat → Nat} : aG T cW [] 60 mY (before nM [1,0,1]) ⟨aB gG (r5 A B i 24576), b6 24576 (nl A + nl B) o, 24577⟩ =
  some (aa.leaf aj.normal ([mag A, mag B, own 24576 1 0 (nl A + nl B), int IntKind.i64 (↑i : Int), int IntKind.u64 (0 : Int), int IntKind.i64 (0 : Int)], [((24576 : Nat), ⟨true, true, 1, nl A + nl B, ag o⟩)])) := by kernel_rfl
theorem Tm {A B i c j : Nat} {o : Nat → Nat} : aG T cW [24] 60 mY [part nM [1,0,1,0,0]] ⟨aB mY (tQ A B i c j 24576), b6 24576 (nl A + nl B) o, 24577⟩ =
  some (aa.fork (decide ((↑j : Int) < (↑(nl B) : Int))) (aa.af [(0 : Int) ≤ (↑i : Int) ∧ (↑i : Int).toNat < nl A, (0 : Int) ≤ (↑j : Int) ∧ (↑j : Int).toNat < nl B, (0 : Int) ≤ IntKind.i64.wrap ((↑i : Int) + (↑j : Int)) ∧ (IntKind.i64.wrap ((↑i : Int) + (↑j : Int))).toNat < nl A + nl B, (IntKind.i64.wrap ((↑i : Int) + (↑j : Int))).toNat + 0 < nl A + nl B] (aa.af [(0 : Int) ≤ IntKind.i64.wrap ((↑i : Int) + (↑j : Int)) ∧ (IntKind.i64.wrap ((↑i : Int) + (↑j : Int))).toNat < nl A + nl B, (IntKind.i64.wrap ((↑i : Int) + (↑j : Int))).toNat + 0 < nl A + nl B] (aa.af [(0 : Int) ≤ (32 : Int)] (aa.leaf aj.normal ([mag A, mag B, own 24576 1 0 (nl A + nl B), int IntKind.i64 (↑i : Int), int IntKind.u64 ((IntKind.u64.wrap ((↑c : Int) + IntKind.u64.wrap (IntKind.u64.wrap (IntKind.u64.wrap (↑(au A (↑i : Int).toNat) : Int) * IntKind.u64.wrap (↑(au B (↑j : Int).toNat) : Int)) + IntKind.u64.wrap (↑(o ((IntKind.i64.wrap ((↑i : Int) + (↑j : Int))).toNat + 0)) : Int)))).fdiv ((2 : Int) ^ min (Int.toNat (32 : Int)) IntKind.u64.bits)), int IntKind.i64 (IntKind.i64.wrap ((↑j : Int) + (1 : Int)))], [((24576 : Nat), ⟨true, true, 1, nl A + nl B, fun (j_1 : Nat) ↦ if (j_1 == (IntKind.i64.wrap ((↑i : Int) + (↑j : Int))).toNat + 0) = true then int IntKind.u32 (IntKind.u32.wrap (IntKind.u64.wrap ((↑c : Int) + IntKind.u64.wrap (IntKind.u64.wrap (IntKind.u64.wrap (↑(au A (↑i : Int).toNat) : Int) * IntKind.u64.wrap (↑(au B (↑j : Int).toNat) : Int)) + IntKind.u64.wrap (↑(o ((IntKind.i64.wrap ((↑i : Int) + (↑j : Int))).toNat + 0)) : Int))))) else ag o j_1⟩)]))))) (aa.leaf (aj.exit 2) ([mag A, mag B, own 24576 1 0 (nl A + nl B), int IntKind.i64 (↑i : Int), int IntKind.u64 (↑c : Int), int IntKind.i64 (↑j : Int)], [((24576 : Nat), ⟨true, true, 1, nl A + nl B, ag o⟩)]))) := by kernel_rfl
theorem FY {A B i c j : Nat} {o : Nat → Nat} : aG T cW [] 60 gG (behind nM [1,0,1]) ⟨aB mY (tQ A B i c j 24576), b6 24576 (nl A + nl B) o, 24577⟩ =
  some (aa.af [(0 : Int) ≤ IntKind.i64.wrap ((↑i : Int) + (↑(nl B) : Int)) ∧ (IntKind.i64.wrap ((↑i : Int) + (↑(nl B) : Int))).toNat < nl A + nl B, (IntKind.i64.wrap ((↑i : Int) + (↑(nl B) : Int))).toNat + 0 < nl A + nl B] (aa.leaf aj.normal ([mag A, mag B, own 24576 1 0 (nl A + nl B), int IntKind.i64 (↑i : Int)], [((24576 : Nat), ⟨true, true, 1, nl A + nl B, fun (j : Nat) ↦ if (j == (IntKind.i64.wrap ((↑i : Int) + (↑(nl B) : Int))).toNat + 0) = true then int IntKind.u32 (IntKind.u32.wrap (↑c : Int)) else ag o j⟩)]))) := by kernel_rfl
theorem FX {A B i : Nat} {o : Nat → Nat} : aG T cW [] 60 gG [part kY [1,1]] ⟨aB gG (r5 A B i 24576), b6 24576 (nl A + nl B) o, 24577⟩ =
  some (aa.leaf aj.normal ([mag A, mag B, own 24576 1 0 (nl A + nl B), int IntKind.i64 (IntKind.i64.wrap ((↑i : Int) + (1 : Int)))], [((24576 : Nat), ⟨true, true, 1, nl A + nl B, ag o⟩)])) := by kernel_rfl
theorem MT {A B i : Nat} {o : Nat → Nat} : cJ T cW [] 60 hJ (behind (ax hJ) [1,1,0,1]) ⟨aB gG (r5 A B i 24576), b6 24576 (nl A + nl B) o, 24577⟩ =
  some (aa.af [cD (nl A + nl B) fun (i : Nat) ↦ ag o (i + 0), nl A + nl B < 2 ^ 40] (aa.leaf aj.ret [mag (val (nl A + nl B) fun (i : Nat) ↦ numOf (ag o (i + 0)))])) := by kernel_rfl
abbrev mL : List Nat := [0, 1, 6, 7, 8]
abbrev xg (A b r k K : Nat) : List AV := [.mag A, .int .u32 b, .own K 1 0 (nl A), .int .u64 r, .int .i64 ((k : Int) - 1)]
noncomputable abbrev DU : Code := part (ax mU) [1,1,1,0,1,0,0]
theorem FM {A b : Nat} : aG T cW [] 60 mL (before (ax mU) [1,1,1,0,1]) ⟨aM 0 [.mag A, .int .u32 b], [], 0⟩ =
  some (aa.af [(0 : Int) ≤ (↑(nl A) : Int) ∧ (↑(nl A) : Int) ≤ (↑(nl A) : Int) ∧ (↑(nl A) : Int) ≤ (2 : Int) ^ 47 ∧ (↑(nl A) : Int) * (↑(4 : Nat) : Int) ≤ (2 : Int) ^ 47] (aa.leaf aj.normal ([mag A, int IntKind.u32 (↑b : Int), own 16384 1 0 (↑(nl A) : Int).toNat, int IntKind.u64 (0 : Int), int IntKind.i64 (IntKind.i64.wrap ((↑(nl A) : Int) - (1 : Int)))], [((16384 : Nat), ⟨true, true, 1, (↑(nl A) : Int).toNat, fun (x : Nat) ↦ int IntKind.u32 (0 : Int)⟩)]))) := by kernel_rfl
theorem Qa {A b r k : Nat} {o : Nat → Nat} : aG T cW [16] 60 mL [DU] ⟨aB mL (xg A b r k 16384), b6 16384 (nl A) o, 16385⟩ =
  some (aa.fork (decide ((↑k : Int) - (1 : Int) ≥ (0 : Int))) (aa.af [(0 : Int) ≤ (32 : Int), (0 : Int) ≤ (↑k : Int) - (1 : Int) ∧ ((↑k : Int) - (1 : Int)).toNat < nl A] (aa.af [IntKind.u64.wrap (↑b : Int) ≠ (0 : Int), (0 : Int) ≤ (↑k : Int) - (1 : Int) ∧ ((↑k : Int) - (1 : Int)).toNat < nl A, ((↑k : Int) - (1 : Int)).toNat + 0 < nl A] (aa.af [IntKind.u64.wrap (↑b : Int) ≠ (0 : Int)] (aa.leaf aj.normal ([mag A, int IntKind.u32 (↑b : Int), own 16384 1 0 (nl A), int IntKind.u64 ((IntKind.u64.wrap (↑(BitVec.ofInt IntKind.u64.bits (IntKind.u64.wrap ((↑r : Int) * (2 : Int) ^ min (Int.toNat (32 : Int)) IntKind.u64.bits)) ||| BitVec.ofInt IntKind.u64.bits (IntKind.u64.wrap (↑(au A ((↑k : Int) - (1 : Int)).toNat) : Int))).toNat : Int)).tmod (IntKind.u64.wrap (↑b : Int))), int IntKind.i64 (IntKind.i64.wrap ((↑k : Int) - (1 : Int) - (1 : Int)))], [((16384 : Nat), ⟨true, true, 1, nl A, fun (j : Nat) ↦ if (j == ((↑k : Int) - (1 : Int)).toNat + 0) = true then int IntKind.u32 (IntKind.u32.wrap (IntKind.u64.wrap ((IntKind.u64.wrap (↑(BitVec.ofInt IntKind.u64.bits (IntKind.u64.wrap ((↑r : Int) * (2 : Int) ^ min (Int.toNat (32 : Int)) IntKind.u64.bits)) ||| BitVec.ofInt IntKind.u64.bits (IntKind.u64.wrap (↑(au A ((↑k : Int) - (1 : Int)).toNat) : Int))).toNat : Int)).tdiv (IntKind.u64.wrap (↑b : Int))))) else ag o j⟩)]))))) (aa.leaf (aj.exit 0) ([mag A, int IntKind.u32 (↑b : Int), own 16384 1 0 (nl A), int IntKind.u64 (↑r : Int), int IntKind.i64 ((↑k : Int) - (1 : Int))], [((16384 : Nat), ⟨true, true, 1, nl A, ag o⟩)]))) := by kernel_rfl
theorem NK {A b r k : Nat} {o : Nat → Nat} : cJ T cW [] 60 mU (behind (ax mU) [1,1,1,0,1]) ⟨aB mL (xg A b r k 16384), b6 16384 (nl A) o, 16385⟩ =
  some (aa.af [cD (nl A) fun (i : Nat) ↦ ag o (i + 0), nl A < 2 ^ 40] (aa.leaf aj.ret [mag (val (nl A) fun (i : Nat) ↦ numOf (ag o (i + 0))), int IntKind.u32 (IntKind.u32.wrap (↑r : Int))])) := by kernel_rfl
def BE : bf := [(kV, qf), (qP, jw (fun A B => .mag (A - B)) fun A B => [B ≤ A, nl A < 2 ^ 40])]
theorem GY {A B : Nat} : bA T BE [9] 60 rq (ax rq) ⟨aM 0 [.mag A, .mag B], [], 0⟩ =
  some (aa.af [nl A < 2 ^ 40, nl B < 2 ^ 40] (aa.fork (decide (bI A B < (0 : Int))) (aa.leaf aj.ret [nil, int IntKind.i64 (7 : Int)]) (aa.af [B ≤ A, nl A < 2 ^ 40] (aa.leaf aj.ret [mag (A - B), int IntKind.i64 (0 : Int)])))) := by kernel_rfl
theorem eH {K n nx : Nat} {o : Nat → Nat} (h : K < nx) : eP nx (b6 K n o) := ⟨⟨h, fun _ _ => rfl⟩, trivial⟩
theorem HQ {vo va vb ai x c b' un u' B : Nat} (hx : x = c + b') (hu : un + x = ai + 4294967296 * u') (h : va + c * B = vo + vb) : va + ai * B + u' * (4294967296 * B) = vo + un * B + (vb + b' * B) := by
 have e : (un + x) * B = (ai + 4294967296 * u') * B := by rw [hu]
 subst hx
 grind
theorem As {A B : Nat} (hAB : B ≤ A) (hA : nl A < 2 ^ 40) (K : Nat) : aC P qP K [.mag A, .mag B] [] (aJ (.mag (A - B)) []) := by
 have hB : nl B ≤ nl A := eR hAB
 refine fX hT S8 rfl (of_decide_eq_true (by kernel_rfl)) rfl (fun _ c0 h0 => ?_) K []
 refine aq.hole [1,1,1,0,1] (by kernel_rfl) (ay.aR hT cX hm 60 jC JG (by kernel_rfl) ?_)
 simp only [aa.all, az, Int.toNat_natCast]
 refine ⟨by omega, fun s' hv => bD ?_⟩
 refine aq.eV (i := 0) (y := Bp) (by kernel_rfl) jC 12289 (h0 _) (fun p : Nat × Nat × (Nat → Nat) => qA A B p.2.1 p.1 12288) (fun p => b6 12288 (nl A) p.2.2) (fun _ => rfl) (fun _ => eH (by omega))
  (fun p => p.1 ≤ nl A ∧ p.2.1 ≤ 1 ∧ (∀ j, j < nl A → p.2.2 j < 2 ^ 32) ∧ val p.1 (au A) + p.2.1 * 2 ^ (32 * p.1) = val p.1 p.2.2 + val p.1 (au B))
  (fun p => nl A - p.1) (0, 0, fun _ => 0) hv ⟨by simp, by simp, fun _ _ => by simp, by simp [val]⟩ ?_
 rintro ⟨i, c, o⟩ ⟨hi, hc, ho, hval⟩
 simp only at hi hc ho hval
 refine aq.aR hT cX hm 60 jC I7 (by kernel_rfl) ?_
 have la := ct (N := A) (i := i)
 have lb := ct (N := B) (i := i)
 have wa : IntKind.u64.wrap (au A i : Int) = ((au A i : Nat) : Int) := bt (by omega) (by omega)
 have wb : IntKind.u64.wrap (au B i : Int) = ((au B i : Nat) : Int) := bt (by omega) (by omega)
 have w1 : IntKind.u64.wrap ((c : Int) + ((au B i : Nat) : Int)) = ((c + au B i : Nat) : Int) := by rw [bt (by omega) (by omega)]; omega
 have w2 : IntKind.u64.wrap (((au A i : Nat) : Int) + 4294967296) = ((au A i + 4294967296 : Nat) : Int) := by rw [bt (by omega) (by omega)]; omega
 have w3 : IntKind.i64.wrap ((i : Int) + 1) = ((i + 1 : Nat) : Int) := by rw [wrap_i64 (by omega) (by omega)]; omega
 simp only [aa.all, az, decide_eq_true_eq, decide_eq_false_iff_not, Int.toNat_natCast, Nat.add_zero, beq_iff_eq]
 rw [wa, wb, w1, w2, w3]
 -- what is put down
 have next : ∀ {s' : aD} {x u' : Nat} {v : Int}, i < nl A → x = c + au B i → u' ≤ 1 → x ≤ au A i + 4294967296 * u' → au A i + 4294967296 * u' < x + 4294967296 → v = ((au A i + 4294967296 * u' - x : Nat) : Int) →
   aN jC s' = some (qA A B u' (i + 1) 12288, [(12288, ⟨true, true, 1, nl A, fun j => if j = i then .int .u32 (IntKind.u32.wrap (IntKind.u64.wrap v)) else ag o j⟩)]) →
   ∃ k : Nat × Nat × (Nat → Nat), aN jC s' = some (qA A B k.2.1 k.1 12288, b6 12288 (nl A) k.2.2) ∧ (k.1 ≤ nl A ∧ k.2.1 ≤ 1 ∧ (∀ j, j < nl A → k.2.2 j < 2 ^ 32) ∧ val k.1 (au A) + k.2.1 * 2 ^ (32 * k.1) = val k.1 k.2.2 + val k.1 (au B)) ∧ nl A - k.1 < nl A - i := by
  intro s' x u' v hin hx hu1 h1 h2 hv1 hv
  refine ⟨(i + 1, u', bB o i (au A i + 4294967296 * u' - x)), cy hv rfl ?_, ⟨by simp only; omega, hu1, fe (by omega) ho, ?_⟩, by simp only; omega⟩
  ·simp only [b6]
   congr 3
   funext k
   exact eG (by rw [hv1, bt (by omega) (by omega), wrap_u32 (by omega) (by omega)]) k
  ·simp only
   rw [mA, val, val, eU]
   exact HQ (b' := au B i) (x := x) hx (by omega) hval
 refine ⟨fun hb => ⟨fun hb2 => ⟨by omega, by omega, fun h3 => ⟨⟨by omega, by omega⟩, fun s' hv => ?_⟩, fun h3 => ⟨⟨by omega, by omega⟩, fun s' hv => ?_⟩⟩, fun hb2 => ⟨by omega, fun h3 => ⟨⟨by omega, by omega⟩, fun s' hv => ?_⟩, fun h3 => ⟨⟨by omega, by omega⟩, fun s' hv => ?_⟩⟩⟩, fun hb s' hv => dz (bD ?_)⟩
 ·exact next (u' := 1) (by omega) rfl (by omega) (by omega) (by omega) (by omega) hv
 ·exact next (u' := 0) (by omega) rfl (by omega) (by omega) (by omega) (by omega) hv
 ·exact next (u' := 1) (x := c) (by omega) (by rw [fU (A := B) (by omega)]; rfl) (by omega) (by omega) (by omega) (by omega) hv
 ·exact next (u' := 0) (x := c) (by omega) (by rw [fU (A := B) (by omega)]; rfl) (by omega) (by omega) (by omega) (by omega) hv
 ·have hin : i = nl A := by omega
  refine ay.gu hT cX hm 60 hv (h0 _) rfl (eH (by omega)) LB (by kernel_rfl) (by kernel_rfl) ?_
  simp only [aa.all, az, Nat.add_zero, gd]
  refine ⟨⟨er ho, hA⟩, cF (congrArg AV.mag ?_)⟩
  rw [hin, ec, kM (cm.1 hB)] at hval
  have hlt := dN ho
  have : c = 0 := by
   rcases Nat.eq_zero_or_pos c with h | h
   ·exact h
   ·exfalso
    have h1 : 1 * 2 ^ (32 * nl A) ≤ c * 2 ^ (32 * nl A) := Nat.mul_le_mul_right _ h
    omega
  rw [this] at hval
  omega
theorem Ue : bC P BE := aK uT (aK (lI fun h => As h.1 h.2) aZ)
theorem Nz {A B : Nat} (hA : nl A < 2 ^ 40) (hB : nl B < 2 ^ 40) (K : Nat) : aC P rm K [.mag A, .mag B] [] (aJ (.tuple [.mag (A - B), .int .i64 (if A < B then 7 else 0)]) []) := by
 refine bE hT Ue hm Jf rfl (of_decide_eq_true (by kernel_rfl)) rfl 60 GY (fun _ => ?_) K []
 simp only [aa.all, az, decide_eq_true_eq, decide_eq_false_iff_not, wN]
 refine ⟨⟨hA, hB⟩, fun h => ⟨?_, bm (by rw [if_pos h]), trivial⟩, fun h => ⟨⟨by omega, hA⟩, .refl _, bm (by rw [if_neg h]), trivial⟩⟩
 rw [Nat.sub_eq_zero_of_le (by omega)]; exact gL
def Cx : Spec := jw (fun A B => .tuple [.mag (A - B), .int .i64 (if A < B then 7 else 0)]) yU
theorem Tq : ∀ K args pre r, Cx K args pre = some r → aC P rm K args pre r := lI fun h => Nz h.1 h.2
theorem R5 {A B : Nat} (hA : nl A < 2 ^ 39) (hB : nl B < 2 ^ 39) (K : Nat) : aC P oA K [.mag A, .mag B] [] (aJ (.mag (A * B)) []) := by
 refine fX hT LL rfl (of_decide_eq_true (by kernel_rfl)) rfl (fun _ c0 h0 => ?_) K []
 refine aq.hole [1,1,0,1] (by kernel_rfl) (ay.aR hT cX hm 60 gG RY (by kernel_rfl) ?_)
 have hw : IntKind.i64.wrap ((nl A : Int) + (nl B : Int)) = ((nl A + nl B : Nat) : Int) := cS (by omega) (by omega)
 rw [hw]
 simp only [aa.all, az, Int.toNat_natCast]
 refine ⟨by omega, fun s' hv => bD ?_⟩
 refine aq.eV (i := 0) (y := kY) (by kernel_rfl) gG 24577 (h0 _) (fun p : Nat × (Nat → Nat) => r5 A B p.1 24576) (fun p => b6 24576 (nl A + nl B) p.2) (fun _ => rfl) (fun _ => eH (by omega))
  (fun p => p.1 ≤ nl A ∧ (∀ j, j < nl A + nl B → p.2 j < 2 ^ 32) ∧ (∀ j, p.1 + nl B ≤ j → p.2 j = 0) ∧ val (nl A + nl B) p.2 = val p.1 (au A) * B)
  (fun p => nl A - p.1) (0, fun _ => 0) hv ⟨by simp, fun _ _ => by simp, fun _ _ => rfl, ?_⟩ ?_
 ·simp only
  rw [val_zero fun _ _ => rfl]
  simp [val]
 rintro ⟨i, o⟩ ⟨hi, ho, ho0, hval⟩
 simp only at hi ho ho0 hval
 refine aq.hole [0] (by kernel_rfl) (show aq P c0 hJ.ntmps (part kY [0]) _ _ from aq.aR hT cX hm 60 gG Mo (by kernel_rfl) ?_)
 simp only [aa.all, decide_eq_true_eq, decide_eq_false_iff_not]
 refine ⟨fun h1 s' hv => bD ?_, fun h1 s' hv => mK (dz (bD ?_))⟩
 ·have hin : i < nl A := by omega
  have la := ct (N := A) (i := i)
  show ay P c0 hJ.ntmps [part kY [1]] s' _
  refine aq.hole [0] (by kernel_rfl) ?_
  show aq P c0 hJ.ntmps (part kY [1,0]) s' _
  refine aq.kn (i := 1) (y := nM) (by kernel_rfl) (aq.gB hv (h0 24577) rfl (eH (by omega)) ?_)
  refine aq.hole [1,0,1] (by kernel_rfl) (ay.aR hT cX hm 60 mY NA (by kernel_rfl) fun s' hv => bD ?_)
  refine aq.eV (i := 2) (y := part nM [1,0,1,0,0]) (by kernel_rfl) mY 24577 (h0 _) (fun p : Nat × Nat × (Nat → Nat) => tQ A B i p.2.1 p.1 24576) (fun p => b6 24576 (nl A + nl B) p.2.2) (fun _ => rfl) (fun _ => eH (by omega))
   (fun p => p.1 ≤ nl B ∧ p.2.1 < 2 ^ 32 ∧ (∀ j, j < nl A + nl B → p.2.2 j < 2 ^ 32) ∧ (∀ j, i + nl B ≤ j → p.2.2 j = 0) ∧ val (nl A + nl B) p.2.2 + p.2.1 * 2 ^ (32 * (i + p.1)) = val i (au A) * B + au A i * val p.1 (au B) * 2 ^ (32 * i))
   (fun p => nl B - p.1) (0, 0, o) hv ⟨by simp, by simp, ho, ho0, by simp [val, hval]⟩ ?_
  rintro ⟨j, c, o⟩ ⟨hj, hc, ho, ho0, hval⟩
  simp only at hj hc ho ho0 hval
  refine aq.aR hT cX hm 60 mY Tm (by kernel_rfl) ?_
  have hij : IntKind.i64.wrap ((i : Int) + (j : Int)) = ((i + j : Nat) : Int) := cS (by omega) (by omega)
  have lb := ct (N := B) (i := j)
  simp only [aa.all, az, decide_eq_true_eq, decide_eq_false_iff_not, hij, Int.toNat_natCast, Nat.add_zero, beq_iff_eq]
  refine ⟨fun h2 => ?_, fun h2 s' hv => dz ?_⟩
  ·have hjm : j < nl B := by omega
   obtain ⟨m1, m2, m3⟩ := C2 hc la lb (ho (i + j) (by omega))
   rw [m1]
   refine ⟨⟨by omega, by omega, by omega, by omega⟩, ⟨by omega, by omega⟩, by omega, fun s' hv => ⟨(j + 1, (c + au A i * au B j + o (i + j)) / 4294967296, bB o (i + j) ((c + au A i * au B j + o (i + j)) % 4294967296)), cy hv ?_ ?_, ⟨by simp only; omega, m3, fe (by omega) ho, fun k hk => ?_, ?_⟩, by simp only; omega⟩⟩
   ·rw [hH, cS (a := (j : Int) + 1) (n := j + 1) (by omega) (by omega)]
    simp only [tQ, List.cons.injEq, AV.int.injEq, and_true, true_and]
    omega
   ·simp only [b6]
    congr 3
    funext k
    exact eG (by rw [gl]) k
   ·exact (dH (by omega)).trans (ho0 k hk)
   ·simp only
    rw [show 32 * (i + (j + 1)) = 32 * ((i + j) + 1) by omega, eU, val]
    have hset := xA (o := o) (x := (c + au A i * au B j + o (i + j)) % 4294967296) (show i + j < nl A + nl B by omega)
    exact CX rfl (Nat.div_add_mod _ _) hset (by rw [← Nat.pow_add]; congr 1; omega) hval
  ·show ay P c0 hJ.ntmps (behind nM [1,0,1]) s' _
   have hjm : j = nl B := by omega
   have hib : IntKind.i64.wrap ((i : Int) + (nl B : Int)) = ((i + nl B : Nat) : Int) := cS (by omega) (by omega)
   refine ay.de hT cX hm 60 hv (h0 24577) rfl (eH (by omega)) gG FY (by kernel_rfl) (by kernel_rfl) ?_
   rw [hib]
   simp only [aa.all, az, Int.toNat_natCast, Nat.add_zero, beq_iff_eq]
   refine ⟨⟨by omega, by omega⟩, fun s' hv => ?_⟩
   have hf : (fun k => if k = i + nl B then AV.int .u32 (IntKind.u32.wrap (c : Int)) else ag o k) = ag (bB o (i + nl B) c) := by
    funext k
    exact eG (wrap_u32 (by omega) (by omega)) k
   rw [hf] at hv
   show ay P c0 hJ.ntmps [part kY [1,1]] s' _
   refine ay.de hT cX hm 60 hv (h0 24577) rfl (eH (by omega)) gG FX (by kernel_rfl) (by kernel_rfl) fun s' hv => bD ?_
   refine ⟨(i + 1, bB o (i + nl B) c), cy hv ?_ rfl, ⟨by simp only; omega, fe hc ho, fun k hk => (dH (by simp only at hk; omega)).trans (ho0 k (by simp only at hk; omega)), ?_⟩, by simp only; omega⟩
   ·rw [cS (a := (i : Int) + 1) (n := i + 1) (by omega) (by omega)]
   ·simp only
    rw [hjm, ec] at hval
    rw [mS (by omega) (ho0 _ (by omega)), hval, val, Nat.add_mul, Nat.mul_assoc, Nat.mul_assoc, Nat.mul_comm B]
 ·have hin : i = nl A := by omega
  refine ay.gu hT cX hm 60 hv (h0 _) rfl (eH (by omega)) MT (by kernel_rfl) (by kernel_rfl) ?_
  simp only [aa.all, az, Nat.add_zero, gd]
  refine ⟨⟨er ho, by omega⟩, cF (congrArg AV.mag ?_)⟩
  rw [hval, hin, ec]
def zx : Spec := jw (fun A B => .mag (A * B)) fun A B => [nl A < 2 ^ 39, nl B < 2 ^ 39]
theorem Cb : ∀ K args pre r, zx K args pre = some r → aC P oA K args pre r := lI fun h => R5 h.1 h.2
theorem BP {v b r A : Nat} (h : v * b + r = A) (hr : r < b) : A / b = v ∧ A % b = r := by
 subst h
 refine ⟨?_, ?_⟩
 ·rw [Nat.mul_comm, Nat.mul_add_div (by omega), Nat.div_eq_of_lt hr, Nat.add_zero]
 ·rw [Nat.mul_comm, Nat.mul_add_mod, Nat.mod_eq_of_lt hr]
theorem Jw {A b : Nat} (hA : nl A < 2 ^ 40) (hb0 : 0 < b) (hb32 : b < 2 ^ 32) (K : Nat) : aC P pH K [.mag A, .int .u32 b] [] (aJ (.tuple [.mag (A / b), .int .u32 (A % b : Nat)]) []) := by
 refine fX hT LX rfl (of_decide_eq_true (by kernel_rfl)) rfl (fun _ c0 h0 => ?_) K []
 refine aq.hole [1,1,1,0,1] (by kernel_rfl) (ay.aR hT cX hm 60 mL FM (by kernel_rfl) ?_)
 simp only [aa.all, az, Int.toNat_natCast]
 refine ⟨by omega, fun s' hv => bD ?_⟩
 refine aq.eV (i := 0) (y := DU) (by kernel_rfl) mL 16385 (h0 _) (fun p : Nat × Nat × (Nat → Nat) => xg A b p.2.1 p.1 16384) (fun p => b6 16384 (nl A) p.2.2) (fun _ => rfl) (fun _ => eH (by omega))
  (fun p => p.1 ≤ nl A ∧ p.2.1 < b ∧ (∀ j, j < nl A → p.2.2 j < 2 ^ 32) ∧ (∀ j, j < p.1 → p.2.2 j = 0) ∧ val (nl A) p.2.2 * b + p.2.1 * 2 ^ (32 * p.1) + val p.1 (au A) = A)
  (fun p => p.1) (nl A, 0, fun _ => 0) (cy hv (by rw [wrap_i64 (by omega) (by omega)]; rfl) rfl) ⟨by simp, hb0, fun j _ => by simp, fun j _ => rfl, ?_⟩ ?_
 ·simp only
  rw [val_zero fun _ _ => rfl, ec]
  simp
 rintro ⟨k, r, o⟩ ⟨hk, hr, ho, ho0, hval⟩
 simp only at hk hr ho ho0 hval
 refine aq.aR hT cX hm 60 mL Qa (by kernel_rfl) ?_
 simp only [aa.all, az, decide_eq_true_eq, decide_eq_false_iff_not, Nat.add_zero, beq_iff_eq]
 have hbw : IntKind.u64.wrap (b : Int) = (b : Int) := bt (by omega) (by omega)
 refine ⟨fun hb => ?_, fun hb s' hv => dz (bD ?_)⟩
 ·obtain ⟨j, rfl⟩ : ∃ j, k = j + 1 := ⟨k - 1, by omega⟩
  have e : (((j + 1 : Nat) : Int) - 1).toNat = j := by omega
  have hzj := ct (N := A) (i := j)
  have hor := o4 (a := r) (b := au A j) (by omega) hzj
  rw [e, hor, hbw]
  have hq1 : (r * 4294967296 + au A j) / b < 2 ^ 32 := by
   rw [Nat.div_lt_iff_lt_mul hb0]
   have : (r + 1) * 4294967296 ≤ b * 4294967296 := Nat.mul_le_mul_right _ hr
   omega
  have hdm := Nat.div_add_mod (r * 4294967296 + au A j) b
  refine ⟨⟨by omega, by omega, by omega⟩, ⟨by omega, ⟨by omega, by omega⟩, by omega⟩, by omega, fun s' hv => ⟨(j, (r * 4294967296 + au A j) % b, bB o j ((r * 4294967296 + au A j) / b)), cy hv ?_ ?_, ⟨by simp only; omega, Nat.mod_lt _ hb0, fe hq1 ho, fun i hi => ?_, ?_⟩, by simp only; omega⟩⟩
  ·rw [← Int.ofNat_tmod, wrap_i64 (by omega) (by omega), show ((j + 1 : Nat) : Int) - 1 - 1 = (j : Int) - 1 by omega]
  ·simp only [b6]
   congr 3
   funext i
   refine eG ?_ i
   rw [← Int.ofNat_tdiv]
   clear hdm
   generalize (r * 4294967296 + au A j) / b = q at hq1 ⊢
   rw [bt (by omega) (by omega), wrap_u32 (by omega) (by omega)]
  ·exact (dH (by simp only at hi; omega)).trans (ho0 i (by simp only at hi; omega))
  ·simp only
   rw [mS (by omega) (ho0 j (by omega))]
   rw [eU, val] at hval
   exact CK hval hdm.symm
 ·have hk0 : k = 0 := by omega
  have hv2 : val (nl A) o * b + r = A := by rw [hk0] at hval; simpa [val] using hval
  refine ay.gu hT cX hm 60 hv (h0 _) rfl (eH (by omega)) NK (by kernel_rfl) (by kernel_rfl) ?_
  simp only [aa.all, az, Nat.add_zero, gd]
  obtain ⟨hdiv, hmod⟩ := BP hv2 hr
  exact ⟨⟨er ho, hA⟩, cF (congrArg AV.mag hdiv.symm), bm (by rw [hmod, wrap_u32 (by omega) (by omega)]), trivial⟩
def EG : Spec := bp fun l => match l with
 | [a, .int .u32 b] => match fL a with
  | some A => some (aJ (.tuple [.mag (A / b.toNat), .int .u32 (A % b.toNat : Nat)]) [nl A < 2 ^ 40, 0 < b, b < 2 ^ 32])
  | none => none
 | _ => none
theorem Mq : ∀ K args pre r, EG K args pre = some r → aC P pH K args pre r := by
 refine bK fun K args r hk hs _ => ?_
 split at hs
 ·rename_i a b
  split at hs
  ·rename_i A hA
   simp only [Option.some.injEq] at hs
   subst hs
   intro need
   obtain ⟨h1, h2, h3⟩ : nl A < 2 ^ 40 ∧ 0 < b ∧ b < 2 ^ 32 := need
   obtain ⟨b, rfl⟩ := Int.eq_ofNat_of_zero_le (Int.le_of_lt h2)
   exact eJ (Jw h1 (by omega) (by omega) K) hk ⟨iG hA, .refl _, trivial⟩ [] trivial
  ·simp at hs
 ·simp at hs
end Go.Am.B
