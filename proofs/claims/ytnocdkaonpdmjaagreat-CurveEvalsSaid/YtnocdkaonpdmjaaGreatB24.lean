/- ref01: minus, Sub, Mul, byLimb. -/
import Derived.Test.YtnocdkaonpdmjaaGreatB23
set_option linter.unusedVariables false
namespace Go.Am.B
open Go Go.Am.N AV
theorem Xh : aN P x5 pI (au pI) := aP aer (by kernel_rfl) (by kernel_rfl) (by kernel_rfl)
theorem O1 : aN P xM s4 (au s4) := aP NP (by kernel_rfl) (by kernel_rfl) (by kernel_rfl)
theorem ac9 : aN P pW jx (au jx) := aP RM (by kernel_rfl) (by kernel_rfl) (by kernel_rfl)
theorem Vy : aN P qB pF (au pF) := aP acU (by kernel_rfl) (by kernel_rfl) (by kernel_rfl)
abbrev lY : List Nat := [0, 1, 5, 6, 7]
abbrev yh (A B c i K : Nat) : List AV := [.mag A, .mag B, .own K 1 0 (nl A), .int .u64 c, .int .i64 i]
abbrev ct (K n : Nat) (o : Nat → Nat) : aD := [(K, ⟨true, true, 1, n, aj o⟩)]
noncomputable abbrev G0 : Code := part (au pI) [1,1,1,0,1,0,0]
theorem Pk {A B : Nat} : aI T dG [] 60 lY (before (au pI) [1,1,1,0,1]) ⟨aL 0 [.mag A, .mag B], [], 0⟩ =
  some (aa.ag [(0 : Int) ≤ (↑(nl A) : Int) ∧ (↑(nl A) : Int) ≤ (↑(nl A) : Int) ∧ (↑(nl A) : Int) ≤ (2 : Int) ^ 47 ∧ (↑(nl A) : Int) * (↑(4 : Nat) : Int) ≤ (2 : Int) ^ 47] (aa.leaf ah.normal ([mag A, mag B, own 12288 1 0 (↑(nl A) : Int).toNat, int IntKind.u64 (0 : Int), int IntKind.i64 (0 : Int)], [((12288 : Nat), ⟨true, true, 1, (↑(nl A) : Int).toNat, fun (x : Nat) ↦ int IntKind.u32 (0 : Int)⟩)]))) := by kernel_rfl
theorem TR {A B c i : Nat} {o : Nat → Nat} : aI T dG [16, 23, 38] 60 lY [G0] ⟨aB lY (yh A B c i 12288), ct 12288 (nl A) o, 12289⟩ =
  some (aa.fork (decide ((↑i : Int) < (↑(nl A) : Int))) (aa.fork (decide ((↑i : Int) < (↑(nl B) : Int))) (aa.ag [(0 : Int) ≤ (↑i : Int) ∧ (↑i : Int).toNat < nl B] (aa.ag [(0 : Int) ≤ (↑i : Int) ∧ (↑i : Int).toNat < nl A] (aa.fork (decide (IntKind.u64.wrap (↑(ax A (↑i : Int).toNat) : Int) < IntKind.u64.wrap ((↑c : Int) + IntKind.u64.wrap (↑(ax B (↑i : Int).toNat) : Int)))) (aa.ag [(0 : Int) ≤ (↑i : Int) ∧ (↑i : Int).toNat < nl A, (↑i : Int).toNat + 0 < nl A] (aa.leaf ah.normal ([mag A, mag B, own 12288 1 0 (nl A), int IntKind.u64 (1 : Int), int IntKind.i64 (IntKind.i64.wrap ((↑i : Int) + (1 : Int)))], [((12288 : Nat), ⟨true, true, 1, nl A, fun (j : Nat) ↦ if (j == (↑i : Int).toNat + 0) = true then int IntKind.u32 (IntKind.u32.wrap (IntKind.u64.wrap (IntKind.u64.wrap (IntKind.u64.wrap (↑(ax A (↑i : Int).toNat) : Int) + (4294967296 : Int)) - IntKind.u64.wrap ((↑c : Int) + IntKind.u64.wrap (↑(ax B (↑i : Int).toNat) : Int))))) else aj o j⟩)]))) (aa.ag [(0 : Int) ≤ (↑i : Int) ∧ (↑i : Int).toNat < nl A, (↑i : Int).toNat + 0 < nl A] (aa.leaf ah.normal ([mag A, mag B, own 12288 1 0 (nl A), int IntKind.u64 (0 : Int), int IntKind.i64 (IntKind.i64.wrap ((↑i : Int) + (1 : Int)))], [((12288 : Nat), ⟨true, true, 1, nl A, fun (j : Nat) ↦ if (j == (↑i : Int).toNat + 0) = true then int IntKind.u32 (IntKind.u32.wrap (IntKind.u64.wrap (IntKind.u64.wrap (↑(ax A (↑i : Int).toNat) : Int) - IntKind.u64.wrap ((↑c : Int) + IntKind.u64.wrap (↑(ax B (↑i : Int).toNat) : Int))))) else aj o j⟩)])))))) (aa.ag [(0 : Int) ≤ (↑i : Int) ∧ (↑i : Int).toNat < nl A] (aa.fork (decide (IntKind.u64.wrap (↑(ax A (↑i : Int).toNat) : Int) < (↑c : Int))) (aa.ag [(0 : Int) ≤ (↑i : Int) ∧ (↑i : Int).toNat < nl A, (↑i : Int).toNat + 0 < nl A] (aa.leaf ah.normal ([mag A, mag B, own 12288 1 0 (nl A), int IntKind.u64 (1 : Int), int IntKind.i64 (IntKind.i64.wrap ((↑i : Int) + (1 : Int)))], [((12288 : Nat), ⟨true, true, 1, nl A, fun (j : Nat) ↦ if (j == (↑i : Int).toNat + 0) = true then int IntKind.u32 (IntKind.u32.wrap (IntKind.u64.wrap (IntKind.u64.wrap (IntKind.u64.wrap (↑(ax A (↑i : Int).toNat) : Int) + (4294967296 : Int)) - (↑c : Int)))) else aj o j⟩)]))) (aa.ag [(0 : Int) ≤ (↑i : Int) ∧ (↑i : Int).toNat < nl A, (↑i : Int).toNat + 0 < nl A] (aa.leaf ah.normal ([mag A, mag B, own 12288 1 0 (nl A), int IntKind.u64 (0 : Int), int IntKind.i64 (IntKind.i64.wrap ((↑i : Int) + (1 : Int)))], [((12288 : Nat), ⟨true, true, 1, nl A, fun (j : Nat) ↦ if (j == (↑i : Int).toNat + 0) = true then int IntKind.u32 (IntKind.u32.wrap (IntKind.u64.wrap (IntKind.u64.wrap (↑(ax A (↑i : Int).toNat) : Int) - (↑c : Int)))) else aj o j⟩)])))))) (aa.leaf (ah.exit 0) ([mag A, mag B, own 12288 1 0 (nl A), int IntKind.u64 (↑c : Int), int IntKind.i64 (↑i : Int)], [((12288 : Nat), ⟨true, true, 1, nl A, aj o⟩)]))) := by kernel_rfl
theorem acF {A B c i : Nat} {o : Nat → Nat} : b9 T dG [] 60 pI (behind (au pI) [1,1,1,0,1]) ⟨aB lY (yh A B c i 12288), ct 12288 (nl A) o, 12289⟩ =
  some (aa.ag [cV (nl A) fun (i : Nat) ↦ aj o (i + 0), nl A < 2 ^ 40] (aa.leaf ah.ret [mag (val (nl A) fun (i : Nat) ↦ numOf (aj o (i + 0)))])) := by kernel_rfl
abbrev iS : List Nat := [0, 1, 5, 6]
abbrev uY (A B i K : Nat) : List AV := [.mag A, .mag B, .own K 1 0 (nl A + nl B), .int .i64 i]
abbrev o8 : List Nat := [0, 1, 5, 6, 7, 8]
abbrev zh (A B i c j K : Nat) : List AV := [.mag A, .mag B, .own K 1 0 (nl A + nl B), .int .i64 i, .int .u64 c, .int .i64 j]
noncomputable abbrev mA : Code := part (au jx) [1,1,0,1,0,0]
noncomputable abbrev rD : Code := part mA [1,0,0]
theorem adP {A B : Nat} : aI T dG [] 60 iS (before (au jx) [1,1,0,1]) ⟨aL 0 [.mag A, .mag B], [], 0⟩ =
  some (aa.ag [(0 : Int) ≤ IntKind.i64.wrap ((↑(nl A) : Int) + (↑(nl B) : Int)) ∧ IntKind.i64.wrap ((↑(nl A) : Int) + (↑(nl B) : Int)) ≤ IntKind.i64.wrap ((↑(nl A) : Int) + (↑(nl B) : Int)) ∧ IntKind.i64.wrap ((↑(nl A) : Int) + (↑(nl B) : Int)) ≤ (2 : Int) ^ 47 ∧ IntKind.i64.wrap ((↑(nl A) : Int) + (↑(nl B) : Int)) * (↑(4 : Nat) : Int) ≤ (2 : Int) ^ 47] (aa.leaf ah.normal ([mag A, mag B, own 24576 1 0 (IntKind.i64.wrap ((↑(nl A) : Int) + (↑(nl B) : Int))).toNat, int IntKind.i64 (0 : Int)], [((24576 : Nat), ⟨true, true, 1, (IntKind.i64.wrap ((↑(nl A) : Int) + (↑(nl B) : Int))).toNat, fun (x : Nat) ↦ int IntKind.u32 (0 : Int)⟩)]))) := by kernel_rfl
theorem Ml {A B i : Nat} {o : Nat → Nat} : aI T dG [18] 60 iS [part mA [0]] ⟨aB iS (uY A B i 24576), ct 24576 (nl A + nl B) o, 24577⟩ =
  some (aa.fork (decide ((↑i : Int) < (↑(nl A) : Int))) (aa.leaf ah.normal ([mag A, mag B, own 24576 1 0 (nl A + nl B), int IntKind.i64 (↑i : Int)], [((24576 : Nat), ⟨true, true, 1, nl A + nl B, aj o⟩)])) (aa.leaf (ah.exit 0) ([mag A, mag B, own 24576 1 0 (nl A + nl B), int IntKind.i64 (↑i : Int)], [((24576 : Nat), ⟨true, true, 1, nl A + nl B, aj o⟩)]))) := by kernel_rfl
theorem Wq {A B i : Nat} {o : Nat → Nat} : aI T dG [] 60 o8 (before rD [1,0,1]) ⟨aB iS (uY A B i 24576), ct 24576 (nl A + nl B) o, 24577⟩ =
  some (aa.leaf ah.normal ([mag A, mag B, own 24576 1 0 (nl A + nl B), int IntKind.i64 (↑i : Int), int IntKind.u64 (0 : Int), int IntKind.i64 (0 : Int)], [((24576 : Nat), ⟨true, true, 1, nl A + nl B, aj o⟩)])) := by kernel_rfl
theorem Q6 {A B i c j : Nat} {o : Nat → Nat} : aI T dG [24] 60 o8 [part rD [1,0,1,0,0]] ⟨aB o8 (zh A B i c j 24576), ct 24576 (nl A + nl B) o, 24577⟩ =
  some (aa.fork (decide ((↑j : Int) < (↑(nl B) : Int))) (aa.ag [(0 : Int) ≤ (↑i : Int) ∧ (↑i : Int).toNat < nl A, (0 : Int) ≤ (↑j : Int) ∧ (↑j : Int).toNat < nl B, (0 : Int) ≤ IntKind.i64.wrap ((↑i : Int) + (↑j : Int)) ∧ (IntKind.i64.wrap ((↑i : Int) + (↑j : Int))).toNat < nl A + nl B, (IntKind.i64.wrap ((↑i : Int) + (↑j : Int))).toNat + 0 < nl A + nl B] (aa.ag [(0 : Int) ≤ IntKind.i64.wrap ((↑i : Int) + (↑j : Int)) ∧ (IntKind.i64.wrap ((↑i : Int) + (↑j : Int))).toNat < nl A + nl B, (IntKind.i64.wrap ((↑i : Int) + (↑j : Int))).toNat + 0 < nl A + nl B] (aa.ag [(0 : Int) ≤ (32 : Int)] (aa.leaf ah.normal ([mag A, mag B, own 24576 1 0 (nl A + nl B), int IntKind.i64 (↑i : Int), int IntKind.u64 ((IntKind.u64.wrap ((↑c : Int) + IntKind.u64.wrap (IntKind.u64.wrap (IntKind.u64.wrap (↑(ax A (↑i : Int).toNat) : Int) * IntKind.u64.wrap (↑(ax B (↑j : Int).toNat) : Int)) + IntKind.u64.wrap (↑(o ((IntKind.i64.wrap ((↑i : Int) + (↑j : Int))).toNat + 0)) : Int)))).fdiv ((2 : Int) ^ min (Int.toNat (32 : Int)) IntKind.u64.bits)), int IntKind.i64 (IntKind.i64.wrap ((↑j : Int) + (1 : Int)))], [((24576 : Nat), ⟨true, true, 1, nl A + nl B, fun (j_1 : Nat) ↦ if (j_1 == (IntKind.i64.wrap ((↑i : Int) + (↑j : Int))).toNat + 0) = true then int IntKind.u32 (IntKind.u32.wrap (IntKind.u64.wrap ((↑c : Int) + IntKind.u64.wrap (IntKind.u64.wrap (IntKind.u64.wrap (↑(ax A (↑i : Int).toNat) : Int) * IntKind.u64.wrap (↑(ax B (↑j : Int).toNat) : Int)) + IntKind.u64.wrap (↑(o ((IntKind.i64.wrap ((↑i : Int) + (↑j : Int))).toNat + 0)) : Int))))) else aj o j_1⟩)]))))) (aa.leaf (ah.exit 2) ([mag A, mag B, own 24576 1 0 (nl A + nl B), int IntKind.i64 (↑i : Int), int IntKind.u64 (↑c : Int), int IntKind.i64 (↑j : Int)], [((24576 : Nat), ⟨true, true, 1, nl A + nl B, aj o⟩)]))) := by kernel_rfl
theorem aab {A B i c j : Nat} {o : Nat → Nat} : aI T dG [] 60 iS (behind rD [1,0,1]) ⟨aB o8 (zh A B i c j 24576), ct 24576 (nl A + nl B) o, 24577⟩ =
  some (aa.ag [(0 : Int) ≤ IntKind.i64.wrap ((↑i : Int) + (↑(nl B) : Int)) ∧ (IntKind.i64.wrap ((↑i : Int) + (↑(nl B) : Int))).toNat < nl A + nl B, (IntKind.i64.wrap ((↑i : Int) + (↑(nl B) : Int))).toNat + 0 < nl A + nl B] (aa.leaf ah.normal ([mag A, mag B, own 24576 1 0 (nl A + nl B), int IntKind.i64 (↑i : Int)], [((24576 : Nat), ⟨true, true, 1, nl A + nl B, fun (j : Nat) ↦ if (j == (IntKind.i64.wrap ((↑i : Int) + (↑(nl B) : Int))).toNat + 0) = true then int IntKind.u32 (IntKind.u32.wrap (↑c : Int)) else aj o j⟩)]))) := by kernel_rfl
theorem XI {A B i : Nat} {o : Nat → Nat} : aI T dG [] 60 iS [part mA [1,1]] ⟨aB iS (uY A B i 24576), ct 24576 (nl A + nl B) o, 24577⟩ =
  some (aa.leaf ah.normal ([mag A, mag B, own 24576 1 0 (nl A + nl B), int IntKind.i64 (IntKind.i64.wrap ((↑i : Int) + (1 : Int)))], [((24576 : Nat), ⟨true, true, 1, nl A + nl B, aj o⟩)])) := by kernel_rfl
theorem YS {A B i : Nat} {o : Nat → Nat} : b9 T dG [] 60 jx (behind (au jx) [1,1,0,1]) ⟨aB iS (uY A B i 24576), ct 24576 (nl A + nl B) o, 24577⟩ =
  some (aa.ag [cV (nl A + nl B) fun (i : Nat) ↦ aj o (i + 0), nl A + nl B < 2 ^ 40] (aa.leaf ah.ret [mag (val (nl A + nl B) fun (i : Nat) ↦ numOf (aj o (i + 0)))])) := by kernel_rfl
abbrev ov : List Nat := [0, 1, 6, 7, 8]
abbrev Bx (A b r k K : Nat) : List AV := [.mag A, .int .u32 b, .own K 1 0 (nl A), .int .u64 r, .int .i64 ((k : Int) - 1)]
noncomputable abbrev HN : Code := part (au pF) [1,1,1,0,1,0,0]
theorem adF {A b : Nat} : aI T dG [] 60 ov (before (au pF) [1,1,1,0,1]) ⟨aL 0 [.mag A, .int .u32 b], [], 0⟩ =
  some (aa.ag [(0 : Int) ≤ (↑(nl A) : Int) ∧ (↑(nl A) : Int) ≤ (↑(nl A) : Int) ∧ (↑(nl A) : Int) ≤ (2 : Int) ^ 47 ∧ (↑(nl A) : Int) * (↑(4 : Nat) : Int) ≤ (2 : Int) ^ 47] (aa.leaf ah.normal ([mag A, int IntKind.u32 (↑b : Int), own 16384 1 0 (↑(nl A) : Int).toNat, int IntKind.u64 (0 : Int), int IntKind.i64 (IntKind.i64.wrap ((↑(nl A) : Int) - (1 : Int)))], [((16384 : Nat), ⟨true, true, 1, (↑(nl A) : Int).toNat, fun (x : Nat) ↦ int IntKind.u32 (0 : Int)⟩)]))) := by kernel_rfl
theorem Wa {A b r k : Nat} {o : Nat → Nat} : aI T dG [16] 60 ov [HN] ⟨aB ov (Bx A b r k 16384), ct 16384 (nl A) o, 16385⟩ =
  some (aa.fork (decide ((↑k : Int) - (1 : Int) ≥ (0 : Int))) (aa.ag [(0 : Int) ≤ (32 : Int), (0 : Int) ≤ (↑k : Int) - (1 : Int) ∧ ((↑k : Int) - (1 : Int)).toNat < nl A] (aa.ag [IntKind.u64.wrap (↑b : Int) ≠ (0 : Int), (0 : Int) ≤ (↑k : Int) - (1 : Int) ∧ ((↑k : Int) - (1 : Int)).toNat < nl A, ((↑k : Int) - (1 : Int)).toNat + 0 < nl A] (aa.ag [IntKind.u64.wrap (↑b : Int) ≠ (0 : Int)] (aa.leaf ah.normal ([mag A, int IntKind.u32 (↑b : Int), own 16384 1 0 (nl A), int IntKind.u64 ((IntKind.u64.wrap (↑(BitVec.ofInt IntKind.u64.bits (IntKind.u64.wrap ((↑r : Int) * (2 : Int) ^ min (Int.toNat (32 : Int)) IntKind.u64.bits)) ||| BitVec.ofInt IntKind.u64.bits (IntKind.u64.wrap (↑(ax A ((↑k : Int) - (1 : Int)).toNat) : Int))).toNat : Int)).tmod (IntKind.u64.wrap (↑b : Int))), int IntKind.i64 (IntKind.i64.wrap ((↑k : Int) - (1 : Int) - (1 : Int)))], [((16384 : Nat), ⟨true, true, 1, nl A, fun (j : Nat) ↦ if (j == ((↑k : Int) - (1 : Int)).toNat + 0) = true then int IntKind.u32 (IntKind.u32.wrap (IntKind.u64.wrap ((IntKind.u64.wrap (↑(BitVec.ofInt IntKind.u64.bits (IntKind.u64.wrap ((↑r : Int) * (2 : Int) ^ min (Int.toNat (32 : Int)) IntKind.u64.bits)) ||| BitVec.ofInt IntKind.u64.bits (IntKind.u64.wrap (↑(ax A ((↑k : Int) - (1 : Int)).toNat) : Int))).toNat : Int)).tdiv (IntKind.u64.wrap (↑b : Int))))) else aj o j⟩)]))))) (aa.leaf (ah.exit 0) ([mag A, int IntKind.u32 (↑b : Int), own 16384 1 0 (nl A), int IntKind.u64 (↑r : Int), int IntKind.i64 ((↑k : Int) - (1 : Int))], [((16384 : Nat), ⟨true, true, 1, nl A, aj o⟩)]))) := by kernel_rfl
theorem S8 {A b r k : Nat} {o : Nat → Nat} : b9 T dG [] 60 pF (behind (au pF) [1,1,1,0,1]) ⟨aB ov (Bx A b r k 16384), ct 16384 (nl A) o, 16385⟩ =
  some (aa.ag [cV (nl A) fun (i : Nat) ↦ aj o (i + 0), nl A < 2 ^ 40] (aa.leaf ah.ret [mag (val (nl A) fun (i : Nat) ↦ numOf (aj o (i + 0))), int IntKind.u32 (IntKind.u32.wrap (↑r : Int))])) := by kernel_rfl
def Lb : aQ := [(mW, um), (x5, kO (fun A B => .mag (A - B)) fun A B => [B ≤ A, nl A < 2 ^ 40])]
theorem aaj {A B : Nat} : bu T Lb [9] 60 s4 (au s4) ⟨aL 0 [.mag A, .mag B], [], 0⟩ =
  some (aa.ag [nl A < 2 ^ 40, nl B < 2 ^ 40] (aa.fork (decide (bT A B < (0 : Int))) (aa.leaf ah.ret [nil, int IntKind.i64 (7 : Int)]) (aa.ag [B ≤ A, nl A < 2 ^ 40] (aa.leaf ah.ret [mag (A - B), int IntKind.i64 (0 : Int)])))) := by kernel_rfl
theorem fj {K n nx : Nat} {o : Nat → Nat} (h : K < nx) : fe nx (ct K n o) := ⟨⟨h, fun _ _ => rfl⟩, trivial⟩
theorem Z4 {vo va vb ai x c b' un u' B : Nat} (hx : x = c + b') (hu : un + x = ai + 4294967296 * u') (h : va + c * B = vo + vb) : va + ai * B + u' * (4294967296 * B) = vo + un * B + (vb + b' * B) := by
 have e : (un + x) * B = (ai + 4294967296 * u') * B := by rw [hu]
 subst hx
 grind
theorem FZ {A B : Nat} (hAB : B ≤ A) (hA : nl A < 2 ^ 40) (K : Nat) : aA P x5 K [.mag A, .mag B] [] (aG (.mag (A - B)) []) := by
 have hB : nl B ≤ nl A := fC hAB
 refine fU hT Xh rfl (of_decide_eq_true (by kernel_rfl)) rfl (fun _ c0 h0 => ?_) K []
 refine aq.hole [1,1,1,0,1] (by kernel_rfl) (aC.aZ hT dM hm 60 lY Pk (by kernel_rfl) ?_)
 simp only [aa.all, ay, Int.toNat_natCast]
 refine ⟨by omega, fun s' hv => bP ?_⟩
 refine aq.fo (i := 0) (y := G0) (by kernel_rfl) lY 12289 (h0 _) (fun p : Nat × Nat × (Nat → Nat) => yh A B p.2.1 p.1 12288) (fun p => ct 12288 (nl A) p.2.2) (fun _ => rfl) (fun _ => fj (by omega))
  (fun p => p.1 ≤ nl A ∧ p.2.1 ≤ 1 ∧ (∀ j, j < nl A → p.2.2 j < 2 ^ 32) ∧ val p.1 (ax A) + p.2.1 * 2 ^ (32 * p.1) = val p.1 p.2.2 + val p.1 (ax B))
  (fun p => nl A - p.1) (0, 0, fun _ => 0) hv ⟨by simp, by simp, fun _ _ => by simp, by simp [val]⟩ ?_
 rintro ⟨i, c, o⟩ ⟨hi, hc, ho, hval⟩
 simp only at hi hc ho hval
 refine aq.aZ hT dM hm 60 lY TR (by kernel_rfl) ?_
 have la := cJ (N := A) (i := i)
 have lb := cJ (N := B) (i := i)
 have wa : IntKind.u64.wrap (ax A i : Int) = ((ax A i : Nat) : Int) := wrap_u64 (by omega) (by omega)
 have wb : IntKind.u64.wrap (ax B i : Int) = ((ax B i : Nat) : Int) := wrap_u64 (by omega) (by omega)
 have w1 : IntKind.u64.wrap ((c : Int) + ((ax B i : Nat) : Int)) = ((c + ax B i : Nat) : Int) := by rw [wrap_u64 (by omega) (by omega)]; omega
 have w2 : IntKind.u64.wrap (((ax A i : Nat) : Int) + 4294967296) = ((ax A i + 4294967296 : Nat) : Int) := by rw [wrap_u64 (by omega) (by omega)]; omega
 have w3 : IntKind.i64.wrap ((i : Int) + 1) = ((i + 1 : Nat) : Int) := by rw [wrap_i64 (by omega) (by omega)]; omega
 simp only [aa.all, ay, decide_eq_true_eq, decide_eq_false_iff_not, Int.toNat_natCast, Nat.add_zero, beq_iff_eq]
 rw [wa, wb, w1, w2, w3]
 -- what is put down
 have next : ∀ {s' : aE} {x u' : Nat} {v : Int}, i < nl A → x = c + ax B i → u' ≤ 1 → x ≤ ax A i + 4294967296 * u' → ax A i + 4294967296 * u' < x + 4294967296 → v = ((ax A i + 4294967296 * u' - x : Nat) : Int) →
   aV lY s' = some (yh A B u' (i + 1) 12288, [(12288, ⟨true, true, 1, nl A, fun j => if j = i then .int .u32 (IntKind.u32.wrap (IntKind.u64.wrap v)) else aj o j⟩)]) →
   ∃ k : Nat × Nat × (Nat → Nat), aV lY s' = some (yh A B k.2.1 k.1 12288, ct 12288 (nl A) k.2.2) ∧ (k.1 ≤ nl A ∧ k.2.1 ≤ 1 ∧ (∀ j, j < nl A → k.2.2 j < 2 ^ 32) ∧ val k.1 (ax A) + k.2.1 * 2 ^ (32 * k.1) = val k.1 k.2.2 + val k.1 (ax B)) ∧ nl A - k.1 < nl A - i := by
  intro s' x u' v hin hx hu1 h1 h2 hv1 hv
  refine ⟨(i + 1, u', bJ o i (ax A i + 4294967296 * u' - x)), cN hv rfl ?_, ⟨by simp only; omega, hu1, fH (by omega) ho, ?_⟩, by simp only; omega⟩
  ·simp only [ct]
   congr 3
   funext k
   exact e9 (by rw [hv1, wrap_u64 (by omega) (by omega), wrap_u32 (by omega) (by omega)]) k
  ·simp only
   rw [ou, val, val, fu]
   exact Z4 (b' := ax B i) (x := x) hx (by omega) hval
 refine ⟨fun hb => ⟨fun hb2 => ⟨by omega, by omega, fun h3 => ⟨⟨by omega, by omega⟩, fun s' hv => ?_⟩, fun h3 => ⟨⟨by omega, by omega⟩, fun s' hv => ?_⟩⟩, fun hb2 => ⟨by omega, fun h3 => ⟨⟨by omega, by omega⟩, fun s' hv => ?_⟩, fun h3 => ⟨⟨by omega, by omega⟩, fun s' hv => ?_⟩⟩⟩, fun hb s' hv => dS (bP ?_)⟩
 ·exact next (u' := 1) (by omega) rfl (by omega) (by omega) (by omega) (by omega) hv
 ·exact next (u' := 0) (by omega) rfl (by omega) (by omega) (by omega) (by omega) hv
 ·exact next (u' := 1) (x := c) (by omega) (by rw [gy (A := B) (by omega)]; rfl) (by omega) (by omega) (by omega) (by omega) hv
 ·exact next (u' := 0) (x := c) (by omega) (by rw [gy (A := B) (by omega)]; rfl) (by omega) (by omega) (by omega) (by omega) hv
 ·have hin : i = nl A := by omega
  refine aC.iE hT dM hm 60 hv (h0 _) rfl (fj (by omega)) acF (by kernel_rfl) (by kernel_rfl) ?_
  simp only [aa.all, ay, Nat.add_zero, gV]
  refine ⟨⟨eJ ho, hA⟩, cI (congrArg AV.mag ?_)⟩
  rw [hin, eB, ny (cA.1 hB)] at hval
  have hlt := eo ho
  have : c = 0 := by
   rcases Nat.eq_zero_or_pos c with h | h
   ·exact h
   ·exfalso
    have h1 : 1 * 2 ^ (32 * nl A) ≤ c * 2 ^ (32 * nl A) := Nat.mul_le_mul_right _ h
    omega
  rw [this] at hval
  omega
theorem Oe : aY P Lb := aF z5 (aF (nh fun h => FZ h.1 h.2) bk)
theorem aao {A B : Nat} (hA : nl A < 2 ^ 40) (hB : nl B < 2 ^ 40) (K : Nat) : aA P xM K [.mag A, .mag B] [] (aG (.tuple [.mag (A - B), .int .i64 (if A < B then 7 else 0)]) []) := by
 refine bC hT Oe hm O1 rfl (of_decide_eq_true (by kernel_rfl)) rfl 60 aaj (fun _ => ?_) K []
 simp only [aa.all, ay, decide_eq_true_eq, decide_eq_false_iff_not, AD]
 refine ⟨⟨hA, hB⟩, fun h => ⟨?_, bq (by rw [if_pos h]), trivial⟩, fun h => ⟨⟨by omega, hA⟩, .refl _, bq (by rw [if_neg h]), trivial⟩⟩
 rw [Nat.sub_eq_zero_of_le (by omega)]; exact iP
def LG : Spec := kO (fun A B => .tuple [.mag (A - B), .int .i64 (if A < B then 7 else 0)]) Ez
theorem OF : ∀ K args pre r, LG K args pre = some r → aA P xM K args pre r := nh fun h => aao h.1 h.2
theorem MW {A B : Nat} (hA : nl A < 2 ^ 39) (hB : nl B < 2 ^ 39) (K : Nat) : aA P pW K [.mag A, .mag B] [] (aG (.mag (A * B)) []) := by
 refine fU hT ac9 rfl (of_decide_eq_true (by kernel_rfl)) rfl (fun _ c0 h0 => ?_) K []
 refine aq.hole [1,1,0,1] (by kernel_rfl) (aC.aZ hT dM hm 60 iS adP (by kernel_rfl) ?_)
 have hw : IntKind.i64.wrap ((nl A : Int) + (nl B : Int)) = ((nl A + nl B : Nat) : Int) := dr (by omega) (by omega)
 rw [hw]
 simp only [aa.all, ay, Int.toNat_natCast]
 refine ⟨by omega, fun s' hv => bP ?_⟩
 refine aq.fo (i := 0) (y := mA) (by kernel_rfl) iS 24577 (h0 _) (fun p : Nat × (Nat → Nat) => uY A B p.1 24576) (fun p => ct 24576 (nl A + nl B) p.2) (fun _ => rfl) (fun _ => fj (by omega))
  (fun p => p.1 ≤ nl A ∧ (∀ j, j < nl A + nl B → p.2 j < 2 ^ 32) ∧ (∀ j, p.1 + nl B ≤ j → p.2 j = 0) ∧ val (nl A + nl B) p.2 = val p.1 (ax A) * B)
  (fun p => nl A - p.1) (0, fun _ => 0) hv ⟨by simp, fun _ _ => by simp, fun _ _ => rfl, ?_⟩ ?_
 ·simp only
  rw [val_zero fun _ _ => rfl]
  simp [val]
 rintro ⟨i, o⟩ ⟨hi, ho, ho0, hval⟩
 simp only at hi ho ho0 hval
 refine aq.hole [0] (by kernel_rfl) (show aq P c0 jx.ntmps (part mA [0]) _ _ from aq.aZ hT dM hm 60 iS Ml (by kernel_rfl) ?_)
 simp only [aa.all, decide_eq_true_eq, decide_eq_false_iff_not]
 refine ⟨fun h1 s' hv => bP ?_, fun h1 s' hv => oQ (dS (bP ?_))⟩
 ·have hin : i < nl A := by omega
  have la := cJ (N := A) (i := i)
  show aC P c0 jx.ntmps [part mA [1]] s' _
  refine aq.hole [0] (by kernel_rfl) ?_
  show aq P c0 jx.ntmps (part mA [1,0]) s' _
  refine aq.m8 (i := 1) (y := rD) (by kernel_rfl) (aq.iJ hv (h0 24577) rfl (fj (by omega)) ?_)
  refine aq.hole [1,0,1] (by kernel_rfl) (aC.aZ hT dM hm 60 o8 Wq (by kernel_rfl) fun s' hv => bP ?_)
  refine aq.fo (i := 2) (y := part rD [1,0,1,0,0]) (by kernel_rfl) o8 24577 (h0 _) (fun p : Nat × Nat × (Nat → Nat) => zh A B i p.2.1 p.1 24576) (fun p => ct 24576 (nl A + nl B) p.2.2) (fun _ => rfl) (fun _ => fj (by omega))
   (fun p => p.1 ≤ nl B ∧ p.2.1 < 2 ^ 32 ∧ (∀ j, j < nl A + nl B → p.2.2 j < 2 ^ 32) ∧ (∀ j, i + nl B ≤ j → p.2.2 j = 0) ∧ val (nl A + nl B) p.2.2 + p.2.1 * 2 ^ (32 * (i + p.1)) = val i (ax A) * B + ax A i * val p.1 (ax B) * 2 ^ (32 * i))
   (fun p => nl B - p.1) (0, 0, o) hv ⟨by simp, by simp, ho, ho0, by simp [val, hval]⟩ ?_
  rintro ⟨j, c, o⟩ ⟨hj, hc, ho, ho0, hval⟩
  simp only at hj hc ho ho0 hval
  refine aq.aZ hT dM hm 60 o8 Q6 (by kernel_rfl) ?_
  have hij : IntKind.i64.wrap ((i : Int) + (j : Int)) = ((i + j : Nat) : Int) := dr (by omega) (by omega)
  have lb := cJ (N := B) (i := j)
  simp only [aa.all, ay, decide_eq_true_eq, decide_eq_false_iff_not, hij, Int.toNat_natCast, Nat.add_zero, beq_iff_eq]
  refine ⟨fun h2 => ?_, fun h2 s' hv => dS ?_⟩
  ·have hjm : j < nl B := by omega
   obtain ⟨m1, m2, m3⟩ := LJ hc la lb (ho (i + j) (by omega))
   rw [m1]
   refine ⟨⟨by omega, by omega, by omega, by omega⟩, ⟨by omega, by omega⟩, by omega, fun s' hv => ⟨(j + 1, (c + ax A i * ax B j + o (i + j)) / 4294967296, bJ o (i + j) ((c + ax A i * ax B j + o (i + j)) % 4294967296)), cN hv ?_ ?_, ⟨by simp only; omega, m3, fH (by omega) ho, fun k hk => ?_, ?_⟩, by simp only; omega⟩⟩
   ·rw [jq, dr (a := (j : Int) + 1) (n := j + 1) (by omega) (by omega)]
    simp only [zh, List.cons.injEq, AV.int.injEq, and_true, true_and]
    omega
   ·simp only [ct]
    congr 3
    funext k
    exact e9 (by rw [gU]) k
   ·exact (ej (by omega)).trans (ho0 k hk)
   ·simp only
    rw [show 32 * (i + (j + 1)) = 32 * ((i + j) + 1) by omega, fu, val]
    have hset := BZ (o := o) (x := (c + ax A i * ax B j + o (i + j)) % 4294967296) (show i + j < nl A + nl B by omega)
    exact IC rfl (Nat.div_add_mod _ _) hset (by rw [← Nat.pow_add]; congr 1; omega) hval
  ·show aC P c0 jx.ntmps (behind rD [1,0,1]) s' _
   have hjm : j = nl B := by omega
   have hib : IntKind.i64.wrap ((i : Int) + (nl B : Int)) = ((i + nl B : Nat) : Int) := dr (by omega) (by omega)
   refine aC.dQ hT dM hm 60 hv (h0 24577) rfl (fj (by omega)) iS aab (by kernel_rfl) (by kernel_rfl) ?_
   rw [hib]
   simp only [aa.all, ay, Int.toNat_natCast, Nat.add_zero, beq_iff_eq]
   refine ⟨⟨by omega, by omega⟩, fun s' hv => ?_⟩
   have hf : (fun k => if k = i + nl B then AV.int .u32 (IntKind.u32.wrap (c : Int)) else aj o k) = aj (bJ o (i + nl B) c) := by
    funext k
    exact e9 (wrap_u32 (by omega) (by omega)) k
   rw [hf] at hv
   show aC P c0 jx.ntmps [part mA [1,1]] s' _
   refine aC.dQ hT dM hm 60 hv (h0 24577) rfl (fj (by omega)) iS XI (by kernel_rfl) (by kernel_rfl) fun s' hv => bP ?_
   refine ⟨(i + 1, bJ o (i + nl B) c), cN hv ?_ rfl, ⟨by simp only; omega, fH hc ho, fun k hk => (ej (by simp only at hk; omega)).trans (ho0 k (by simp only at hk; omega)), ?_⟩, by simp only; omega⟩
   ·rw [dr (a := (i : Int) + 1) (n := i + 1) (by omega) (by omega)]
   ·simp only
    rw [hjm, eB] at hval
    rw [oZ (by omega) (ho0 _ (by omega)), hval, val, Nat.add_mul, Nat.mul_assoc, Nat.mul_assoc, Nat.mul_comm B]
 ·have hin : i = nl A := by omega
  refine aC.iE hT dM hm 60 hv (h0 _) rfl (fj (by omega)) YS (by kernel_rfl) (by kernel_rfl) ?_
  simp only [aa.all, ay, Nat.add_zero, gV]
  refine ⟨⟨eJ ho, by omega⟩, cI (congrArg AV.mag ?_)⟩
  rw [hval, hin, eB]
def DW : Spec := kO (fun A B => .mag (A * B)) fun A B => [nl A < 2 ^ 39, nl B < 2 ^ 39]
theorem Gu : ∀ K args pre r, DW K args pre = some r → aA P pW K args pre r := nh fun h => MW h.1 h.2
theorem Ih {v b r A : Nat} (h : v * b + r = A) (hr : r < b) : A / b = v ∧ A % b = r := by
 subst h
 refine ⟨?_, ?_⟩
 ·rw [Nat.mul_comm, Nat.mul_add_div (by omega), Nat.div_eq_of_lt hr, Nat.add_zero]
 ·rw [Nat.mul_comm, Nat.mul_add_mod, Nat.mod_eq_of_lt hr]
theorem Vm {A b : Nat} (hA : nl A < 2 ^ 40) (hb0 : 0 < b) (hb32 : b < 2 ^ 32) (K : Nat) : aA P qB K [.mag A, .int .u32 b] [] (aG (.tuple [.mag (A / b), .int .u32 (A % b : Nat)]) []) := by
 refine fU hT Vy rfl (of_decide_eq_true (by kernel_rfl)) rfl (fun _ c0 h0 => ?_) K []
 refine aq.hole [1,1,1,0,1] (by kernel_rfl) (aC.aZ hT dM hm 60 ov adF (by kernel_rfl) ?_)
 simp only [aa.all, ay, Int.toNat_natCast]
 refine ⟨by omega, fun s' hv => bP ?_⟩
 refine aq.fo (i := 0) (y := HN) (by kernel_rfl) ov 16385 (h0 _) (fun p : Nat × Nat × (Nat → Nat) => Bx A b p.2.1 p.1 16384) (fun p => ct 16384 (nl A) p.2.2) (fun _ => rfl) (fun _ => fj (by omega))
  (fun p => p.1 ≤ nl A ∧ p.2.1 < b ∧ (∀ j, j < nl A → p.2.2 j < 2 ^ 32) ∧ (∀ j, j < p.1 → p.2.2 j = 0) ∧ val (nl A) p.2.2 * b + p.2.1 * 2 ^ (32 * p.1) + val p.1 (ax A) = A)
  (fun p => p.1) (nl A, 0, fun _ => 0) (cN hv (by rw [wrap_i64 (by omega) (by omega)]; rfl) rfl) ⟨by simp, hb0, fun j _ => by simp, fun j _ => rfl, ?_⟩ ?_
 ·simp only
  rw [val_zero fun _ _ => rfl, eB]
  simp
 rintro ⟨k, r, o⟩ ⟨hk, hr, ho, ho0, hval⟩
 simp only at hk hr ho ho0 hval
 refine aq.aZ hT dM hm 60 ov Wa (by kernel_rfl) ?_
 simp only [aa.all, ay, decide_eq_true_eq, decide_eq_false_iff_not, Nat.add_zero, beq_iff_eq]
 have hbw : IntKind.u64.wrap (b : Int) = (b : Int) := wrap_u64 (by omega) (by omega)
 refine ⟨fun hb => ?_, fun hb s' hv => dS (bP ?_)⟩
 ·obtain ⟨j, rfl⟩ : ∃ j, k = j + 1 := ⟨k - 1, by omega⟩
  have e : (((j + 1 : Nat) : Int) - 1).toNat = j := by omega
  have hzj := cJ (N := A) (i := j)
  have hor := pS (a := r) (b := ax A j) (by omega) hzj
  rw [e, hor, hbw]
  have hq1 : (r * 4294967296 + ax A j) / b < 2 ^ 32 := by
   rw [Nat.div_lt_iff_lt_mul hb0]
   have : (r + 1) * 4294967296 ≤ b * 4294967296 := Nat.mul_le_mul_right _ hr
   omega
  have hdm := Nat.div_add_mod (r * 4294967296 + ax A j) b
  refine ⟨⟨by omega, by omega, by omega⟩, ⟨by omega, ⟨by omega, by omega⟩, by omega⟩, by omega, fun s' hv => ⟨(j, (r * 4294967296 + ax A j) % b, bJ o j ((r * 4294967296 + ax A j) / b)), cN hv ?_ ?_, ⟨by simp only; omega, Nat.mod_lt _ hb0, fH hq1 ho, fun i hi => ?_, ?_⟩, by simp only; omega⟩⟩
  ·rw [← Int.ofNat_tmod, wrap_i64 (by omega) (by omega), show ((j + 1 : Nat) : Int) - 1 - 1 = (j : Int) - 1 by omega]
  ·simp only [ct]
   congr 3
   funext i
   refine e9 ?_ i
   rw [← Int.ofNat_tdiv]
   clear hdm
   generalize (r * 4294967296 + ax A j) / b = q at hq1 ⊢
   rw [wrap_u64 (by omega) (by omega), wrap_u32 (by omega) (by omega)]
  ·exact (ej (by simp only at hi; omega)).trans (ho0 i (by simp only at hi; omega))
  ·simp only
   rw [oZ (by omega) (ho0 j (by omega))]
   rw [fu, val] at hval
   exact Ln hval hdm.symm
 ·have hk0 : k = 0 := by omega
  have hv2 : val (nl A) o * b + r = A := by rw [hk0] at hval; simpa [val] using hval
  refine aC.iE hT dM hm 60 hv (h0 _) rfl (fj (by omega)) S8 (by kernel_rfl) (by kernel_rfl) ?_
  simp only [aa.all, ay, Nat.add_zero, gV]
  obtain ⟨hdiv, hmod⟩ := Ih hv2 hr
  exact ⟨⟨eJ ho, hA⟩, cI (congrArg AV.mag hdiv.symm), bq (by rw [hmod, wrap_u32 (by omega) (by omega)]), trivial⟩
def D9 : Spec := bw fun l => match l with
 | [a, .int .u32 b] => match fZ a with
  | some A => some (aG (.tuple [.mag (A / b.toNat), .int .u32 (A % b.toNat : Nat)]) [nl A < 2 ^ 40, 0 < b, b < 2 ^ 32])
  | none => none
 | _ => none
theorem J9 : ∀ K args pre r, D9 K args pre = some r → aA P qB K args pre r := by
 refine bI fun K args r hk hs _ => ?_
 split at hs
 ·rename_i a b
  split at hs
  ·rename_i A hA
   simp only [Option.some.injEq] at hs
   subst hs
   intro need
   obtain ⟨h1, h2, h3⟩ : nl A < 2 ^ 40 ∧ 0 < b ∧ b < 2 ^ 32 := need
   obtain ⟨b, rfl⟩ := Int.eq_ofNat_of_zero_le (Int.le_of_lt h2)
   exact eR (Vm h1 (by omega) (by omega) K) hk ⟨jw hA, .refl _, trivial⟩ [] trivial
  ·simp at hs
 ·simp at hs
end Go.Am.B
