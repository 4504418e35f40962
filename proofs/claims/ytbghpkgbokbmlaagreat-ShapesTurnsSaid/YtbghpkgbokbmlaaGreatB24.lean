/- ref01: minus, Sub, Mul, byLimb. -/
import Derived.Test.YtbghpkgbokbmlaaGreatB23
set_option linter.unusedVariables false
namespace Go.Am.B
open Go Go.Am.N AV
theorem aaI : aN P qu mQ (au mQ) := aK YL (by kernel_rfl) (by kernel_rfl) (by kernel_rfl)
theorem Nu : aN P s6 uU (au uU) := aK Qo (by kernel_rfl) (by kernel_rfl) (by kernel_rfl)
theorem K4 : aN P oz iP (au iP) := aK OM (by kernel_rfl) (by kernel_rfl) (by kernel_rfl)
theorem X9 : aN P ov nw (au nw) := aK RB (by kernel_rfl) (by kernel_rfl) (by kernel_rfl)
abbrev kq : List Nat := [0, 1, 5, 6, 7]
abbrev qN (A B c i K : Nat) : List AV := [.mag A, .mag B, .own K 1 0 (nl A), .int .u64 c, .int .i64 i]
abbrev bZ (K n : Nat) (o : Nat → Nat) : aC := [(K, ⟨true, true, 1, n, ah o⟩)]
noncomputable abbrev Jr : Code := part (au mQ) [1,1,1,0,1,0,0]
theorem PL {A B : Nat} : aH T dw [] 60 kq (before (au mQ) [1,1,1,0,1]) ⟨aL 0 [.mag A, .mag B], [], 0⟩ =
  some (aa.af [(0 : Int) ≤ (↑(nl A) : Int) ∧ (↑(nl A) : Int) ≤ (↑(nl A) : Int) ∧ (↑(nl A) : Int) ≤ (2 : Int) ^ 47 ∧ (↑(nl A) : Int) * (↑(4 : Nat) : Int) ≤ (2 : Int) ^ 47] (aa.leaf aj.normal ([mag A, mag B, own 12288 1 0 (↑(nl A) : Int).toNat, int IntKind.u64 (0 : Int), int IntKind.i64 (0 : Int)], [((12288 : Nat), ⟨true, true, 1, (↑(nl A) : Int).toNat, fun (x : Nat) ↦ int IntKind.u32 (0 : Int)⟩)]))) := by kernel_rfl
theorem aal {A B c i : Nat} {o : Nat → Nat} : aH T dw [16, 23, 38] 60 kq [Jr] ⟨az kq (qN A B c i 12288), bZ 12288 (nl A) o, 12289⟩ =
  some (aa.fork (decide ((↑i : Int) < (↑(nl A) : Int))) (aa.fork (decide ((↑i : Int) < (↑(nl B) : Int))) (aa.af [(0 : Int) ≤ (↑i : Int) ∧ (↑i : Int).toNat < nl B] (aa.af [(0 : Int) ≤ (↑i : Int) ∧ (↑i : Int).toNat < nl A] (aa.fork (decide (IntKind.u64.wrap (↑(aq A (↑i : Int).toNat) : Int) < IntKind.u64.wrap ((↑c : Int) + IntKind.u64.wrap (↑(aq B (↑i : Int).toNat) : Int)))) (aa.af [(0 : Int) ≤ (↑i : Int) ∧ (↑i : Int).toNat < nl A, (↑i : Int).toNat + 0 < nl A] (aa.leaf aj.normal ([mag A, mag B, own 12288 1 0 (nl A), int IntKind.u64 (1 : Int), int IntKind.i64 (IntKind.i64.wrap ((↑i : Int) + (1 : Int)))], [((12288 : Nat), ⟨true, true, 1, nl A, fun (j : Nat) ↦ if (j == (↑i : Int).toNat + 0) = true then int IntKind.u32 (IntKind.u32.wrap (IntKind.u64.wrap (IntKind.u64.wrap (IntKind.u64.wrap (↑(aq A (↑i : Int).toNat) : Int) + (4294967296 : Int)) - IntKind.u64.wrap ((↑c : Int) + IntKind.u64.wrap (↑(aq B (↑i : Int).toNat) : Int))))) else ah o j⟩)]))) (aa.af [(0 : Int) ≤ (↑i : Int) ∧ (↑i : Int).toNat < nl A, (↑i : Int).toNat + 0 < nl A] (aa.leaf aj.normal ([mag A, mag B, own 12288 1 0 (nl A), int IntKind.u64 (0 : Int), int IntKind.i64 (IntKind.i64.wrap ((↑i : Int) + (1 : Int)))], [((12288 : Nat), ⟨true, true, 1, nl A, fun (j : Nat) ↦ if (j == (↑i : Int).toNat + 0) = true then int IntKind.u32 (IntKind.u32.wrap (IntKind.u64.wrap (IntKind.u64.wrap (↑(aq A (↑i : Int).toNat) : Int) - IntKind.u64.wrap ((↑c : Int) + IntKind.u64.wrap (↑(aq B (↑i : Int).toNat) : Int))))) else ah o j⟩)])))))) (aa.af [(0 : Int) ≤ (↑i : Int) ∧ (↑i : Int).toNat < nl A] (aa.fork (decide (IntKind.u64.wrap (↑(aq A (↑i : Int).toNat) : Int) < (↑c : Int))) (aa.af [(0 : Int) ≤ (↑i : Int) ∧ (↑i : Int).toNat < nl A, (↑i : Int).toNat + 0 < nl A] (aa.leaf aj.normal ([mag A, mag B, own 12288 1 0 (nl A), int IntKind.u64 (1 : Int), int IntKind.i64 (IntKind.i64.wrap ((↑i : Int) + (1 : Int)))], [((12288 : Nat), ⟨true, true, 1, nl A, fun (j : Nat) ↦ if (j == (↑i : Int).toNat + 0) = true then int IntKind.u32 (IntKind.u32.wrap (IntKind.u64.wrap (IntKind.u64.wrap (IntKind.u64.wrap (↑(aq A (↑i : Int).toNat) : Int) + (4294967296 : Int)) - (↑c : Int)))) else ah o j⟩)]))) (aa.af [(0 : Int) ≤ (↑i : Int) ∧ (↑i : Int).toNat < nl A, (↑i : Int).toNat + 0 < nl A] (aa.leaf aj.normal ([mag A, mag B, own 12288 1 0 (nl A), int IntKind.u64 (0 : Int), int IntKind.i64 (IntKind.i64.wrap ((↑i : Int) + (1 : Int)))], [((12288 : Nat), ⟨true, true, 1, nl A, fun (j : Nat) ↦ if (j == (↑i : Int).toNat + 0) = true then int IntKind.u32 (IntKind.u32.wrap (IntKind.u64.wrap (IntKind.u64.wrap (↑(aq A (↑i : Int).toNat) : Int) - (↑c : Int)))) else ah o j⟩)])))))) (aa.leaf (aj.exit 0) ([mag A, mag B, own 12288 1 0 (nl A), int IntKind.u64 (↑c : Int), int IntKind.i64 (↑i : Int)], [((12288 : Nat), ⟨true, true, 1, nl A, ah o⟩)]))) := by kernel_rfl
theorem WK {A B c i : Nat} {o : Nat → Nat} : bR T dw [] 60 mQ (behind (au mQ) [1,1,1,0,1]) ⟨az kq (qN A B c i 12288), bZ 12288 (nl A) o, 12289⟩ =
  some (aa.af [cH (nl A) fun (i : Nat) ↦ ah o (i + 0), nl A < 2 ^ 40] (aa.leaf aj.ret [mag (val (nl A) fun (i : Nat) ↦ numOf (ah o (i + 0)))])) := by kernel_rfl
abbrev ia : List Nat := [0, 1, 5, 6]
abbrev tn (A B i K : Nat) : List AV := [.mag A, .mag B, .own K 1 0 (nl A + nl B), .int .i64 i]
abbrev mJ : List Nat := [0, 1, 5, 6, 7, 8]
abbrev yu (A B i c j K : Nat) : List AV := [.mag A, .mag B, .own K 1 0 (nl A + nl B), .int .i64 i, .int .u64 c, .int .i64 j]
noncomputable abbrev mw : Code := part (au iP) [1,1,0,1,0,0]
noncomputable abbrev ow : Code := part mw [1,0,0]
theorem Qf {A B : Nat} : aH T dw [] 60 ia (before (au iP) [1,1,0,1]) ⟨aL 0 [.mag A, .mag B], [], 0⟩ =
  some (aa.af [(0 : Int) ≤ IntKind.i64.wrap ((↑(nl A) : Int) + (↑(nl B) : Int)) ∧ IntKind.i64.wrap ((↑(nl A) : Int) + (↑(nl B) : Int)) ≤ IntKind.i64.wrap ((↑(nl A) : Int) + (↑(nl B) : Int)) ∧ IntKind.i64.wrap ((↑(nl A) : Int) + (↑(nl B) : Int)) ≤ (2 : Int) ^ 47 ∧ IntKind.i64.wrap ((↑(nl A) : Int) + (↑(nl B) : Int)) * (↑(4 : Nat) : Int) ≤ (2 : Int) ^ 47] (aa.leaf aj.normal ([mag A, mag B, own 24576 1 0 (IntKind.i64.wrap ((↑(nl A) : Int) + (↑(nl B) : Int))).toNat, int IntKind.i64 (0 : Int)], [((24576 : Nat), ⟨true, true, 1, (IntKind.i64.wrap ((↑(nl A) : Int) + (↑(nl B) : Int))).toNat, fun (x : Nat) ↦ int IntKind.u32 (0 : Int)⟩)]))) := by kernel_rfl
theorem aaN {A B i : Nat} {o : Nat → Nat} : aH T dw [18] 60 ia [part mw [0]] ⟨az ia (tn A B i 24576), bZ 24576 (nl A + nl B) o, 24577⟩ =
  some (aa.fork (decide ((↑i : Int) < (↑(nl A) : Int))) (aa.leaf aj.normal ([mag A, mag B, own 24576 1 0 (nl A + nl B), int IntKind.i64 (↑i : Int)], [((24576 : Nat), ⟨true, true, 1, nl A + nl B, ah o⟩)])) (aa.leaf (aj.exit 0) ([mag A, mag B, own 24576 1 0 (nl A + nl B), int IntKind.i64 (↑i : Int)], [((24576 : Nat), ⟨true, true, 1, nl A + nl B, ah o⟩)]))) := by kernel_rfl
theorem VE {A B i : Nat} {o : Nat → Nat} : aH T dw [] 60 mJ (before ow [1,0,1]) ⟨az ia (tn A B i 24576), bZ 24576 (nl A + nl B) o, 24577⟩ =
  some (aa.leaf aj.normal ([mag A, mag B, own 24576 1 0 (nl A + nl B), int IntKind.i64 (↑i : Int), int IntKind.u64 (0 : Int), int IntKind.i64 (0 : Int)], [((24576 : Nat), ⟨true, true, 1, nl A + nl B, ah o⟩)])) := by kernel_rfl
theorem Q6 {A B i c j : Nat} {o : Nat → Nat} : aH T dw [24] 60 mJ [part ow [1,0,1,0,0]] ⟨az mJ (yu A B i c j 24576), bZ 24576 (nl A + nl B) o, 24577⟩ =
  some (aa.fork (decide ((↑j : Int) < (↑(nl B) : Int))) (aa.af [(0 : Int) ≤ (↑i : Int) ∧ (↑i : Int).toNat < nl A, (0 : Int) ≤ (↑j : Int) ∧ (↑j : Int).toNat < nl B, (0 : Int) ≤ IntKind.i64.wrap ((↑i : Int) + (↑j : Int)) ∧ (IntKind.i64.wrap ((↑i : Int) + (↑j : Int))).toNat < nl A + nl B, (IntKind.i64.wrap ((↑i : Int) + (↑j : Int))).toNat + 0 < nl A + nl B] (aa.af [(0 : Int) ≤ IntKind.i64.wrap ((↑i : Int) + (↑j : Int)) ∧ (IntKind.i64.wrap ((↑i : Int) + (↑j : Int))).toNat < nl A + nl B, (IntKind.i64.wrap ((↑i : Int) + (↑j : Int))).toNat + 0 < nl A + nl B] (aa.af [(0 : Int) ≤ (32 : Int)] (aa.leaf aj.normal ([mag A, mag B, own 24576 1 0 (nl A + nl B), int IntKind.i64 (↑i : Int), int IntKind.u64 ((IntKind.u64.wrap ((↑c : Int) + IntKind.u64.wrap (IntKind.u64.wrap (IntKind.u64.wrap (↑(aq A (↑i : Int).toNat) : Int) * IntKind.u64.wrap (↑(aq B (↑j : Int).toNat) : Int)) + IntKind.u64.wrap (↑(o ((IntKind.i64.wrap ((↑i : Int) + (↑j : Int))).toNat + 0)) : Int)))).fdiv ((2 : Int) ^ min (Int.toNat (32 : Int)) IntKind.u64.bits)), int IntKind.i64 (IntKind.i64.wrap ((↑j : Int) + (1 : Int)))], [((24576 : Nat), ⟨true, true, 1, nl A + nl B, fun (j_1 : Nat) ↦ if (j_1 == (IntKind.i64.wrap ((↑i : Int) + (↑j : Int))).toNat + 0) = true then int IntKind.u32 (IntKind.u32.wrap (IntKind.u64.wrap ((↑c : Int) + IntKind.u64.wrap (IntKind.u64.wrap (IntKind.u64.wrap (↑(aq A (↑i : Int).toNat) : Int) * IntKind.u64.wrap (↑(aq B (↑j : Int).toNat) : Int)) + IntKind.u64.wrap (↑(o ((IntKind.i64.wrap ((↑i : Int) + (↑j : Int))).toNat + 0)) : Int))))) else ah o j_1⟩)]))))) (aa.leaf (aj.exit 2) ([mag A, mag B, own 24576 1 0 (nl A + nl B), int IntKind.i64 (↑i : Int), int IntKind.u64 (↑c : Int), int IntKind.i64 (↑j : Int)], [((24576 : Nat), ⟨true, true, 1, nl A + nl B, ah o⟩)]))) := by kernel_rfl
theorem Uf {A B i c j : Nat} {o : Nat → Nat} : aH T dw [] 60 ia (behind ow [1,0,1]) ⟨az mJ (yu A B i c j 24576), bZ 24576 (nl A + nl B) o, 24577⟩ =
  some (aa.af [(0 : Int) ≤ IntKind.i64.wrap ((↑i : Int) + (↑(nl B) : Int)) ∧ (IntKind.i64.wrap ((↑i : Int) + (↑(nl B) : Int))).toNat < nl A + nl B, (IntKind.i64.wrap ((↑i : Int) + (↑(nl B) : Int))).toNat + 0 < nl A + nl B] (aa.leaf aj.normal ([mag A, mag B, own 24576 1 0 (nl A + nl B), int IntKind.i64 (↑i : Int)], [((24576 : Nat), ⟨true, true, 1, nl A + nl B, fun (j : Nat) ↦ if (j == (IntKind.i64.wrap ((↑i : Int) + (↑(nl B) : Int))).toNat + 0) = true then int IntKind.u32 (IntKind.u32.wrap (↑c : Int)) else ah o j⟩)]))) := by kernel_rfl
theorem LB {A B i : Nat} {o : Nat → Nat} : aH T dw [] 60 ia [part mw [1,1]] ⟨az ia (tn A B i 24576), bZ 24576 (nl A + nl B) o, 24577⟩ =
  some (aa.leaf aj.normal ([mag A, mag B, own 24576 1 0 (nl A + nl B), int IntKind.i64 (IntKind.i64.wrap ((↑i : Int) + (1 : Int)))], [((24576 : Nat), ⟨true, true, 1, nl A + nl B, ah o⟩)])) := by kernel_rfl
theorem Mr {A B i : Nat} {o : Nat → Nat} : bR T dw [] 60 iP (behind (au iP) [1,1,0,1]) ⟨az ia (tn A B i 24576), bZ 24576 (nl A + nl B) o, 24577⟩ =
  some (aa.af [cH (nl A + nl B) fun (i : Nat) ↦ ah o (i + 0), nl A + nl B < 2 ^ 40] (aa.leaf aj.ret [mag (val (nl A + nl B) fun (i : Nat) ↦ numOf (ah o (i + 0)))])) := by kernel_rfl
abbrev nI : List Nat := [0, 1, 6, 7, 8]
abbrev Al (A b r k K : Nat) : List AV := [.mag A, .int .u32 b, .own K 1 0 (nl A), .int .u64 r, .int .i64 ((k : Int) - 1)]
noncomputable abbrev HS : Code := part (au nw) [1,1,1,0,1,0,0]
theorem UD {A b : Nat} : aH T dw [] 60 nI (before (au nw) [1,1,1,0,1]) ⟨aL 0 [.mag A, .int .u32 b], [], 0⟩ =
  some (aa.af [(0 : Int) ≤ (↑(nl A) : Int) ∧ (↑(nl A) : Int) ≤ (↑(nl A) : Int) ∧ (↑(nl A) : Int) ≤ (2 : Int) ^ 47 ∧ (↑(nl A) : Int) * (↑(4 : Nat) : Int) ≤ (2 : Int) ^ 47] (aa.leaf aj.normal ([mag A, int IntKind.u32 (↑b : Int), own 16384 1 0 (↑(nl A) : Int).toNat, int IntKind.u64 (0 : Int), int IntKind.i64 (IntKind.i64.wrap ((↑(nl A) : Int) - (1 : Int)))], [((16384 : Nat), ⟨true, true, 1, (↑(nl A) : Int).toNat, fun (x : Nat) ↦ int IntKind.u32 (0 : Int)⟩)]))) := by kernel_rfl
theorem T9 {A b r k : Nat} {o : Nat → Nat} : aH T dw [16] 60 nI [HS] ⟨az nI (Al A b r k 16384), bZ 16384 (nl A) o, 16385⟩ =
  some (aa.fork (decide ((↑k : Int) - (1 : Int) ≥ (0 : Int))) (aa.af [(0 : Int) ≤ (32 : Int), (0 : Int) ≤ (↑k : Int) - (1 : Int) ∧ ((↑k : Int) - (1 : Int)).toNat < nl A] (aa.af [IntKind.u64.wrap (↑b : Int) ≠ (0 : Int), (0 : Int) ≤ (↑k : Int) - (1 : Int) ∧ ((↑k : Int) - (1 : Int)).toNat < nl A, ((↑k : Int) - (1 : Int)).toNat + 0 < nl A] (aa.af [IntKind.u64.wrap (↑b : Int) ≠ (0 : Int)] (aa.leaf aj.normal ([mag A, int IntKind.u32 (↑b : Int), own 16384 1 0 (nl A), int IntKind.u64 ((IntKind.u64.wrap (↑(BitVec.ofInt IntKind.u64.bits (IntKind.u64.wrap ((↑r : Int) * (2 : Int) ^ min (Int.toNat (32 : Int)) IntKind.u64.bits)) ||| BitVec.ofInt IntKind.u64.bits (IntKind.u64.wrap (↑(aq A ((↑k : Int) - (1 : Int)).toNat) : Int))).toNat : Int)).tmod (IntKind.u64.wrap (↑b : Int))), int IntKind.i64 (IntKind.i64.wrap ((↑k : Int) - (1 : Int) - (1 : Int)))], [((16384 : Nat), ⟨true, true, 1, nl A, fun (j : Nat) ↦ if (j == ((↑k : Int) - (1 : Int)).toNat + 0) = true then int IntKind.u32 (IntKind.u32.wrap (IntKind.u64.wrap ((IntKind.u64.wrap (↑(BitVec.ofInt IntKind.u64.bits (IntKind.u64.wrap ((↑r : Int) * (2 : Int) ^ min (Int.toNat (32 : Int)) IntKind.u64.bits)) ||| BitVec.ofInt IntKind.u64.bits (IntKind.u64.wrap (↑(aq A ((↑k : Int) - (1 : Int)).toNat) : Int))).toNat : Int)).tdiv (IntKind.u64.wrap (↑b : Int))))) else ah o j⟩)]))))) (aa.leaf (aj.exit 0) ([mag A, int IntKind.u32 (↑b : Int), own 16384 1 0 (nl A), int IntKind.u64 (↑r : Int), int IntKind.i64 ((↑k : Int) - (1 : Int))], [((16384 : Nat), ⟨true, true, 1, nl A, ah o⟩)]))) := by kernel_rfl
theorem NS {A b r k : Nat} {o : Nat → Nat} : bR T dw [] 60 nw (behind (au nw) [1,1,1,0,1]) ⟨az nI (Al A b r k 16384), bZ 16384 (nl A) o, 16385⟩ =
  some (aa.af [cH (nl A) fun (i : Nat) ↦ ah o (i + 0), nl A < 2 ^ 40] (aa.leaf aj.ret [mag (val (nl A) fun (i : Nat) ↦ numOf (ah o (i + 0))), int IntKind.u32 (IntKind.u32.wrap (↑r : Int))])) := by kernel_rfl
def Dg : aO := [(lS, sY), (qu, jD (fun A B => .mag (A - B)) fun A B => [B ≤ A, nl A < 2 ^ 40])]
theorem PX {A B : Nat} : bA T Dg [9] 60 uU (au uU) ⟨aL 0 [.mag A, .mag B], [], 0⟩ =
  some (aa.af [nl A < 2 ^ 40, nl B < 2 ^ 40] (aa.fork (decide (bK A B < (0 : Int))) (aa.leaf aj.ret [nil, int IntKind.i64 (7 : Int)]) (aa.af [B ≤ A, nl A < 2 ^ 40] (aa.leaf aj.ret [mag (A - B), int IntKind.i64 (0 : Int)])))) := by kernel_rfl
theorem fj {K n nx : Nat} {o : Nat → Nat} (h : K < nx) : fo nx (bZ K n o) := ⟨⟨h, fun _ _ => rfl⟩, trivial⟩
theorem Mh {vo va vb ai x c b' un u' B : Nat} (hx : x = c + b') (hu : un + x = ai + 4294967296 * u') (h : va + c * B = vo + vb) : va + ai * B + u' * (4294967296 * B) = vo + un * B + (vb + b' * B) := by
 have e : (un + x) * B = (ai + 4294967296 * u') * B := by rw [hu]
 subst hx
 grind
theorem Ij {A B : Nat} (hAB : B ≤ A) (hA : nl A < 2 ^ 40) (K : Nat) : aA P qu K [.mag A, .mag B] [] (aG (.mag (A - B)) []) := by
 have hB : nl B ≤ nl A := fc hAB
 refine eZ hT aaI rfl (of_decide_eq_true (by kernel_rfl)) rfl (fun _ c0 h0 => ?_) K []
 refine ak.hole [1,1,1,0,1] (by kernel_rfl) (ay.aY hT dF hm 60 kq PL (by kernel_rfl) ?_)
 simp only [aa.all, ax, Int.toNat_natCast]
 refine ⟨by omega, fun s' hv => bG ?_⟩
 refine ak.fu (i := 0) (y := Jr) (by kernel_rfl) kq 12289 (h0 _) (fun p : Nat × Nat × (Nat → Nat) => qN A B p.2.1 p.1 12288) (fun p => bZ 12288 (nl A) p.2.2) (fun _ => rfl) (fun _ => fj (by omega))
  (fun p => p.1 ≤ nl A ∧ p.2.1 ≤ 1 ∧ (∀ j, j < nl A → p.2.2 j < 2 ^ 32) ∧ val p.1 (aq A) + p.2.1 * 2 ^ (32 * p.1) = val p.1 p.2.2 + val p.1 (aq B))
  (fun p => nl A - p.1) (0, 0, fun _ => 0) hv ⟨by simp, by simp, fun _ _ => by simp, by simp [val]⟩ ?_
 rintro ⟨i, c, o⟩ ⟨hi, hc, ho, hval⟩
 simp only at hi hc ho hval
 refine ak.aY hT dF hm 60 kq aal (by kernel_rfl) ?_
 have la := cA (N := A) (i := i)
 have lb := cA (N := B) (i := i)
 have wa : IntKind.u64.wrap (aq A i : Int) = ((aq A i : Nat) : Int) := bz (by omega) (by omega)
 have wb : IntKind.u64.wrap (aq B i : Int) = ((aq B i : Nat) : Int) := bz (by omega) (by omega)
 have w1 : IntKind.u64.wrap ((c : Int) + ((aq B i : Nat) : Int)) = ((c + aq B i : Nat) : Int) := by rw [bz (by omega) (by omega)]; omega
 have w2 : IntKind.u64.wrap (((aq A i : Nat) : Int) + 4294967296) = ((aq A i + 4294967296 : Nat) : Int) := by rw [bz (by omega) (by omega)]; omega
 have w3 : IntKind.i64.wrap ((i : Int) + 1) = ((i + 1 : Nat) : Int) := by rw [wrap_i64 (by omega) (by omega)]; omega
 simp only [aa.all, ax, decide_eq_true_eq, decide_eq_false_iff_not, Int.toNat_natCast, Nat.add_zero, beq_iff_eq]
 rw [wa, wb, w1, w2, w3]
 -- what is put down
 have next : ∀ {s' : aE} {x u' : Nat} {v : Int}, i < nl A → x = c + aq B i → u' ≤ 1 → x ≤ aq A i + 4294967296 * u' → aq A i + 4294967296 * u' < x + 4294967296 → v = ((aq A i + 4294967296 * u' - x : Nat) : Int) →
   aR kq s' = some (qN A B u' (i + 1) 12288, [(12288, ⟨true, true, 1, nl A, fun j => if j = i then .int .u32 (IntKind.u32.wrap (IntKind.u64.wrap v)) else ah o j⟩)]) →
   ∃ k : Nat × Nat × (Nat → Nat), aR kq s' = some (qN A B k.2.1 k.1 12288, bZ 12288 (nl A) k.2.2) ∧ (k.1 ≤ nl A ∧ k.2.1 ≤ 1 ∧ (∀ j, j < nl A → k.2.2 j < 2 ^ 32) ∧ val k.1 (aq A) + k.2.1 * 2 ^ (32 * k.1) = val k.1 k.2.2 + val k.1 (aq B)) ∧ nl A - k.1 < nl A - i := by
  intro s' x u' v hin hx hu1 h1 h2 hv1 hv
  refine ⟨(i + 1, u', bE o i (aq A i + 4294967296 * u' - x)), cD hv rfl ?_, ⟨by simp only; omega, hu1, fD (by omega) ho, ?_⟩, by simp only; omega⟩
  ·simp only [bZ]
   congr 3
   funext k
   exact ff (by rw [hv1, bz (by omega) (by omega), wrap_u32 (by omega) (by omega)]) k
  ·simp only
   rw [n6, val, val, fA]
   exact Mh (b' := aq B i) (x := x) hx (by omega) hval
 refine ⟨fun hb => ⟨fun hb2 => ⟨by omega, by omega, fun h3 => ⟨⟨by omega, by omega⟩, fun s' hv => ?_⟩, fun h3 => ⟨⟨by omega, by omega⟩, fun s' hv => ?_⟩⟩, fun hb2 => ⟨by omega, fun h3 => ⟨⟨by omega, by omega⟩, fun s' hv => ?_⟩, fun h3 => ⟨⟨by omega, by omega⟩, fun s' hv => ?_⟩⟩⟩, fun hb s' hv => dK (bG ?_)⟩
 ·exact next (u' := 1) (by omega) rfl (by omega) (by omega) (by omega) (by omega) hv
 ·exact next (u' := 0) (by omega) rfl (by omega) (by omega) (by omega) (by omega) hv
 ·exact next (u' := 1) (x := c) (by omega) (by rw [gf (A := B) (by omega)]; rfl) (by omega) (by omega) (by omega) (by omega) hv
 ·exact next (u' := 0) (x := c) (by omega) (by rw [gf (A := B) (by omega)]; rfl) (by omega) (by omega) (by omega) (by omega) hv
 ·have hin : i = nl A := by omega
  refine ay.gQ hT dF hm 60 hv (h0 _) rfl (fj (by omega)) WK (by kernel_rfl) (by kernel_rfl) ?_
  simp only [aa.all, ax, Nat.add_zero, gC]
  refine ⟨⟨eJ ho, hA⟩, cW (congrArg AV.mag ?_)⟩
  rw [hin, eB, k8 (cj.1 hB)] at hval
  have hlt := eo ho
  have : c = 0 := by
   rcases Nat.eq_zero_or_pos c with h | h
   ·exact h
   ·exfalso
    have h1 : 1 * 2 ^ (32 * nl A) ≤ c * 2 ^ (32 * nl A) := Nat.mul_le_mul_right _ h
    omega
  rw [this] at hval
  omega
theorem OS : aV P Dg := aD yw (aD (mb fun h => Ij h.1 h.2) aU)
theorem O4 {A B : Nat} (hA : nl A < 2 ^ 40) (hB : nl B < 2 ^ 40) (K : Nat) : aA P s6 K [.mag A, .mag B] [] (aG (.tuple [.mag (A - B), .int .i64 (if A < B then 7 else 0)]) []) := by
 refine bD hT OS hm Nu rfl (of_decide_eq_true (by kernel_rfl)) rfl 60 PX (fun _ => ?_) K []
 simp only [aa.all, ax, decide_eq_true_eq, decide_eq_false_iff_not, xM]
 refine ⟨⟨hA, hB⟩, fun h => ⟨?_, bn (by rw [if_pos h]), trivial⟩, fun h => ⟨⟨by omega, hA⟩, .refl _, bn (by rw [if_neg h]), trivial⟩⟩
 rw [Nat.sub_eq_zero_of_le (by omega)]; exact g9
def D7 : Spec := jD (fun A B => .tuple [.mag (A - B), .int .i64 (if A < B then 7 else 0)]) Bh
theorem TC : ∀ K args pre r, D7 K args pre = some r → aA P s6 K args pre r := mb fun h => O4 h.1 h.2
theorem aax {A B : Nat} (hA : nl A < 2 ^ 39) (hB : nl B < 2 ^ 39) (K : Nat) : aA P oz K [.mag A, .mag B] [] (aG (.mag (A * B)) []) := by
 refine eZ hT K4 rfl (of_decide_eq_true (by kernel_rfl)) rfl (fun _ c0 h0 => ?_) K []
 refine ak.hole [1,1,0,1] (by kernel_rfl) (ay.aY hT dF hm 60 ia Qf (by kernel_rfl) ?_)
 have hw : IntKind.i64.wrap ((nl A : Int) + (nl B : Int)) = ((nl A + nl B : Nat) : Int) := dh (by omega) (by omega)
 rw [hw]
 simp only [aa.all, ax, Int.toNat_natCast]
 refine ⟨by omega, fun s' hv => bG ?_⟩
 refine ak.fu (i := 0) (y := mw) (by kernel_rfl) ia 24577 (h0 _) (fun p : Nat × (Nat → Nat) => tn A B p.1 24576) (fun p => bZ 24576 (nl A + nl B) p.2) (fun _ => rfl) (fun _ => fj (by omega))
  (fun p => p.1 ≤ nl A ∧ (∀ j, j < nl A + nl B → p.2 j < 2 ^ 32) ∧ (∀ j, p.1 + nl B ≤ j → p.2 j = 0) ∧ val (nl A + nl B) p.2 = val p.1 (aq A) * B)
  (fun p => nl A - p.1) (0, fun _ => 0) hv ⟨by simp, fun _ _ => by simp, fun _ _ => rfl, ?_⟩ ?_
 ·simp only
  rw [val_zero fun _ _ => rfl]
  simp [val]
 rintro ⟨i, o⟩ ⟨hi, ho, ho0, hval⟩
 simp only at hi ho ho0 hval
 refine ak.hole [0] (by kernel_rfl) (show ak P c0 iP.ntmps (part mw [0]) _ _ from ak.aY hT dF hm 60 ia aaN (by kernel_rfl) ?_)
 simp only [aa.all, decide_eq_true_eq, decide_eq_false_iff_not]
 refine ⟨fun h1 s' hv => bG ?_, fun h1 s' hv => nk (dK (bG ?_))⟩
 ·have hin : i < nl A := by omega
  have la := cA (N := A) (i := i)
  show ay P c0 iP.ntmps [part mw [1]] s' _
  refine ak.hole [0] (by kernel_rfl) ?_
  show ak P c0 iP.ntmps (part mw [1,0]) s' _
  refine ak.lJ (i := 1) (y := ow) (by kernel_rfl) (ak.gX hv (h0 24577) rfl (fj (by omega)) ?_)
  refine ak.hole [1,0,1] (by kernel_rfl) (ay.aY hT dF hm 60 mJ VE (by kernel_rfl) fun s' hv => bG ?_)
  refine ak.fu (i := 2) (y := part ow [1,0,1,0,0]) (by kernel_rfl) mJ 24577 (h0 _) (fun p : Nat × Nat × (Nat → Nat) => yu A B i p.2.1 p.1 24576) (fun p => bZ 24576 (nl A + nl B) p.2.2) (fun _ => rfl) (fun _ => fj (by omega))
   (fun p => p.1 ≤ nl B ∧ p.2.1 < 2 ^ 32 ∧ (∀ j, j < nl A + nl B → p.2.2 j < 2 ^ 32) ∧ (∀ j, i + nl B ≤ j → p.2.2 j = 0) ∧ val (nl A + nl B) p.2.2 + p.2.1 * 2 ^ (32 * (i + p.1)) = val i (aq A) * B + aq A i * val p.1 (aq B) * 2 ^ (32 * i))
   (fun p => nl B - p.1) (0, 0, o) hv ⟨by simp, by simp, ho, ho0, by simp [val, hval]⟩ ?_
  rintro ⟨j, c, o⟩ ⟨hj, hc, ho, ho0, hval⟩
  simp only at hj hc ho ho0 hval
  refine ak.aY hT dF hm 60 mJ Q6 (by kernel_rfl) ?_
  have hij : IntKind.i64.wrap ((i : Int) + (j : Int)) = ((i + j : Nat) : Int) := dh (by omega) (by omega)
  have lb := cA (N := B) (i := j)
  simp only [aa.all, ax, decide_eq_true_eq, decide_eq_false_iff_not, hij, Int.toNat_natCast, Nat.add_zero, beq_iff_eq]
  refine ⟨fun h2 => ?_, fun h2 s' hv => dK ?_⟩
  ·have hjm : j < nl B := by omega
   obtain ⟨m1, m2, m3⟩ := HT hc la lb (ho (i + j) (by omega))
   rw [m1]
   refine ⟨⟨by omega, by omega, by omega, by omega⟩, ⟨by omega, by omega⟩, by omega, fun s' hv => ⟨(j + 1, (c + aq A i * aq B j + o (i + j)) / 4294967296, bE o (i + j) ((c + aq A i * aq B j + o (i + j)) % 4294967296)), cD hv ?_ ?_, ⟨by simp only; omega, m3, fD (by omega) ho, fun k hk => ?_, ?_⟩, by simp only; omega⟩⟩
   ·rw [iV, dh (a := (j : Int) + 1) (n := j + 1) (by omega) (by omega)]
    simp only [yu, List.cons.injEq, AV.int.injEq, and_true, true_and]
    omega
   ·simp only [bZ]
    congr 3
    funext k
    exact ff (by rw [gx]) k
   ·exact (eg (by omega)).trans (ho0 k hk)
   ·simp only
    rw [show 32 * (i + (j + 1)) = 32 * ((i + j) + 1) by omega, fA, val]
    have hset := Bm (o := o) (x := (c + aq A i * aq B j + o (i + j)) % 4294967296) (show i + j < nl A + nl B by omega)
    exact Iy rfl (Nat.div_add_mod _ _) hset (by rw [← Nat.pow_add]; congr 1; omega) hval
  ·show ay P c0 iP.ntmps (behind ow [1,0,1]) s' _
   have hjm : j = nl B := by omega
   have hib : IntKind.i64.wrap ((i : Int) + (nl B : Int)) = ((i + nl B : Nat) : Int) := dh (by omega) (by omega)
   refine ay.dJ hT dF hm 60 hv (h0 24577) rfl (fj (by omega)) ia Uf (by kernel_rfl) (by kernel_rfl) ?_
   rw [hib]
   simp only [aa.all, ax, Int.toNat_natCast, Nat.add_zero, beq_iff_eq]
   refine ⟨⟨by omega, by omega⟩, fun s' hv => ?_⟩
   have hf : (fun k => if k = i + nl B then AV.int .u32 (IntKind.u32.wrap (c : Int)) else ah o k) = ah (bE o (i + nl B) c) := by
    funext k
    exact ff (wrap_u32 (by omega) (by omega)) k
   rw [hf] at hv
   show ay P c0 iP.ntmps [part mw [1,1]] s' _
   refine ay.dJ hT dF hm 60 hv (h0 24577) rfl (fj (by omega)) ia LB (by kernel_rfl) (by kernel_rfl) fun s' hv => bG ?_
   refine ⟨(i + 1, bE o (i + nl B) c), cD hv ?_ rfl, ⟨by simp only; omega, fD hc ho, fun k hk => (eg (by simp only at hk; omega)).trans (ho0 k (by simp only at hk; omega)), ?_⟩, by simp only; omega⟩
   ·rw [dh (a := (i : Int) + 1) (n := i + 1) (by omega) (by omega)]
   ·simp only
    rw [hjm, eB] at hval
    rw [nF (by omega) (ho0 _ (by omega)), hval, val, Nat.add_mul, Nat.mul_assoc, Nat.mul_assoc, Nat.mul_comm B]
 ·have hin : i = nl A := by omega
  refine ay.gQ hT dF hm 60 hv (h0 _) rfl (fj (by omega)) Mr (by kernel_rfl) (by kernel_rfl) ?_
  simp only [aa.all, ax, Nat.add_zero, gC]
  refine ⟨⟨eJ ho, by omega⟩, cW (congrArg AV.mag ?_)⟩
  rw [hval, hin, eB]
def z6 : Spec := jD (fun A B => .mag (A * B)) fun A B => [nl A < 2 ^ 39, nl B < 2 ^ 39]
theorem Fa : ∀ K args pre r, z6 K args pre = some r → aA P oz K args pre r := mb fun h => aax h.1 h.2
theorem IF {v b r A : Nat} (h : v * b + r = A) (hr : r < b) : A / b = v ∧ A % b = r := by
 subst h
 refine ⟨?_, ?_⟩
 ·rw [Nat.mul_comm, Nat.mul_add_div (by omega), Nat.div_eq_of_lt hr, Nat.add_zero]
 ·rw [Nat.mul_comm, Nat.mul_add_mod, Nat.mod_eq_of_lt hr]
theorem PF {A b : Nat} (hA : nl A < 2 ^ 40) (hb0 : 0 < b) (hb32 : b < 2 ^ 32) (K : Nat) : aA P ov K [.mag A, .int .u32 b] [] (aG (.tuple [.mag (A / b), .int .u32 (A % b : Nat)]) []) := by
 refine eZ hT X9 rfl (of_decide_eq_true (by kernel_rfl)) rfl (fun _ c0 h0 => ?_) K []
 refine ak.hole [1,1,1,0,1] (by kernel_rfl) (ay.aY hT dF hm 60 nI UD (by kernel_rfl) ?_)
 simp only [aa.all, ax, Int.toNat_natCast]
 refine ⟨by omega, fun s' hv => bG ?_⟩
 refine ak.fu (i := 0) (y := HS) (by kernel_rfl) nI 16385 (h0 _) (fun p : Nat × Nat × (Nat → Nat) => Al A b p.2.1 p.1 16384) (fun p => bZ 16384 (nl A) p.2.2) (fun _ => rfl) (fun _ => fj (by omega))
  (fun p => p.1 ≤ nl A ∧ p.2.1 < b ∧ (∀ j, j < nl A → p.2.2 j < 2 ^ 32) ∧ (∀ j, j < p.1 → p.2.2 j = 0) ∧ val (nl A) p.2.2 * b + p.2.1 * 2 ^ (32 * p.1) + val p.1 (aq A) = A)
  (fun p => p.1) (nl A, 0, fun _ => 0) (cD hv (by rw [wrap_i64 (by omega) (by omega)]; rfl) rfl) ⟨by simp, hb0, fun j _ => by simp, fun j _ => rfl, ?_⟩ ?_
 ·simp only
  rw [val_zero fun _ _ => rfl, eB]
  simp
 rintro ⟨k, r, o⟩ ⟨hk, hr, ho, ho0, hval⟩
 simp only at hk hr ho ho0 hval
 refine ak.aY hT dF hm 60 nI T9 (by kernel_rfl) ?_
 simp only [aa.all, ax, decide_eq_true_eq, decide_eq_false_iff_not, Nat.add_zero, beq_iff_eq]
 have hbw : IntKind.u64.wrap (b : Int) = (b : Int) := bz (by omega) (by omega)
 refine ⟨fun hb => ?_, fun hb s' hv => dK (bG ?_)⟩
 ·obtain ⟨j, rfl⟩ : ∃ j, k = j + 1 := ⟨k - 1, by omega⟩
  have e : (((j + 1 : Nat) : Int) - 1).toNat = j := by omega
  have hzj := cA (N := A) (i := j)
  have hor := p8 (a := r) (b := aq A j) (by omega) hzj
  rw [e, hor, hbw]
  have hq1 : (r * 4294967296 + aq A j) / b < 2 ^ 32 := by
   rw [Nat.div_lt_iff_lt_mul hb0]
   have : (r + 1) * 4294967296 ≤ b * 4294967296 := Nat.mul_le_mul_right _ hr
   omega
  have hdm := Nat.div_add_mod (r * 4294967296 + aq A j) b
  refine ⟨⟨by omega, by omega, by omega⟩, ⟨by omega, ⟨by omega, by omega⟩, by omega⟩, by omega, fun s' hv => ⟨(j, (r * 4294967296 + aq A j) % b, bE o j ((r * 4294967296 + aq A j) / b)), cD hv ?_ ?_, ⟨by simp only; omega, Nat.mod_lt _ hb0, fD hq1 ho, fun i hi => ?_, ?_⟩, by simp only; omega⟩⟩
  ·rw [← Int.ofNat_tmod, wrap_i64 (by omega) (by omega), show ((j + 1 : Nat) : Int) - 1 - 1 = (j : Int) - 1 by omega]
  ·simp only [bZ]
   congr 3
   funext i
   refine ff ?_ i
   rw [← Int.ofNat_tdiv]
   clear hdm
   generalize (r * 4294967296 + aq A j) / b = q at hq1 ⊢
   rw [bz (by omega) (by omega), wrap_u32 (by omega) (by omega)]
  ·exact (eg (by simp only at hi; omega)).trans (ho0 i (by simp only at hi; omega))
  ·simp only
   rw [nF (by omega) (ho0 j (by omega))]
   rw [fA, val] at hval
   exact CR hval hdm.symm
 ·have hk0 : k = 0 := by omega
  have hv2 : val (nl A) o * b + r = A := by rw [hk0] at hval; simpa [val] using hval
  refine ay.gQ hT dF hm 60 hv (h0 _) rfl (fj (by omega)) NS (by kernel_rfl) (by kernel_rfl) ?_
  simp only [aa.all, ax, Nat.add_zero, gC]
  obtain ⟨hdiv, hmod⟩ := IF hv2 hr
  exact ⟨⟨eJ ho, hA⟩, cW (congrArg AV.mag hdiv.symm), bn (by rw [hmod, wrap_u32 (by omega) (by omega)]), trivial⟩
def Cb : Spec := bp fun l => match l with
 | [a, .int .u32 b] => match fW a with
  | some A => some (aG (.tuple [.mag (A / b.toNat), .int .u32 (A % b.toNat : Nat)]) [nl A < 2 ^ 40, 0 < b, b < 2 ^ 32])
  | none => none
 | _ => none
theorem DE : ∀ K args pre r, Cb K args pre = some r → aA P ov K args pre r := by
 refine bF fun K args r hk hs _ => ?_
 split at hs
 ·rename_i a b
  split at hs
  ·rename_i A hA
   simp only [Option.some.injEq] at hs
   subst hs
   intro need
   obtain ⟨h1, h2, h3⟩ : nl A < 2 ^ 40 ∧ 0 < b ∧ b < 2 ^ 32 := need
   obtain ⟨b, rfl⟩ := Int.eq_ofNat_of_zero_le (Int.le_of_lt h2)
   exact fk (PF h1 (by omega) (by omega) K) hk ⟨iF hA, .refl _, trivial⟩ [] trivial
  ·simp at hs
 ·simp at hs
end Go.Am.B
