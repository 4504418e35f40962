/- ref01: minus, Sub, Mul, byLimb. -/
import Derived.Test.YtbghpkgbokbmlaaGreatB23
set_option linter.unusedVariables false
namespace Go.Am.B
open Go Go.Am.N AV
theorem Vj : aO P qD mc (au mc) := aL TO (by kernel_rfl) (by kernel_rfl) (by kernel_rfl)
theorem R8 : aO P ru sA (au sA) := aL Om (by kernel_rfl) (by kernel_rfl) (by kernel_rfl)
theorem Kr : aO P mQ g7 (au g7) := aL J4 (by kernel_rfl) (by kernel_rfl) (by kernel_rfl)
theorem KB : aO P n6 l7 (au l7) := aL Sa (by kernel_rfl) (by kernel_rfl) (by kernel_rfl)
abbrev jP : List Nat := [0, 1, 5, 6, 7]
abbrev qU (A B c i K : Nat) : List AV := [.mag A, .mag B, .own K 1 0 (nl A), .int .u64 c, .int .i64 i]
abbrev bT (K n : Nat) (o : Nat → Nat) : aC := [(K, ⟨true, true, 1, n, ag o⟩)]
noncomputable abbrev Ff : Code := part (au mc) [1,1,1,0,1,0,0]
theorem RZ {A B : Nat} : aI T cT [] 60 jP (before (au mc) [1,1,1,0,1]) ⟨aM 0 [.mag A, .mag B], [], 0⟩ =
  some (aa.af [(0 : Int) ≤ (↑(nl A) : Int) ∧ (↑(nl A) : Int) ≤ (↑(nl A) : Int) ∧ (↑(nl A) : Int) ≤ (2 : Int) ^ 47 ∧ (↑(nl A) : Int) * (↑(4 : Nat) : Int) ≤ (2 : Int) ^ 47] (aa.leaf ah.normal ([mag A, mag B, own 12288 1 0 (↑(nl A) : Int).toNat, int IntKind.u64 (0 : Int), int IntKind.i64 (0 : Int)], [((12288 : Nat), ⟨true, true, 1, (↑(nl A) : Int).toNat, fun (x : Nat) ↦ int IntKind.u32 (0 : Int)⟩)]))) := by kernel_rfl
theorem Mb {A B c i : Nat} {o : Nat → Nat} : aI T cT [16, 23, 38] 60 jP [Ff] ⟨aB jP (qU A B c i 12288), bT 12288 (nl A) o, 12289⟩ =
  some (aa.fork (decide ((↑i : Int) < (↑(nl A) : Int))) (aa.fork (decide ((↑i : Int) < (↑(nl B) : Int))) (aa.af [(0 : Int) ≤ (↑i : Int) ∧ (↑i : Int).toNat < nl B] (aa.af [(0 : Int) ≤ (↑i : Int) ∧ (↑i : Int).toNat < nl A] (aa.fork (decide (IntKind.u64.wrap (↑(aj A (↑i : Int).toNat) : Int) < IntKind.u64.wrap ((↑c : Int) + IntKind.u64.wrap (↑(aj B (↑i : Int).toNat) : Int)))) (aa.af [(0 : Int) ≤ (↑i : Int) ∧ (↑i : Int).toNat < nl A, (↑i : Int).toNat + 0 < nl A] (aa.leaf ah.normal ([mag A, mag B, own 12288 1 0 (nl A), int IntKind.u64 (1 : Int), int IntKind.i64 (IntKind.i64.wrap ((↑i : Int) + (1 : Int)))], [((12288 : Nat), ⟨true, true, 1, nl A, fun (j : Nat) ↦ if (j == (↑i : Int).toNat + 0) = true then int IntKind.u32 (IntKind.u32.wrap (IntKind.u64.wrap (IntKind.u64.wrap (IntKind.u64.wrap (↑(aj A (↑i : Int).toNat) : Int) + (4294967296 : Int)) - IntKind.u64.wrap ((↑c : Int) + IntKind.u64.wrap (↑(aj B (↑i : Int).toNat) : Int))))) else ag o j⟩)]))) (aa.af [(0 : Int) ≤ (↑i : Int) ∧ (↑i : Int).toNat < nl A, (↑i : Int).toNat + 0 < nl A] (aa.leaf ah.normal ([mag A, mag B, own 12288 1 0 (nl A), int IntKind.u64 (0 : Int), int IntKind.i64 (IntKind.i64.wrap ((↑i : Int) + (1 : Int)))], [((12288 : Nat), ⟨true, true, 1, nl A, fun (j : Nat) ↦ if (j == (↑i : Int).toNat + 0) = true then int IntKind.u32 (IntKind.u32.wrap (IntKind.u64.wrap (IntKind.u64.wrap (↑(aj A (↑i : Int).toNat) : Int) - IntKind.u64.wrap ((↑c : Int) + IntKind.u64.wrap (↑(aj B (↑i : Int).toNat) : Int))))) else ag o j⟩)])))))) (aa.af [(0 : Int) ≤ (↑i : Int) ∧ (↑i : Int).toNat < nl A] (aa.fork (decide (IntKind.u64.wrap (↑(aj A (↑i : Int).toNat) : Int) < (↑c : Int))) (aa.af [(0 : Int) ≤ (↑i : Int) ∧ (↑i : Int).toNat < nl A, (↑i : Int).toNat + 0 < nl A] (aa.leaf ah.normal ([mag A, mag B, own 12288 1 0 (nl A), int IntKind.u64 (1 : Int), int IntKind.i64 (IntKind.i64.wrap ((↑i : Int) + (1 : Int)))], [((12288 : Nat), ⟨true, true, 1, nl A, fun (j : Nat) ↦ if (j == (↑i : Int).toNat + 0) = true then int IntKind.u32 (IntKind.u32.wrap (IntKind.u64.wrap (IntKind.u64.wrap (IntKind.u64.wrap (↑(aj A (↑i : Int).toNat) : Int) + (4294967296 : Int)) - (↑c : Int)))) else ag o j⟩)]))) (aa.af [(0 : Int) ≤ (↑i : Int) ∧ (↑i : Int).toNat < nl A, (↑i : Int).toNat + 0 < nl A] (aa.leaf ah.normal ([mag A, mag B, own 12288 1 0 (nl A), int IntKind.u64 (0 : Int), int IntKind.i64 (IntKind.i64.wrap ((↑i : Int) + (1 : Int)))], [((12288 : Nat), ⟨true, true, 1, nl A, fun (j : Nat) ↦ if (j == (↑i : Int).toNat + 0) = true then int IntKind.u32 (IntKind.u32.wrap (IntKind.u64.wrap (IntKind.u64.wrap (↑(aj A (↑i : Int).toNat) : Int) - (↑c : Int)))) else ag o j⟩)])))))) (aa.leaf (ah.exit 0) ([mag A, mag B, own 12288 1 0 (nl A), int IntKind.u64 (↑c : Int), int IntKind.i64 (↑i : Int)], [((12288 : Nat), ⟨true, true, 1, nl A, ag o⟩)]))) := by kernel_rfl
theorem IY {A B c i : Nat} {o : Nat → Nat} : cr T cT [] 60 mc (behind (au mc) [1,1,1,0,1]) ⟨aB jP (qU A B c i 12288), bT 12288 (nl A) o, 12289⟩ =
  some (aa.af [cB (nl A) fun (i : Nat) ↦ ag o (i + 0), nl A < 2 ^ 40] (aa.leaf ah.ret [mag (val (nl A) fun (i : Nat) ↦ numOf (ag o (i + 0)))])) := by kernel_rfl
abbrev gA : List Nat := [0, 1, 5, 6]
abbrev qB (A B i K : Nat) : List AV := [.mag A, .mag B, .own K 1 0 (nl A + nl B), .int .i64 i]
abbrev lU : List Nat := [0, 1, 5, 6, 7, 8]
abbrev tX (A B i c j K : Nat) : List AV := [.mag A, .mag B, .own K 1 0 (nl A + nl B), .int .i64 i, .int .u64 c, .int .i64 j]
noncomputable abbrev kj : Code := part (au g7) [1,1,0,1,0,0]
noncomputable abbrev nN : Code := part kj [1,0,0]
theorem Kt {A B : Nat} : aI T cT [] 60 gA (before (au g7) [1,1,0,1]) ⟨aM 0 [.mag A, .mag B], [], 0⟩ =
  some (aa.af [(0 : Int) ≤ IntKind.i64.wrap ((↑(nl A) : Int) + (↑(nl B) : Int)) ∧ IntKind.i64.wrap ((↑(nl A) : Int) + (↑(nl B) : Int)) ≤ IntKind.i64.wrap ((↑(nl A) : Int) + (↑(nl B) : Int)) ∧ IntKind.i64.wrap ((↑(nl A) : Int) + (↑(nl B) : Int)) ≤ (2 : Int) ^ 47 ∧ IntKind.i64.wrap ((↑(nl A) : Int) + (↑(nl B) : Int)) * (↑(4 : Nat) : Int) ≤ (2 : Int) ^ 47] (aa.leaf ah.normal ([mag A, mag B, own 24576 1 0 (IntKind.i64.wrap ((↑(nl A) : Int) + (↑(nl B) : Int))).toNat, int IntKind.i64 (0 : Int)], [((24576 : Nat), ⟨true, true, 1, (IntKind.i64.wrap ((↑(nl A) : Int) + (↑(nl B) : Int))).toNat, fun (x : Nat) ↦ int IntKind.u32 (0 : Int)⟩)]))) := by kernel_rfl
theorem JO {A B i : Nat} {o : Nat → Nat} : aI T cT [18] 60 gA [part kj [0]] ⟨aB gA (qB A B i 24576), bT 24576 (nl A + nl B) o, 24577⟩ =
  some (aa.fork (decide ((↑i : Int) < (↑(nl A) : Int))) (aa.leaf ah.normal ([mag A, mag B, own 24576 1 0 (nl A + nl B), int IntKind.i64 (↑i : Int)], [((24576 : Nat), ⟨true, true, 1, nl A + nl B, ag o⟩)])) (aa.leaf (ah.exit 0) ([mag A, mag B, own 24576 1 0 (nl A + nl B), int IntKind.i64 (↑i : Int)], [((24576 : Nat), ⟨true, true, 1, nl A + nl B, ag o⟩)]))) := by kernel_rfl
theorem OY {A B i : Nat} {o : Nat → Nat} : aI T cT [] 60 lU (before nN [1,0,1]) ⟨aB gA (qB A B i 24576), bT 24576 (nl A + nl B) o, 24577⟩ =
  some (aa.leaf ah.normal ([mag A, mag B, own 24576 1 0 (nl A + nl B), int IntKind.i64 (↑i : Int), int IntKind.u64 (0 : Int), int IntKind.i64 (0 : Int)], [((24576 : Nat), ⟨true, true, 1, nl A + nl B, ag o⟩)])) := by kernel_rfl
theorem Vf {A B i c j : Nat} {o : Nat → Nat} : aI T cT [24] 60 lU [part nN [1,0,1,0,0]] ⟨aB lU (tX A B i c j 24576), bT 24576 (nl A + nl B) o, 24577⟩ =
  some (aa.fork (decide ((↑j : Int) < (↑(nl B) : Int))) (aa.af [(0 : Int) ≤ (↑i : Int) ∧ (↑i : Int).toNat < nl A, (0 : Int) ≤ (↑j : Int) ∧ (↑j : Int).toNat < nl B, (0 : Int) ≤ IntKind.i64.wrap ((↑i : Int) + (↑j : Int)) ∧ (IntKind.i64.wrap ((↑i : Int) + (↑j : Int))).toNat < nl A + nl B, (IntKind.i64.wrap ((↑i : Int) + (↑j : Int))).toNat + 0 < nl A + nl B] (aa.af [(0 : Int) ≤ IntKind.i64.wrap ((↑i : Int) + (↑j : Int)) ∧ (IntKind.i64.wrap ((↑i : Int) + (↑j : Int))).toNat < nl A + nl B, (IntKind.i64.wrap ((↑i : Int) + (↑j : Int))).toNat + 0 < nl A + nl B] (aa.af [(0 : Int) ≤ (32 : Int)] (aa.leaf ah.normal ([mag A, mag B, own 24576 1 0 (nl A + nl B), int IntKind.i64 (↑i : Int), int IntKind.u64 ((IntKind.u64.wrap ((↑c : Int) + IntKind.u64.wrap (IntKind.u64.wrap (IntKind.u64.wrap (↑(aj A (↑i : Int).toNat) : Int) * IntKind.u64.wrap (↑(aj B (↑j : Int).toNat) : Int)) + IntKind.u64.wrap (↑(o ((IntKind.i64.wrap ((↑i : Int) + (↑j : Int))).toNat + 0)) : Int)))).fdiv ((2 : Int) ^ min (Int.toNat (32 : Int)) IntKind.u64.bits)), int IntKind.i64 (IntKind.i64.wrap ((↑j : Int) + (1 : Int)))], [((24576 : Nat), ⟨true, true, 1, nl A + nl B, fun (j_1 : Nat) ↦ if (j_1 == (IntKind.i64.wrap ((↑i : Int) + (↑j : Int))).toNat + 0) = true then int IntKind.u32 (IntKind.u32.wrap (IntKind.u64.wrap ((↑c : Int) + IntKind.u64.wrap (IntKind.u64.wrap (IntKind.u64.wrap (↑(aj A (↑i : Int).toNat) : Int) * IntKind.u64.wrap (↑(aj B (↑j : Int).toNat) : Int)) + IntKind.u64.wrap (↑(o ((IntKind.i64.wrap ((↑i : Int) + (↑j : Int))).toNat + 0)) : Int))))) else ag o j_1⟩)]))))) (aa.leaf (ah.exit 2) ([mag A, mag B, own 24576 1 0 (nl A + nl B), int IntKind.i64 (↑i : Int), int IntKind.u64 (↑c : Int), int IntKind.i64 (↑j : Int)], [((24576 : Nat), ⟨true, true, 1, nl A + nl B, ag o⟩)]))) := by kernel_rfl
theorem Lz {A B i c j : Nat} {o : Nat → Nat} : aI T cT [] 60 gA (behind nN [1,0,1]) ⟨aB lU (tX A B i c j 24576), bT 24576 (nl A + nl B) o, 24577⟩ =
  some (aa.af [(0 : Int) ≤ IntKind.i64.wrap ((↑i : Int) + (↑(nl B) : Int)) ∧ (IntKind.i64.wrap ((↑i : Int) + (↑(nl B) : Int))).toNat < nl A + nl B, (IntKind.i64.wrap ((↑i : Int) + (↑(nl B) : Int))).toNat + 0 < nl A + nl B] (aa.leaf ah.normal ([mag A, mag B, own 24576 1 0 (nl A + nl B), int IntKind.i64 (↑i : Int)], [((24576 : Nat), ⟨true, true, 1, nl A + nl B, fun (j : Nat) ↦ if (j == (IntKind.i64.wrap ((↑i : Int) + (↑(nl B) : Int))).toNat + 0) = true then int IntKind.u32 (IntKind.u32.wrap (↑c : Int)) else ag o j⟩)]))) := by kernel_rfl
theorem Pt {A B i : Nat} {o : Nat → Nat} : aI T cT [] 60 gA [part kj [1,1]] ⟨aB gA (qB A B i 24576), bT 24576 (nl A + nl B) o, 24577⟩ =
  some (aa.leaf ah.normal ([mag A, mag B, own 24576 1 0 (nl A + nl B), int IntKind.i64 (IntKind.i64.wrap ((↑i : Int) + (1 : Int)))], [((24576 : Nat), ⟨true, true, 1, nl A + nl B, ag o⟩)])) := by kernel_rfl
theorem Ue {A B i : Nat} {o : Nat → Nat} : cr T cT [] 60 g7 (behind (au g7) [1,1,0,1]) ⟨aB gA (qB A B i 24576), bT 24576 (nl A + nl B) o, 24577⟩ =
  some (aa.af [cB (nl A + nl B) fun (i : Nat) ↦ ag o (i + 0), nl A + nl B < 2 ^ 40] (aa.leaf ah.ret [mag (val (nl A + nl B) fun (i : Nat) ↦ numOf (ag o (i + 0)))])) := by kernel_rfl
abbrev mb : List Nat := [0, 1, 6, 7, 8]
abbrev yK (A b r k K : Nat) : List AV := [.mag A, .int .u32 b, .own K 1 0 (nl A), .int .u64 r, .int .i64 ((k : Int) - 1)]
noncomputable abbrev Ap : Code := part (au l7) [1,1,1,0,1,0,0]
theorem Kv {A b : Nat} : aI T cT [] 60 mb (before (au l7) [1,1,1,0,1]) ⟨aM 0 [.mag A, .int .u32 b], [], 0⟩ =
  some (aa.af [(0 : Int) ≤ (↑(nl A) : Int) ∧ (↑(nl A) : Int) ≤ (↑(nl A) : Int) ∧ (↑(nl A) : Int) ≤ (2 : Int) ^ 47 ∧ (↑(nl A) : Int) * (↑(4 : Nat) : Int) ≤ (2 : Int) ^ 47] (aa.leaf ah.normal ([mag A, int IntKind.u32 (↑b : Int), own 16384 1 0 (↑(nl A) : Int).toNat, int IntKind.u64 (0 : Int), int IntKind.i64 (IntKind.i64.wrap ((↑(nl A) : Int) - (1 : Int)))], [((16384 : Nat), ⟨true, true, 1, (↑(nl A) : Int).toNat, fun (x : Nat) ↦ int IntKind.u32 (0 : Int)⟩)]))) := by kernel_rfl
theorem HD {A b r k : Nat} {o : Nat → Nat} : aI T cT [16] 60 mb [Ap] ⟨aB mb (yK A b r k 16384), bT 16384 (nl A) o, 16385⟩ =
  some (aa.fork (decide ((↑k : Int) - (1 : Int) ≥ (0 : Int))) (aa.af [(0 : Int) ≤ (32 : Int), (0 : Int) ≤ (↑k : Int) - (1 : Int) ∧ ((↑k : Int) - (1 : Int)).toNat < nl A] (aa.af [IntKind.u64.wrap (↑b : Int) ≠ (0 : Int), (0 : Int) ≤ (↑k : Int) - (1 : Int) ∧ ((↑k : Int) - (1 : Int)).toNat < nl A, ((↑k : Int) - (1 : Int)).toNat + 0 < nl A] (aa.af [IntKind.u64.wrap (↑b : Int) ≠ (0 : Int)] (aa.leaf ah.normal ([mag A, int IntKind.u32 (↑b : Int), own 16384 1 0 (nl A), int IntKind.u64 ((IntKind.u64.wrap (↑(BitVec.ofInt IntKind.u64.bits (IntKind.u64.wrap ((↑r : Int) * (2 : Int) ^ min (Int.toNat (32 : Int)) IntKind.u64.bits)) ||| BitVec.ofInt IntKind.u64.bits (IntKind.u64.wrap (↑(aj A ((↑k : Int) - (1 : Int)).toNat) : Int))).toNat : Int)).tmod (IntKind.u64.wrap (↑b : Int))), int IntKind.i64 (IntKind.i64.wrap ((↑k : Int) - (1 : Int) - (1 : Int)))], [((16384 : Nat), ⟨true, true, 1, nl A, fun (j : Nat) ↦ if (j == ((↑k : Int) - (1 : Int)).toNat + 0) = true then int IntKind.u32 (IntKind.u32.wrap (IntKind.u64.wrap ((IntKind.u64.wrap (↑(BitVec.ofInt IntKind.u64.bits (IntKind.u64.wrap ((↑r : Int) * (2 : Int) ^ min (Int.toNat (32 : Int)) IntKind.u64.bits)) ||| BitVec.ofInt IntKind.u64.bits (IntKind.u64.wrap (↑(aj A ((↑k : Int) - (1 : Int)).toNat) : Int))).toNat : Int)).tdiv (IntKind.u64.wrap (↑b : Int))))) else ag o j⟩)]))))) (aa.leaf (ah.exit 0) ([mag A, int IntKind.u32 (↑b : Int), own 16384 1 0 (nl A), int IntKind.u64 (↑r : Int), int IntKind.i64 ((↑k : Int) - (1 : Int))], [((16384 : Nat), ⟨true, true, 1, nl A, ag o⟩)]))) := by kernel_rfl
theorem IC {A b r k : Nat} {o : Nat → Nat} : cr T cT [] 60 l7 (behind (au l7) [1,1,1,0,1]) ⟨aB mb (yK A b r k 16384), bT 16384 (nl A) o, 16385⟩ =
  some (aa.af [cB (nl A) fun (i : Nat) ↦ ag o (i + 0), nl A < 2 ^ 40] (aa.leaf ah.ret [mag (val (nl A) fun (i : Nat) ↦ numOf (ag o (i + 0))), int IntKind.u32 (IntKind.u32.wrap (↑r : Int))])) := by kernel_rfl
def FM : aP := [(kg, pR), (qD, iI (fun A B => .mag (A - B)) fun A B => [B ≤ A, nl A < 2 ^ 40])]
theorem Qe {A B : Nat} : bw T FM [9] 60 sA (au sA) ⟨aM 0 [.mag A, .mag B], [], 0⟩ =
  some (aa.af [nl A < 2 ^ 40, nl B < 2 ^ 40] (aa.fork (decide (bB A B < (0 : Int))) (aa.leaf ah.ret [nil, int IntKind.i64 (7 : Int)]) (aa.af [B ≤ A, nl A < 2 ^ 40] (aa.leaf ah.ret [mag (A - B), int IntKind.i64 (0 : Int)])))) := by kernel_rfl
theorem eC {K n nx : Nat} {o : Nat → Nat} (h : K < nx) : eH nx (bT K n o) := ⟨⟨h, fun _ _ => rfl⟩, trivial⟩
theorem N6 {vo va vb ai x c b' un u' B : Nat} (hx : x = c + b') (hu : un + x = ai + 4294967296 * u') (h : va + c * B = vo + vb) : va + ai * B + u' * (4294967296 * B) = vo + un * B + (vb + b' * B) := by
 have e : (un + x) * B = (ai + 4294967296 * u') * B := by rw [hu]
 subst hx
 grind
theorem F6 {A B : Nat} (hAB : B ≤ A) (hA : nl A < 2 ^ 40) (K : Nat) : az P qD K [.mag A, .mag B] [] (aG (.mag (A - B)) []) := by
 have hB : nl B ≤ nl A := eJ hAB
 refine fk hT Vj rfl (of_decide_eq_true (by kernel_rfl)) rfl (fun _ c0 h0 => ?_) K []
 refine aq.hole [1,1,1,0,1] (by kernel_rfl) (ax.aV hT cZ hm 60 jP RZ (by kernel_rfl) ?_)
 simp only [aa.all, ay, Int.toNat_natCast]
 refine ⟨by omega, fun s' hv => bu ?_⟩
 refine aq.eM (i := 0) (y := Ff) (by kernel_rfl) jP 12289 (h0 _) (fun p : Nat × Nat × (Nat → Nat) => qU A B p.2.1 p.1 12288) (fun p => bT 12288 (nl A) p.2.2) (fun _ => rfl) (fun _ => eC (by omega))
  (fun p => p.1 ≤ nl A ∧ p.2.1 ≤ 1 ∧ (∀ j, j < nl A → p.2.2 j < 2 ^ 32) ∧ val p.1 (aj A) + p.2.1 * 2 ^ (32 * p.1) = val p.1 p.2.2 + val p.1 (aj B))
  (fun p => nl A - p.1) (0, 0, fun _ => 0) hv ⟨by simp, by simp, fun _ _ => by simp, by simp [val]⟩ ?_
 rintro ⟨i, c, o⟩ ⟨hi, hc, ho, hval⟩
 simp only at hi hc ho hval
 refine aq.aV hT cZ hm 60 jP Mb (by kernel_rfl) ?_
 have la := b9 (N := A) (i := i)
 have lb := b9 (N := B) (i := i)
 have wa : IntKind.u64.wrap (aj A i : Int) = ((aj A i : Nat) : Int) := bn (by omega) (by omega)
 have wb : IntKind.u64.wrap (aj B i : Int) = ((aj B i : Nat) : Int) := bn (by omega) (by omega)
 have w1 : IntKind.u64.wrap ((c : Int) + ((aj B i : Nat) : Int)) = ((c + aj B i : Nat) : Int) := by rw [bn (by omega) (by omega)]; omega
 have w2 : IntKind.u64.wrap (((aj A i : Nat) : Int) + 4294967296) = ((aj A i + 4294967296 : Nat) : Int) := by rw [bn (by omega) (by omega)]; omega
 have w3 : IntKind.i64.wrap ((i : Int) + 1) = ((i + 1 : Nat) : Int) := by rw [wrap_i64 (by omega) (by omega)]; omega
 simp only [aa.all, ay, decide_eq_true_eq, decide_eq_false_iff_not, Int.toNat_natCast, Nat.add_zero, beq_iff_eq]
 rw [wa, wb, w1, w2, w3]
 -- what is put down
 have next : ∀ {s' : aA} {x u' : Nat} {v : Int}, i < nl A → x = c + aj B i → u' ≤ 1 → x ≤ aj A i + 4294967296 * u' → aj A i + 4294967296 * u' < x + 4294967296 → v = ((aj A i + 4294967296 * u' - x : Nat) : Int) →
   aR jP s' = some (qU A B u' (i + 1) 12288, [(12288, ⟨true, true, 1, nl A, fun j => if j = i then .int .u32 (IntKind.u32.wrap (IntKind.u64.wrap v)) else ag o j⟩)]) →
   ∃ k : Nat × Nat × (Nat → Nat), aR jP s' = some (qU A B k.2.1 k.1 12288, bT 12288 (nl A) k.2.2) ∧ (k.1 ≤ nl A ∧ k.2.1 ≤ 1 ∧ (∀ j, j < nl A → k.2.2 j < 2 ^ 32) ∧ val k.1 (aj A) + k.2.1 * 2 ^ (32 * k.1) = val k.1 k.2.2 + val k.1 (aj B)) ∧ nl A - k.1 < nl A - i := by
  intro s' x u' v hin hx hu1 h1 h2 hv1 hv
  refine ⟨(i + 1, u', bt o i (aj A i + 4294967296 * u' - x)), cm hv rfl ?_, ⟨by simp only; omega, hu1, eZ (by omega) ho, ?_⟩, by simp only; omega⟩
  ·simp only [bT]
   congr 3
   funext k
   exact eA (by rw [hv1, bn (by omega) (by omega), wrap_u32 (by omega) (by omega)]) k
  ·simp only
   rw [lW, val, val, eI]
   exact N6 (b' := aj B i) (x := x) hx (by omega) hval
 refine ⟨fun hb => ⟨fun hb2 => ⟨by omega, by omega, fun h3 => ⟨⟨by omega, by omega⟩, fun s' hv => ?_⟩, fun h3 => ⟨⟨by omega, by omega⟩, fun s' hv => ?_⟩⟩, fun hb2 => ⟨by omega, fun h3 => ⟨⟨by omega, by omega⟩, fun s' hv => ?_⟩, fun h3 => ⟨⟨by omega, by omega⟩, fun s' hv => ?_⟩⟩⟩, fun hb s' hv => dr (bu ?_)⟩
 ·exact next (u' := 1) (by omega) rfl (by omega) (by omega) (by omega) (by omega) hv
 ·exact next (u' := 0) (by omega) rfl (by omega) (by omega) (by omega) (by omega) hv
 ·exact next (u' := 1) (x := c) (by omega) (by rw [fP (A := B) (by omega)]; rfl) (by omega) (by omega) (by omega) (by omega) hv
 ·exact next (u' := 0) (x := c) (by omega) (by rw [fP (A := B) (by omega)]; rfl) (by omega) (by omega) (by omega) (by omega) hv
 ·have hin : i = nl A := by omega
  refine ax.gh hT cZ hm 60 hv (h0 _) rfl (eC (by omega)) IY (by kernel_rfl) (by kernel_rfl) ?_
  simp only [aa.all, ay, Nat.add_zero, fS]
  refine ⟨⟨ef ho, hA⟩, cI (congrArg AV.mag ?_)⟩
  rw [hin, dX, j8 (bX.1 hB)] at hval
  have hlt := dO ho
  have : c = 0 := by
   rcases Nat.eq_zero_or_pos c with h | h
   ·exact h
   ·exfalso
    have h1 : 1 * 2 ^ (32 * nl A) ≤ c * 2 ^ (32 * nl A) := Nat.mul_le_mul_right _ h
    omega
  rw [this] at hval
  omega
theorem Kk : aX P FM := aE vp (aE (kA fun h => F6 h.1 h.2) aZ)
theorem Kj {A B : Nat} (hA : nl A < 2 ^ 40) (hB : nl B < 2 ^ 40) (K : Nat) : az P ru K [.mag A, .mag B] [] (aG (.tuple [.mag (A - B), .int .i64 (if A < B then 7 else 0)]) []) := by
 refine bC hT Kk hm R8 rfl (of_decide_eq_true (by kernel_rfl)) rfl 60 Qe (fun _ => ?_) K []
 simp only [aa.all, ay, decide_eq_true_eq, decide_eq_false_iff_not, tu]
 refine ⟨⟨hA, hB⟩, fun h => ⟨?_, bf (by rw [if_pos h]), trivial⟩, fun h => ⟨⟨by omega, hA⟩, .refl _, bf (by rw [if_neg h]), trivial⟩⟩
 rw [Nat.sub_eq_zero_of_le (by omega)]; exact gy
def ES : Spec := iI (fun A B => .tuple [.mag (A - B), .int .i64 (if A < B then 7 else 0)]) wY
theorem U4 : ∀ K args pre r, ES K args pre = some r → az P ru K args pre r := kA fun h => Kj h.1 h.2
theorem Tp {A B : Nat} (hA : nl A < 2 ^ 39) (hB : nl B < 2 ^ 39) (K : Nat) : az P mQ K [.mag A, .mag B] [] (aG (.mag (A * B)) []) := by
 refine fk hT Kr rfl (of_decide_eq_true (by kernel_rfl)) rfl (fun _ c0 h0 => ?_) K []
 refine aq.hole [1,1,0,1] (by kernel_rfl) (ax.aV hT cZ hm 60 gA Kt (by kernel_rfl) ?_)
 have hw : IntKind.i64.wrap ((nl A : Int) + (nl B : Int)) = ((nl A + nl B : Nat) : Int) := cP (by omega) (by omega)
 rw [hw]
 simp only [aa.all, ay, Int.toNat_natCast]
 refine ⟨by omega, fun s' hv => bu ?_⟩
 refine aq.eM (i := 0) (y := kj) (by kernel_rfl) gA 24577 (h0 _) (fun p : Nat × (Nat → Nat) => qB A B p.1 24576) (fun p => bT 24576 (nl A + nl B) p.2) (fun _ => rfl) (fun _ => eC (by omega))
  (fun p => p.1 ≤ nl A ∧ (∀ j, j < nl A + nl B → p.2 j < 2 ^ 32) ∧ (∀ j, p.1 + nl B ≤ j → p.2 j = 0) ∧ val (nl A + nl B) p.2 = val p.1 (aj A) * B)
  (fun p => nl A - p.1) (0, fun _ => 0) hv ⟨by simp, fun _ _ => by simp, fun _ _ => rfl, ?_⟩ ?_
 ·simp only
  rw [val_zero fun _ _ => rfl]
  simp [val]
 rintro ⟨i, o⟩ ⟨hi, ho, ho0, hval⟩
 simp only at hi ho ho0 hval
 refine aq.hole [0] (by kernel_rfl) (show aq P c0 g7.ntmps (part kj [0]) _ _ from aq.aV hT cZ hm 60 gA JO (by kernel_rfl) ?_)
 simp only [aa.all, decide_eq_true_eq, decide_eq_false_iff_not]
 refine ⟨fun h1 s' hv => bu ?_, fun h1 s' hv => lI (dr (bu ?_))⟩
 ·have hin : i < nl A := by omega
  have la := b9 (N := A) (i := i)
  show ax P c0 g7.ntmps [part kj [1]] s' _
  refine aq.hole [0] (by kernel_rfl) ?_
  show aq P c0 g7.ntmps (part kj [1,0]) s' _
  refine aq.kW (i := 1) (y := nN) (by kernel_rfl) (aq.gu hv (h0 24577) rfl (eC (by omega)) ?_)
  refine aq.hole [1,0,1] (by kernel_rfl) (ax.aV hT cZ hm 60 lU OY (by kernel_rfl) fun s' hv => bu ?_)
  refine aq.eM (i := 2) (y := part nN [1,0,1,0,0]) (by kernel_rfl) lU 24577 (h0 _) (fun p : Nat × Nat × (Nat → Nat) => tX A B i p.2.1 p.1 24576) (fun p => bT 24576 (nl A + nl B) p.2.2) (fun _ => rfl) (fun _ => eC (by omega))
   (fun p => p.1 ≤ nl B ∧ p.2.1 < 2 ^ 32 ∧ (∀ j, j < nl A + nl B → p.2.2 j < 2 ^ 32) ∧ (∀ j, i + nl B ≤ j → p.2.2 j = 0) ∧ val (nl A + nl B) p.2.2 + p.2.1 * 2 ^ (32 * (i + p.1)) = val i (aj A) * B + aj A i * val p.1 (aj B) * 2 ^ (32 * i))
   (fun p => nl B - p.1) (0, 0, o) hv ⟨by simp, by simp, ho, ho0, by simp [val, hval]⟩ ?_
  rintro ⟨j, c, o⟩ ⟨hj, hc, ho, ho0, hval⟩
  simp only at hj hc ho ho0 hval
  refine aq.aV hT cZ hm 60 lU Vf (by kernel_rfl) ?_
  have hij : IntKind.i64.wrap ((i : Int) + (j : Int)) = ((i + j : Nat) : Int) := cP (by omega) (by omega)
  have lb := b9 (N := B) (i := j)
  simp only [aa.all, ay, decide_eq_true_eq, decide_eq_false_iff_not, hij, Int.toNat_natCast, Nat.add_zero, beq_iff_eq]
  refine ⟨fun h2 => ?_, fun h2 s' hv => dr ?_⟩
  ·have hjm : j < nl B := by omega
   obtain ⟨m1, m2, m3⟩ := EZ hc la lb (ho (i + j) (by omega))
   rw [m1]
   refine ⟨⟨by omega, by omega, by omega, by omega⟩, ⟨by omega, by omega⟩, by omega, fun s' hv => ⟨(j + 1, (c + aj A i * aj B j + o (i + j)) / 4294967296, bt o (i + j) ((c + aj A i * aj B j + o (i + j)) % 4294967296)), cm hv ?_ ?_, ⟨by simp only; omega, m3, eZ (by omega) ho, fun k hk => ?_, ?_⟩, by simp only; omega⟩⟩
   ·rw [gZ, cP (a := (j : Int) + 1) (n := j + 1) (by omega) (by omega)]
    simp only [tX, List.cons.injEq, AV.int.injEq, and_true, true_and]
    omega
   ·simp only [bT]
    congr 3
    funext k
    exact eA (by rw [fX]) k
   ·exact (dI (by omega)).trans (ho0 k hk)
   ·simp only
    rw [show 32 * (i + (j + 1)) = 32 * ((i + j) + 1) by omega, eI, val]
    have hset := wk (o := o) (x := (c + aj A i * aj B j + o (i + j)) % 4294967296) (show i + j < nl A + nl B by omega)
    exact Dm rfl (Nat.div_add_mod _ _) hset (by rw [← Nat.pow_add]; congr 1; omega) hval
  ·show ax P c0 g7.ntmps (behind nN [1,0,1]) s' _
   have hjm : j = nl B := by omega
   have hib : IntKind.i64.wrap ((i : Int) + (nl B : Int)) = ((i + nl B : Nat) : Int) := cP (by omega) (by omega)
   refine ax.dn hT cZ hm 60 hv (h0 24577) rfl (eC (by omega)) gA Lz (by kernel_rfl) (by kernel_rfl) ?_
   rw [hib]
   simp only [aa.all, ay, Int.toNat_natCast, Nat.add_zero, beq_iff_eq]
   refine ⟨⟨by omega, by omega⟩, fun s' hv => ?_⟩
   have hf : (fun k => if k = i + nl B then AV.int .u32 (IntKind.u32.wrap (c : Int)) else ag o k) = ag (bt o (i + nl B) c) := by
    funext k
    exact eA (wrap_u32 (by omega) (by omega)) k
   rw [hf] at hv
   show ax P c0 g7.ntmps [part kj [1,1]] s' _
   refine ax.dn hT cZ hm 60 hv (h0 24577) rfl (eC (by omega)) gA Pt (by kernel_rfl) (by kernel_rfl) fun s' hv => bu ?_
   refine ⟨(i + 1, bt o (i + nl B) c), cm hv ?_ rfl, ⟨by simp only; omega, eZ hc ho, fun k hk => (dI (by simp only at hk; omega)).trans (ho0 k (by simp only at hk; omega)), ?_⟩, by simp only; omega⟩
   ·rw [cP (a := (i : Int) + 1) (n := i + 1) (by omega) (by omega)]
   ·simp only
    rw [hjm, dX] at hval
    rw [k9 (by omega) (ho0 _ (by omega)), hval, val, Nat.add_mul, Nat.mul_assoc, Nat.mul_assoc, Nat.mul_comm B]
 ·have hin : i = nl A := by omega
  refine ax.gh hT cZ hm 60 hv (h0 _) rfl (eC (by omega)) Ue (by kernel_rfl) (by kernel_rfl) ?_
  simp only [aa.all, ay, Nat.add_zero, fS]
  refine ⟨⟨ef ho, by omega⟩, cI (congrArg AV.mag ?_)⟩
  rw [hval, hin, dX]
def xZ : Spec := iI (fun A B => .mag (A * B)) fun A B => [nl A < 2 ^ 39, nl B < 2 ^ 39]
theorem E5 : ∀ K args pre r, xZ K args pre = some r → az P mQ K args pre r := kA fun h => Tp h.1 h.2
theorem Db {v b r A : Nat} (h : v * b + r = A) (hr : r < b) : A / b = v ∧ A % b = r := by
 subst h
 refine ⟨?_, ?_⟩
 ·rw [Nat.mul_comm, Nat.mul_add_div (by omega), Nat.div_eq_of_lt hr, Nat.add_zero]
 ·rw [Nat.mul_comm, Nat.mul_add_mod, Nat.mod_eq_of_lt hr]
theorem Jw {A b : Nat} (hA : nl A < 2 ^ 40) (hb0 : 0 < b) (hb32 : b < 2 ^ 32) (K : Nat) : az P n6 K [.mag A, .int .u32 b] [] (aG (.tuple [.mag (A / b), .int .u32 (A % b : Nat)]) []) := by
 refine fk hT KB rfl (of_decide_eq_true (by kernel_rfl)) rfl (fun _ c0 h0 => ?_) K []
 refine aq.hole [1,1,1,0,1] (by kernel_rfl) (ax.aV hT cZ hm 60 mb Kv (by kernel_rfl) ?_)
 simp only [aa.all, ay, Int.toNat_natCast]
 refine ⟨by omega, fun s' hv => bu ?_⟩
 refine aq.eM (i := 0) (y := Ap) (by kernel_rfl) mb 16385 (h0 _) (fun p : Nat × Nat × (Nat → Nat) => yK A b p.2.1 p.1 16384) (fun p => bT 16384 (nl A) p.2.2) (fun _ => rfl) (fun _ => eC (by omega))
  (fun p => p.1 ≤ nl A ∧ p.2.1 < b ∧ (∀ j, j < nl A → p.2.2 j < 2 ^ 32) ∧ (∀ j, j < p.1 → p.2.2 j = 0) ∧ val (nl A) p.2.2 * b + p.2.1 * 2 ^ (32 * p.1) + val p.1 (aj A) = A)
  (fun p => p.1) (nl A, 0, fun _ => 0) (cm hv (by rw [wrap_i64 (by omega) (by omega)]; rfl) rfl) ⟨by simp, hb0, fun j _ => by simp, fun j _ => rfl, ?_⟩ ?_
 ·simp only
  rw [val_zero fun _ _ => rfl, dX]
  simp
 rintro ⟨k, r, o⟩ ⟨hk, hr, ho, ho0, hval⟩
 simp only at hk hr ho ho0 hval
 refine aq.aV hT cZ hm 60 mb HD (by kernel_rfl) ?_
 simp only [aa.all, ay, decide_eq_true_eq, decide_eq_false_iff_not, Nat.add_zero, beq_iff_eq]
 have hbw : IntKind.u64.wrap (b : Int) = (b : Int) := bn (by omega) (by omega)
 refine ⟨fun hb => ?_, fun hb s' hv => dr (bu ?_)⟩
 ·obtain ⟨j, rfl⟩ : ∃ j, k = j + 1 := ⟨k - 1, by omega⟩
  have e : (((j + 1 : Nat) : Int) - 1).toNat = j := by omega
  have hzj := b9 (N := A) (i := j)
  have hor := nV (a := r) (b := aj A j) (by omega) hzj
  rw [e, hor, hbw]
  have hq1 : (r * 4294967296 + aj A j) / b < 2 ^ 32 := by
   rw [Nat.div_lt_iff_lt_mul hb0]
   have : (r + 1) * 4294967296 ≤ b * 4294967296 := Nat.mul_le_mul_right _ hr
   omega
  have hdm := Nat.div_add_mod (r * 4294967296 + aj A j) b
  refine ⟨⟨by omega, by omega, by omega⟩, ⟨by omega, ⟨by omega, by omega⟩, by omega⟩, by omega, fun s' hv => ⟨(j, (r * 4294967296 + aj A j) % b, bt o j ((r * 4294967296 + aj A j) / b)), cm hv ?_ ?_, ⟨by simp only; omega, Nat.mod_lt _ hb0, eZ hq1 ho, fun i hi => ?_, ?_⟩, by simp only; omega⟩⟩
  ·rw [← Int.ofNat_tmod, wrap_i64 (by omega) (by omega), show ((j + 1 : Nat) : Int) - 1 - 1 = (j : Int) - 1 by omega]
  ·simp only [bT]
   congr 3
   funext i
   refine eA ?_ i
   rw [← Int.ofNat_tdiv]
   clear hdm
   generalize (r * 4294967296 + aj A j) / b = q at hq1 ⊢
   rw [bn (by omega) (by omega), wrap_u32 (by omega) (by omega)]
  ·exact (dI (by simp only at hi; omega)).trans (ho0 i (by simp only at hi; omega))
  ·simp only
   rw [k9 (by omega) (ho0 j (by omega))]
   rw [eI, val] at hval
   exact A9 hval hdm.symm
 ·have hk0 : k = 0 := by omega
  have hv2 : val (nl A) o * b + r = A := by rw [hk0] at hval; simpa [val] using hval
  refine ax.gh hT cZ hm 60 hv (h0 _) rfl (eC (by omega)) IC (by kernel_rfl) (by kernel_rfl) ?_
  simp only [aa.all, ay, Nat.add_zero, fS]
  obtain ⟨hdiv, hmod⟩ := Db hv2 hr
  exact ⟨⟨ef ho, hA⟩, cI (congrArg AV.mag hdiv.symm), bf (by rw [hmod, wrap_u32 (by omega) (by omega)]), trivial⟩
def yT : Spec := bk fun l => match l with
 | [a, .int .u32 b] => match fB a with
  | some A => some (aG (.tuple [.mag (A / b.toNat), .int .u32 (A % b.toNat : Nat)]) [nl A < 2 ^ 40, 0 < b, b < 2 ^ 32])
  | none => none
 | _ => none
theorem C3 : ∀ K args pre r, yT K args pre = some r → az P n6 K args pre r := by
 refine bD fun K args r hk hs _ => ?_
 split at hs
 ·rename_i a b
  split at hs
  ·rename_i A hA
   simp only [Option.some.injEq] at hs
   subst hs
   intro need
   obtain ⟨h1, h2, h3⟩ : nl A < 2 ^ 40 ∧ 0 < b ∧ b < 2 ^ 32 := need
   obtain ⟨b, rfl⟩ := Int.eq_ofNat_of_zero_le (Int.le_of_lt h2)
   exact eF (Jw h1 (by omega) (by omega) K) hk ⟨gV hA, .refl _, trivial⟩ [] trivial
  ·simp at hs
 ·simp at hs
end Go.Am.B
