/- ref01: minus, Sub, Mul, byLimb. -/
import Derived.Test.YtnocdkaonpdmjaaGreatB23
set_option linter.unusedVariables false
namespace Go.Am.B
open Go Go.Am.N AV
theorem abt : aO P uP nV (ax nV) := aP Ro (by kernel_rfl) (by kernel_rfl) (by kernel_rfl)
theorem Md : aO P vl tV (ax tV) := aP Ob (by kernel_rfl) (by kernel_rfl) (by kernel_rfl)
theorem U1 : aO P p5 jb (ax jb) := aP ZS (by kernel_rfl) (by kernel_rfl) (by kernel_rfl)
theorem abz : aO P rB oe (ax oe) := aP PN (by kernel_rfl) (by kernel_rfl) (by kernel_rfl)
abbrev lR : List Nat := [0, 1, 5, 6, 7]
abbrev xF (A B c i K : Nat) : List AV := [.mag A, .mag B, .own K 1 0 (nl A), .int .u64 c, .int .i64 i]
abbrev cu (K n : Nat) (o : Nat → Nat) : aD := [(K, ⟨true, true, 1, n, ah o⟩)]
noncomputable abbrev Fy : Code := part (ax nV) [1,1,1,0,1,0,0]
theorem R9 {A B : Nat} : aI T dx [] 60 lR (before (ax nV) [1,1,1,0,1]) ⟨aL 0 [.mag A, .mag B], [], 0⟩ =
  some (aa.ag [(0 : Int) ≤ (↑(nl A) : Int) ∧ (↑(nl A) : Int) ≤ (↑(nl A) : Int) ∧ (↑(nl A) : Int) ≤ (2 : Int) ^ 47 ∧ (↑(nl A) : Int) * (↑(4 : Nat) : Int) ≤ (2 : Int) ^ 47] (aa.leaf aj.normal ([mag A, mag B, own 12288 1 0 (↑(nl A) : Int).toNat, int IntKind.u64 (0 : Int), int IntKind.i64 (0 : Int)], [((12288 : Nat), ⟨true, true, 1, (↑(nl A) : Int).toNat, fun (x : Nat) ↦ int IntKind.u32 (0 : Int)⟩)]))) := by kernel_rfl
theorem VG {A B c i : Nat} {o : Nat → Nat} : aI T dx [16, 23, 38] 60 lR [Fy] ⟨aC lR (xF A B c i 12288), cu 12288 (nl A) o, 12289⟩ =
  some (aa.fork (decide ((↑i : Int) < (↑(nl A) : Int))) (aa.fork (decide ((↑i : Int) < (↑(nl B) : Int))) (aa.ag [(0 : Int) ≤ (↑i : Int) ∧ (↑i : Int).toNat < nl B] (aa.ag [(0 : Int) ≤ (↑i : Int) ∧ (↑i : Int).toNat < nl A] (aa.fork (decide (IntKind.u64.wrap (↑(au A (↑i : Int).toNat) : Int) < IntKind.u64.wrap ((↑c : Int) + IntKind.u64.wrap (↑(au B (↑i : Int).toNat) : Int)))) (aa.ag [(0 : Int) ≤ (↑i : Int) ∧ (↑i : Int).toNat < nl A, (↑i : Int).toNat + 0 < nl A] (aa.leaf aj.normal ([mag A, mag B, own 12288 1 0 (nl A), int IntKind.u64 (1 : Int), int IntKind.i64 (IntKind.i64.wrap ((↑i : Int) + (1 : Int)))], [((12288 : Nat), ⟨true, true, 1, nl A, fun (j : Nat) ↦ if (j == (↑i : Int).toNat + 0) = true then int IntKind.u32 (IntKind.u32.wrap (IntKind.u64.wrap (IntKind.u64.wrap (IntKind.u64.wrap (↑(au A (↑i : Int).toNat) : Int) + (4294967296 : Int)) - IntKind.u64.wrap ((↑c : Int) + IntKind.u64.wrap (↑(au B (↑i : Int).toNat) : Int))))) else ah o j⟩)]))) (aa.ag [(0 : Int) ≤ (↑i : Int) ∧ (↑i : Int).toNat < nl A, (↑i : Int).toNat + 0 < nl A] (aa.leaf aj.normal ([mag A, mag B, own 12288 1 0 (nl A), int IntKind.u64 (0 : Int), int IntKind.i64 (IntKind.i64.wrap ((↑i : Int) + (1 : Int)))], [((12288 : Nat), ⟨true, true, 1, nl A, fun (j : Nat) ↦ if (j == (↑i : Int).toNat + 0) = true then int IntKind.u32 (IntKind.u32.wrap (IntKind.u64.wrap (IntKind.u64.wrap (↑(au A (↑i : Int).toNat) : Int) - IntKind.u64.wrap ((↑c : Int) + IntKind.u64.wrap (↑(au B (↑i : Int).toNat) : Int))))) else ah o j⟩)])))))) (aa.ag [(0 : Int) ≤ (↑i : Int) ∧ (↑i : Int).toNat < nl A] (aa.fork (decide (IntKind.u64.wrap (↑(au A (↑i : Int).toNat) : Int) < (↑c : Int))) (aa.ag [(0 : Int) ≤ (↑i : Int) ∧ (↑i : Int).toNat < nl A, (↑i : Int).toNat + 0 < nl A] (aa.leaf aj.normal ([mag A, mag B, own 12288 1 0 (nl A), int IntKind.u64 (1 : Int), int IntKind.i64 (IntKind.i64.wrap ((↑i : Int) + (1 : Int)))], [((12288 : Nat), ⟨true, true, 1, nl A, fun (j : Nat) ↦ if (j == (↑i : Int).toNat + 0) = true then int IntKind.u32 (IntKind.u32.wrap (IntKind.u64.wrap (IntKind.u64.wrap (IntKind.u64.wrap (↑(au A (↑i : Int).toNat) : Int) + (4294967296 : Int)) - (↑c : Int)))) else ah o j⟩)]))) (aa.ag [(0 : Int) ≤ (↑i : Int) ∧ (↑i : Int).toNat < nl A, (↑i : Int).toNat + 0 < nl A] (aa.leaf aj.normal ([mag A, mag B, own 12288 1 0 (nl A), int IntKind.u64 (0 : Int), int IntKind.i64 (IntKind.i64.wrap ((↑i : Int) + (1 : Int)))], [((12288 : Nat), ⟨true, true, 1, nl A, fun (j : Nat) ↦ if (j == (↑i : Int).toNat + 0) = true then int IntKind.u32 (IntKind.u32.wrap (IntKind.u64.wrap (IntKind.u64.wrap (↑(au A (↑i : Int).toNat) : Int) - (↑c : Int)))) else ah o j⟩)])))))) (aa.leaf (aj.exit 0) ([mag A, mag B, own 12288 1 0 (nl A), int IntKind.u64 (↑c : Int), int IntKind.i64 (↑i : Int)], [((12288 : Nat), ⟨true, true, 1, nl A, ah o⟩)]))) := by kernel_rfl
theorem Zg {A B c i : Nat} {o : Nat → Nat} : cq T dx [] 60 nV (behind (ax nV) [1,1,1,0,1]) ⟨aC lR (xF A B c i 12288), cu 12288 (nl A) o, 12289⟩ =
  some (aa.ag [cO (nl A) fun (i : Nat) ↦ ah o (i + 0), nl A < 2 ^ 40] (aa.leaf aj.ret [mag (val (nl A) fun (i : Nat) ↦ numOf (ah o (i + 0)))])) := by kernel_rfl
abbrev iI : List Nat := [0, 1, 5, 6]
abbrev uH (A B i K : Nat) : List AV := [.mag A, .mag B, .own K 1 0 (nl A + nl B), .int .i64 i]
abbrev oO : List Nat := [0, 1, 5, 6, 7, 8]
abbrev Ac (A B i c j K : Nat) : List AV := [.mag A, .mag B, .own K 1 0 (nl A + nl B), .int .i64 i, .int .u64 c, .int .i64 j]
noncomputable abbrev mH : Code := part (ax jb) [1,1,0,1,0,0]
noncomputable abbrev qi : Code := part mH [1,0,0]
theorem ZX {A B : Nat} : aI T dx [] 60 iI (before (ax jb) [1,1,0,1]) ⟨aL 0 [.mag A, .mag B], [], 0⟩ =
  some (aa.ag [(0 : Int) ≤ IntKind.i64.wrap ((↑(nl A) : Int) + (↑(nl B) : Int)) ∧ IntKind.i64.wrap ((↑(nl A) : Int) + (↑(nl B) : Int)) ≤ IntKind.i64.wrap ((↑(nl A) : Int) + (↑(nl B) : Int)) ∧ IntKind.i64.wrap ((↑(nl A) : Int) + (↑(nl B) : Int)) ≤ (2 : Int) ^ 47 ∧ IntKind.i64.wrap ((↑(nl A) : Int) + (↑(nl B) : Int)) * (↑(4 : Nat) : Int) ≤ (2 : Int) ^ 47] (aa.leaf aj.normal ([mag A, mag B, own 24576 1 0 (IntKind.i64.wrap ((↑(nl A) : Int) + (↑(nl B) : Int))).toNat, int IntKind.i64 (0 : Int)], [((24576 : Nat), ⟨true, true, 1, (IntKind.i64.wrap ((↑(nl A) : Int) + (↑(nl B) : Int))).toNat, fun (x : Nat) ↦ int IntKind.u32 (0 : Int)⟩)]))) := by kernel_rfl
theorem aa1 {A B i : Nat} {o : Nat → Nat} : aI T dx [18] 60 iI [part mH [0]] ⟨aC iI (uH A B i 24576), cu 24576 (nl A + nl B) o, 24577⟩ =
  some (aa.fork (decide ((↑i : Int) < (↑(nl A) : Int))) (aa.leaf aj.normal ([mag A, mag B, own 24576 1 0 (nl A + nl B), int IntKind.i64 (↑i : Int)], [((24576 : Nat), ⟨true, true, 1, nl A + nl B, ah o⟩)])) (aa.leaf (aj.exit 0) ([mag A, mag B, own 24576 1 0 (nl A + nl B), int IntKind.i64 (↑i : Int)], [((24576 : Nat), ⟨true, true, 1, nl A + nl B, ah o⟩)]))) := by kernel_rfl
theorem S5 {A B i : Nat} {o : Nat → Nat} : aI T dx [] 60 oO (before qi [1,0,1]) ⟨aC iI (uH A B i 24576), cu 24576 (nl A + nl B) o, 24577⟩ =
  some (aa.leaf aj.normal ([mag A, mag B, own 24576 1 0 (nl A + nl B), int IntKind.i64 (↑i : Int), int IntKind.u64 (0 : Int), int IntKind.i64 (0 : Int)], [((24576 : Nat), ⟨true, true, 1, nl A + nl B, ah o⟩)])) := by kernel_rfl
theorem aah {A B i c j : Nat} {o : Nat → Nat} : aI T dx [24] 60 oO [part qi [1,0,1,0,0]] ⟨aC oO (Ac A B i c j 24576), cu 24576 (nl A + nl B) o, 24577⟩ =
  some (aa.fork (decide ((↑j : Int) < (↑(nl B) : Int))) (aa.ag [(0 : Int) ≤ (↑i : Int) ∧ (↑i : Int).toNat < nl A, (0 : Int) ≤ (↑j : Int) ∧ (↑j : Int).toNat < nl B, (0 : Int) ≤ IntKind.i64.wrap ((↑i : Int) + (↑j : Int)) ∧ (IntKind.i64.wrap ((↑i : Int) + (↑j : Int))).toNat < nl A + nl B, (IntKind.i64.wrap ((↑i : Int) + (↑j : Int))).toNat + 0 < nl A + nl B] (aa.ag [(0 : Int) ≤ IntKind.i64.wrap ((↑i : Int) + (↑j : Int)) ∧ (IntKind.i64.wrap ((↑i : Int) + (↑j : Int))).toNat < nl A + nl B, (IntKind.i64.wrap ((↑i : Int) + (↑j : Int))).toNat + 0 < nl A + nl B] (aa.ag [(0 : Int) ≤ (32 : Int)] (aa.leaf aj.normal ([mag A, mag B, own 24576 1 0 (nl A + nl B), int IntKind.i64 (↑i : Int), int IntKind.u64 ((IntKind.u64.wrap ((↑c : Int) + IntKind.u64.wrap (IntKind.u64.wrap (IntKind.u64.wrap (↑(au A (↑i : Int).toNat) : Int) * IntKind.u64.wrap (↑(au B (↑j : Int).toNat) : Int)) + IntKind.u64.wrap (↑(o ((IntKind.i64.wrap ((↑i : Int) + (↑j : Int))).toNat + 0)) : Int)))).fdiv ((2 : Int) ^ min (Int.toNat (32 : Int)) IntKind.u64.bits)), int IntKind.i64 (IntKind.i64.wrap ((↑j : Int) + (1 : Int)))], [((24576 : Nat), ⟨true, true, 1, nl A + nl B, fun (j_1 : Nat) ↦ if (j_1 == (IntKind.i64.wrap ((↑i : Int) + (↑j : Int))).toNat + 0) = true then int IntKind.u32 (IntKind.u32.wrap (IntKind.u64.wrap ((↑c : Int) + IntKind.u64.wrap (IntKind.u64.wrap (IntKind.u64.wrap (↑(au A (↑i : Int).toNat) : Int) * IntKind.u64.wrap (↑(au B (↑j : Int).toNat) : Int)) + IntKind.u64.wrap (↑(o ((IntKind.i64.wrap ((↑i : Int) + (↑j : Int))).toNat + 0)) : Int))))) else ah o j_1⟩)]))))) (aa.leaf (aj.exit 2) ([mag A, mag B, own 24576 1 0 (nl A + nl B), int IntKind.i64 (↑i : Int), int IntKind.u64 (↑c : Int), int IntKind.i64 (↑j : Int)], [((24576 : Nat), ⟨true, true, 1, nl A + nl B, ah o⟩)]))) := by kernel_rfl
theorem aaO {A B i c j : Nat} {o : Nat → Nat} : aI T dx [] 60 iI (behind qi [1,0,1]) ⟨aC oO (Ac A B i c j 24576), cu 24576 (nl A + nl B) o, 24577⟩ =
  some (aa.ag [(0 : Int) ≤ IntKind.i64.wrap ((↑i : Int) + (↑(nl B) : Int)) ∧ (IntKind.i64.wrap ((↑i : Int) + (↑(nl B) : Int))).toNat < nl A + nl B, (IntKind.i64.wrap ((↑i : Int) + (↑(nl B) : Int))).toNat + 0 < nl A + nl B] (aa.leaf aj.normal ([mag A, mag B, own 24576 1 0 (nl A + nl B), int IntKind.i64 (↑i : Int)], [((24576 : Nat), ⟨true, true, 1, nl A + nl B, fun (j : Nat) ↦ if (j == (IntKind.i64.wrap ((↑i : Int) + (↑(nl B) : Int))).toNat + 0) = true then int IntKind.u32 (IntKind.u32.wrap (↑c : Int)) else ah o j⟩)]))) := by kernel_rfl
theorem VW {A B i : Nat} {o : Nat → Nat} : aI T dx [] 60 iI [part mH [1,1]] ⟨aC iI (uH A B i 24576), cu 24576 (nl A + nl B) o, 24577⟩ =
  some (aa.leaf aj.normal ([mag A, mag B, own 24576 1 0 (nl A + nl B), int IntKind.i64 (IntKind.i64.wrap ((↑i : Int) + (1 : Int)))], [((24576 : Nat), ⟨true, true, 1, nl A + nl B, ah o⟩)])) := by kernel_rfl
theorem WN {A B i : Nat} {o : Nat → Nat} : cq T dx [] 60 jb (behind (ax jb) [1,1,0,1]) ⟨aC iI (uH A B i 24576), cu 24576 (nl A + nl B) o, 24577⟩ =
  some (aa.ag [cO (nl A + nl B) fun (i : Nat) ↦ ah o (i + 0), nl A + nl B < 2 ^ 40] (aa.leaf aj.ret [mag (val (nl A + nl B) fun (i : Nat) ↦ numOf (ah o (i + 0)))])) := by kernel_rfl
abbrev oI : List Nat := [0, 1, 6, 7, 8]
abbrev Cc (A b r k K : Nat) : List AV := [.mag A, .int .u32 b, .own K 1 0 (nl A), .int .u64 r, .int .i64 ((k : Int) - 1)]
noncomputable abbrev Ij : Code := part (ax oe) [1,1,1,0,1,0,0]
theorem acs {A b : Nat} : aI T dx [] 60 oI (before (ax oe) [1,1,1,0,1]) ⟨aL 0 [.mag A, .int .u32 b], [], 0⟩ =
  some (aa.ag [(0 : Int) ≤ (↑(nl A) : Int) ∧ (↑(nl A) : Int) ≤ (↑(nl A) : Int) ∧ (↑(nl A) : Int) ≤ (2 : Int) ^ 47 ∧ (↑(nl A) : Int) * (↑(4 : Nat) : Int) ≤ (2 : Int) ^ 47] (aa.leaf aj.normal ([mag A, int IntKind.u32 (↑b : Int), own 16384 1 0 (↑(nl A) : Int).toNat, int IntKind.u64 (0 : Int), int IntKind.i64 (IntKind.i64.wrap ((↑(nl A) : Int) - (1 : Int)))], [((16384 : Nat), ⟨true, true, 1, (↑(nl A) : Int).toNat, fun (x : Nat) ↦ int IntKind.u32 (0 : Int)⟩)]))) := by kernel_rfl
theorem M7 {A b r k : Nat} {o : Nat → Nat} : aI T dx [16] 60 oI [Ij] ⟨aC oI (Cc A b r k 16384), cu 16384 (nl A) o, 16385⟩ =
  some (aa.fork (decide ((↑k : Int) - (1 : Int) ≥ (0 : Int))) (aa.ag [(0 : Int) ≤ (32 : Int), (0 : Int) ≤ (↑k : Int) - (1 : Int) ∧ ((↑k : Int) - (1 : Int)).toNat < nl A] (aa.ag [IntKind.u64.wrap (↑b : Int) ≠ (0 : Int), (0 : Int) ≤ (↑k : Int) - (1 : Int) ∧ ((↑k : Int) - (1 : Int)).toNat < nl A, ((↑k : Int) - (1 : Int)).toNat + 0 < nl A] (aa.ag [IntKind.u64.wrap (↑b : Int) ≠ (0 : Int)] (aa.leaf aj.normal ([mag A, int IntKind.u32 (↑b : Int), own 16384 1 0 (nl A), int IntKind.u64 ((IntKind.u64.wrap (↑(BitVec.ofInt IntKind.u64.bits (IntKind.u64.wrap ((↑r : Int) * (2 : Int) ^ min (Int.toNat (32 : Int)) IntKind.u64.bits)) ||| BitVec.ofInt IntKind.u64.bits (IntKind.u64.wrap (↑(au A ((↑k : Int) - (1 : Int)).toNat) : Int))).toNat : Int)).tmod (IntKind.u64.wrap (↑b : Int))), int IntKind.i64 (IntKind.i64.wrap ((↑k : Int) - (1 : Int) - (1 : Int)))], [((16384 : Nat), ⟨true, true, 1, nl A, fun (j : Nat) ↦ if (j == ((↑k : Int) - (1 : Int)).toNat + 0) = true then int IntKind.u32 (IntKind.u32.wrap (IntKind.u64.wrap ((IntKind.u64.wrap (↑(BitVec.ofInt IntKind.u64.bits (IntKind.u64.wrap ((↑r : Int) * (2 : Int) ^ min (Int.toNat (32 : Int)) IntKind.u64.bits)) ||| BitVec.ofInt IntKind.u64.bits (IntKind.u64.wrap (↑(au A ((↑k : Int) - (1 : Int)).toNat) : Int))).toNat : Int)).tdiv (IntKind.u64.wrap (↑b : Int))))) else ah o j⟩)]))))) (aa.leaf (aj.exit 0) ([mag A, int IntKind.u32 (↑b : Int), own 16384 1 0 (nl A), int IntKind.u64 (↑r : Int), int IntKind.i64 ((↑k : Int) - (1 : Int))], [((16384 : Nat), ⟨true, true, 1, nl A, ah o⟩)]))) := by kernel_rfl
theorem UH {A b r k : Nat} {o : Nat → Nat} : cq T dx [] 60 oe (behind (ax oe) [1,1,1,0,1]) ⟨aC oI (Cc A b r k 16384), cu 16384 (nl A) o, 16385⟩ =
  some (aa.ag [cO (nl A) fun (i : Nat) ↦ ah o (i + 0), nl A < 2 ^ 40] (aa.leaf aj.ret [mag (val (nl A) fun (i : Nat) ↦ numOf (ah o (i + 0))), int IntKind.u32 (IntKind.u32.wrap (↑r : Int))])) := by kernel_rfl
def Fo : aQ := [(mo, s8), (uP, kn (fun A B => .mag (A - B)) fun A B => [B ≤ A, nl A < 2 ^ 40])]
theorem Sr {A B : Nat} : bB T Fo [9] 60 tV (ax tV) ⟨aL 0 [.mag A, .mag B], [], 0⟩ =
  some (aa.ag [nl A < 2 ^ 40, nl B < 2 ^ 40] (aa.fork (decide (bT A B < (0 : Int))) (aa.leaf aj.ret [nil, int IntKind.i64 (7 : Int)]) (aa.ag [B ≤ A, nl A < 2 ^ 40] (aa.leaf aj.ret [mag (A - B), int IntKind.i64 (0 : Int)])))) := by kernel_rfl
theorem ff {K n nx : Nat} {o : Nat → Nat} (h : K < nx) : fk nx (cu K n o) := ⟨⟨h, fun _ _ => rfl⟩, trivial⟩
theorem MA {vo va vb ai x c b' un u' B : Nat} (hx : x = c + b') (hu : un + x = ai + 4294967296 * u') (h : va + c * B = vo + vb) : va + ai * B + u' * (4294967296 * B) = vo + un * B + (vb + b' * B) := by
 have e : (un + x) * B = (ai + 4294967296 * u') * B := by rw [hu]
 subst hx
 grind
theorem G0 {A B : Nat} (hAB : B ≤ A) (hA : nl A < 2 ^ 40) (K : Nat) : aA P uP K [.mag A, .mag B] [] (aG (.mag (A - B)) []) := by
 have hB : nl B ≤ nl A := fu hAB
 refine gb hT abt rfl (of_decide_eq_true (by kernel_rfl)) rfl (fun _ c0 h0 => ?_) K []
 refine aq.hole [1,1,1,0,1] (by kernel_rfl) (aB.aX hT dJ hm 60 lR R9 (by kernel_rfl) ?_)
 simp only [aa.all, ay, Int.toNat_natCast]
 refine ⟨by omega, fun s' hv => bP ?_⟩
 refine aq.fq (i := 0) (y := Fy) (by kernel_rfl) lR 12289 (h0 _) (fun p : Nat × Nat × (Nat → Nat) => xF A B p.2.1 p.1 12288) (fun p => cu 12288 (nl A) p.2.2) (fun _ => rfl) (fun _ => ff (by omega))
  (fun p => p.1 ≤ nl A ∧ p.2.1 ≤ 1 ∧ (∀ j, j < nl A → p.2.2 j < 2 ^ 32) ∧ val p.1 (au A) + p.2.1 * 2 ^ (32 * p.1) = val p.1 p.2.2 + val p.1 (au B))
  (fun p => nl A - p.1) (0, 0, fun _ => 0) hv ⟨by simp, by simp, fun _ _ => by simp, by simp [val]⟩ ?_
 rintro ⟨i, c, o⟩ ⟨hi, hc, ho, hval⟩
 simp only at hi hc ho hval
 refine aq.aX hT dJ hm 60 lR VG (by kernel_rfl) ?_
 have la := cH (N := A) (i := i)
 have lb := cH (N := B) (i := i)
 have wa : IntKind.u64.wrap (au A i : Int) = ((au A i : Nat) : Int) := wrap_u64 (by omega) (by omega)
 have wb : IntKind.u64.wrap (au B i : Int) = ((au B i : Nat) : Int) := wrap_u64 (by omega) (by omega)
 have w1 : IntKind.u64.wrap ((c : Int) + ((au B i : Nat) : Int)) = ((c + au B i : Nat) : Int) := by rw [wrap_u64 (by omega) (by omega)]; omega
 have w2 : IntKind.u64.wrap (((au A i : Nat) : Int) + 4294967296) = ((au A i + 4294967296 : Nat) : Int) := by rw [wrap_u64 (by omega) (by omega)]; omega
 have w3 : IntKind.i64.wrap ((i : Int) + 1) = ((i + 1 : Nat) : Int) := by rw [wrap_i64 (by omega) (by omega)]; omega
 simp only [aa.all, ay, decide_eq_true_eq, decide_eq_false_iff_not, Int.toNat_natCast, Nat.add_zero, beq_iff_eq]
 rw [wa, wb, w1, w2, w3]
 -- what is put down
 have next : ∀ {s' : aE} {x u' : Nat} {v : Int}, i < nl A → x = c + au B i → u' ≤ 1 → x ≤ au A i + 4294967296 * u' → au A i + 4294967296 * u' < x + 4294967296 → v = ((au A i + 4294967296 * u' - x : Nat) : Int) →
   aU lR s' = some (xF A B u' (i + 1) 12288, [(12288, ⟨true, true, 1, nl A, fun j => if j = i then .int .u32 (IntKind.u32.wrap (IntKind.u64.wrap v)) else ah o j⟩)]) →
   ∃ k : Nat × Nat × (Nat → Nat), aU lR s' = some (xF A B k.2.1 k.1 12288, cu 12288 (nl A) k.2.2) ∧ (k.1 ≤ nl A ∧ k.2.1 ≤ 1 ∧ (∀ j, j < nl A → k.2.2 j < 2 ^ 32) ∧ val k.1 (au A) + k.2.1 * 2 ^ (32 * k.1) = val k.1 k.2.2 + val k.1 (au B)) ∧ nl A - k.1 < nl A - i := by
  intro s' x u' v hin hx hu1 h1 h2 hv1 hv
  refine ⟨(i + 1, u', bJ o i (au A i + 4294967296 * u' - x)), cJ hv rfl ?_, ⟨by simp only; omega, hu1, fQ (by omega) ho, ?_⟩, by simp only; omega⟩
  ·simp only [cu]
   congr 3
   funext k
   exact fe (by rw [hv1, wrap_u64 (by omega) (by omega), wrap_u32 (by omega) (by omega)]) k
  ·simp only
   rw [nD, val, val, fB]
   exact MA (b' := au B i) (x := x) hx (by omega) hval
 refine ⟨fun hb => ⟨fun hb2 => ⟨by omega, by omega, fun h3 => ⟨⟨by omega, by omega⟩, fun s' hv => ?_⟩, fun h3 => ⟨⟨by omega, by omega⟩, fun s' hv => ?_⟩⟩, fun hb2 => ⟨by omega, fun h3 => ⟨⟨by omega, by omega⟩, fun s' hv => ?_⟩, fun h3 => ⟨⟨by omega, by omega⟩, fun s' hv => ?_⟩⟩⟩, fun hb s' hv => dQ (bP ?_)⟩
 ·exact next (u' := 1) (by omega) rfl (by omega) (by omega) (by omega) (by omega) hv
 ·exact next (u' := 0) (by omega) rfl (by omega) (by omega) (by omega) (by omega) hv
 ·exact next (u' := 1) (x := c) (by omega) (by rw [gv (A := B) (by omega)]; rfl) (by omega) (by omega) (by omega) (by omega) hv
 ·exact next (u' := 0) (x := c) (by omega) (by rw [gv (A := B) (by omega)]; rfl) (by omega) (by omega) (by omega) (by omega) hv
 ·have hin : i = nl A := by omega
  refine aB.iC hT dJ hm 60 hv (h0 _) rfl (ff (by omega)) Zg (by kernel_rfl) (by kernel_rfl) ?_
  simp only [aa.all, ay, Nat.add_zero, gX]
  refine ⟨⟨eI ho, hA⟩, cI (congrArg AV.mag ?_)⟩
  rw [hin, eC, lW (cB.1 hB)] at hval
  have hlt := eo ho
  have : c = 0 := by
   rcases Nat.eq_zero_or_pos c with h | h
   ·exact h
   ·exfalso
    have h1 : 1 * 2 ^ (32 * nl A) ≤ c * 2 ^ (32 * nl A) := Nat.mul_le_mul_right _ h
    omega
  rw [this] at hval
  omega
theorem aaE : bg P Fo := aH yg (aH (nh fun h => G0 h.1 h.2) bn)
theorem LD {A B : Nat} (hA : nl A < 2 ^ 40) (hB : nl B < 2 ^ 40) (K : Nat) : aA P vl K [.mag A, .mag B] [] (aG (.tuple [.mag (A - B), .int .i64 (if A < B then 7 else 0)]) []) := by
 refine bH hT aaE hm Md rfl (of_decide_eq_true (by kernel_rfl)) rfl 60 Sr (fun _ => ?_) K []
 simp only [aa.all, ay, decide_eq_true_eq, decide_eq_false_iff_not, yF]
 refine ⟨⟨hA, hB⟩, fun h => ⟨?_, bq (by rw [if_pos h]), trivial⟩, fun h => ⟨⟨by omega, hA⟩, .refl _, bq (by rw [if_neg h]), trivial⟩⟩
 rw [Nat.sub_eq_zero_of_le (by omega)]; exact iG
def HG : Spec := kn (fun A B => .tuple [.mag (A - B), .int .i64 (if A < B then 7 else 0)]) BX
theorem VC : ∀ K args pre r, HG K args pre = some r → aA P vl K args pre r := nh fun h => LD h.1 h.2
theorem Lz {A B : Nat} (hA : nl A < 2 ^ 39) (hB : nl B < 2 ^ 39) (K : Nat) : aA P p5 K [.mag A, .mag B] [] (aG (.mag (A * B)) []) := by
 refine gb hT U1 rfl (of_decide_eq_true (by kernel_rfl)) rfl (fun _ c0 h0 => ?_) K []
 refine aq.hole [1,1,0,1] (by kernel_rfl) (aB.aX hT dJ hm 60 iI ZX (by kernel_rfl) ?_)
 have hw : IntKind.i64.wrap ((nl A : Int) + (nl B : Int)) = ((nl A + nl B : Nat) : Int) := dw (by omega) (by omega)
 rw [hw]
 simp only [aa.all, ay, Int.toNat_natCast]
 refine ⟨by omega, fun s' hv => bP ?_⟩
 refine aq.fq (i := 0) (y := mH) (by kernel_rfl) iI 24577 (h0 _) (fun p : Nat × (Nat → Nat) => uH A B p.1 24576) (fun p => cu 24576 (nl A + nl B) p.2) (fun _ => rfl) (fun _ => ff (by omega))
  (fun p => p.1 ≤ nl A ∧ (∀ j, j < nl A + nl B → p.2 j < 2 ^ 32) ∧ (∀ j, p.1 + nl B ≤ j → p.2 j = 0) ∧ val (nl A + nl B) p.2 = val p.1 (au A) * B)
  (fun p => nl A - p.1) (0, fun _ => 0) hv ⟨by simp, fun _ _ => by simp, fun _ _ => rfl, ?_⟩ ?_
 ·simp only
  rw [val_zero fun _ _ => rfl]
  simp [val]
 rintro ⟨i, o⟩ ⟨hi, ho, ho0, hval⟩
 simp only at hi ho ho0 hval
 refine aq.hole [0] (by kernel_rfl) (show aq P c0 jb.ntmps (part mH [0]) _ _ from aq.aX hT dJ hm 60 iI aa1 (by kernel_rfl) ?_)
 simp only [aa.all, decide_eq_true_eq, decide_eq_false_iff_not]
 refine ⟨fun h1 s' hv => bP ?_, fun h1 s' hv => nE (dQ (bP ?_))⟩
 ·have hin : i < nl A := by omega
  have la := cH (N := A) (i := i)
  show aB P c0 jb.ntmps [part mH [1]] s' _
  refine aq.hole [0] (by kernel_rfl) ?_
  show aq P c0 jb.ntmps (part mH [1,0]) s' _
  refine aq.m9 (i := 1) (y := qi) (by kernel_rfl) (aq.hG hv (h0 24577) rfl (ff (by omega)) ?_)
  refine aq.hole [1,0,1] (by kernel_rfl) (aB.aX hT dJ hm 60 oO S5 (by kernel_rfl) fun s' hv => bP ?_)
  refine aq.fq (i := 2) (y := part qi [1,0,1,0,0]) (by kernel_rfl) oO 24577 (h0 _) (fun p : Nat × Nat × (Nat → Nat) => Ac A B i p.2.1 p.1 24576) (fun p => cu 24576 (nl A + nl B) p.2.2) (fun _ => rfl) (fun _ => ff (by omega))
   (fun p => p.1 ≤ nl B ∧ p.2.1 < 2 ^ 32 ∧ (∀ j, j < nl A + nl B → p.2.2 j < 2 ^ 32) ∧ (∀ j, i + nl B ≤ j → p.2.2 j = 0) ∧ val (nl A + nl B) p.2.2 + p.2.1 * 2 ^ (32 * (i + p.1)) = val i (au A) * B + au A i * val p.1 (au B) * 2 ^ (32 * i))
   (fun p => nl B - p.1) (0, 0, o) hv ⟨by simp, by simp, ho, ho0, by simp [val, hval]⟩ ?_
  rintro ⟨j, c, o⟩ ⟨hj, hc, ho, ho0, hval⟩
  simp only at hj hc ho ho0 hval
  refine aq.aX hT dJ hm 60 oO aah (by kernel_rfl) ?_
  have hij : IntKind.i64.wrap ((i : Int) + (j : Int)) = ((i + j : Nat) : Int) := dw (by omega) (by omega)
  have lb := cH (N := B) (i := j)
  simp only [aa.all, ay, decide_eq_true_eq, decide_eq_false_iff_not, hij, Int.toNat_natCast, Nat.add_zero, beq_iff_eq]
  refine ⟨fun h2 => ?_, fun h2 s' hv => dQ ?_⟩
  ·have hjm : j < nl B := by omega
   obtain ⟨m1, m2, m3⟩ := HF hc la lb (ho (i + j) (by omega))
   rw [m1]
   refine ⟨⟨by omega, by omega, by omega, by omega⟩, ⟨by omega, by omega⟩, by omega, fun s' hv => ⟨(j + 1, (c + au A i * au B j + o (i + j)) / 4294967296, bJ o (i + j) ((c + au A i * au B j + o (i + j)) % 4294967296)), cJ hv ?_ ?_, ⟨by simp only; omega, m3, fQ (by omega) ho, fun k hk => ?_, ?_⟩, by simp only; omega⟩⟩
   ·rw [jo, dw (a := (j : Int) + 1) (n := j + 1) (by omega) (by omega)]
    simp only [Ac, List.cons.injEq, AV.int.injEq, and_true, true_and]
    omega
   ·simp only [cu]
    congr 3
    funext k
    exact fe (by rw [gZ]) k
   ·exact (eg (by omega)).trans (ho0 k hk)
   ·simp only
    rw [show 32 * (i + (j + 1)) = 32 * ((i + j) + 1) by omega, fB, val]
    have hset := Bd (o := o) (x := (c + au A i * au B j + o (i + j)) % 4294967296) (show i + j < nl A + nl B by omega)
    exact HS rfl (Nat.div_add_mod _ _) hset (by rw [← Nat.pow_add]; congr 1; omega) hval
  ·show aB P c0 jb.ntmps (behind qi [1,0,1]) s' _
   have hjm : j = nl B := by omega
   have hib : IntKind.i64.wrap ((i : Int) + (nl B : Int)) = ((i + nl B : Nat) : Int) := dw (by omega) (by omega)
   refine aB.dN hT dJ hm 60 hv (h0 24577) rfl (ff (by omega)) iI aaO (by kernel_rfl) (by kernel_rfl) ?_
   rw [hib]
   simp only [aa.all, ay, Int.toNat_natCast, Nat.add_zero, beq_iff_eq]
   refine ⟨⟨by omega, by omega⟩, fun s' hv => ?_⟩
   have hf : (fun k => if k = i + nl B then AV.int .u32 (IntKind.u32.wrap (c : Int)) else ah o k) = ah (bJ o (i + nl B) c) := by
    funext k
    exact fe (wrap_u32 (by omega) (by omega)) k
   rw [hf] at hv
   show aB P c0 jb.ntmps [part mH [1,1]] s' _
   refine aB.dN hT dJ hm 60 hv (h0 24577) rfl (ff (by omega)) iI VW (by kernel_rfl) (by kernel_rfl) fun s' hv => bP ?_
   refine ⟨(i + 1, bJ o (i + nl B) c), cJ hv ?_ rfl, ⟨by simp only; omega, fQ hc ho, fun k hk => (eg (by simp only at hk; omega)).trans (ho0 k (by simp only at hk; omega)), ?_⟩, by simp only; omega⟩
   ·rw [dw (a := (i : Int) + 1) (n := i + 1) (by omega) (by omega)]
   ·simp only
    rw [hjm, eC] at hval
    rw [oH (by omega) (ho0 _ (by omega)), hval, val, Nat.add_mul, Nat.mul_assoc, Nat.mul_assoc, Nat.mul_comm B]
 ·have hin : i = nl A := by omega
  refine aB.iC hT dJ hm 60 hv (h0 _) rfl (ff (by omega)) WN (by kernel_rfl) (by kernel_rfl) ?_
  simp only [aa.all, ay, Nat.add_zero, gX]
  refine ⟨⟨eI ho, by omega⟩, cI (congrArg AV.mag ?_)⟩
  rw [hval, hin, eC]
def Bg : Spec := kn (fun A B => .mag (A * B)) fun A B => [nl A < 2 ^ 39, nl B < 2 ^ 39]
theorem Ey : ∀ K args pre r, Bg K args pre = some r → aA P p5 K args pre r := nh fun h => Lz h.1 h.2
theorem EO {v b r A : Nat} (h : v * b + r = A) (hr : r < b) : A / b = v ∧ A % b = r := by
 subst h
 refine ⟨?_, ?_⟩
 ·rw [Nat.mul_comm, Nat.mul_add_div (by omega), Nat.div_eq_of_lt hr, Nat.add_zero]
 ·rw [Nat.mul_comm, Nat.mul_add_mod, Nat.mod_eq_of_lt hr]
theorem Z0 {A b : Nat} (hA : nl A < 2 ^ 40) (hb0 : 0 < b) (hb32 : b < 2 ^ 32) (K : Nat) : aA P rB K [.mag A, .int .u32 b] [] (aG (.tuple [.mag (A / b), .int .u32 (A % b : Nat)]) []) := by
 refine gb hT abz rfl (of_decide_eq_true (by kernel_rfl)) rfl (fun _ c0 h0 => ?_) K []
 refine aq.hole [1,1,1,0,1] (by kernel_rfl) (aB.aX hT dJ hm 60 oI acs (by kernel_rfl) ?_)
 simp only [aa.all, ay, Int.toNat_natCast]
 refine ⟨by omega, fun s' hv => bP ?_⟩
 refine aq.fq (i := 0) (y := Ij) (by kernel_rfl) oI 16385 (h0 _) (fun p : Nat × Nat × (Nat → Nat) => Cc A b p.2.1 p.1 16384) (fun p => cu 16384 (nl A) p.2.2) (fun _ => rfl) (fun _ => ff (by omega))
  (fun p => p.1 ≤ nl A ∧ p.2.1 < b ∧ (∀ j, j < nl A → p.2.2 j < 2 ^ 32) ∧ (∀ j, j < p.1 → p.2.2 j = 0) ∧ val (nl A) p.2.2 * b + p.2.1 * 2 ^ (32 * p.1) + val p.1 (au A) = A)
  (fun p => p.1) (nl A, 0, fun _ => 0) (cJ hv (by rw [wrap_i64 (by omega) (by omega)]; rfl) rfl) ⟨by simp, hb0, fun j _ => by simp, fun j _ => rfl, ?_⟩ ?_
 ·simp only
  rw [val_zero fun _ _ => rfl, eC]
  simp
 rintro ⟨k, r, o⟩ ⟨hk, hr, ho, ho0, hval⟩
 simp only at hk hr ho ho0 hval
 refine aq.aX hT dJ hm 60 oI M7 (by kernel_rfl) ?_
 simp only [aa.all, ay, decide_eq_true_eq, decide_eq_false_iff_not, Nat.add_zero, beq_iff_eq]
 have hbw : IntKind.u64.wrap (b : Int) = (b : Int) := wrap_u64 (by omega) (by omega)
 refine ⟨fun hb => ?_, fun hb s' hv => dQ (bP ?_)⟩
 ·obtain ⟨j, rfl⟩ : ∃ j, k = j + 1 := ⟨k - 1, by omega⟩
  have e : (((j + 1 : Nat) : Int) - 1).toNat = j := by omega
  have hzj := cH (N := A) (i := j)
  have hor := rj (a := r) (b := au A j) (by omega) hzj
  rw [e, hor, hbw]
  have hq1 : (r * 4294967296 + au A j) / b < 2 ^ 32 := by
   rw [Nat.div_lt_iff_lt_mul hb0]
   have : (r + 1) * 4294967296 ≤ b * 4294967296 := Nat.mul_le_mul_right _ hr
   omega
  have hdm := Nat.div_add_mod (r * 4294967296 + au A j) b
  refine ⟨⟨by omega, by omega, by omega⟩, ⟨by omega, ⟨by omega, by omega⟩, by omega⟩, by omega, fun s' hv => ⟨(j, (r * 4294967296 + au A j) % b, bJ o j ((r * 4294967296 + au A j) / b)), cJ hv ?_ ?_, ⟨by simp only; omega, Nat.mod_lt _ hb0, fQ hq1 ho, fun i hi => ?_, ?_⟩, by simp only; omega⟩⟩
  ·rw [← Int.ofNat_tmod, wrap_i64 (by omega) (by omega), show ((j + 1 : Nat) : Int) - 1 - 1 = (j : Int) - 1 by omega]
  ·simp only [cu]
   congr 3
   funext i
   refine fe ?_ i
   rw [← Int.ofNat_tdiv]
   clear hdm
   generalize (r * 4294967296 + au A j) / b = q at hq1 ⊢
   rw [wrap_u64 (by omega) (by omega), wrap_u32 (by omega) (by omega)]
  ·exact (eg (by simp only at hi; omega)).trans (ho0 i (by simp only at hi; omega))
  ·simp only
   rw [oH (by omega) (ho0 j (by omega))]
   rw [fB, val] at hval
   exact F5 hval hdm.symm
 ·have hk0 : k = 0 := by omega
  have hv2 : val (nl A) o * b + r = A := by rw [hk0] at hval; simpa [val] using hval
  refine aB.iC hT dJ hm 60 hv (h0 _) rfl (ff (by omega)) UH (by kernel_rfl) (by kernel_rfl) ?_
  simp only [aa.all, ay, Nat.add_zero, gX]
  obtain ⟨hdiv, hmod⟩ := EO hv2 hr
  exact ⟨⟨eI ho, hA⟩, cI (congrArg AV.mag hdiv.symm), bq (by rw [hmod, wrap_u32 (by omega) (by omega)]), trivial⟩
def BQ : Spec := bu fun l => match l with
 | [a, .int .u32 b] => match gm a with
  | some A => some (aG (.tuple [.mag (A / b.toNat), .int .u32 (A % b.toNat : Nat)]) [nl A < 2 ^ 40, 0 < b, b < 2 ^ 32])
  | none => none
 | _ => none
theorem DU : ∀ K args pre r, BQ K args pre = some r → aA P rB K args pre r := by
 refine bN fun K args r hk hs _ => ?_
 split at hs
 ·rename_i a b
  split at hs
  ·rename_i A hA
   simp only [Option.some.injEq] at hs
   subst hs
   intro need
   obtain ⟨h1, h2, h3⟩ : nl A < 2 ^ 40 ∧ 0 < b ∧ b < 2 ^ 32 := need
   obtain ⟨b, rfl⟩ := Int.eq_ofNat_of_zero_le (Int.le_of_lt h2)
   exact fc (Z0 h1 (by omega) (by omega) K) hk ⟨jg hA, .refl _, trivial⟩ [] trivial
  ·simp at hs
 ·simp at hs
end Go.Am.B
