/- ref01: minus, Sub, Mul, byLimb. -/
import Derived.Test.YtbghpkgbokbmlaaGreatB23
set_option linter.unusedVariables false
namespace Go.Am.B
open Go Go.Am.N AV
theorem YQ : aP P rD nw (au nw) := aL SF (by kernel_rfl) (by kernel_rfl) (by kernel_rfl)
theorem Ra : aP P uQ tG (au tG) := aL Um (by kernel_rfl) (by kernel_rfl) (by kernel_rfl)
theorem Mo : aP P pB je (au je) := aL aci (by kernel_rfl) (by kernel_rfl) (by kernel_rfl)
theorem X8 : aP P qk nq (au nq) := aL Z6 (by kernel_rfl) (by kernel_rfl) (by kernel_rfl)
abbrev kQ : List Nat := [0, 1, 5, 6, 7]
abbrev rq (A B c i K : Nat) : List AV := [.mag A, .mag B, .own K 1 0 (nl A), .int .u64 c, .int .i64 i]
abbrev cu (K n : Nat) (o : Nat → Nat) : aD := [(K, ⟨true, true, 1, n, ah o⟩)]
noncomputable abbrev GV : Code := part (au nw) [1,1,1,0,1,0,0]
theorem Pf {A B : Nat} : aH T dK [] 60 kQ (before (au nw) [1,1,1,0,1]) ⟨aM 0 [.mag A, .mag B], [], 0⟩ =
  some (aa.af [(0 : Int) ≤ (↑(nl A) : Int) ∧ (↑(nl A) : Int) ≤ (↑(nl A) : Int) ∧ (↑(nl A) : Int) ≤ (2 : Int) ^ 47 ∧ (↑(nl A) : Int) * (↑(4 : Nat) : Int) ≤ (2 : Int) ^ 47] (aa.leaf ag.normal ([mag A, mag B, own 12288 1 0 (↑(nl A) : Int).toNat, int IntKind.u64 (0 : Int), int IntKind.i64 (0 : Int)], [((12288 : Nat), ⟨true, true, 1, (↑(nl A) : Int).toNat, fun (x : Nat) ↦ int IntKind.u32 (0 : Int)⟩)]))) := by kernel_rfl
theorem adB {A B c i : Nat} {o : Nat → Nat} : aH T dK [16, 23, 38] 60 kQ [GV] ⟨aB kQ (rq A B c i 12288), cu 12288 (nl A) o, 12289⟩ =
  some (aa.fork (decide ((↑i : Int) < (↑(nl A) : Int))) (aa.fork (decide ((↑i : Int) < (↑(nl B) : Int))) (aa.af [(0 : Int) ≤ (↑i : Int) ∧ (↑i : Int).toNat < nl B] (aa.af [(0 : Int) ≤ (↑i : Int) ∧ (↑i : Int).toNat < nl A] (aa.fork (decide (IntKind.u64.wrap (↑(ak A (↑i : Int).toNat) : Int) < IntKind.u64.wrap ((↑c : Int) + IntKind.u64.wrap (↑(ak B (↑i : Int).toNat) : Int)))) (aa.af [(0 : Int) ≤ (↑i : Int) ∧ (↑i : Int).toNat < nl A, (↑i : Int).toNat + 0 < nl A] (aa.leaf ag.normal ([mag A, mag B, own 12288 1 0 (nl A), int IntKind.u64 (1 : Int), int IntKind.i64 (IntKind.i64.wrap ((↑i : Int) + (1 : Int)))], [((12288 : Nat), ⟨true, true, 1, nl A, fun (j : Nat) ↦ if (j == (↑i : Int).toNat + 0) = true then int IntKind.u32 (IntKind.u32.wrap (IntKind.u64.wrap (IntKind.u64.wrap (IntKind.u64.wrap (↑(ak A (↑i : Int).toNat) : Int) + (4294967296 : Int)) - IntKind.u64.wrap ((↑c : Int) + IntKind.u64.wrap (↑(ak B (↑i : Int).toNat) : Int))))) else ah o j⟩)]))) (aa.af [(0 : Int) ≤ (↑i : Int) ∧ (↑i : Int).toNat < nl A, (↑i : Int).toNat + 0 < nl A] (aa.leaf ag.normal ([mag A, mag B, own 12288 1 0 (nl A), int IntKind.u64 (0 : Int), int IntKind.i64 (IntKind.i64.wrap ((↑i : Int) + (1 : Int)))], [((12288 : Nat), ⟨true, true, 1, nl A, fun (j : Nat) ↦ if (j == (↑i : Int).toNat + 0) = true then int IntKind.u32 (IntKind.u32.wrap (IntKind.u64.wrap (IntKind.u64.wrap (↑(ak A (↑i : Int).toNat) : Int) - IntKind.u64.wrap ((↑c : Int) + IntKind.u64.wrap (↑(ak B (↑i : Int).toNat) : Int))))) else ah o j⟩)])))))) (aa.af [(0 : Int) ≤ (↑i : Int) ∧ (↑i : Int).toNat < nl A] (aa.fork (decide (IntKind.u64.wrap (↑(ak A (↑i : Int).toNat) : Int) < (↑c : Int))) (aa.af [(0 : Int) ≤ (↑i : Int) ∧ (↑i : Int).toNat < nl A, (↑i : Int).toNat + 0 < nl A] (aa.leaf ag.normal ([mag A, mag B, own 12288 1 0 (nl A), int IntKind.u64 (1 : Int), int IntKind.i64 (IntKind.i64.wrap ((↑i : Int) + (1 : Int)))], [((12288 : Nat), ⟨true, true, 1, nl A, fun (j : Nat) ↦ if (j == (↑i : Int).toNat + 0) = true then int IntKind.u32 (IntKind.u32.wrap (IntKind.u64.wrap (IntKind.u64.wrap (IntKind.u64.wrap (↑(ak A (↑i : Int).toNat) : Int) + (4294967296 : Int)) - (↑c : Int)))) else ah o j⟩)]))) (aa.af [(0 : Int) ≤ (↑i : Int) ∧ (↑i : Int).toNat < nl A, (↑i : Int).toNat + 0 < nl A] (aa.leaf ag.normal ([mag A, mag B, own 12288 1 0 (nl A), int IntKind.u64 (0 : Int), int IntKind.i64 (IntKind.i64.wrap ((↑i : Int) + (1 : Int)))], [((12288 : Nat), ⟨true, true, 1, nl A, fun (j : Nat) ↦ if (j == (↑i : Int).toNat + 0) = true then int IntKind.u32 (IntKind.u32.wrap (IntKind.u64.wrap (IntKind.u64.wrap (↑(ak A (↑i : Int).toNat) : Int) - (↑c : Int)))) else ah o j⟩)])))))) (aa.leaf (ag.exit 0) ([mag A, mag B, own 12288 1 0 (nl A), int IntKind.u64 (↑c : Int), int IntKind.i64 (↑i : Int)], [((12288 : Nat), ⟨true, true, 1, nl A, ah o⟩)]))) := by kernel_rfl
theorem Te {A B c i : Nat} {o : Nat → Nat} : bW T dK [] 60 nw (behind (au nw) [1,1,1,0,1]) ⟨aB kQ (rq A B c i 12288), cu 12288 (nl A) o, 12289⟩ =
  some (aa.af [cR (nl A) fun (i : Nat) ↦ ah o (i + 0), nl A < 2 ^ 40] (aa.leaf ag.ret [mag (val (nl A) fun (i : Nat) ↦ numOf (ah o (i + 0)))])) := by kernel_rfl
abbrev iQ : List Nat := [0, 1, 5, 6]
abbrev vc (A B i K : Nat) : List AV := [.mag A, .mag B, .own K 1 0 (nl A + nl B), .int .i64 i]
abbrev ot : List Nat := [0, 1, 5, 6, 7, 8]
abbrev xx (A B i c j K : Nat) : List AV := [.mag A, .mag B, .own K 1 0 (nl A + nl B), .int .i64 i, .int .u64 c, .int .i64 j]
noncomputable abbrev mZ : Code := part (au je) [1,1,0,1,0,0]
noncomputable abbrev qK : Code := part mZ [1,0,0]
theorem Si {A B : Nat} : aH T dK [] 60 iQ (before (au je) [1,1,0,1]) ⟨aM 0 [.mag A, .mag B], [], 0⟩ =
  some (aa.af [(0 : Int) ≤ IntKind.i64.wrap ((↑(nl A) : Int) + (↑(nl B) : Int)) ∧ IntKind.i64.wrap ((↑(nl A) : Int) + (↑(nl B) : Int)) ≤ IntKind.i64.wrap ((↑(nl A) : Int) + (↑(nl B) : Int)) ∧ IntKind.i64.wrap ((↑(nl A) : Int) + (↑(nl B) : Int)) ≤ (2 : Int) ^ 47 ∧ IntKind.i64.wrap ((↑(nl A) : Int) + (↑(nl B) : Int)) * (↑(4 : Nat) : Int) ≤ (2 : Int) ^ 47] (aa.leaf ag.normal ([mag A, mag B, own 24576 1 0 (IntKind.i64.wrap ((↑(nl A) : Int) + (↑(nl B) : Int))).toNat, int IntKind.i64 (0 : Int)], [((24576 : Nat), ⟨true, true, 1, (IntKind.i64.wrap ((↑(nl A) : Int) + (↑(nl B) : Int))).toNat, fun (x : Nat) ↦ int IntKind.u32 (0 : Int)⟩)]))) := by kernel_rfl
theorem Ze {A B i : Nat} {o : Nat → Nat} : aH T dK [18] 60 iQ [part mZ [0]] ⟨aB iQ (vc A B i 24576), cu 24576 (nl A + nl B) o, 24577⟩ =
  some (aa.fork (decide ((↑i : Int) < (↑(nl A) : Int))) (aa.leaf ag.normal ([mag A, mag B, own 24576 1 0 (nl A + nl B), int IntKind.i64 (↑i : Int)], [((24576 : Nat), ⟨true, true, 1, nl A + nl B, ah o⟩)])) (aa.leaf (ag.exit 0) ([mag A, mag B, own 24576 1 0 (nl A + nl B), int IntKind.i64 (↑i : Int)], [((24576 : Nat), ⟨true, true, 1, nl A + nl B, ah o⟩)]))) := by kernel_rfl
theorem RR {A B i : Nat} {o : Nat → Nat} : aH T dK [] 60 ot (before qK [1,0,1]) ⟨aB iQ (vc A B i 24576), cu 24576 (nl A + nl B) o, 24577⟩ =
  some (aa.leaf ag.normal ([mag A, mag B, own 24576 1 0 (nl A + nl B), int IntKind.i64 (↑i : Int), int IntKind.u64 (0 : Int), int IntKind.i64 (0 : Int)], [((24576 : Nat), ⟨true, true, 1, nl A + nl B, ah o⟩)])) := by kernel_rfl
theorem LX {A B i c j : Nat} {o : Nat → Nat} : aH T dK [24] 60 ot [part qK [1,0,1,0,0]] ⟨aB ot (xx A B i c j 24576), cu 24576 (nl A + nl B) o, 24577⟩ =
  some (aa.fork (decide ((↑j : Int) < (↑(nl B) : Int))) (aa.af [(0 : Int) ≤ (↑i : Int) ∧ (↑i : Int).toNat < nl A, (0 : Int) ≤ (↑j : Int) ∧ (↑j : Int).toNat < nl B, (0 : Int) ≤ IntKind.i64.wrap ((↑i : Int) + (↑j : Int)) ∧ (IntKind.i64.wrap ((↑i : Int) + (↑j : Int))).toNat < nl A + nl B, (IntKind.i64.wrap ((↑i : Int) + (↑j : Int))).toNat + 0 < nl A + nl B] (aa.af [(0 : Int) ≤ IntKind.i64.wrap ((↑i : Int) + (↑j : Int)) ∧ (IntKind.i64.wrap ((↑i : Int) + (↑j : Int))).toNat < nl A + nl B, (IntKind.i64.wrap ((↑i : Int) + (↑j : Int))).toNat + 0 < nl A + nl B] (aa.af [(0 : Int) ≤ (32 : Int)] (aa.leaf ag.normal ([mag A, mag B, own 24576 1 0 (nl A + nl B), int IntKind.i64 (↑i : Int), int IntKind.u64 ((IntKind.u64.wrap ((↑c : Int) + IntKind.u64.wrap (IntKind.u64.wrap (IntKind.u64.wrap (↑(ak A (↑i : Int).toNat) : Int) * IntKind.u64.wrap (↑(ak B (↑j : Int).toNat) : Int)) + IntKind.u64.wrap (↑(o ((IntKind.i64.wrap ((↑i : Int) + (↑j : Int))).toNat + 0)) : Int)))).fdiv ((2 : Int) ^ min (Int.toNat (32 : Int)) IntKind.u64.bits)), int IntKind.i64 (IntKind.i64.wrap ((↑j : Int) + (1 : Int)))], [((24576 : Nat), ⟨true, true, 1, nl A + nl B, fun (j_1 : Nat) ↦ if (j_1 == (IntKind.i64.wrap ((↑i : Int) + (↑j : Int))).toNat + 0) = true then int IntKind.u32 (IntKind.u32.wrap (IntKind.u64.wrap ((↑c : Int) + IntKind.u64.wrap (IntKind.u64.wrap (IntKind.u64.wrap (↑(ak A (↑i : Int).toNat) : Int) * IntKind.u64.wrap (↑(ak B (↑j : Int).toNat) : Int)) + IntKind.u64.wrap (↑(o ((IntKind.i64.wrap ((↑i : Int) + (↑j : Int))).toNat + 0)) : Int))))) else ah o j_1⟩)]))))) (aa.leaf (ag.exit 2) ([mag A, mag B, own 24576 1 0 (nl A + nl B), int IntKind.i64 (↑i : Int), int IntKind.u64 (↑c : Int), int IntKind.i64 (↑j : Int)], [((24576 : Nat), ⟨true, true, 1, nl A + nl B, ah o⟩)]))) := by kernel_rfl
theorem Yf {A B i c j : Nat} {o : Nat → Nat} : aH T dK [] 60 iQ (behind qK [1,0,1]) ⟨aB ot (xx A B i c j 24576), cu 24576 (nl A + nl B) o, 24577⟩ =
  some (aa.af [(0 : Int) ≤ IntKind.i64.wrap ((↑i : Int) + (↑(nl B) : Int)) ∧ (IntKind.i64.wrap ((↑i : Int) + (↑(nl B) : Int))).toNat < nl A + nl B, (IntKind.i64.wrap ((↑i : Int) + (↑(nl B) : Int))).toNat + 0 < nl A + nl B] (aa.leaf ag.normal ([mag A, mag B, own 24576 1 0 (nl A + nl B), int IntKind.i64 (↑i : Int)], [((24576 : Nat), ⟨true, true, 1, nl A + nl B, fun (j : Nat) ↦ if (j == (IntKind.i64.wrap ((↑i : Int) + (↑(nl B) : Int))).toNat + 0) = true then int IntKind.u32 (IntKind.u32.wrap (↑c : Int)) else ah o j⟩)]))) := by kernel_rfl
theorem aaK {A B i : Nat} {o : Nat → Nat} : aH T dK [] 60 iQ [part mZ [1,1]] ⟨aB iQ (vc A B i 24576), cu 24576 (nl A + nl B) o, 24577⟩ =
  some (aa.leaf ag.normal ([mag A, mag B, own 24576 1 0 (nl A + nl B), int IntKind.i64 (IntKind.i64.wrap ((↑i : Int) + (1 : Int)))], [((24576 : Nat), ⟨true, true, 1, nl A + nl B, ah o⟩)])) := by kernel_rfl
theorem adv {A B i : Nat} {o : Nat → Nat} : bW T dK [] 60 je (behind (au je) [1,1,0,1]) ⟨aB iQ (vc A B i 24576), cu 24576 (nl A + nl B) o, 24577⟩ =
  some (aa.af [cR (nl A + nl B) fun (i : Nat) ↦ ah o (i + 0), nl A + nl B < 2 ^ 40] (aa.leaf ag.ret [mag (val (nl A + nl B) fun (i : Nat) ↦ numOf (ah o (i + 0)))])) := by kernel_rfl
abbrev ny : List Nat := [0, 1, 6, 7, 8]
abbrev Bp (A b r k K : Nat) : List AV := [.mag A, .int .u32 b, .own K 1 0 (nl A), .int .u64 r, .int .i64 ((k : Int) - 1)]
noncomputable abbrev DJ : Code := part (au nq) [1,1,1,0,1,0,0]
theorem aan {A b : Nat} : aH T dK [] 60 ny (before (au nq) [1,1,1,0,1]) ⟨aM 0 [.mag A, .int .u32 b], [], 0⟩ =
  some (aa.af [(0 : Int) ≤ (↑(nl A) : Int) ∧ (↑(nl A) : Int) ≤ (↑(nl A) : Int) ∧ (↑(nl A) : Int) ≤ (2 : Int) ^ 47 ∧ (↑(nl A) : Int) * (↑(4 : Nat) : Int) ≤ (2 : Int) ^ 47] (aa.leaf ag.normal ([mag A, int IntKind.u32 (↑b : Int), own 16384 1 0 (↑(nl A) : Int).toNat, int IntKind.u64 (0 : Int), int IntKind.i64 (IntKind.i64.wrap ((↑(nl A) : Int) - (1 : Int)))], [((16384 : Nat), ⟨true, true, 1, (↑(nl A) : Int).toNat, fun (x : Nat) ↦ int IntKind.u32 (0 : Int)⟩)]))) := by kernel_rfl
theorem OI {A b r k : Nat} {o : Nat → Nat} : aH T dK [16] 60 ny [DJ] ⟨aB ny (Bp A b r k 16384), cu 16384 (nl A) o, 16385⟩ =
  some (aa.fork (decide ((↑k : Int) - (1 : Int) ≥ (0 : Int))) (aa.af [(0 : Int) ≤ (32 : Int), (0 : Int) ≤ (↑k : Int) - (1 : Int) ∧ ((↑k : Int) - (1 : Int)).toNat < nl A] (aa.af [IntKind.u64.wrap (↑b : Int) ≠ (0 : Int), (0 : Int) ≤ (↑k : Int) - (1 : Int) ∧ ((↑k : Int) - (1 : Int)).toNat < nl A, ((↑k : Int) - (1 : Int)).toNat + 0 < nl A] (aa.af [IntKind.u64.wrap (↑b : Int) ≠ (0 : Int)] (aa.leaf ag.normal ([mag A, int IntKind.u32 (↑b : Int), own 16384 1 0 (nl A), int IntKind.u64 ((IntKind.u64.wrap (↑(BitVec.ofInt IntKind.u64.bits (IntKind.u64.wrap ((↑r : Int) * (2 : Int) ^ min (Int.toNat (32 : Int)) IntKind.u64.bits)) ||| BitVec.ofInt IntKind.u64.bits (IntKind.u64.wrap (↑(ak A ((↑k : Int) - (1 : Int)).toNat) : Int))).toNat : Int)).tmod (IntKind.u64.wrap (↑b : Int))), int IntKind.i64 (IntKind.i64.wrap ((↑k : Int) - (1 : Int) - (1 : Int)))], [((16384 : Nat), ⟨true, true, 1, nl A, fun (j : Nat) ↦ if (j == ((↑k : Int) - (1 : Int)).toNat + 0) = true then int IntKind.u32 (IntKind.u32.wrap (IntKind.u64.wrap ((IntKind.u64.wrap (↑(BitVec.ofInt IntKind.u64.bits (IntKind.u64.wrap ((↑r : Int) * (2 : Int) ^ min (Int.toNat (32 : Int)) IntKind.u64.bits)) ||| BitVec.ofInt IntKind.u64.bits (IntKind.u64.wrap (↑(ak A ((↑k : Int) - (1 : Int)).toNat) : Int))).toNat : Int)).tdiv (IntKind.u64.wrap (↑b : Int))))) else ah o j⟩)]))))) (aa.leaf (ag.exit 0) ([mag A, int IntKind.u32 (↑b : Int), own 16384 1 0 (nl A), int IntKind.u64 (↑r : Int), int IntKind.i64 ((↑k : Int) - (1 : Int))], [((16384 : Nat), ⟨true, true, 1, nl A, ah o⟩)]))) := by kernel_rfl
theorem abk {A b r k : Nat} {o : Nat → Nat} : bW T dK [] 60 nq (behind (au nq) [1,1,1,0,1]) ⟨aB ny (Bp A b r k 16384), cu 16384 (nl A) o, 16385⟩ =
  some (aa.af [cR (nl A) fun (i : Nat) ↦ ah o (i + 0), nl A < 2 ^ 40] (aa.leaf ag.ret [mag (val (nl A) fun (i : Nat) ↦ numOf (ah o (i + 0))), int IntKind.u32 (IntKind.u32.wrap (↑r : Int))])) := by kernel_rfl
def Ga : aQ := [(lW, w7), (rD, jT (fun A B => .mag (A - B)) fun A B => [B ≤ A, nl A < 2 ^ 40])]
theorem UQ {A B : Nat} : bA T Ga [9] 60 tG (au tG) ⟨aM 0 [.mag A, .mag B], [], 0⟩ =
  some (aa.af [nl A < 2 ^ 40, nl B < 2 ^ 40] (aa.fork (decide (bN A B < (0 : Int))) (aa.leaf ag.ret [nil, int IntKind.i64 (7 : Int)]) (aa.af [B ≤ A, nl A < 2 ^ 40] (aa.leaf ag.ret [mag (A - B), int IntKind.i64 (0 : Int)])))) := by kernel_rfl
theorem fz {K n nx : Nat} {o : Nat → Nat} (h : K < nx) : fE nx (cu K n o) := ⟨⟨h, fun _ _ => rfl⟩, trivial⟩
theorem Sn {vo va vb ai x c b' un u' B : Nat} (hx : x = c + b') (hu : un + x = ai + 4294967296 * u') (h : va + c * B = vo + vb) : va + ai * B + u' * (4294967296 * B) = vo + un * B + (vb + b' * B) := by
 have e : (un + x) * B = (ai + 4294967296 * u') * B := by rw [hu]
 subst hx
 grind
theorem Lz {A B : Nat} (hAB : B ≤ A) (hA : nl A < 2 ^ 40) (K : Nat) : az P rD K [.mag A, .mag B] [] (aF (.mag (A - B)) []) := by
 have hB : nl B ≤ nl A := fu hAB
 refine fe hT YQ rfl (of_decide_eq_true (by kernel_rfl)) rfl (fun _ c0 h0 => ?_) K []
 refine aq.hole [1,1,1,0,1] (by kernel_rfl) (aA.aZ hT dL hm 60 kQ Pf (by kernel_rfl) ?_)
 simp only [aa.all, ax, Int.toNat_natCast]
 refine ⟨by omega, fun s' hv => bI ?_⟩
 refine aq.fF (i := 0) (y := GV) (by kernel_rfl) kQ 12289 (h0 _) (fun p : Nat × Nat × (Nat → Nat) => rq A B p.2.1 p.1 12288) (fun p => cu 12288 (nl A) p.2.2) (fun _ => rfl) (fun _ => fz (by omega))
  (fun p => p.1 ≤ nl A ∧ p.2.1 ≤ 1 ∧ (∀ j, j < nl A → p.2.2 j < 2 ^ 32) ∧ val p.1 (ak A) + p.2.1 * 2 ^ (32 * p.1) = val p.1 p.2.2 + val p.1 (ak B))
  (fun p => nl A - p.1) (0, 0, fun _ => 0) hv ⟨by simp, by simp, fun _ _ => by simp, by simp [val]⟩ ?_
 rintro ⟨i, c, o⟩ ⟨hi, hc, ho, hval⟩
 simp only at hi hc ho hval
 refine aq.aZ hT dL hm 60 kQ adB (by kernel_rfl) ?_
 have la := cJ (N := A) (i := i)
 have lb := cJ (N := B) (i := i)
 have wa : IntKind.u64.wrap (ak A i : Int) = ((ak A i : Nat) : Int) := bC (by omega) (by omega)
 have wb : IntKind.u64.wrap (ak B i : Int) = ((ak B i : Nat) : Int) := bC (by omega) (by omega)
 have w1 : IntKind.u64.wrap ((c : Int) + ((ak B i : Nat) : Int)) = ((c + ak B i : Nat) : Int) := by rw [bC (by omega) (by omega)]; omega
 have w2 : IntKind.u64.wrap (((ak A i : Nat) : Int) + 4294967296) = ((ak A i + 4294967296 : Nat) : Int) := by rw [bC (by omega) (by omega)]; omega
 have w3 : IntKind.i64.wrap ((i : Int) + 1) = ((i + 1 : Nat) : Int) := by rw [wrap_i64 (by omega) (by omega)]; omega
 simp only [aa.all, ax, decide_eq_true_eq, decide_eq_false_iff_not, Int.toNat_natCast, Nat.add_zero, beq_iff_eq]
 rw [wa, wb, w1, w2, w3]
 -- what is put down
 have next : ∀ {s' : aE} {x u' : Nat} {v : Int}, i < nl A → x = c + ak B i → u' ≤ 1 → x ≤ ak A i + 4294967296 * u' → ak A i + 4294967296 * u' < x + 4294967296 → v = ((ak A i + 4294967296 * u' - x : Nat) : Int) →
   aU kQ s' = some (rq A B u' (i + 1) 12288, [(12288, ⟨true, true, 1, nl A, fun j => if j = i then .int .u32 (IntKind.u32.wrap (IntKind.u64.wrap v)) else ah o j⟩)]) →
   ∃ k : Nat × Nat × (Nat → Nat), aU kQ s' = some (rq A B k.2.1 k.1 12288, cu 12288 (nl A) k.2.2) ∧ (k.1 ≤ nl A ∧ k.2.1 ≤ 1 ∧ (∀ j, j < nl A → k.2.2 j < 2 ^ 32) ∧ val k.1 (ak A) + k.2.1 * 2 ^ (32 * k.1) = val k.1 k.2.2 + val k.1 (ak B)) ∧ nl A - k.1 < nl A - i := by
  intro s' x u' v hin hx hu1 h1 h2 hv1 hv
  refine ⟨(i + 1, u', bG o i (ak A i + 4294967296 * u' - x)), cM hv rfl ?_, ⟨by simp only; omega, hu1, fL (by omega) ho, ?_⟩, by simp only; omega⟩
  ·simp only [cu]
   congr 3
   funext k
   exact fq (by rw [hv1, bC (by omega) (by omega), wrap_u32 (by omega) (by omega)]) k
  ·simp only
   rw [oR, val, val, fB]
   exact Sn (b' := ak B i) (x := x) hx (by omega) hval
 refine ⟨fun hb => ⟨fun hb2 => ⟨by omega, by omega, fun h3 => ⟨⟨by omega, by omega⟩, fun s' hv => ?_⟩, fun h3 => ⟨⟨by omega, by omega⟩, fun s' hv => ?_⟩⟩, fun hb2 => ⟨by omega, fun h3 => ⟨⟨by omega, by omega⟩, fun s' hv => ?_⟩, fun h3 => ⟨⟨by omega, by omega⟩, fun s' hv => ?_⟩⟩⟩, fun hb s' hv => ek (bI ?_)⟩
 ·exact next (u' := 1) (by omega) rfl (by omega) (by omega) (by omega) (by omega) hv
 ·exact next (u' := 0) (by omega) rfl (by omega) (by omega) (by omega) (by omega) hv
 ·exact next (u' := 1) (x := c) (by omega) (by rw [gB (A := B) (by omega)]; rfl) (by omega) (by omega) (by omega) (by omega) hv
 ·exact next (u' := 0) (x := c) (by omega) (by rw [gB (A := B) (by omega)]; rfl) (by omega) (by omega) (by omega) (by omega) hv
 ·have hin : i = nl A := by omega
  refine aA.ij hT dL hm 60 hv (h0 _) rfl (fz (by omega)) Te (by kernel_rfl) (by kernel_rfl) ?_
  simp only [aa.all, ax, Nat.add_zero, gP]
  refine ⟨⟨eW ho, hA⟩, cZ (congrArg AV.mag ?_)⟩
  rw [hin, eM, mN (cw.1 hB)] at hval
  have hlt := eE ho
  have : c = 0 := by
   rcases Nat.eq_zero_or_pos c with h | h
   ·exact h
   ·exfalso
    have h1 : 1 * 2 ^ (32 * nl A) ≤ c * 2 ^ (32 * nl A) := Nat.mul_le_mul_right _ h
    omega
  rw [this] at hval
  omega
theorem S6 : aW P Ga := aC xX (aC (lT fun h => Lz h.1 h.2) aT)
theorem Qa {A B : Nat} (hA : nl A < 2 ^ 40) (hB : nl B < 2 ^ 40) (K : Nat) : az P uQ K [.mag A, .mag B] [] (aF (.tuple [.mag (A - B), .int .i64 (if A < B then 7 else 0)]) []) := by
 refine bD hT S6 hm Ra rfl (of_decide_eq_true (by kernel_rfl)) rfl 60 UQ (fun _ => ?_) K []
 simp only [aa.all, ax, decide_eq_true_eq, decide_eq_false_iff_not, xz]
 refine ⟨⟨hA, hB⟩, fun h => ⟨?_, bq (by rw [if_pos h]), trivial⟩, fun h => ⟨⟨by omega, hA⟩, .refl _, bq (by rw [if_neg h]), trivial⟩⟩
 rw [Nat.sub_eq_zero_of_le (by omega)]; exact iF
def II : Spec := jT (fun A B => .tuple [.mag (A - B), .int .i64 (if A < B then 7 else 0)]) Dy
theorem Nu : ∀ K args pre r, II K args pre = some r → az P uQ K args pre r := lT fun h => Qa h.1 h.2
theorem T3 {A B : Nat} (hA : nl A < 2 ^ 39) (hB : nl B < 2 ^ 39) (K : Nat) : az P pB K [.mag A, .mag B] [] (aF (.mag (A * B)) []) := by
 refine fe hT Mo rfl (of_decide_eq_true (by kernel_rfl)) rfl (fun _ c0 h0 => ?_) K []
 refine aq.hole [1,1,0,1] (by kernel_rfl) (aA.aZ hT dL hm 60 iQ Si (by kernel_rfl) ?_)
 have hw : IntKind.i64.wrap ((nl A : Int) + (nl B : Int)) = ((nl A + nl B : Nat) : Int) := dy (by omega) (by omega)
 rw [hw]
 simp only [aa.all, ax, Int.toNat_natCast]
 refine ⟨by omega, fun s' hv => bI ?_⟩
 refine aq.fF (i := 0) (y := mZ) (by kernel_rfl) iQ 24577 (h0 _) (fun p : Nat × (Nat → Nat) => vc A B p.1 24576) (fun p => cu 24576 (nl A + nl B) p.2) (fun _ => rfl) (fun _ => fz (by omega))
  (fun p => p.1 ≤ nl A ∧ (∀ j, j < nl A + nl B → p.2 j < 2 ^ 32) ∧ (∀ j, p.1 + nl B ≤ j → p.2 j = 0) ∧ val (nl A + nl B) p.2 = val p.1 (ak A) * B)
  (fun p => nl A - p.1) (0, fun _ => 0) hv ⟨by simp, fun _ _ => by simp, fun _ _ => rfl, ?_⟩ ?_
 ·simp only
  rw [val_zero fun _ _ => rfl]
  simp [val]
 rintro ⟨i, o⟩ ⟨hi, ho, ho0, hval⟩
 simp only at hi ho ho0 hval
 refine aq.hole [0] (by kernel_rfl) (show aq P c0 je.ntmps (part mZ [0]) _ _ from aq.aZ hT dL hm 60 iQ Ze (by kernel_rfl) ?_)
 simp only [aa.all, decide_eq_true_eq, decide_eq_false_iff_not]
 refine ⟨fun h1 s' hv => bI ?_, fun h1 s' hv => nZ (ek (bI ?_))⟩
 ·have hin : i < nl A := by omega
  have la := cJ (N := A) (i := i)
  show aA P c0 je.ntmps [part mZ [1]] s' _
  refine aq.hole [0] (by kernel_rfl) ?_
  show aq P c0 je.ntmps (part mZ [1,0]) s' _
  refine aq.mo (i := 1) (y := qK) (by kernel_rfl) (aq.iD hv (h0 24577) rfl (fz (by omega)) ?_)
  refine aq.hole [1,0,1] (by kernel_rfl) (aA.aZ hT dL hm 60 ot RR (by kernel_rfl) fun s' hv => bI ?_)
  refine aq.fF (i := 2) (y := part qK [1,0,1,0,0]) (by kernel_rfl) ot 24577 (h0 _) (fun p : Nat × Nat × (Nat → Nat) => xx A B i p.2.1 p.1 24576) (fun p => cu 24576 (nl A + nl B) p.2.2) (fun _ => rfl) (fun _ => fz (by omega))
   (fun p => p.1 ≤ nl B ∧ p.2.1 < 2 ^ 32 ∧ (∀ j, j < nl A + nl B → p.2.2 j < 2 ^ 32) ∧ (∀ j, i + nl B ≤ j → p.2.2 j = 0) ∧ val (nl A + nl B) p.2.2 + p.2.1 * 2 ^ (32 * (i + p.1)) = val i (ak A) * B + ak A i * val p.1 (ak B) * 2 ^ (32 * i))
   (fun p => nl B - p.1) (0, 0, o) hv ⟨by simp, by simp, ho, ho0, by simp [val, hval]⟩ ?_
  rintro ⟨j, c, o⟩ ⟨hj, hc, ho, ho0, hval⟩
  simp only at hj hc ho ho0 hval
  refine aq.aZ hT dL hm 60 ot LX (by kernel_rfl) ?_
  have hij : IntKind.i64.wrap ((i : Int) + (j : Int)) = ((i + j : Nat) : Int) := dy (by omega) (by omega)
  have lb := cJ (N := B) (i := j)
  simp only [aa.all, ax, decide_eq_true_eq, decide_eq_false_iff_not, hij, Int.toNat_natCast, Nat.add_zero, beq_iff_eq]
  refine ⟨fun h2 => ?_, fun h2 s' hv => ek ?_⟩
  ·have hjm : j < nl B := by omega
   obtain ⟨m1, m2, m3⟩ := ER hc la lb (ho (i + j) (by omega))
   rw [m1]
   refine ⟨⟨by omega, by omega, by omega, by omega⟩, ⟨by omega, by omega⟩, by omega, fun s' hv => ⟨(j + 1, (c + ak A i * ak B j + o (i + j)) / 4294967296, bG o (i + j) ((c + ak A i * ak B j + o (i + j)) % 4294967296)), cM hv ?_ ?_, ⟨by simp only; omega, m3, fL (by omega) ho, fun k hk => ?_, ?_⟩, by simp only; omega⟩⟩
   ·rw [jb, dy (a := (j : Int) + 1) (n := j + 1) (by omega) (by omega)]
    simp only [xx, List.cons.injEq, AV.int.injEq, and_true, true_and]
    omega
   ·simp only [cu]
    congr 3
    funext k
    exact fq (by rw [gU]) k
   ·exact (eC (by omega)).trans (ho0 k hk)
   ·simp only
    rw [show 32 * (i + (j + 1)) = 32 * ((i + j) + 1) by omega, fB, val]
    have hset := AK (o := o) (x := (c + ak A i * ak B j + o (i + j)) % 4294967296) (show i + j < nl A + nl B by omega)
    exact Ez rfl (Nat.div_add_mod _ _) hset (by rw [← Nat.pow_add]; congr 1; omega) hval
  ·show aA P c0 je.ntmps (behind qK [1,0,1]) s' _
   have hjm : j = nl B := by omega
   have hib : IntKind.i64.wrap ((i : Int) + (nl B : Int)) = ((i + nl B : Nat) : Int) := dy (by omega) (by omega)
   refine aA.dS hT dL hm 60 hv (h0 24577) rfl (fz (by omega)) iQ Yf (by kernel_rfl) (by kernel_rfl) ?_
   rw [hib]
   simp only [aa.all, ax, Int.toNat_natCast, Nat.add_zero, beq_iff_eq]
   refine ⟨⟨by omega, by omega⟩, fun s' hv => ?_⟩
   have hf : (fun k => if k = i + nl B then AV.int .u32 (IntKind.u32.wrap (c : Int)) else ah o k) = ah (bG o (i + nl B) c) := by
    funext k
    exact fq (wrap_u32 (by omega) (by omega)) k
   rw [hf] at hv
   show aA P c0 je.ntmps [part mZ [1,1]] s' _
   refine aA.dS hT dL hm 60 hv (h0 24577) rfl (fz (by omega)) iQ aaK (by kernel_rfl) (by kernel_rfl) fun s' hv => bI ?_
   refine ⟨(i + 1, bG o (i + nl B) c), cM hv ?_ rfl, ⟨by simp only; omega, fL hc ho, fun k hk => (eC (by simp only at hk; omega)).trans (ho0 k (by simp only at hk; omega)), ?_⟩, by simp only; omega⟩
   ·rw [dy (a := (i : Int) + 1) (n := i + 1) (by omega) (by omega)]
   ·simp only
    rw [hjm, eM] at hval
    rw [nT (by omega) (ho0 _ (by omega)), hval, val, Nat.add_mul, Nat.mul_assoc, Nat.mul_assoc, Nat.mul_comm B]
 ·have hin : i = nl A := by omega
  refine aA.ij hT dL hm 60 hv (h0 _) rfl (fz (by omega)) adv (by kernel_rfl) (by kernel_rfl) ?_
  simp only [aa.all, ax, Nat.add_zero, gP]
  refine ⟨⟨eW ho, by omega⟩, cZ (congrArg AV.mag ?_)⟩
  rw [hval, hin, eM]
def CO : Spec := jT (fun A B => .mag (A * B)) fun A B => [nl A < 2 ^ 39, nl B < 2 ^ 39]
theorem Lw : ∀ K args pre r, CO K args pre = some r → az P pB K args pre r := lT fun h => T3 h.1 h.2
theorem IY {v b r A : Nat} (h : v * b + r = A) (hr : r < b) : A / b = v ∧ A % b = r := by
 subst h
 refine ⟨?_, ?_⟩
 ·rw [Nat.mul_comm, Nat.mul_add_div (by omega), Nat.div_eq_of_lt hr, Nat.add_zero]
 ·rw [Nat.mul_comm, Nat.mul_add_mod, Nat.mod_eq_of_lt hr]
theorem M0 {A b : Nat} (hA : nl A < 2 ^ 40) (hb0 : 0 < b) (hb32 : b < 2 ^ 32) (K : Nat) : az P qk K [.mag A, .int .u32 b] [] (aF (.tuple [.mag (A / b), .int .u32 (A % b : Nat)]) []) := by
 refine fe hT X8 rfl (of_decide_eq_true (by kernel_rfl)) rfl (fun _ c0 h0 => ?_) K []
 refine aq.hole [1,1,1,0,1] (by kernel_rfl) (aA.aZ hT dL hm 60 ny aan (by kernel_rfl) ?_)
 simp only [aa.all, ax, Int.toNat_natCast]
 refine ⟨by omega, fun s' hv => bI ?_⟩
 refine aq.fF (i := 0) (y := DJ) (by kernel_rfl) ny 16385 (h0 _) (fun p : Nat × Nat × (Nat → Nat) => Bp A b p.2.1 p.1 16384) (fun p => cu 16384 (nl A) p.2.2) (fun _ => rfl) (fun _ => fz (by omega))
  (fun p => p.1 ≤ nl A ∧ p.2.1 < b ∧ (∀ j, j < nl A → p.2.2 j < 2 ^ 32) ∧ (∀ j, j < p.1 → p.2.2 j = 0) ∧ val (nl A) p.2.2 * b + p.2.1 * 2 ^ (32 * p.1) + val p.1 (ak A) = A)
  (fun p => p.1) (nl A, 0, fun _ => 0) (cM hv (by rw [wrap_i64 (by omega) (by omega)]; rfl) rfl) ⟨by simp, hb0, fun j _ => by simp, fun j _ => rfl, ?_⟩ ?_
 ·simp only
  rw [val_zero fun _ _ => rfl, eM]
  simp
 rintro ⟨k, r, o⟩ ⟨hk, hr, ho, ho0, hval⟩
 simp only at hk hr ho ho0 hval
 refine aq.aZ hT dL hm 60 ny OI (by kernel_rfl) ?_
 simp only [aa.all, ax, decide_eq_true_eq, decide_eq_false_iff_not, Nat.add_zero, beq_iff_eq]
 have hbw : IntKind.u64.wrap (b : Int) = (b : Int) := bC (by omega) (by omega)
 refine ⟨fun hb => ?_, fun hb s' hv => ek (bI ?_)⟩
 ·obtain ⟨j, rfl⟩ : ∃ j, k = j + 1 := ⟨k - 1, by omega⟩
  have e : (((j + 1 : Nat) : Int) - 1).toNat = j := by omega
  have hzj := cJ (N := A) (i := j)
  have hor := pn (a := r) (b := ak A j) (by omega) hzj
  rw [e, hor, hbw]
  have hq1 : (r * 4294967296 + ak A j) / b < 2 ^ 32 := by
   rw [Nat.div_lt_iff_lt_mul hb0]
   have : (r + 1) * 4294967296 ≤ b * 4294967296 := Nat.mul_le_mul_right _ hr
   omega
  have hdm := Nat.div_add_mod (r * 4294967296 + ak A j) b
  refine ⟨⟨by omega, by omega, by omega⟩, ⟨by omega, ⟨by omega, by omega⟩, by omega⟩, by omega, fun s' hv => ⟨(j, (r * 4294967296 + ak A j) % b, bG o j ((r * 4294967296 + ak A j) / b)), cM hv ?_ ?_, ⟨by simp only; omega, Nat.mod_lt _ hb0, fL hq1 ho, fun i hi => ?_, ?_⟩, by simp only; omega⟩⟩
  ·rw [← Int.ofNat_tmod, wrap_i64 (by omega) (by omega), show ((j + 1 : Nat) : Int) - 1 - 1 = (j : Int) - 1 by omega]
  ·simp only [cu]
   congr 3
   funext i
   refine fq ?_ i
   rw [← Int.ofNat_tdiv]
   clear hdm
   generalize (r * 4294967296 + ak A j) / b = q at hq1 ⊢
   rw [bC (by omega) (by omega), wrap_u32 (by omega) (by omega)]
  ·exact (eC (by simp only at hi; omega)).trans (ho0 i (by simp only at hi; omega))
  ·simp only
   rw [nT (by omega) (ho0 j (by omega))]
   rw [fB, val] at hval
   exact EX hval hdm.symm
 ·have hk0 : k = 0 := by omega
  have hv2 : val (nl A) o * b + r = A := by rw [hk0] at hval; simpa [val] using hval
  refine aA.ij hT dL hm 60 hv (h0 _) rfl (fz (by omega)) abk (by kernel_rfl) (by kernel_rfl) ?_
  simp only [aa.all, ax, Nat.add_zero, gP]
  obtain ⟨hdiv, hmod⟩ := IY hv2 hr
  exact ⟨⟨eW ho, hA⟩, cZ (congrArg AV.mag hdiv.symm), bq (by rw [hmod, wrap_u32 (by omega) (by omega)]), trivial⟩
def A5 : Spec := bt fun l => match l with
 | [a, .int .u32 b] => match gm a with
  | some A => some (aF (.tuple [.mag (A / b.toNat), .int .u32 (A % b.toNat : Nat)]) [nl A < 2 ^ 40, 0 < b, b < 2 ^ 32])
  | none => none
 | _ => none
theorem Ew : ∀ K args pre r, A5 K args pre = some r → az P qk K args pre r := by
 refine bH fun K args r hk hs _ => ?_
 split at hs
 ·rename_i a b
  split at hs
  ·rename_i A hA
   simp only [Option.some.injEq] at hs
   subst hs
   intro need
   obtain ⟨h1, h2, h3⟩ : nl A < 2 ^ 40 ∧ 0 < b ∧ b < 2 ^ 32 := need
   obtain ⟨b, rfl⟩ := Int.eq_ofNat_of_zero_le (Int.le_of_lt h2)
   exact fk (M0 h1 (by omega) (by omega) K) hk ⟨jd hA, .refl _, trivial⟩ [] trivial
  ·simp at hs
 ·simp at hs
end Go.Am.B
