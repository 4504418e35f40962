/- slices.Clone, slices.Equal, natural.Mul. -/
import Derived.Test.YtbghpkgbokbmlaaGreatB5
set_option linter.unusedVariables false
namespace Go.Am.B
open Go Go.Am.N AV
theorem adP : aP P oL rz (au rz) := aL Xg (by kernel_rfl) (by kernel_rfl) (by kernel_rfl)
theorem abg : aP P ql l9 (au l9) := aL Zx (by kernel_rfl) (by kernel_rfl) (by kernel_rfl)
theorem NV : aP P vP gO (au gO) := aL VT (by kernel_rfl) (by kernel_rfl) (by kernel_rfl)
theorem YI {n : Nat} {b : Bool} {f : Nat → AV} : bA T [] [4] 30 rz (au rz) ⟨aM 0 [.cV b 1 n f], [], 0⟩ =
  some (aa.fork b (aa.leaf ag.ret [nil]) (aa.af [(0 : Nat) * 1 ≤ 2 ^ 24, ((0 : Nat) + n) * ((4 : Nat) + 1) * 2 ≤ 2 ^ 47] (aa.leaf ag.ret [aj 1 ((0 : Nat) + n) fun (i : Nat) ↦ if i + 0 < 0 then nth [] (int IntKind.u32 (0 : Int)) (i + 0) else f (i + 0 - 0)]))) := by kernel_rfl
theorem Tc {A B : Nat} : aH T [] [10] 30 [0, 1, 12, 13, 4] (before (au l9) [1,1,0,1]) ⟨aM 0 [.mag A, .mag B], [], 0⟩ =
  some (aa.fork ((↑(nl A) : Int) != (↑(nl B) : Int)) (aa.leaf ag.ret ([mag A, mag B, tuple [], tuple [], AV.bool false], [])) (aa.leaf ag.normal ([mag A, mag B, int IntKind.i64 (↑(nl A) : Int), int IntKind.i64 (0 : Int), AV.bool false], []))) := by kernel_rfl
theorem Nw {A B i : Nat} : aH T [] [14, 24] 30 [0, 1, 12, 13, 4] [part (au l9) [1,1,0,1,0,0]] ⟨aB [0, 1, 12, 13, 4] [.mag A, .mag B, .int .i64 (nl A), .int .i64 i, .bool false], [], 0⟩ =
  some (aa.fork (decide ((↑i : Int) < (↑(nl A) : Int))) (aa.af [(0 : Int) ≤ (↑i : Int) ∧ (↑i : Int).toNat < nl A, (0 : Int) ≤ (↑i : Int) ∧ (↑i : Int).toNat < nl B] (aa.fork ((↑(ak A (↑i : Int).toNat) : Int) != (↑(ak B (↑i : Int).toNat) : Int)) (aa.leaf ag.ret ([mag A, mag B, int IntKind.i64 (↑(nl A) : Int), int IntKind.i64 (↑i : Int), AV.bool false], [])) (aa.leaf ag.normal ([mag A, mag B, int IntKind.i64 (↑(nl A) : Int), int IntKind.i64 (IntKind.i64.wrap ((↑i : Int) + (1 : Int))), AV.bool false], [])))) (aa.leaf (ag.exit 0) ([mag A, mag B, int IntKind.i64 (↑(nl A) : Int), int IntKind.i64 (↑i : Int), AV.bool false], []))) := by kernel_rfl
theorem acR {A B i : Nat} : bW T [] [] 30 l9 (behind (au l9) [1,1,0,1]) ⟨aB [0, 1, 12, 13, 4] [.mag A, .mag B, .int .i64 (nl A), .int .i64 i, .bool false], [], 0⟩ =
  some (aa.leaf ag.ret [AV.bool true]) := by kernel_rfl
theorem Vc {n m : Nat} {z y : Nat → Nat} : aH T G1 [] 30 [1, 5, 17, 18, 19] (before (au gO) [1,1,0,1]) ⟨aM 0 [.aj 1 n (ah z), .aj 1 m (ah y)], [], 0⟩ =
  some (aa.af [(0 : Int) ≤ IntKind.i64.wrap ((↑n : Int) + (↑m : Int)) ∧ IntKind.i64.wrap ((↑n : Int) + (↑m : Int)) ≤ IntKind.i64.wrap ((↑n : Int) + (↑m : Int)) ∧ IntKind.i64.wrap ((↑n : Int) + (↑m : Int)) ≤ (2 : Int) ^ 47 ∧ IntKind.i64.wrap ((↑n : Int) + (↑m : Int)) * (↑(4 : Nat) : Int) ≤ (2 : Int) ^ 47] (aa.leaf ag.normal ([aj 1 m (ah y), own 24576 1 0 (IntKind.i64.wrap ((↑n : Int) + (↑m : Int))).toNat, aj 1 n (ah z), int IntKind.i64 (↑n : Int), int IntKind.i64 (0 : Int)], [((24576 : Nat), ⟨true, true, 1, (IntKind.i64.wrap ((↑n : Int) + (↑m : Int))).toNat, fun (x : Nat) ↦ int IntKind.u32 (0 : Int)⟩)]))) := by kernel_rfl
theorem adK {n m i : Nat} {z y o : Nat → Nat} : aH T G1 [20] 30 [1, 5, 17, 18, 19] (before (part (au gO) [1,1,0,1,0,0]) [1,1,0]) ⟨aB [1, 5, 17, 18, 19] [.aj 1 m (ah y), .own 7 1 0 (n + m), .aj 1 n (ah z), .int .i64 n, .int .i64 i], [(7, ⟨true, true, 1, n + m, ah o⟩)], 8⟩ =
  some (aa.fork (decide ((↑i : Int) < (↑n : Int))) (aa.leaf ag.normal ([aj 1 m (ah y), own 7 1 0 (n + m), aj 1 n (ah z), int IntKind.i64 (↑n : Int), int IntKind.i64 (↑i : Int)], [((7 : Nat), ⟨true, true, 1, n + m, ah o⟩)])) (aa.leaf (ag.exit 0) ([aj 1 m (ah y), own 7 1 0 (n + m), aj 1 n (ah z), int IntKind.i64 (↑n : Int), int IntKind.i64 (↑i : Int)], [((7 : Nat), ⟨true, true, 1, n + m, ah o⟩)]))) := by kernel_rfl
theorem aaN {n m i : Nat} {z y o : Nat → Nat} : aH T G1 [25] 30 [1, 5, 17, 18, 19, 6, 7, 8, 26, 27, 28] (before (part (au gO) [1,1,0,1,0,0,1,1,0,0]) [1,1,1,0,1]) ⟨aB [1, 5, 17, 18, 19] [.aj 1 m (ah y), .own 7 1 0 (n + m), .aj 1 n (ah z), .int .i64 n, .int .i64 i], [(7, ⟨true, true, 1, n + m, ah o⟩)], 8⟩ =
  some (aa.af [(0 : Int) ≤ (↑i : Int) ∧ (↑i : Int).toNat < n] (aa.fork ((↑(z (↑i : Int).toNat) : Int) == (0 : Int)) (aa.leaf (ag.exit 1) ([aj 1 m (ah y), own 7 1 0 (n + m), aj 1 n (ah z), int IntKind.i64 (↑n : Int), int IntKind.i64 (↑i : Int), int IntKind.i64 (↑i : Int), int IntKind.u32 (↑(z (↑i : Int).toNat) : Int), tuple [], tuple [], tuple [], tuple []], [((7 : Nat), ⟨true, true, 1, n + m, ah o⟩)])) (aa.leaf ag.normal ([aj 1 m (ah y), own 7 1 0 (n + m), aj 1 n (ah z), int IntKind.i64 (↑n : Int), int IntKind.i64 (↑i : Int), int IntKind.i64 (↑i : Int), int IntKind.u32 (↑(z (↑i : Int).toNat) : Int), int IntKind.u64 (0 : Int), aj 1 m (ah y), int IntKind.i64 (↑m : Int), int IntKind.i64 (0 : Int)], [((7 : Nat), ⟨true, true, 1, n + m, ah o⟩)])))) := by kernel_rfl
theorem Wv {n m i j x c : Nat} {z y o : Nat → Nat} : aH T G1 [29] 30 [1, 5, 17, 18, 19, 6, 7, 8, 26, 27, 28] [part (part (au gO) [1,1,0,1,0,0,1,1,0,0]) [1,1,1,0,1,0,0]] ⟨aB [1, 5, 17, 18, 19, 6, 7, 8, 26, 27, 28] [.aj 1 m (ah y), .own 7 1 0 (n + m), .aj 1 n (ah z), .int .i64 n, .int .i64 i, .int .i64 i, .int .u32 x, .int .u64 c, .aj 1 m (ah y), .int .i64 m, .int .i64 j], [(7, ⟨true, true, 1, n + m, ah o⟩)], 8⟩ =
  some (aa.fork (decide ((↑j : Int) < (↑m : Int))) (aa.af [(0 : Int) ≤ (↑j : Int) ∧ (↑j : Int).toNat < m] (aa.af [(0 : Int) ≤ IntKind.i64.wrap ((↑i : Int) + (↑j : Int)) ∧ (IntKind.i64.wrap ((↑i : Int) + (↑j : Int))).toNat < n + m, (IntKind.i64.wrap ((↑i : Int) + (↑j : Int))).toNat + 0 < n + m] (aa.af [(0 : Int) ≤ IntKind.i64.wrap ((↑i : Int) + (↑j : Int)) ∧ (IntKind.i64.wrap ((↑i : Int) + (↑j : Int))).toNat < n + m, (IntKind.i64.wrap ((↑i : Int) + (↑j : Int))).toNat + 0 < n + m] (aa.af [(0 : Int) ≤ (32 : Int)] (aa.leaf ag.normal ([aj 1 m (ah y), own 7 1 0 (n + m), aj 1 n (ah z), int IntKind.i64 (↑n : Int), int IntKind.i64 (↑i : Int), int IntKind.i64 (↑i : Int), int IntKind.u32 (↑x : Int), int IntKind.u64 ((IntKind.u64.wrap ((↑c : Int) + IntKind.u64.wrap (IntKind.u64.wrap (IntKind.u64.wrap (↑x : Int) * IntKind.u64.wrap (↑(y (↑j : Int).toNat) : Int)) + IntKind.u64.wrap (↑(o ((IntKind.i64.wrap ((↑i : Int) + (↑j : Int))).toNat + 0)) : Int)))).fdiv ((2 : Int) ^ min (Int.toNat (32 : Int)) IntKind.u64.bits)), aj 1 m (ah y), int IntKind.i64 (↑m : Int), int IntKind.i64 (IntKind.i64.wrap ((↑j : Int) + (1 : Int)))], [((7 : Nat), ⟨true, true, 1, n + m, fun (j_1 : Nat) ↦ if (j_1 == (IntKind.i64.wrap ((↑i : Int) + (↑j : Int))).toNat + 0) = true then int IntKind.u32 (IntKind.u32.wrap (IntKind.u64.wrap ((↑c : Int) + IntKind.u64.wrap (IntKind.u64.wrap (IntKind.u64.wrap (↑x : Int) * IntKind.u64.wrap (↑(y (↑j : Int).toNat) : Int)) + IntKind.u64.wrap (↑(o ((IntKind.i64.wrap ((↑i : Int) + (↑j : Int))).toNat + 0)) : Int))))) else ah o j_1⟩)])))))) (aa.leaf (ag.exit 2) ([aj 1 m (ah y), own 7 1 0 (n + m), aj 1 n (ah z), int IntKind.i64 (↑n : Int), int IntKind.i64 (↑i : Int), int IntKind.i64 (↑i : Int), int IntKind.u32 (↑x : Int), int IntKind.u64 (↑c : Int), aj 1 m (ah y), int IntKind.i64 (↑m : Int), int IntKind.i64 (↑j : Int)], [((7 : Nat), ⟨true, true, 1, n + m, ah o⟩)]))) := by kernel_rfl
theorem Ma {n m i j x c : Nat} {z y o : Nat → Nat} : aH T G1 [] 30 [1, 5, 17, 18, 19] (behind (part (au gO) [1,1,0,1,0,0,1,1,0,0]) [1,1,1,0,1]) ⟨aB [1, 5, 17, 18, 19, 6, 7, 8, 26, 27, 28] [.aj 1 m (ah y), .own 7 1 0 (n + m), .aj 1 n (ah z), .int .i64 n, .int .i64 i, .int .i64 i, .int .u32 x, .int .u64 c, .aj 1 m (ah y), .int .i64 m, .int .i64 j], [(7, ⟨true, true, 1, n + m, ah o⟩)], 8⟩ =
  some (aa.af [(0 : Int) ≤ IntKind.i64.wrap ((↑i : Int) + (↑m : Int)) ∧ (IntKind.i64.wrap ((↑i : Int) + (↑m : Int))).toNat < n + m, (IntKind.i64.wrap ((↑i : Int) + (↑m : Int))).toNat + 0 < n + m] (aa.leaf ag.normal ([aj 1 m (ah y), own 7 1 0 (n + m), aj 1 n (ah z), int IntKind.i64 (↑n : Int), int IntKind.i64 (↑i : Int)], [((7 : Nat), ⟨true, true, 1, n + m, fun (j : Nat) ↦ if (j == (IntKind.i64.wrap ((↑i : Int) + (↑m : Int))).toNat + 0) = true then int IntKind.u32 (IntKind.u32.wrap (↑c : Int)) else ah o j⟩)]))) := by kernel_rfl
theorem NX {n m i : Nat} {z y o : Nat → Nat} : aH T G1 [] 30 [1, 5, 17, 18, 19] (behind (part (au gO) [1,1,0,1,0,0]) [1,1,0]) ⟨aB [1, 5, 17, 18, 19] [.aj 1 m (ah y), .own 7 1 0 (n + m), .aj 1 n (ah z), .int .i64 n, .int .i64 i], [(7, ⟨true, true, 1, n + m, ah o⟩)], 8⟩ =
  some (aa.leaf ag.normal ([aj 1 m (ah y), own 7 1 0 (n + m), aj 1 n (ah z), int IntKind.i64 (↑n : Int), int IntKind.i64 (IntKind.i64.wrap ((↑i : Int) + (1 : Int)))], [((7 : Nat), ⟨true, true, 1, n + m, ah o⟩)])) := by kernel_rfl
theorem acm {n m i : Nat} {z y o : Nat → Nat} : bW T G1 [] 30 gO (behind (au gO) [1,1,0,1]) ⟨aB [1, 5, 17, 18, 19] [.aj 1 m (ah y), .own 7 1 0 (n + m), .aj 1 n (ah z), .int .i64 n, .int .i64 i], [(7, ⟨true, true, 1, n + m, ah o⟩)], 8⟩ =
  some (aa.af [cR (n + m) fun (i : Nat) ↦ ah o (i + 0), n + m < 2 ^ 62] (aa.leaf ag.ret [mag (val (n + m) fun (i : Nat) ↦ numOf (ah o (i + 0)))])) := by kernel_rfl
theorem Dl {n : Nat} {f : Nat → AV} (hn : n < 2 ^ 40) (K : Nat) : az P oL K [.aj 1 n f] [] (aF (.aj 1 n f) []) := by
 refine Wh fun b hb => ?_
 refine bD hT aT hm adP rfl (of_decide_eq_true (by kernel_rfl)) rfl 30 YI (fun _ => ?_) K []
 simp only [aa.all, ax]
 refine ⟨fun h => ?_, fun h => ⟨⟨by omega, by omega⟩, qV (by omega) fun i hi => by simp⟩⟩
 rw [hb h]
 exact gL (by omega)
def zF : Spec := bt fun l => match l with
 | [.mag N] => some (aF (.mag N) [nl N < 2 ^ 40])
 | [.nil] => some (aF (.mag 0) [])
 | [.aj es n f] => if es == 1 then some (aF (.aj 1 n f) [n < 2 ^ 40]) else none
 | _ => none
theorem Cc : ∀ K args pre r, zF K args pre = some r → az P oL K args pre r := by
 refine bH fun K args r hk hs _ => ?_
 split at hs
 ·rename_i N
  simp only [Option.some.injEq] at hs
  subst hs
  intro need
  have := fk (args := [.mag N]) (Dl (n := nl N) (f := fun i => .int .u32 (ak N i)) need K) rfl ⟨E9 rfl fun i hi => rfl, trivial⟩ []
  exact F7 (l' := []) this id rfl rfl (jj rfl fun i hi => rfl) trivial
 ·simp only [Option.some.injEq] at hs
  subst hs
  intro need
  have := fk (args := [.nil]) (Dl (n := 0) (f := fun _ => .nil) (by omega) K) rfl ⟨gL (by omega), trivial⟩ []
  exact F7 (l' := []) this id rfl rfl (jj (by simp [nl]) fun i hi => by omega) trivial
 ·rename_i es n f
  split at hs
  ·rename_i he
   have he : es = 1 := by simpa using he
   subst he
   simp only [Option.some.injEq] at hs
   subst hs
   exact fun need => Dl need K trivial
  ·simp at hs
 ·simp at hs
theorem PL {A B : Nat} (hA : nl A < 2 ^ 40) (hB : nl B < 2 ^ 40) (K : Nat) (pre : aD) : az P ql K [.mag A, .mag B] pre (aF (.bool (decide (A = B))) []) := by
 refine gX hT abg rfl (of_decide_eq_true (by kernel_rfl)) rfl (fun _ c h0 => ?_) K pre
 refine aq.hole [1,1,0,1] (by kernel_rfl) (aA.aZ hT aT hm 30 [0, 1, 12, 13, 4] Tc (by kernel_rfl) ?_)
 simp only [aa.all, bne_iff_ne, ne_eq, Int.natCast_inj, bne_eq_false_iff_eq]
 refine ⟨fun hb s' hv => ?_, fun hb s' hv => ?_⟩
 ·exact e9 (us := [.bool false]) (.inr rfl) hv (by kernel_rfl) (fO (decide_eq_false fun h => hb (by rw [h])).symm)
 refine aq.gk (i := 0) (y := part (au l9) [1,1,0,1,0,0]) (by kernel_rfl)
  (fun i : Nat => ⟨aB [0, 1, 12, 13, 4] [.mag A, .mag B, .int .i64 (nl A), .int .i64 i, .bool false], [], 0⟩)
  (fun i => i ≤ nl A ∧ ∀ j, j < i → ak A j = ak B j) (fun i => nl A - i) 0
  (cA [] hv h0 rfl ⟨⟨rfl, aG rfl⟩, ⟨rfl, aG rfl⟩, ⟨rfl, aG rfl⟩, ⟨rfl, aG rfl⟩, ⟨rfl, aG rfl⟩, trivial⟩ trivial) ⟨by omega, fun j h => by omega⟩ ?_
 rintro i ⟨hi, hlim⟩
 refine aq.aZ hT aT hm 30 [0, 1, 12, 13, 4] Nw (by kernel_rfl) ?_
 simp only [aa.all, ax, decide_eq_true_eq, decide_eq_false_iff_not, bne_iff_ne, ne_eq, Int.natCast_inj, bne_eq_false_iff_eq, Int.toNat_natCast]
 refine ⟨fun h1 => ⟨⟨by omega, by omega⟩, fun hne s' hv => ?_, fun heq s' hv => ?_⟩, fun h1 s' hv => ?_⟩
 ·exact e9 (us := [.bool false]) (.inr rfl) hv (by kernel_rfl) (fO (decide_eq_false fun h => hne (by rw [h])).symm)
 ·refine ⟨i + 1, cA [] hv h0 rfl ⟨⟨rfl, aG rfl⟩, ⟨rfl, aG rfl⟩, ⟨rfl, aG rfl⟩, ⟨rfl, eU (by rw [wrap_i64 (by omega) (by omega)]; omega)⟩, ⟨rfl, aG rfl⟩, trivial⟩ trivial, ⟨by omega, fun j hj => ?_⟩, by omega⟩
  by_cases h : j = i
  ·subst h; exact heq
  ·exact hlim j (by omega)
 ·have hAB : A = B := BT hb fun j hj => hlim j (by omega)
  exact aA.weak (by kernel_rfl) (cA (vs := [.mag A, .mag B, .int .i64 (nl A), .int .i64 i, .bool false]) (ps := []) (nx := 0) [] hv h0 rfl ⟨⟨rfl, aG rfl⟩, ⟨rfl, aG rfl⟩, ⟨rfl, aG rfl⟩, ⟨rfl, aG rfl⟩, ⟨rfl, aG rfl⟩, trivial⟩ trivial)
   (aA.fin hT aT hm 30 acR (by kernel_rfl) (fO (decide_eq_true hAB).symm))
def gm : AV → Option Nat
 | .mag N => some N
 | .nil => some 0
 | _ => none
theorem jd {a : AV} {N : Nat} (h : gm a = some N) : bn a (.mag N) := by
 cases a <;> simp only [gm, reduceCtorEq, Option.some.injEq] at h
 case mag M => subst h; exact .refl _
 case nil => subst h; exact iF
def Du : Spec := bt fun l => match l with
 | [a, b] => match gm a, gm b with
  | some A, some B => some (aF (.bool (decide (A = B))) [nl A < 2 ^ 40, nl B < 2 ^ 40])
  | _, _ => none
 | _ => none
theorem JM : ∀ K args pre r, Du K args pre = some r → az P ql K args pre r := by
 refine bH fun K args r hk hs _ => ?_
 split at hs
 ·split at hs
  ·rename_i A B hA hB
   simp only [Option.some.injEq] at hs
   subst hs
   exact fun need => fk (PL need.1 need.2 K []) hk ⟨jd hA, jd hB, trivial⟩ [] trivial
  ·simp at hs
 ·simp at hs
abbrev m7 : List Nat := [1, 5, 17, 18, 19]
abbrev nj (n m : Nat) (z y : Nat → Nat) (K i : Nat) : List AV := [.aj 1 m (ah y), .own K 1 0 (n + m), .aj 1 n (ah z), .int .i64 n, .int .i64 i]
abbrev Co : List Nat := [1, 5, 17, 18, 19, 6, 7, 8, 26, 27, 28]
abbrev DO (n m : Nat) (z y : Nat → Nat) (K i x c j : Nat) : List AV := [.aj 1 m (ah y), .own K 1 0 (n + m), .aj 1 n (ah z), .int .i64 n, .int .i64 i, .int .i64 i, .int .u32 x, .int .u64 c, .aj 1 m (ah y), .int .i64 m, .int .i64 j]
theorem acZ {n m : Nat} {z y : Nat → Nat} (hz : ∀ i, i < n → z i < 2 ^ 32) (hy : ∀ i, i < m → y i < 2 ^ 32) (hn : n < 2 ^ 40) (hm' : m < 2 ^ 40) (K : Nat) (pre : aD) :
  az P vP K [.aj 1 n (ah z), .aj 1 m (ah y)] pre (aF (.mag (val n z * val m y)) []) := by
 refine gX hT NV rfl (of_decide_eq_true (by kernel_rfl)) rfl (fun _ c0 h0 => ?_) K pre
 refine aq.hole [1,1,0,1] (by kernel_rfl) (aA.aZ hT fj hm 30 m7 Vc (by kernel_rfl) ?_)
 have hw : IntKind.i64.wrap ((n : Int) + (m : Int)) = ((n + m : Nat) : Int) := by rw [wrap_i64 (by omega) (by omega)]; omega
 simp only [aa.all, ax, hw, Int.toNat_natCast]
 refine ⟨by omega, fun s' hv => ?_⟩
 refine aq.gk (i := 0) (y := part (au gO) [1,1,0,1,0,0]) (by kernel_rfl)
  (fun p : Nat × (Nat → Nat) => ⟨aB m7 (nj n m z y 7 p.1), [(7, ⟨true, true, 1, n + m, ah p.2⟩)], 8⟩)
  (fun p => p.1 ≤ n ∧ (∀ j, j < n + m → p.2 j < 2 ^ 32) ∧ (∀ j, p.1 + m ≤ j → p.2 j = 0) ∧ val (n + m) p.2 = val p.1 z * val m y)
  (fun p => n - p.1) (0, fun _ => 0)
  (cA [(7, 24576)] hv h0 rfl ⟨⟨rfl, aG rfl⟩, ⟨rfl, cj rfl rfl rfl⟩, ⟨rfl, aG rfl⟩, ⟨rfl, aG rfl⟩, ⟨rfl, aG rfl⟩, trivial⟩
   ⟨⟨_, _, rfl, rfl, ew rfl fun j _ => rfl⟩, trivial⟩)
  ⟨by simp, fun j _ => by simp, fun j _ => rfl, ?_⟩ ?_
 ·simp only
  rw [jV (k := 0) (by omega) fun _ _ _ => rfl]
  simp [val]
 rintro ⟨i, o⟩ ⟨hi, ho, ho0, hval⟩
 simp only at hi ho ho0 hval
 have next : ∀ {o' : Nat → Nat} {s' : aE}, i < n → aU m7 s' = some (nj n m z y 7 i, [(7, ⟨true, true, 1, n + m, ah o'⟩)]) → (∀ j, j < n + m → o' j < 2 ^ 32) → (∀ j, i + 1 + m ≤ j → o' j = 0) →
   val (n + m) o' = val (i + 1) z * val m y → ∀ {QF : ag → aE → Prop},
   aA P c0 gO.ntmps (behind (part (au gO) [1,1,0,1,0,0]) [1,1,0]) s' (dw (fun s' => ∃ k : Nat × (Nat → Nat), (∃ ρ, Le c0 ρ s' ⟨aB m7 (nj n m z y 7 k.1), [(7, ⟨true, true, 1, n + m, ah k.2⟩)], 8⟩) ∧
    (k.1 ≤ n ∧ (∀ j, j < n + m → k.2 j < 2 ^ 32) ∧ (∀ j, k.1 + m ≤ j → k.2 j = 0) ∧ val (n + m) k.2 = val k.1 z * val m y) ∧ n - k.1 < n - i) QF) := by
  intro o' s' hin hv g1 g2 g3 QF
  refine aA.weak (by kernel_rfl) (cA (vs := nj n m z y 7 i) (ps := [(7, ⟨true, true, 1, n + m, ah o'⟩)]) (nx := 8) [(7, 7)] hv h0 rfl ⟨⟨rfl, aG rfl⟩, ⟨rfl, cj rfl rfl rfl⟩, ⟨rfl, aG rfl⟩, ⟨rfl, aG rfl⟩, ⟨rfl, aG rfl⟩, trivial⟩
    ⟨⟨_, _, rfl, rfl, ew rfl fun j _ => rfl⟩, trivial⟩)
   (aA.aZ hT fj hm 30 m7 NX (by kernel_rfl) ?_)
  intro s' hv
  exact ⟨(i + 1, o'), cA [(7, 7)] hv h0 rfl ⟨⟨rfl, aG rfl⟩, ⟨rfl, cj rfl rfl rfl⟩, ⟨rfl, aG rfl⟩, ⟨rfl, aG rfl⟩, ⟨rfl, eU (by rw [wrap_i64 (by omega) (by omega)]; simp only; omega)⟩, trivial⟩
    ⟨⟨_, _, rfl, rfl, ew rfl fun j _ => rfl⟩, trivial⟩, ⟨by simp only; omega, g1, g2, g3⟩, by simp only; omega⟩
 refine aq.hole [1,1,0] (by kernel_rfl) (aA.aZ hT fj hm 30 m7 adK (by kernel_rfl) ?_)
 simp only [aa.all, decide_eq_true_eq, decide_eq_false_iff_not]
 refine ⟨fun h1 s' hv => ?_, fun h1 s' hv => ?_⟩
 ·have hin : i < n := by omega
  have hzi := hz i hin
  refine aq.jX (cA (vs := nj n m z y 7 i) (ps := [(7, ⟨true, true, 1, n + m, ah o⟩)]) (nx := 8) [(7, 7)] hv h0 rfl ⟨⟨rfl, aG rfl⟩, ⟨rfl, cj rfl rfl rfl⟩, ⟨rfl, aG rfl⟩, ⟨rfl, aG rfl⟩, ⟨rfl, aG rfl⟩, trivial⟩
    ⟨⟨_, _, rfl, rfl, ew rfl fun j _ => rfl⟩, trivial⟩) ?_
  refine aq.mo (i := 1) (y := part (au gO) [1,1,0,1,0,0,1,1,0,0]) (by kernel_rfl) ?_
  refine aq.hole [1,1,1,0,1] (by kernel_rfl) (aA.aZ hT fj hm 30 Co aaN (by kernel_rfl) ?_)
  simp only [aa.all, ax, Int.toNat_natCast, beq_iff_eq, beq_eq_false_iff_ne, ne_eq]
  refine ⟨by omega, fun hz0 s' hv => ?_, fun hz0 s' hv => ?_⟩
  ·refine ek ?_
   exact (next hin (gr (ls := m7) (l := [6, 7, 8, 26, 27, 28]) (vs := nj n m z y 7 i) hv rfl rfl) ho (fun j hj => ho0 j (by omega)) (by rw [hval, val, show z i = 0 by omega]; simp))
  refine aq.gk (i := 2) (y := part (part (au gO) [1,1,0,1,0,0,1,1,0,0]) [1,1,1,0,1,0,0]) (by kernel_rfl)
   (fun p : Nat × Nat × (Nat → Nat) => ⟨aB Co (DO n m z y 7 i (z i) p.2.1 p.1), [(7, ⟨true, true, 1, n + m, ah p.2.2⟩)], 8⟩)
   (fun p => p.1 ≤ m ∧ p.2.1 < 2 ^ 32 ∧ (∀ j, j < n + m → p.2.2 j < 2 ^ 32) ∧ (∀ j, i + m ≤ j → p.2.2 j = 0) ∧ val (n + m) p.2.2 + p.2.1 * 2 ^ (32 * (i + p.1)) = val i z * val m y + z i * val p.1 y * 2 ^ (32 * i))
   (fun p => m - p.1) (0, 0, o)
   (cA [(7, 7)] hv h0 rfl ⟨⟨rfl, aG rfl⟩, ⟨rfl, cj rfl rfl rfl⟩, ⟨rfl, aG rfl⟩, ⟨rfl, aG rfl⟩, ⟨rfl, aG rfl⟩, ⟨rfl, aG rfl⟩, ⟨rfl, aG rfl⟩, ⟨rfl, aG rfl⟩, ⟨rfl, aG rfl⟩, ⟨rfl, aG rfl⟩, ⟨rfl, aG rfl⟩, trivial⟩
    ⟨⟨_, _, rfl, rfl, ew rfl fun j _ => rfl⟩, trivial⟩)
   ⟨by simp, by simp, ho, ho0, by simp [val, hval]⟩ ?_
  rintro ⟨j, c, o⟩ ⟨hj, hc, ho, ho0, hval⟩
  simp only at hj hc ho ho0 hval
  refine aq.aZ hT fj hm 30 Co Wv (by kernel_rfl) ?_
  have hij : IntKind.i64.wrap ((i : Int) + (j : Int)) = ((i + j : Nat) : Int) := by rw [wrap_i64 (by omega) (by omega)]; omega
  simp only [aa.all, ax, decide_eq_true_eq, decide_eq_false_iff_not, hij, Int.toNat_natCast, Nat.add_zero, beq_iff_eq]
  refine ⟨fun h2 => ?_, fun h2 s' hv => ek ?_⟩
  ·have hjm : j < m := by omega
   obtain ⟨m1, m2, m3⟩ := ER hc hzi (hy j hjm) (ho (i + j) (by omega))
   rw [m1]
   refine ⟨by omega, by omega, by omega, by omega, fun s' hv => ⟨(j + 1, (c + z i * y j + o (i + j)) / 4294967296, bG o (i + j) ((c + z i * y j + o (i + j)) % 4294967296)), ?_, ⟨by simp only; omega, m3, fL (by omega) ho, fun k hk => ?_, ?_⟩, by simp only; omega⟩⟩
   ·refine cA [(7, 7)] hv h0 rfl ⟨⟨rfl, aG rfl⟩, ⟨rfl, cj rfl rfl rfl⟩, ⟨rfl, aG rfl⟩, ⟨rfl, aG rfl⟩, ⟨rfl, aG rfl⟩, ⟨rfl, aG rfl⟩, ⟨rfl, aG rfl⟩, ⟨rfl, eU ?_⟩, ⟨rfl, aG rfl⟩, ⟨rfl, aG rfl⟩, ⟨rfl, eU ?_⟩, trivial⟩
     ⟨⟨_, _, rfl, rfl, ew rfl fun k _ => fq (by rw [gU]) k⟩, trivial⟩
    ·rw [jb]; simp only; omega
    ·rw [wrap_i64 (by omega) (by omega)]; simp only; omega
   ·exact (eC (by omega)).trans (ho0 k hk)
   ·simp only
    rw [show 32 * (i + (j + 1)) = 32 * ((i + j) + 1) by omega, fB, val]
    have hset := AK (o := o) (x := (c + z i * y j + o (i + j)) % 4294967296) (show i + j < n + m by omega)
    exact Ez rfl (Nat.div_add_mod _ _) hset (by rw [← Nat.pow_add]; congr 1; omega) hval
  ·have hjm : j = m := by omega
   subst hjm
   refine aA.weak (by kernel_rfl) (cA (vs := DO n j z y 7 i (z i) c j) (ps := [(7, ⟨true, true, 1, n + j, ah o⟩)]) (nx := 8) [(7, 7)] hv h0 rfl
     ⟨⟨rfl, aG rfl⟩, ⟨rfl, cj rfl rfl rfl⟩, ⟨rfl, aG rfl⟩, ⟨rfl, aG rfl⟩, ⟨rfl, aG rfl⟩, ⟨rfl, aG rfl⟩, ⟨rfl, aG rfl⟩, ⟨rfl, aG rfl⟩, ⟨rfl, aG rfl⟩, ⟨rfl, aG rfl⟩, ⟨rfl, aG rfl⟩, trivial⟩
     ⟨⟨_, _, rfl, rfl, ew rfl fun j _ => rfl⟩, trivial⟩)
    (aA.aZ hT fj hm 30 m7 Ma (by kernel_rfl) ?_)
   simp only [aa.all, ax, hij, Int.toNat_natCast, Nat.add_zero, beq_iff_eq]
   refine ⟨by omega, fun s' hv => ?_⟩
   have hf : (fun k => if k = i + j then AV.int .u32 (IntKind.u32.wrap (c : Int)) else ah o k) = ah (bG o (i + j) c) := by
    funext k
    exact fq (wrap_u32 (by omega) (by omega)) k
   rw [hf] at hv
   refine next hin hv (fL hc ho) (fun k hk => (eC (by omega)).trans (ho0 k (by omega))) ?_
   rw [nT (by omega) (ho0 _ (by omega)), hval, val, Nat.add_mul, Nat.mul_assoc, Nat.mul_assoc, Nat.mul_comm (val j y)]
 ·have hin : i = n := by omega
  subst hin
  refine nZ (ek ?_)
  refine (aA.weak (by kernel_rfl) (cA (vs := nj i m z y 7 i) (ps := [(7, ⟨true, true, 1, i + m, ah o⟩)]) (nx := 8) [(7, 7)] hv h0 rfl ⟨⟨rfl, aG rfl⟩, ⟨rfl, cj rfl rfl rfl⟩, ⟨rfl, aG rfl⟩, ⟨rfl, aG rfl⟩, ⟨rfl, aG rfl⟩, trivial⟩
    ⟨⟨_, _, rfl, rfl, ew rfl fun j _ => rfl⟩, trivial⟩)
   (aA.fin hT fj hm 30 acm (by kernel_rfl) ?_))
  simp only [aa.all, ax, Nat.add_zero, gP]
  exact ⟨⟨eW ho, by omega⟩, cZ (congrArg AV.mag hval)⟩
def E3 (A n B m : Nat) : cB := aF (.mag (A * B)) [n < 2 ^ 40, m < 2 ^ 40]
theorem QJ : ∀ K args pre r, bt (fZ E3) K args pre = some r → az P vP K args pre r :=
 bH (o4 fun _ _ _ _ K hz hy need => acZ hz hy need.1 need.2 K [])
end Go.Am.B
