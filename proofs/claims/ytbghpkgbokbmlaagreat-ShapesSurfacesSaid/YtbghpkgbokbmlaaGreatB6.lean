/- slices.Clone, slices.Equal, natural.Mul. -/
import Derived.Test.YtbghpkgbokbmlaaGreatB5
set_option linter.unusedVariables false
namespace Go.Am.B
open Go Go.Am.N AV
theorem SX : aP P nQ q6 (au q6) := aL Yd (by kernel_rfl) (by kernel_rfl) (by kernel_rfl)
theorem LA : aP P qb mw (au mw) := aL Uj (by kernel_rfl) (by kernel_rfl) (by kernel_rfl)
theorem Z4 : aP P r7 gy (au gy) := aL LS (by kernel_rfl) (by kernel_rfl) (by kernel_rfl)
theorem Pr {n : Nat} {b : Bool} {f : Nat → AV} : bq T [] [4] 30 q6 (au q6) ⟨aK 0 [.cX b 1 n f], [], 0⟩ =
  some (aa.fork b (aa.leaf ah.ret [nil]) (aa.af [(0 : Nat) * 1 ≤ 2 ^ 24, ((0 : Nat) + n) * ((4 : Nat) + 1) * 2 ≤ 2 ^ 47] (aa.leaf ah.ret [aj 1 ((0 : Nat) + n) fun (i : Nat) ↦ if i + 0 < 0 then nth [] (int IntKind.u32 (0 : Int)) (i + 0) else f (i + 0 - 0)]))) := by kernel_rfl
theorem Sm {A B : Nat} : aI T [] [10] 30 [0, 1, 12, 13, 4] (before (au mw) [1,1,0,1]) ⟨aK 0 [.mag A, .mag B], [], 0⟩ =
  some (aa.fork ((↑(nl A) : Int) != (↑(nl B) : Int)) (aa.leaf ah.ret ([mag A, mag B, tuple [], tuple [], AV.bool false], [])) (aa.leaf ah.normal ([mag A, mag B, int IntKind.i64 (↑(nl A) : Int), int IntKind.i64 (0 : Int), AV.bool false], []))) := by kernel_rfl
theorem XN {A B i : Nat} : aI T [] [14, 24] 30 [0, 1, 12, 13, 4] [part (au mw) [1,1,0,1,0,0]] ⟨aB [0, 1, 12, 13, 4] [.mag A, .mag B, .int .i64 (nl A), .int .i64 i, .bool false], [], 0⟩ =
  some (aa.fork (decide ((↑i : Int) < (↑(nl A) : Int))) (aa.af [(0 : Int) ≤ (↑i : Int) ∧ (↑i : Int).toNat < nl A, (0 : Int) ≤ (↑i : Int) ∧ (↑i : Int).toNat < nl B] (aa.fork ((↑(aq A (↑i : Int).toNat) : Int) != (↑(aq B (↑i : Int).toNat) : Int)) (aa.leaf ah.ret ([mag A, mag B, int IntKind.i64 (↑(nl A) : Int), int IntKind.i64 (↑i : Int), AV.bool false], [])) (aa.leaf ah.normal ([mag A, mag B, int IntKind.i64 (↑(nl A) : Int), int IntKind.i64 (IntKind.i64.wrap ((↑i : Int) + (1 : Int))), AV.bool false], [])))) (aa.leaf (ah.exit 0) ([mag A, mag B, int IntKind.i64 (↑(nl A) : Int), int IntKind.i64 (↑i : Int), AV.bool false], []))) := by kernel_rfl
theorem Ty {A B i : Nat} : ct T [] [] 30 mw (behind (au mw) [1,1,0,1]) ⟨aB [0, 1, 12, 13, 4] [.mag A, .mag B, .int .i64 (nl A), .int .i64 i, .bool false], [], 0⟩ =
  some (aa.leaf ah.ret [AV.bool true]) := by kernel_rfl
theorem U1 {n m : Nat} {z y : Nat → Nat} : aI T G1 [] 30 [1, 5, 17, 18, 19] (before (au gy) [1,1,0,1]) ⟨aK 0 [.aj 1 n (ag z), .aj 1 m (ag y)], [], 0⟩ =
  some (aa.af [(0 : Int) ≤ IntKind.i64.wrap ((↑n : Int) + (↑m : Int)) ∧ IntKind.i64.wrap ((↑n : Int) + (↑m : Int)) ≤ IntKind.i64.wrap ((↑n : Int) + (↑m : Int)) ∧ IntKind.i64.wrap ((↑n : Int) + (↑m : Int)) ≤ (2 : Int) ^ 47 ∧ IntKind.i64.wrap ((↑n : Int) + (↑m : Int)) * (↑(4 : Nat) : Int) ≤ (2 : Int) ^ 47] (aa.leaf ah.normal ([aj 1 m (ag y), own 24576 1 0 (IntKind.i64.wrap ((↑n : Int) + (↑m : Int))).toNat, aj 1 n (ag z), int IntKind.i64 (↑n : Int), int IntKind.i64 (0 : Int)], [((24576 : Nat), ⟨true, true, 1, (IntKind.i64.wrap ((↑n : Int) + (↑m : Int))).toNat, fun (x : Nat) ↦ int IntKind.u32 (0 : Int)⟩)]))) := by kernel_rfl
theorem Ky {n m i : Nat} {z y o : Nat → Nat} : aI T G1 [20] 30 [1, 5, 17, 18, 19] (before (part (au gy) [1,1,0,1,0,0]) [1,1,0]) ⟨aB [1, 5, 17, 18, 19] [.aj 1 m (ag y), .own 7 1 0 (n + m), .aj 1 n (ag z), .int .i64 n, .int .i64 i], [(7, ⟨true, true, 1, n + m, ag o⟩)], 8⟩ =
  some (aa.fork (decide ((↑i : Int) < (↑n : Int))) (aa.leaf ah.normal ([aj 1 m (ag y), own 7 1 0 (n + m), aj 1 n (ag z), int IntKind.i64 (↑n : Int), int IntKind.i64 (↑i : Int)], [((7 : Nat), ⟨true, true, 1, n + m, ag o⟩)])) (aa.leaf (ah.exit 0) ([aj 1 m (ag y), own 7 1 0 (n + m), aj 1 n (ag z), int IntKind.i64 (↑n : Int), int IntKind.i64 (↑i : Int)], [((7 : Nat), ⟨true, true, 1, n + m, ag o⟩)]))) := by kernel_rfl
theorem V5 {n m i : Nat} {z y o : Nat → Nat} : aI T G1 [25] 30 [1, 5, 17, 18, 19, 6, 7, 8, 26, 27, 28] (before (part (au gy) [1,1,0,1,0,0,1,1,0,0]) [1,1,1,0,1]) ⟨aB [1, 5, 17, 18, 19] [.aj 1 m (ag y), .own 7 1 0 (n + m), .aj 1 n (ag z), .int .i64 n, .int .i64 i], [(7, ⟨true, true, 1, n + m, ag o⟩)], 8⟩ =
  some (aa.af [(0 : Int) ≤ (↑i : Int) ∧ (↑i : Int).toNat < n] (aa.fork ((↑(z (↑i : Int).toNat) : Int) == (0 : Int)) (aa.leaf (ah.exit 1) ([aj 1 m (ag y), own 7 1 0 (n + m), aj 1 n (ag z), int IntKind.i64 (↑n : Int), int IntKind.i64 (↑i : Int), int IntKind.i64 (↑i : Int), int IntKind.u32 (↑(z (↑i : Int).toNat) : Int), tuple [], tuple [], tuple [], tuple []], [((7 : Nat), ⟨true, true, 1, n + m, ag o⟩)])) (aa.leaf ah.normal ([aj 1 m (ag y), own 7 1 0 (n + m), aj 1 n (ag z), int IntKind.i64 (↑n : Int), int IntKind.i64 (↑i : Int), int IntKind.i64 (↑i : Int), int IntKind.u32 (↑(z (↑i : Int).toNat) : Int), int IntKind.u64 (0 : Int), aj 1 m (ag y), int IntKind.i64 (↑m : Int), int IntKind.i64 (0 : Int)], [((7 : Nat), ⟨true, true, 1, n + m, ag o⟩)])))) := by kernel_rfl
theorem aat {n m i j x c : Nat} {z y o : Nat → Nat} : aI T G1 [29] 30 [1, 5, 17, 18, 19, 6, 7, 8, 26, 27, 28] [part (part (au gy) [1,1,0,1,0,0,1,1,0,0]) [1,1,1,0,1,0,0]] ⟨aB [1, 5, 17, 18, 19, 6, 7, 8, 26, 27, 28] [.aj 1 m (ag y), .own 7 1 0 (n + m), .aj 1 n (ag z), .int .i64 n, .int .i64 i, .int .i64 i, .int .u32 x, .int .u64 c, .aj 1 m (ag y), .int .i64 m, .int .i64 j], [(7, ⟨true, true, 1, n + m, ag o⟩)], 8⟩ =
  some (aa.fork (decide ((↑j : Int) < (↑m : Int))) (aa.af [(0 : Int) ≤ (↑j : Int) ∧ (↑j : Int).toNat < m] (aa.af [(0 : Int) ≤ IntKind.i64.wrap ((↑i : Int) + (↑j : Int)) ∧ (IntKind.i64.wrap ((↑i : Int) + (↑j : Int))).toNat < n + m, (IntKind.i64.wrap ((↑i : Int) + (↑j : Int))).toNat + 0 < n + m] (aa.af [(0 : Int) ≤ IntKind.i64.wrap ((↑i : Int) + (↑j : Int)) ∧ (IntKind.i64.wrap ((↑i : Int) + (↑j : Int))).toNat < n + m, (IntKind.i64.wrap ((↑i : Int) + (↑j : Int))).toNat + 0 < n + m] (aa.af [(0 : Int) ≤ (32 : Int)] (aa.leaf ah.normal ([aj 1 m (ag y), own 7 1 0 (n + m), aj 1 n (ag z), int IntKind.i64 (↑n : Int), int IntKind.i64 (↑i : Int), int IntKind.i64 (↑i : Int), int IntKind.u32 (↑x : Int), int IntKind.u64 ((IntKind.u64.wrap ((↑c : Int) + IntKind.u64.wrap (IntKind.u64.wrap (IntKind.u64.wrap (↑x : Int) * IntKind.u64.wrap (↑(y (↑j : Int).toNat) : Int)) + IntKind.u64.wrap (↑(o ((IntKind.i64.wrap ((↑i : Int) + (↑j : Int))).toNat + 0)) : Int)))).fdiv ((2 : Int) ^ min (Int.toNat (32 : Int)) IntKind.u64.bits)), aj 1 m (ag y), int IntKind.i64 (↑m : Int), int IntKind.i64 (IntKind.i64.wrap ((↑j : Int) + (1 : Int)))], [((7 : Nat), ⟨true, true, 1, n + m, fun (j_1 : Nat) ↦ if (j_1 == (IntKind.i64.wrap ((↑i : Int) + (↑j : Int))).toNat + 0) = true then int IntKind.u32 (IntKind.u32.wrap (IntKind.u64.wrap ((↑c : Int) + IntKind.u64.wrap (IntKind.u64.wrap (IntKind.u64.wrap (↑x : Int) * IntKind.u64.wrap (↑(y (↑j : Int).toNat) : Int)) + IntKind.u64.wrap (↑(o ((IntKind.i64.wrap ((↑i : Int) + (↑j : Int))).toNat + 0)) : Int))))) else ag o j_1⟩)])))))) (aa.leaf (ah.exit 2) ([aj 1 m (ag y), own 7 1 0 (n + m), aj 1 n (ag z), int IntKind.i64 (↑n : Int), int IntKind.i64 (↑i : Int), int IntKind.i64 (↑i : Int), int IntKind.u32 (↑x : Int), int IntKind.u64 (↑c : Int), aj 1 m (ag y), int IntKind.i64 (↑m : Int), int IntKind.i64 (↑j : Int)], [((7 : Nat), ⟨true, true, 1, n + m, ag o⟩)]))) := by kernel_rfl
theorem TJ {n m i j x c : Nat} {z y o : Nat → Nat} : aI T G1 [] 30 [1, 5, 17, 18, 19] (behind (part (au gy) [1,1,0,1,0,0,1,1,0,0]) [1,1,1,0,1]) ⟨aB [1, 5, 17, 18, 19, 6, 7, 8, 26, 27, 28] [.aj 1 m (ag y), .own 7 1 0 (n + m), .aj 1 n (ag z), .int .i64 n, .int .i64 i, .int .i64 i, .int .u32 x, .int .u64 c, .aj 1 m (ag y), .int .i64 m, .int .i64 j], [(7, ⟨true, true, 1, n + m, ag o⟩)], 8⟩ =
  some (aa.af [(0 : Int) ≤ IntKind.i64.wrap ((↑i : Int) + (↑m : Int)) ∧ (IntKind.i64.wrap ((↑i : Int) + (↑m : Int))).toNat < n + m, (IntKind.i64.wrap ((↑i : Int) + (↑m : Int))).toNat + 0 < n + m] (aa.leaf ah.normal ([aj 1 m (ag y), own 7 1 0 (n + m), aj 1 n (ag z), int IntKind.i64 (↑n : Int), int IntKind.i64 (↑i : Int)], [((7 : Nat), ⟨true, true, 1, n + m, fun (j : Nat) ↦ if (j == (IntKind.i64.wrap ((↑i : Int) + (↑m : Int))).toNat + 0) = true then int IntKind.u32 (IntKind.u32.wrap (↑c : Int)) else ag o j⟩)]))) := by kernel_rfl
theorem VJ {n m i : Nat} {z y o : Nat → Nat} : aI T G1 [] 30 [1, 5, 17, 18, 19] (behind (part (au gy) [1,1,0,1,0,0]) [1,1,0]) ⟨aB [1, 5, 17, 18, 19] [.aj 1 m (ag y), .own 7 1 0 (n + m), .aj 1 n (ag z), .int .i64 n, .int .i64 i], [(7, ⟨true, true, 1, n + m, ag o⟩)], 8⟩ =
  some (aa.leaf ah.normal ([aj 1 m (ag y), own 7 1 0 (n + m), aj 1 n (ag z), int IntKind.i64 (↑n : Int), int IntKind.i64 (IntKind.i64.wrap ((↑i : Int) + (1 : Int)))], [((7 : Nat), ⟨true, true, 1, n + m, ag o⟩)])) := by kernel_rfl
theorem Wx {n m i : Nat} {z y o : Nat → Nat} : ct T G1 [] 30 gy (behind (au gy) [1,1,0,1]) ⟨aB [1, 5, 17, 18, 19] [.aj 1 m (ag y), .own 7 1 0 (n + m), .aj 1 n (ag z), .int .i64 n, .int .i64 i], [(7, ⟨true, true, 1, n + m, ag o⟩)], 8⟩ =
  some (aa.af [cO (n + m) fun (i : Nat) ↦ ag o (i + 0), n + m < 2 ^ 62] (aa.leaf ah.ret [mag (val (n + m) fun (i : Nat) ↦ numOf (ag o (i + 0)))])) := by kernel_rfl
theorem BD {n : Nat} {f : Nat → AV} (hn : n < 2 ^ 40) (K : Nat) : ay P nQ K [.aj 1 n f] [] (aF (.aj 1 n f) []) := by
 refine LG fun b hb => ?_
 refine bt hT bg hm SX rfl (of_decide_eq_true (by kernel_rfl)) rfl 30 Pr (fun _ => ?_) K []
 simp only [aa.all, ax]
 refine ⟨fun h => ?_, fun h => ⟨⟨by omega, by omega⟩, qw (by omega) fun i hi => by simp⟩⟩
 rw [hb h]
 exact gD (by omega)
def w8 : Spec := bA fun l => match l with
 | [.mag N] => some (aF (.mag N) [nl N < 2 ^ 40])
 | [.nil] => some (aF (.mag 0) [])
 | [.aj es n f] => if es == 1 then some (aF (.aj 1 n f) [n < 2 ^ 40]) else none
 | _ => none
theorem As : ∀ K args pre r, w8 K args pre = some r → ay P nQ K args pre r := by
 refine bQ fun K args r hk hs _ => ?_
 split at hs
 ·rename_i N
  simp only [Option.some.injEq] at hs
  subst hs
  intro need
  have := fk (args := [.mag N]) (BD (n := nl N) (f := fun i => .int .u32 (aq N i)) need K) rfl ⟨CI rfl fun i hi => rfl, trivial⟩ []
  exact Fj (l' := []) this id rfl rfl (iW rfl fun i hi => rfl) trivial
 ·simp only [Option.some.injEq] at hs
  subst hs
  intro need
  have := fk (args := [.nil]) (BD (n := 0) (f := fun _ => .nil) (by omega) K) rfl ⟨gD (by omega), trivial⟩ []
  exact Fj (l' := []) this id rfl rfl (iW (by simp [nl]) fun i hi => by omega) trivial
 ·rename_i es n f
  split at hs
  ·rename_i he
   have he : es = 1 := by simpa using he
   subst he
   simp only [Option.some.injEq] at hs
   subst hs
   exact fun need => BD need K trivial
  ·simp at hs
 ·simp at hs
theorem T7 {A B : Nat} (hA : nl A < 2 ^ 40) (hB : nl B < 2 ^ 40) (K : Nat) (pre : aC) : ay P qb K [.mag A, .mag B] pre (aF (.bool (decide (A = B))) []) := by
 refine gF hT LA rfl (of_decide_eq_true (by kernel_rfl)) rfl (fun _ c h0 => ?_) K pre
 refine ak.hole [1,1,0,1] (by kernel_rfl) (az.bk hT bg hm 30 [0, 1, 12, 13, 4] Sm (by kernel_rfl) ?_)
 simp only [aa.all, bne_iff_ne, ne_eq, Int.natCast_inj, bne_eq_false_iff_eq]
 refine ⟨fun hb s' hv => ?_, fun hb s' hv => ?_⟩
 ·exact eW (us := [.bool false]) (.inr rfl) hv (by kernel_rfl) (fQ (decide_eq_false fun h => hb (by rw [h])).symm)
 refine ak.fR (i := 0) (y := part (au mw) [1,1,0,1,0,0]) (by kernel_rfl)
  (fun i : Nat => ⟨aB [0, 1, 12, 13, 4] [.mag A, .mag B, .int .i64 (nl A), .int .i64 i, .bool false], [], 0⟩)
  (fun i => i ≤ nl A ∧ ∀ j, j < i → aq A j = aq B j) (fun i => nl A - i) 0
  (cB [] hv h0 rfl ⟨⟨rfl, aG rfl⟩, ⟨rfl, aG rfl⟩, ⟨rfl, aG rfl⟩, ⟨rfl, aG rfl⟩, ⟨rfl, aG rfl⟩, trivial⟩ trivial) ⟨by omega, fun j h => by omega⟩ ?_
 rintro i ⟨hi, hlim⟩
 refine ak.bk hT bg hm 30 [0, 1, 12, 13, 4] XN (by kernel_rfl) ?_
 simp only [aa.all, ax, decide_eq_true_eq, decide_eq_false_iff_not, bne_iff_ne, ne_eq, Int.natCast_inj, bne_eq_false_iff_eq, Int.toNat_natCast]
 refine ⟨fun h1 => ⟨⟨by omega, by omega⟩, fun hne s' hv => ?_, fun heq s' hv => ?_⟩, fun h1 s' hv => ?_⟩
 ·exact eW (us := [.bool false]) (.inr rfl) hv (by kernel_rfl) (fQ (decide_eq_false fun h => hne (by rw [h])).symm)
 ·refine ⟨i + 1, cB [] hv h0 rfl ⟨⟨rfl, aG rfl⟩, ⟨rfl, aG rfl⟩, ⟨rfl, aG rfl⟩, ⟨rfl, eO (by rw [wrap_i64 (by omega) (by omega)]; omega)⟩, ⟨rfl, aG rfl⟩, trivial⟩ trivial, ⟨by omega, fun j hj => ?_⟩, by omega⟩
  by_cases h : j = i
  ·subst h; exact heq
  ·exact hlim j (by omega)
 ·have hAB : A = B := BP hb fun j hj => hlim j (by omega)
  exact az.weak (by kernel_rfl) (cB (vs := [.mag A, .mag B, .int .i64 (nl A), .int .i64 i, .bool false]) (ps := []) (nx := 0) [] hv h0 rfl ⟨⟨rfl, aG rfl⟩, ⟨rfl, aG rfl⟩, ⟨rfl, aG rfl⟩, ⟨rfl, aG rfl⟩, ⟨rfl, aG rfl⟩, trivial⟩ trivial)
   (az.fin hT bg hm 30 Ty (by kernel_rfl) (fQ (decide_eq_true hAB).symm))
def gi : AV → Option Nat
 | .mag N => some N
 | .nil => some 0
 | _ => none
theorem iY {a : AV} {N : Nat} (h : gi a = some N) : bu a (.mag N) := by
 cases a <;> simp only [gi, reduceCtorEq, Option.some.injEq] at h
 case mag M => subst h; exact .refl _
 case nil => subst h; exact iu
def B4 : Spec := bA fun l => match l with
 | [a, b] => match gi a, gi b with
  | some A, some B => some (aF (.bool (decide (A = B))) [nl A < 2 ^ 40, nl B < 2 ^ 40])
  | _, _ => none
 | _ => none
theorem GU : ∀ K args pre r, B4 K args pre = some r → ay P qb K args pre r := by
 refine bQ fun K args r hk hs _ => ?_
 split at hs
 ·split at hs
  ·rename_i A B hA hB
   simp only [Option.some.injEq] at hs
   subst hs
   exact fun need => fk (T7 need.1 need.2 K []) hk ⟨iY hA, iY hB, trivial⟩ [] trivial
  ·simp at hs
 ·simp at hs
abbrev mK : List Nat := [1, 5, 17, 18, 19]
abbrev oC (n m : Nat) (z y : Nat → Nat) (K i : Nat) : List AV := [.aj 1 m (ag y), .own K 1 0 (n + m), .aj 1 n (ag z), .int .i64 n, .int .i64 i]
abbrev z5 : List Nat := [1, 5, 17, 18, 19, 6, 7, 8, 26, 27, 28]
abbrev Jo (n m : Nat) (z y : Nat → Nat) (K i x c j : Nat) : List AV := [.aj 1 m (ag y), .own K 1 0 (n + m), .aj 1 n (ag z), .int .i64 n, .int .i64 i, .int .i64 i, .int .u32 x, .int .u64 c, .aj 1 m (ag y), .int .i64 m, .int .i64 j]
theorem Yh {n m : Nat} {z y : Nat → Nat} (hz : ∀ i, i < n → z i < 2 ^ 32) (hy : ∀ i, i < m → y i < 2 ^ 32) (hn : n < 2 ^ 40) (hm' : m < 2 ^ 40) (K : Nat) (pre : aC) :
  ay P r7 K [.aj 1 n (ag z), .aj 1 m (ag y)] pre (aF (.mag (val n z * val m y)) []) := by
 refine gF hT Z4 rfl (of_decide_eq_true (by kernel_rfl)) rfl (fun _ c0 h0 => ?_) K pre
 refine ak.hole [1,1,0,1] (by kernel_rfl) (az.bk hT e9 hm 30 mK U1 (by kernel_rfl) ?_)
 have hw : IntKind.i64.wrap ((n : Int) + (m : Int)) = ((n + m : Nat) : Int) := by rw [wrap_i64 (by omega) (by omega)]; omega
 simp only [aa.all, ax, hw, Int.toNat_natCast]
 refine ⟨by omega, fun s' hv => ?_⟩
 refine ak.fR (i := 0) (y := part (au gy) [1,1,0,1,0,0]) (by kernel_rfl)
  (fun p : Nat × (Nat → Nat) => ⟨aB mK (oC n m z y 7 p.1), [(7, ⟨true, true, 1, n + m, ag p.2⟩)], 8⟩)
  (fun p => p.1 ≤ n ∧ (∀ j, j < n + m → p.2 j < 2 ^ 32) ∧ (∀ j, p.1 + m ≤ j → p.2 j = 0) ∧ val (n + m) p.2 = val p.1 z * val m y)
  (fun p => n - p.1) (0, fun _ => 0)
  (cB [(7, 24576)] hv h0 rfl ⟨⟨rfl, aG rfl⟩, ⟨rfl, cy rfl rfl rfl⟩, ⟨rfl, aG rfl⟩, ⟨rfl, aG rfl⟩, ⟨rfl, aG rfl⟩, trivial⟩
   ⟨⟨_, _, rfl, rfl, eg rfl fun j _ => rfl⟩, trivial⟩)
  ⟨by simp, fun j _ => by simp, fun j _ => rfl, ?_⟩ ?_
 ·simp only
  rw [jF (k := 0) (by omega) fun _ _ _ => rfl]
  simp [val]
 rintro ⟨i, o⟩ ⟨hi, ho, ho0, hval⟩
 simp only at hi ho ho0 hval
 have next : ∀ {o' : Nat → Nat} {s' : aE}, i < n → aT mK s' = some (oC n m z y 7 i, [(7, ⟨true, true, 1, n + m, ag o'⟩)]) → (∀ j, j < n + m → o' j < 2 ^ 32) → (∀ j, i + 1 + m ≤ j → o' j = 0) →
   val (n + m) o' = val (i + 1) z * val m y → ∀ {QF : ah → aE → Prop},
   az P c0 gy.ntmps (behind (part (au gy) [1,1,0,1,0,0]) [1,1,0]) s' (dc (fun s' => ∃ k : Nat × (Nat → Nat), (∃ ρ, Le c0 ρ s' ⟨aB mK (oC n m z y 7 k.1), [(7, ⟨true, true, 1, n + m, ag k.2⟩)], 8⟩) ∧
    (k.1 ≤ n ∧ (∀ j, j < n + m → k.2 j < 2 ^ 32) ∧ (∀ j, k.1 + m ≤ j → k.2 j = 0) ∧ val (n + m) k.2 = val k.1 z * val m y) ∧ n - k.1 < n - i) QF) := by
  intro o' s' hin hv g1 g2 g3 QF
  refine az.weak (by kernel_rfl) (cB (vs := oC n m z y 7 i) (ps := [(7, ⟨true, true, 1, n + m, ag o'⟩)]) (nx := 8) [(7, 7)] hv h0 rfl ⟨⟨rfl, aG rfl⟩, ⟨rfl, cy rfl rfl rfl⟩, ⟨rfl, aG rfl⟩, ⟨rfl, aG rfl⟩, ⟨rfl, aG rfl⟩, trivial⟩
    ⟨⟨_, _, rfl, rfl, eg rfl fun j _ => rfl⟩, trivial⟩)
   (az.bk hT e9 hm 30 mK VJ (by kernel_rfl) ?_)
  intro s' hv
  exact ⟨(i + 1, o'), cB [(7, 7)] hv h0 rfl ⟨⟨rfl, aG rfl⟩, ⟨rfl, cy rfl rfl rfl⟩, ⟨rfl, aG rfl⟩, ⟨rfl, aG rfl⟩, ⟨rfl, eO (by rw [wrap_i64 (by omega) (by omega)]; simp only; omega)⟩, trivial⟩
    ⟨⟨_, _, rfl, rfl, eg rfl fun j _ => rfl⟩, trivial⟩, ⟨by simp only; omega, g1, g2, g3⟩, by simp only; omega⟩
 refine ak.hole [1,1,0] (by kernel_rfl) (az.bk hT e9 hm 30 mK Ky (by kernel_rfl) ?_)
 simp only [aa.all, decide_eq_true_eq, decide_eq_false_iff_not]
 refine ⟨fun h1 s' hv => ?_, fun h1 s' hv => ?_⟩
 ·have hin : i < n := by omega
  have hzi := hz i hin
  refine ak.kG (cB (vs := oC n m z y 7 i) (ps := [(7, ⟨true, true, 1, n + m, ag o⟩)]) (nx := 8) [(7, 7)] hv h0 rfl ⟨⟨rfl, aG rfl⟩, ⟨rfl, cy rfl rfl rfl⟩, ⟨rfl, aG rfl⟩, ⟨rfl, aG rfl⟩, ⟨rfl, aG rfl⟩, trivial⟩
    ⟨⟨_, _, rfl, rfl, eg rfl fun j _ => rfl⟩, trivial⟩) ?_
  refine ak.lY (i := 1) (y := part (au gy) [1,1,0,1,0,0,1,1,0,0]) (by kernel_rfl) ?_
  refine ak.hole [1,1,1,0,1] (by kernel_rfl) (az.bk hT e9 hm 30 z5 V5 (by kernel_rfl) ?_)
  simp only [aa.all, ax, Int.toNat_natCast, beq_iff_eq, beq_eq_false_iff_ne, ne_eq]
  refine ⟨by omega, fun hz0 s' hv => ?_, fun hz0 s' hv => ?_⟩
  ·refine dX ?_
   exact (next hin (gd (ls := mK) (l := [6, 7, 8, 26, 27, 28]) (vs := oC n m z y 7 i) hv rfl rfl) ho (fun j hj => ho0 j (by omega)) (by rw [hval, val, show z i = 0 by omega]; simp))
  refine ak.fR (i := 2) (y := part (part (au gy) [1,1,0,1,0,0,1,1,0,0]) [1,1,1,0,1,0,0]) (by kernel_rfl)
   (fun p : Nat × Nat × (Nat → Nat) => ⟨aB z5 (Jo n m z y 7 i (z i) p.2.1 p.1), [(7, ⟨true, true, 1, n + m, ag p.2.2⟩)], 8⟩)
   (fun p => p.1 ≤ m ∧ p.2.1 < 2 ^ 32 ∧ (∀ j, j < n + m → p.2.2 j < 2 ^ 32) ∧ (∀ j, i + m ≤ j → p.2.2 j = 0) ∧ val (n + m) p.2.2 + p.2.1 * 2 ^ (32 * (i + p.1)) = val i z * val m y + z i * val p.1 y * 2 ^ (32 * i))
   (fun p => m - p.1) (0, 0, o)
   (cB [(7, 7)] hv h0 rfl ⟨⟨rfl, aG rfl⟩, ⟨rfl, cy rfl rfl rfl⟩, ⟨rfl, aG rfl⟩, ⟨rfl, aG rfl⟩, ⟨rfl, aG rfl⟩, ⟨rfl, aG rfl⟩, ⟨rfl, aG rfl⟩, ⟨rfl, aG rfl⟩, ⟨rfl, aG rfl⟩, ⟨rfl, aG rfl⟩, ⟨rfl, aG rfl⟩, trivial⟩
    ⟨⟨_, _, rfl, rfl, eg rfl fun j _ => rfl⟩, trivial⟩)
   ⟨by simp, by simp, ho, ho0, by simp [val, hval]⟩ ?_
  rintro ⟨j, c, o⟩ ⟨hj, hc, ho, ho0, hval⟩
  simp only at hj hc ho ho0 hval
  refine ak.bk hT e9 hm 30 z5 aat (by kernel_rfl) ?_
  have hij : IntKind.i64.wrap ((i : Int) + (j : Int)) = ((i + j : Nat) : Int) := by rw [wrap_i64 (by omega) (by omega)]; omega
  simp only [aa.all, ax, decide_eq_true_eq, decide_eq_false_iff_not, hij, Int.toNat_natCast, Nat.add_zero, beq_iff_eq]
  refine ⟨fun h2 => ?_, fun h2 s' hv => dX ?_⟩
  ·have hjm : j < m := by omega
   obtain ⟨m1, m2, m3⟩ := DM hc hzi (hy j hjm) (ho (i + j) (by omega))
   rw [m1]
   refine ⟨by omega, by omega, by omega, by omega, fun s' hv => ⟨(j + 1, (c + z i * y j + o (i + j)) / 4294967296, bK o (i + j) ((c + z i * y j + o (i + j)) % 4294967296)), ?_, ⟨by simp only; omega, m3, fI (by omega) ho, fun k hk => ?_, ?_⟩, by simp only; omega⟩⟩
   ·refine cB [(7, 7)] hv h0 rfl ⟨⟨rfl, aG rfl⟩, ⟨rfl, cy rfl rfl rfl⟩, ⟨rfl, aG rfl⟩, ⟨rfl, aG rfl⟩, ⟨rfl, aG rfl⟩, ⟨rfl, aG rfl⟩, ⟨rfl, aG rfl⟩, ⟨rfl, eO ?_⟩, ⟨rfl, aG rfl⟩, ⟨rfl, aG rfl⟩, ⟨rfl, eO ?_⟩, trivial⟩
     ⟨⟨_, _, rfl, rfl, eg rfl fun k _ => ff (by rw [gz]) k⟩, trivial⟩
    ·rw [iK]; simp only; omega
    ·rw [wrap_i64 (by omega) (by omega)]; simp only; omega
   ·exact (er (by omega)).trans (ho0 k hk)
   ·simp only
    rw [show 32 * (i + (j + 1)) = 32 * ((i + j) + 1) by omega, fE, val]
    have hset := zF (o := o) (x := (c + z i * y j + o (i + j)) % 4294967296) (show i + j < n + m by omega)
    exact GW rfl (Nat.div_add_mod _ _) hset (by rw [← Nat.pow_add]; congr 1; omega) hval
  ·have hjm : j = m := by omega
   subst hjm
   refine az.weak (by kernel_rfl) (cB (vs := Jo n j z y 7 i (z i) c j) (ps := [(7, ⟨true, true, 1, n + j, ag o⟩)]) (nx := 8) [(7, 7)] hv h0 rfl
     ⟨⟨rfl, aG rfl⟩, ⟨rfl, cy rfl rfl rfl⟩, ⟨rfl, aG rfl⟩, ⟨rfl, aG rfl⟩, ⟨rfl, aG rfl⟩, ⟨rfl, aG rfl⟩, ⟨rfl, aG rfl⟩, ⟨rfl, aG rfl⟩, ⟨rfl, aG rfl⟩, ⟨rfl, aG rfl⟩, ⟨rfl, aG rfl⟩, trivial⟩
     ⟨⟨_, _, rfl, rfl, eg rfl fun j _ => rfl⟩, trivial⟩)
    (az.bk hT e9 hm 30 mK TJ (by kernel_rfl) ?_)
   simp only [aa.all, ax, hij, Int.toNat_natCast, Nat.add_zero, beq_iff_eq]
   refine ⟨by omega, fun s' hv => ?_⟩
   have hf : (fun k => if k = i + j then AV.int .u32 (IntKind.u32.wrap (c : Int)) else ag o k) = ag (bK o (i + j) c) := by
    funext k
    exact ff (wrap_u32 (by omega) (by omega)) k
   rw [hf] at hv
   refine next hin hv (fI hc ho) (fun k hk => (er (by omega)).trans (ho0 k (by omega))) ?_
   rw [nK (by omega) (ho0 _ (by omega)), hval, val, Nat.add_mul, Nat.mul_assoc, Nat.mul_assoc, Nat.mul_comm (val j y)]
 ·have hin : i = n := by omega
  subst hin
  refine nq (dX ?_)
  refine (az.weak (by kernel_rfl) (cB (vs := oC i m z y 7 i) (ps := [(7, ⟨true, true, 1, i + m, ag o⟩)]) (nx := 8) [(7, 7)] hv h0 rfl ⟨⟨rfl, aG rfl⟩, ⟨rfl, cy rfl rfl rfl⟩, ⟨rfl, aG rfl⟩, ⟨rfl, aG rfl⟩, ⟨rfl, aG rfl⟩, trivial⟩
    ⟨⟨_, _, rfl, rfl, eg rfl fun j _ => rfl⟩, trivial⟩)
   (az.fin hT e9 hm 30 Wx (by kernel_rfl) ?_))
  simp only [aa.all, ax, Nat.add_zero, gE]
  exact ⟨⟨eM ho, by omega⟩, de (congrArg AV.mag hval)⟩
def EB (A n B m : Nat) : cF := aF (.mag (A * B)) [n < 2 ^ 40, m < 2 ^ 40]
theorem NN : ∀ K args pre r, bA (fS EB) K args pre = some r → ay P r7 K args pre r :=
 bQ (oU fun _ _ _ _ K hz hy need => Yh hz hy need.1 need.2 K [])
end Go.Am.B
