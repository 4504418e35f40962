/- slices.Clone, slices.Equal, natural.Mul. -/
import Derived.Test.YtjhhblmbiaghfaaB5
set_option linter.unusedVariables false
namespace Go.Am.B
open Go Go.Am.N AV
theorem Kz : aO P mq pC (ax pC) := aS KL (by kernel_rfl) (by kernel_rfl) (by kernel_rfl)
theorem SR : aO P nW kB (ax kB) := aS S0 (by kernel_rfl) (by kernel_rfl) (by kernel_rfl)
theorem Gd : aO P pz fR (ax fR) := aS Hu (by kernel_rfl) (by kernel_rfl) (by kernel_rfl)
theorem Jr {n : Nat} {b : Bool} {f : Nat → AV} : bA T [] [4] 30 pC (ax pC) ⟨aM 0 [.cI b 1 n f], [], 0⟩ =
  some (aa.fork b (aa.leaf aj.ret [nil]) (aa.af [(0 : Nat) * 1 ≤ 2 ^ 24, ((0 : Nat) + n) * ((4 : Nat) + 1) * 2 ≤ 2 ^ 47] (aa.leaf aj.ret [ah 1 ((0 : Nat) + n) fun (i : Nat) ↦ if i + 0 < 0 then nth [] (int IntKind.u32 (0 : Int)) (i + 0) else f (i + 0 - 0)]))) := by kernel_rfl
theorem Nd {A B : Nat} : aG T [] [10] 30 [0, 1, 12, 13, 4] (before (ax kB) [1,1,0,1]) ⟨aM 0 [.mag A, .mag B], [], 0⟩ =
  some (aa.fork ((↑(nl A) : Int) != (↑(nl B) : Int)) (aa.leaf aj.ret ([mag A, mag B, tuple [], tuple [], AV.bool false], [])) (aa.leaf aj.normal ([mag A, mag B, int IntKind.i64 (↑(nl A) : Int), int IntKind.i64 (0 : Int), AV.bool false], []))) := by kernel_rfl
theorem SC {A B i : Nat} : aG T [] [14, 24] 30 [0, 1, 12, 13, 4] [part (ax kB) [1,1,0,1,0,0]] ⟨aB [0, 1, 12, 13, 4] [.mag A, .mag B, .int .i64 (nl A), .int .i64 i, .bool false], [], 0⟩ =
  some (aa.fork (decide ((↑i : Int) < (↑(nl A) : Int))) (aa.af [(0 : Int) ≤ (↑i : Int) ∧ (↑i : Int).toNat < nl A, (0 : Int) ≤ (↑i : Int) ∧ (↑i : Int).toNat < nl B] (aa.fork ((↑(au A (↑i : Int).toNat) : Int) != (↑(au B (↑i : Int).toNat) : Int)) (aa.leaf aj.ret ([mag A, mag B, int IntKind.i64 (↑(nl A) : Int), int IntKind.i64 (↑i : Int), AV.bool false], [])) (aa.leaf aj.normal ([mag A, mag B, int IntKind.i64 (↑(nl A) : Int), int IntKind.i64 (IntKind.i64.wrap ((↑i : Int) + (1 : Int))), AV.bool false], [])))) (aa.leaf (aj.exit 0) ([mag A, mag B, int IntKind.i64 (↑(nl A) : Int), int IntKind.i64 (↑i : Int), AV.bool false], []))) := by kernel_rfl
theorem G9 {A B i : Nat} : cJ T [] [] 30 kB (behind (ax kB) [1,1,0,1]) ⟨aB [0, 1, 12, 13, 4] [.mag A, .mag B, .int .i64 (nl A), .int .i64 i, .bool false], [], 0⟩ =
  some (aa.leaf aj.ret [AV.bool true]) := by kernel_rfl
theorem OD {n m : Nat} {z y : Nat → Nat} : aG T G1 [] 30 [1, 5, 17, 18, 19] (before (ax fR) [1,1,0,1]) ⟨aM 0 [.ah 1 n (ag z), .ah 1 m (ag y)], [], 0⟩ =
  some (aa.af [(0 : Int) ≤ IntKind.i64.wrap ((↑n : Int) + (↑m : Int)) ∧ IntKind.i64.wrap ((↑n : Int) + (↑m : Int)) ≤ IntKind.i64.wrap ((↑n : Int) + (↑m : Int)) ∧ IntKind.i64.wrap ((↑n : Int) + (↑m : Int)) ≤ (2 : Int) ^ 47 ∧ IntKind.i64.wrap ((↑n : Int) + (↑m : Int)) * (↑(4 : Nat) : Int) ≤ (2 : Int) ^ 47] (aa.leaf aj.normal ([ah 1 m (ag y), own 24576 1 0 (IntKind.i64.wrap ((↑n : Int) + (↑m : Int))).toNat, ah 1 n (ag z), int IntKind.i64 (↑n : Int), int IntKind.i64 (0 : Int)], [((24576 : Nat), ⟨true, true, 1, (IntKind.i64.wrap ((↑n : Int) + (↑m : Int))).toNat, fun (x : Nat) ↦ int IntKind.u32 (0 : Int)⟩)]))) := by kernel_rfl
theorem KW {n m i : Nat} {z y o : Nat → Nat} : aG T G1 [20] 30 [1, 5, 17, 18, 19] (before (part (ax fR) [1,1,0,1,0,0]) [1,1,0]) ⟨aB [1, 5, 17, 18, 19] [.ah 1 m (ag y), .own 7 1 0 (n + m), .ah 1 n (ag z), .int .i64 n, .int .i64 i], [(7, ⟨true, true, 1, n + m, ag o⟩)], 8⟩ =
  some (aa.fork (decide ((↑i : Int) < (↑n : Int))) (aa.leaf aj.normal ([ah 1 m (ag y), own 7 1 0 (n + m), ah 1 n (ag z), int IntKind.i64 (↑n : Int), int IntKind.i64 (↑i : Int)], [((7 : Nat), ⟨true, true, 1, n + m, ag o⟩)])) (aa.leaf (aj.exit 0) ([ah 1 m (ag y), own 7 1 0 (n + m), ah 1 n (ag z), int IntKind.i64 (↑n : Int), int IntKind.i64 (↑i : Int)], [((7 : Nat), ⟨true, true, 1, n + m, ag o⟩)]))) := by kernel_rfl
theorem F7 {n m i : Nat} {z y o : Nat → Nat} : aG T G1 [25] 30 [1, 5, 17, 18, 19, 6, 7, 8, 26, 27, 28] (before (part (ax fR) [1,1,0,1,0,0,1,1,0,0]) [1,1,1,0,1]) ⟨aB [1, 5, 17, 18, 19] [.ah 1 m (ag y), .own 7 1 0 (n + m), .ah 1 n (ag z), .int .i64 n, .int .i64 i], [(7, ⟨true, true, 1, n + m, ag o⟩)], 8⟩ =
  some (aa.af [(0 : Int) ≤ (↑i : Int) ∧ (↑i : Int).toNat < n] (aa.fork ((↑(z (↑i : Int).toNat) : Int) == (0 : Int)) (aa.leaf (aj.exit 1) ([ah 1 m (ag y), own 7 1 0 (n + m), ah 1 n (ag z), int IntKind.i64 (↑n : Int), int IntKind.i64 (↑i : Int), int IntKind.i64 (↑i : Int), int IntKind.u32 (↑(z (↑i : Int).toNat) : Int), tuple [], tuple [], tuple [], tuple []], [((7 : Nat), ⟨true, true, 1, n + m, ag o⟩)])) (aa.leaf aj.normal ([ah 1 m (ag y), own 7 1 0 (n + m), ah 1 n (ag z), int IntKind.i64 (↑n : Int), int IntKind.i64 (↑i : Int), int IntKind.i64 (↑i : Int), int IntKind.u32 (↑(z (↑i : Int).toNat) : Int), int IntKind.u64 (0 : Int), ah 1 m (ag y), int IntKind.i64 (↑m : Int), int IntKind.i64 (0 : Int)], [((7 : Nat), ⟨true, true, 1, n + m, ag o⟩)])))) := by kernel_rfl
theorem TC {n m i j x c : Nat} {z y o : Nat → Nat} : aG T G1 [29] 30 [1, 5, 17, 18, 19, 6, 7, 8, 26, 27, 28] [part (part (ax fR) [1,1,0,1,0,0,1,1,0,0]) [1,1,1,0,1,0,0]] ⟨aB [1, 5, 17, 18, 19, 6, 7, 8, 26, 27, 28] [.ah 1 m (ag y), .own 7 1 0 (n + m), .ah 1 n (ag z), .int .i64 n, .int .i64 i, .int .i64 i, .int .u32 x, .int .u64 c, .ah 1 m (ag y), .int .i64 m, .int .i64 j], [(7, ⟨true, true, 1, n + m, ag o⟩)], 8⟩ =
  some (aa.fork (decide ((↑j : Int) < (↑m : Int))) (aa.af [(0 : Int) ≤ (↑j : Int) ∧ (↑j : Int).toNat < m] (aa.af [(0 : Int) ≤ IntKind.i64.wrap ((↑i : Int) + (↑j : Int)) ∧ (IntKind.i64.wrap ((↑i : Int) + (↑j : Int))).toNat < n + m, (IntKind.i64.wrap ((↑i : Int) + (↑j : Int))).toNat + 0 < n + m] (aa.af [(0 : Int) ≤ IntKind.i64.wrap ((↑i : Int) + (↑j : Int)) ∧ (IntKind.i64.wrap ((↑i : Int) + (↑j : Int))).toNat < n + m, (IntKind.i64.wrap ((↑i : Int) + (↑j : Int))).toNat + 0 < n + m] (aa.af [(0 : Int) ≤ (32 : Int)] (aa.leaf aj.normal ([ah 1 m (ag y), own 7 1 0 (n + m), ah 1 n (ag z), int IntKind.i64 (↑n : Int), int IntKind.i64 (↑i : Int), int IntKind.i64 (↑i : Int), int IntKind.u32 (↑x : Int), int IntKind.u64 ((IntKind.u64.wrap ((↑c : Int) + IntKind.u64.wrap (IntKind.u64.wrap (IntKind.u64.wrap (↑x : Int) * IntKind.u64.wrap (↑(y (↑j : Int).toNat) : Int)) + IntKind.u64.wrap (↑(o ((IntKind.i64.wrap ((↑i : Int) + (↑j : Int))).toNat + 0)) : Int)))).fdiv ((2 : Int) ^ min (Int.toNat (32 : Int)) IntKind.u64.bits)), ah 1 m (ag y), int IntKind.i64 (↑m : Int), int IntKind.i64 (IntKind.i64.wrap ((↑j : Int) + (1 : Int)))], [((7 : Nat), ⟨true, true, 1, n + m, fun (j_1 : Nat) ↦ if (j_1 == (IntKind.i64.wrap ((↑i : Int) + (↑j : Int))).toNat + 0) = true then int IntKind.u32 (IntKind.u32.wrap (IntKind.u64.wrap ((↑c : Int) + IntKind.u64.wrap (IntKind.u64.wrap (IntKind.u64.wrap (↑x : Int) * IntKind.u64.wrap (↑(y (↑j : Int).toNat) : Int)) + IntKind.u64.wrap (↑(o ((IntKind.i64.wrap ((↑i : Int) + (↑j : Int))).toNat + 0)) : Int))))) else ag o j_1⟩)])))))) (aa.leaf (aj.exit 2) ([ah 1 m (ag y), own 7 1 0 (n + m), ah 1 n (ag z), int IntKind.i64 (↑n : Int), int IntKind.i64 (↑i : Int), int IntKind.i64 (↑i : Int), int IntKind.u32 (↑x : Int), int IntKind.u64 (↑c : Int), ah 1 m (ag y), int IntKind.i64 (↑m : Int), int IntKind.i64 (↑j : Int)], [((7 : Nat), ⟨true, true, 1, n + m, ag o⟩)]))) := by kernel_rfl
theorem KX {n m i j x c : Nat} {z y o : Nat → Nat} : aG T G1 [] 30 [1, 5, 17, 18, 19] (behind (part (ax fR) [1,1,0,1,0,0,1,1,0,0]) [1,1,1,0,1]) ⟨aB [1, 5, 17, 18, 19, 6, 7, 8, 26, 27, 28] [.ah 1 m (ag y), .own 7 1 0 (n + m), .ah 1 n (ag z), .int .i64 n, .int .i64 i, .int .i64 i, .int .u32 x, .int .u64 c, .ah 1 m (ag y), .int .i64 m, .int .i64 j], [(7, ⟨true, true, 1, n + m, ag o⟩)], 8⟩ =
  some (aa.af [(0 : Int) ≤ IntKind.i64.wrap ((↑i : Int) + (↑m : Int)) ∧ (IntKind.i64.wrap ((↑i : Int) + (↑m : Int))).toNat < n + m, (IntKind.i64.wrap ((↑i : Int) + (↑m : Int))).toNat + 0 < n + m] (aa.leaf aj.normal ([ah 1 m (ag y), own 7 1 0 (n + m), ah 1 n (ag z), int IntKind.i64 (↑n : Int), int IntKind.i64 (↑i : Int)], [((7 : Nat), ⟨true, true, 1, n + m, fun (j : Nat) ↦ if (j == (IntKind.i64.wrap ((↑i : Int) + (↑m : Int))).toNat + 0) = true then int IntKind.u32 (IntKind.u32.wrap (↑c : Int)) else ag o j⟩)]))) := by kernel_rfl
theorem IV {n m i : Nat} {z y o : Nat → Nat} : aG T G1 [] 30 [1, 5, 17, 18, 19] (behind (part (ax fR) [1,1,0,1,0,0]) [1,1,0]) ⟨aB [1, 5, 17, 18, 19] [.ah 1 m (ag y), .own 7 1 0 (n + m), .ah 1 n (ag z), .int .i64 n, .int .i64 i], [(7, ⟨true, true, 1, n + m, ag o⟩)], 8⟩ =
  some (aa.leaf aj.normal ([ah 1 m (ag y), own 7 1 0 (n + m), ah 1 n (ag z), int IntKind.i64 (↑n : Int), int IntKind.i64 (IntKind.i64.wrap ((↑i : Int) + (1 : Int)))], [((7 : Nat), ⟨true, true, 1, n + m, ag o⟩)])) := by kernel_rfl
theorem Ng {n m i : Nat} {z y o : Nat → Nat} : cJ T G1 [] 30 fR (behind (ax fR) [1,1,0,1]) ⟨aB [1, 5, 17, 18, 19] [.ah 1 m (ag y), .own 7 1 0 (n + m), .ah 1 n (ag z), .int .i64 n, .int .i64 i], [(7, ⟨true, true, 1, n + m, ag o⟩)], 8⟩ =
  some (aa.af [cD (n + m) fun (i : Nat) ↦ ag o (i + 0), n + m < 2 ^ 62] (aa.leaf aj.ret [mag (val (n + m) fun (i : Nat) ↦ numOf (ag o (i + 0)))])) := by kernel_rfl
theorem wW {n : Nat} {f : Nat → AV} (hn : n < 2 ^ 40) (K : Nat) : aC P mq K [.ah 1 n f] [] (aJ (.ah 1 n f) []) := by
 refine JD fun b hb => ?_
 refine bE hT aZ hm Kz rfl (of_decide_eq_true (by kernel_rfl)) rfl 30 Jr (fun _ => ?_) K []
 simp only [aa.all, az]
 refine ⟨fun h => ?_, fun h => ⟨⟨by omega, by omega⟩, B1 (by omega) fun i hi => by simp⟩⟩
 rw [hb h]
 exact gQ (by omega)
def wF : Spec := bp fun l => match l with
 | [.mag N] => some (aJ (.mag N) [nl N < 2 ^ 40])
 | [.nil] => some (aJ (.mag 0) [])
 | [.ah es n f] => if es == 1 then some (aJ (.ah 1 n f) [n < 2 ^ 40]) else none
 | _ => none
theorem yE : ∀ K args pre r, wF K args pre = some r → aC P mq K args pre r := by
 refine bK fun K args r hk hs _ => ?_
 split at hs
 ·rename_i N
  simp only [Option.some.injEq] at hs
  subst hs
  intro need
  have := eJ (args := [.mag N]) (wW (n := nl N) (f := fun i => .int .u32 (au N i)) need K) rfl ⟨Dg rfl fun i hi => rfl, trivial⟩ []
  exact Fj (l' := []) this id rfl rfl (g9 rfl fun i hi => rfl) trivial
 ·simp only [Option.some.injEq] at hs
  subst hs
  intro need
  have := eJ (args := [.nil]) (wW (n := 0) (f := fun _ => .nil) (by omega) K) rfl ⟨gQ (by omega), trivial⟩ []
  exact Fj (l' := []) this id rfl rfl (g9 (by simp [nl]) fun i hi => by omega) trivial
 ·rename_i es n f
  split at hs
  ·rename_i he
   have he : es = 1 := by simpa using he
   subst he
   simp only [Option.some.injEq] at hs
   subst hs
   exact fun need => wW need K trivial
  ·simp at hs
 ·simp at hs
theorem R6 {A B : Nat} (hA : nl A < 2 ^ 40) (hB : nl B < 2 ^ 40) (K : Nat) (pre : aA) : aC P nW K [.mag A, .mag B] pre (aJ (.bool (decide (A = B))) []) := by
 refine gn hT SR rfl (of_decide_eq_true (by kernel_rfl)) rfl (fun _ c h0 => ?_) K pre
 refine aq.hole [1,1,0,1] (by kernel_rfl) (ay.aR hT aZ hm 30 [0, 1, 12, 13, 4] Nd (by kernel_rfl) ?_)
 simp only [aa.all, bne_iff_ne, ne_eq, Int.natCast_inj, bne_eq_false_iff_eq]
 refine ⟨fun hb s' hv => ?_, fun hb s' hv => ?_⟩
 ·exact ey (us := [.bool false]) (.inr rfl) hv (by kernel_rfl) (ep (decide_eq_false fun h => hb (by rw [h])).symm)
 refine aq.fh (i := 0) (y := part (ax kB) [1,1,0,1,0,0]) (by kernel_rfl)
  (fun i : Nat => ⟨aB [0, 1, 12, 13, 4] [.mag A, .mag B, .int .i64 (nl A), .int .i64 i, .bool false], [], 0⟩)
  (fun i => i ≤ nl A ∧ ∀ j, j < i → au A j = au B j) (fun i => nl A - i) 0
  (b9 [] hv h0 rfl ⟨⟨rfl, aE rfl⟩, ⟨rfl, aE rfl⟩, ⟨rfl, aE rfl⟩, ⟨rfl, aE rfl⟩, ⟨rfl, aE rfl⟩, trivial⟩ trivial) ⟨by omega, fun j h => by omega⟩ ?_
 rintro i ⟨hi, hlim⟩
 refine aq.aR hT aZ hm 30 [0, 1, 12, 13, 4] SC (by kernel_rfl) ?_
 simp only [aa.all, az, decide_eq_true_eq, decide_eq_false_iff_not, bne_iff_ne, ne_eq, Int.natCast_inj, bne_eq_false_iff_eq, Int.toNat_natCast]
 refine ⟨fun h1 => ⟨⟨by omega, by omega⟩, fun hne s' hv => ?_, fun heq s' hv => ?_⟩, fun h1 s' hv => ?_⟩
 ·exact ey (us := [.bool false]) (.inr rfl) hv (by kernel_rfl) (ep (decide_eq_false fun h => hne (by rw [h])).symm)
 ·refine ⟨i + 1, b9 [] hv h0 rfl ⟨⟨rfl, aE rfl⟩, ⟨rfl, aE rfl⟩, ⟨rfl, aE rfl⟩, ⟨rfl, ee (by rw [wrap_i64 (by omega) (by omega)]; omega)⟩, ⟨rfl, aE rfl⟩, trivial⟩ trivial, ⟨by omega, fun j hj => ?_⟩, by omega⟩
  by_cases h : j = i
  ·subst h; exact heq
  ·exact hlim j (by omega)
 ·have hAB : A = B := xT hb fun j hj => hlim j (by omega)
  exact ay.weak (by kernel_rfl) (b9 (vs := [.mag A, .mag B, .int .i64 (nl A), .int .i64 i, .bool false]) (ps := []) (nx := 0) [] hv h0 rfl ⟨⟨rfl, aE rfl⟩, ⟨rfl, aE rfl⟩, ⟨rfl, aE rfl⟩, ⟨rfl, aE rfl⟩, ⟨rfl, aE rfl⟩, trivial⟩ trivial)
   (ay.fin hT aZ hm 30 G9 (by kernel_rfl) (ep (decide_eq_true hAB).symm))
def fL : AV → Option Nat
 | .mag N => some N
 | .nil => some 0
 | _ => none
theorem iG {a : AV} {N : Nat} (h : fL a = some N) : bn a (.mag N) := by
 cases a <;> simp only [fL, reduceCtorEq, Option.some.injEq] at h
 case mag M => subst h; exact .refl _
 case nil => subst h; exact gL
def yw : Spec := bp fun l => match l with
 | [a, b] => match fL a, fL b with
  | some A, some B => some (aJ (.bool (decide (A = B))) [nl A < 2 ^ 40, nl B < 2 ^ 40])
  | _, _ => none
 | _ => none
theorem AR : ∀ K args pre r, yw K args pre = some r → aC P nW K args pre r := by
 refine bK fun K args r hk hs _ => ?_
 split at hs
 ·split at hs
  ·rename_i A B hA hB
   simp only [Option.some.injEq] at hs
   subst hs
   exact fun need => eJ (R6 need.1 need.2 K []) hk ⟨iG hA, iG hB, trivial⟩ [] trivial
  ·simp at hs
 ·simp at hs
abbrev kQ : List Nat := [1, 5, 17, 18, 19]
abbrev mD (n m : Nat) (z y : Nat → Nat) (K i : Nat) : List AV := [.ah 1 m (ag y), .own K 1 0 (n + m), .ah 1 n (ag z), .int .i64 n, .int .i64 i]
abbrev zE : List Nat := [1, 5, 17, 18, 19, 6, 7, 8, 26, 27, 28]
abbrev Dt (n m : Nat) (z y : Nat → Nat) (K i x c j : Nat) : List AV := [.ah 1 m (ag y), .own K 1 0 (n + m), .ah 1 n (ag z), .int .i64 n, .int .i64 i, .int .i64 i, .int .u32 x, .int .u64 c, .ah 1 m (ag y), .int .i64 m, .int .i64 j]
theorem GH {n m : Nat} {z y : Nat → Nat} (hz : ∀ i, i < n → z i < 2 ^ 32) (hy : ∀ i, i < m → y i < 2 ^ 32) (hn : n < 2 ^ 40) (hm' : m < 2 ^ 40) (K : Nat) (pre : aA) :
  aC P pz K [.ah 1 n (ag z), .ah 1 m (ag y)] pre (aJ (.mag (val n z * val m y)) []) := by
 refine gn hT Gd rfl (of_decide_eq_true (by kernel_rfl)) rfl (fun _ c0 h0 => ?_) K pre
 refine aq.hole [1,1,0,1] (by kernel_rfl) (ay.aR hT eA hm 30 kQ OD (by kernel_rfl) ?_)
 have hw : IntKind.i64.wrap ((n : Int) + (m : Int)) = ((n + m : Nat) : Int) := by rw [wrap_i64 (by omega) (by omega)]; omega
 simp only [aa.all, az, hw, Int.toNat_natCast]
 refine ⟨by omega, fun s' hv => ?_⟩
 refine aq.fh (i := 0) (y := part (ax fR) [1,1,0,1,0,0]) (by kernel_rfl)
  (fun p : Nat × (Nat → Nat) => ⟨aB kQ (mD n m z y 7 p.1), [(7, ⟨true, true, 1, n + m, ag p.2⟩)], 8⟩)
  (fun p => p.1 ≤ n ∧ (∀ j, j < n + m → p.2 j < 2 ^ 32) ∧ (∀ j, p.1 + m ≤ j → p.2 j = 0) ∧ val (n + m) p.2 = val p.1 z * val m y)
  (fun p => n - p.1) (0, fun _ => 0)
  (b9 [(7, 24576)] hv h0 rfl ⟨⟨rfl, aE rfl⟩, ⟨rfl, cz rfl rfl rfl⟩, ⟨rfl, aE rfl⟩, ⟨rfl, aE rfl⟩, ⟨rfl, aE rfl⟩, trivial⟩
   ⟨⟨_, _, rfl, rfl, dA rfl fun j _ => rfl⟩, trivial⟩)
  ⟨by simp, fun j _ => by simp, fun j _ => rfl, ?_⟩ ?_
 ·simp only
  rw [jy (k := 0) (by omega) fun _ _ _ => rfl]
  simp [val]
 rintro ⟨i, o⟩ ⟨hi, ho, ho0, hval⟩
 simp only at hi ho ho0 hval
 have next : ∀ {o' : Nat → Nat} {s' : aD}, i < n → aN kQ s' = some (mD n m z y 7 i, [(7, ⟨true, true, 1, n + m, ag o'⟩)]) → (∀ j, j < n + m → o' j < 2 ^ 32) → (∀ j, i + 1 + m ≤ j → o' j = 0) →
   val (n + m) o' = val (i + 1) z * val m y → ∀ {QF : aj → aD → Prop},
   ay P c0 fR.ntmps (behind (part (ax fR) [1,1,0,1,0,0]) [1,1,0]) s' (cM (fun s' => ∃ k : Nat × (Nat → Nat), (∃ ρ, Le c0 ρ s' ⟨aB kQ (mD n m z y 7 k.1), [(7, ⟨true, true, 1, n + m, ag k.2⟩)], 8⟩) ∧
    (k.1 ≤ n ∧ (∀ j, j < n + m → k.2 j < 2 ^ 32) ∧ (∀ j, k.1 + m ≤ j → k.2 j = 0) ∧ val (n + m) k.2 = val k.1 z * val m y) ∧ n - k.1 < n - i) QF) := by
  intro o' s' hin hv g1 g2 g3 QF
  refine ay.weak (by kernel_rfl) (b9 (vs := mD n m z y 7 i) (ps := [(7, ⟨true, true, 1, n + m, ag o'⟩)]) (nx := 8) [(7, 7)] hv h0 rfl ⟨⟨rfl, aE rfl⟩, ⟨rfl, cz rfl rfl rfl⟩, ⟨rfl, aE rfl⟩, ⟨rfl, aE rfl⟩, ⟨rfl, aE rfl⟩, trivial⟩
    ⟨⟨_, _, rfl, rfl, dA rfl fun j _ => rfl⟩, trivial⟩)
   (ay.aR hT eA hm 30 kQ IV (by kernel_rfl) ?_)
  intro s' hv
  exact ⟨(i + 1, o'), b9 [(7, 7)] hv h0 rfl ⟨⟨rfl, aE rfl⟩, ⟨rfl, cz rfl rfl rfl⟩, ⟨rfl, aE rfl⟩, ⟨rfl, aE rfl⟩, ⟨rfl, ee (by rw [wrap_i64 (by omega) (by omega)]; simp only; omega)⟩, trivial⟩
    ⟨⟨_, _, rfl, rfl, dA rfl fun j _ => rfl⟩, trivial⟩, ⟨by simp only; omega, g1, g2, g3⟩, by simp only; omega⟩
 refine aq.hole [1,1,0] (by kernel_rfl) (ay.aR hT eA hm 30 kQ KW (by kernel_rfl) ?_)
 simp only [aa.all, decide_eq_true_eq, decide_eq_false_iff_not]
 refine ⟨fun h1 s' hv => ?_, fun h1 s' hv => ?_⟩
 ·have hin : i < n := by omega
  have hzi := hz i hin
  refine aq.iL (b9 (vs := mD n m z y 7 i) (ps := [(7, ⟨true, true, 1, n + m, ag o⟩)]) (nx := 8) [(7, 7)] hv h0 rfl ⟨⟨rfl, aE rfl⟩, ⟨rfl, cz rfl rfl rfl⟩, ⟨rfl, aE rfl⟩, ⟨rfl, aE rfl⟩, ⟨rfl, aE rfl⟩, trivial⟩
    ⟨⟨_, _, rfl, rfl, dA rfl fun j _ => rfl⟩, trivial⟩) ?_
  refine aq.kn (i := 1) (y := part (ax fR) [1,1,0,1,0,0,1,1,0,0]) (by kernel_rfl) ?_
  refine aq.hole [1,1,1,0,1] (by kernel_rfl) (ay.aR hT eA hm 30 zE F7 (by kernel_rfl) ?_)
  simp only [aa.all, az, Int.toNat_natCast, beq_iff_eq, beq_eq_false_iff_ne, ne_eq]
  refine ⟨by omega, fun hz0 s' hv => ?_, fun hz0 s' hv => ?_⟩
  ·refine dz ?_
   exact (next hin (fD (ls := kQ) (l := [6, 7, 8, 26, 27, 28]) (vs := mD n m z y 7 i) hv rfl rfl) ho (fun j hj => ho0 j (by omega)) (by rw [hval, val, show z i = 0 by omega]; simp))
  refine aq.fh (i := 2) (y := part (part (ax fR) [1,1,0,1,0,0,1,1,0,0]) [1,1,1,0,1,0,0]) (by kernel_rfl)
   (fun p : Nat × Nat × (Nat → Nat) => ⟨aB zE (Dt n m z y 7 i (z i) p.2.1 p.1), [(7, ⟨true, true, 1, n + m, ag p.2.2⟩)], 8⟩)
   (fun p => p.1 ≤ m ∧ p.2.1 < 2 ^ 32 ∧ (∀ j, j < n + m → p.2.2 j < 2 ^ 32) ∧ (∀ j, i + m ≤ j → p.2.2 j = 0) ∧ val (n + m) p.2.2 + p.2.1 * 2 ^ (32 * (i + p.1)) = val i z * val m y + z i * val p.1 y * 2 ^ (32 * i))
   (fun p => m - p.1) (0, 0, o)
   (b9 [(7, 7)] hv h0 rfl ⟨⟨rfl, aE rfl⟩, ⟨rfl, cz rfl rfl rfl⟩, ⟨rfl, aE rfl⟩, ⟨rfl, aE rfl⟩, ⟨rfl, aE rfl⟩, ⟨rfl, aE rfl⟩, ⟨rfl, aE rfl⟩, ⟨rfl, aE rfl⟩, ⟨rfl, aE rfl⟩, ⟨rfl, aE rfl⟩, ⟨rfl, aE rfl⟩, trivial⟩
    ⟨⟨_, _, rfl, rfl, dA rfl fun j _ => rfl⟩, trivial⟩)
   ⟨by simp, by simp, ho, ho0, by simp [val, hval]⟩ ?_
  rintro ⟨j, c, o⟩ ⟨hj, hc, ho, ho0, hval⟩
  simp only at hj hc ho ho0 hval
  refine aq.aR hT eA hm 30 zE TC (by kernel_rfl) ?_
  have hij : IntKind.i64.wrap ((i : Int) + (j : Int)) = ((i + j : Nat) : Int) := by rw [wrap_i64 (by omega) (by omega)]; omega
  simp only [aa.all, az, decide_eq_true_eq, decide_eq_false_iff_not, hij, Int.toNat_natCast, Nat.add_zero, beq_iff_eq]
  refine ⟨fun h2 => ?_, fun h2 s' hv => dz ?_⟩
  ·have hjm : j < m := by omega
   obtain ⟨m1, m2, m3⟩ := C2 hc hzi (hy j hjm) (ho (i + j) (by omega))
   rw [m1]
   refine ⟨by omega, by omega, by omega, by omega, fun s' hv => ⟨(j + 1, (c + z i * y j + o (i + j)) / 4294967296, bB o (i + j) ((c + z i * y j + o (i + j)) % 4294967296)), ?_, ⟨by simp only; omega, m3, fe (by omega) ho, fun k hk => ?_, ?_⟩, by simp only; omega⟩⟩
   ·refine b9 [(7, 7)] hv h0 rfl ⟨⟨rfl, aE rfl⟩, ⟨rfl, cz rfl rfl rfl⟩, ⟨rfl, aE rfl⟩, ⟨rfl, aE rfl⟩, ⟨rfl, aE rfl⟩, ⟨rfl, aE rfl⟩, ⟨rfl, aE rfl⟩, ⟨rfl, ee ?_⟩, ⟨rfl, aE rfl⟩, ⟨rfl, aE rfl⟩, ⟨rfl, ee ?_⟩, trivial⟩
     ⟨⟨_, _, rfl, rfl, dA rfl fun k _ => eG (by rw [gl]) k⟩, trivial⟩
    ·rw [hH]; simp only; omega
    ·rw [wrap_i64 (by omega) (by omega)]; simp only; omega
   ·exact (dH (by omega)).trans (ho0 k hk)
   ·simp only
    rw [show 32 * (i + (j + 1)) = 32 * ((i + j) + 1) by omega, eU, val]
    have hset := xA (o := o) (x := (c + z i * y j + o (i + j)) % 4294967296) (show i + j < n + m by omega)
    exact CX rfl (Nat.div_add_mod _ _) hset (by rw [← Nat.pow_add]; congr 1; omega) hval
  ·have hjm : j = m := by omega
   subst hjm
   refine ay.weak (by kernel_rfl) (b9 (vs := Dt n j z y 7 i (z i) c j) (ps := [(7, ⟨true, true, 1, n + j, ag o⟩)]) (nx := 8) [(7, 7)] hv h0 rfl
     ⟨⟨rfl, aE rfl⟩, ⟨rfl, cz rfl rfl rfl⟩, ⟨rfl, aE rfl⟩, ⟨rfl, aE rfl⟩, ⟨rfl, aE rfl⟩, ⟨rfl, aE rfl⟩, ⟨rfl, aE rfl⟩, ⟨rfl, aE rfl⟩, ⟨rfl, aE rfl⟩, ⟨rfl, aE rfl⟩, ⟨rfl, aE rfl⟩, trivial⟩
     ⟨⟨_, _, rfl, rfl, dA rfl fun j _ => rfl⟩, trivial⟩)
    (ay.aR hT eA hm 30 kQ KX (by kernel_rfl) ?_)
   simp only [aa.all, az, hij, Int.toNat_natCast, Nat.add_zero, beq_iff_eq]
   refine ⟨by omega, fun s' hv => ?_⟩
   have hf : (fun k => if k = i + j then AV.int .u32 (IntKind.u32.wrap (c : Int)) else ag o k) = ag (bB o (i + j) c) := by
    funext k
    exact eG (wrap_u32 (by omega) (by omega)) k
   rw [hf] at hv
   refine next hin hv (fe hc ho) (fun k hk => (dH (by omega)).trans (ho0 k (by omega))) ?_
   rw [mS (by omega) (ho0 _ (by omega)), hval, val, Nat.add_mul, Nat.mul_assoc, Nat.mul_assoc, Nat.mul_comm (val j y)]
 ·have hin : i = n := by omega
  subst hin
  refine mK (dz ?_)
  refine (ay.weak (by kernel_rfl) (b9 (vs := mD i m z y 7 i) (ps := [(7, ⟨true, true, 1, i + m, ag o⟩)]) (nx := 8) [(7, 7)] hv h0 rfl ⟨⟨rfl, aE rfl⟩, ⟨rfl, cz rfl rfl rfl⟩, ⟨rfl, aE rfl⟩, ⟨rfl, aE rfl⟩, ⟨rfl, aE rfl⟩, trivial⟩
    ⟨⟨_, _, rfl, rfl, dA rfl fun j _ => rfl⟩, trivial⟩)
   (ay.fin hT eA hm 30 Ng (by kernel_rfl) ?_))
  simp only [aa.all, az, Nat.add_zero, gd]
  exact ⟨⟨er ho, by omega⟩, cF (congrArg AV.mag hval)⟩
def Es (A n B m : Nat) : cq := aJ (.mag (A * B)) [n < 2 ^ 40, m < 2 ^ 40]
theorem Tk : ∀ K args pre r, bp (fq Es) K args pre = some r → aC P pz K args pre r :=
 bK (nr fun _ _ _ _ K hz hy need => GH hz hy need.1 need.2 K [])
end Go.Am.B
