/- slices.Clone, slices.Equal, natural.Mul. -/
import Derived.Test.YtbghpkgbokbmlaaGreatB5
set_option linter.unusedVariables false
namespace Go.Am.B
open Go Go.Am.N AV
theorem HC : aO P lN pU (au pU) := aL TR (by kernel_rfl) (by kernel_rfl) (by kernel_rfl)
theorem Mg : aO P od kS (au kS) := aL MA (by kernel_rfl) (by kernel_rfl) (by kernel_rfl)
theorem RC : aO P rj fO (au fO) := aL Ja (by kernel_rfl) (by kernel_rfl) (by kernel_rfl)
theorem TU {n : Nat} {b : Bool} {f : Nat → AV} : bw T [] [4] 30 pU (au pU) ⟨aM 0 [.cF b 1 n f], [], 0⟩ =
  some (aa.fork b (aa.leaf ah.ret [nil]) (aa.af [(0 : Nat) * 1 ≤ 2 ^ 24, ((0 : Nat) + n) * ((4 : Nat) + 1) * 2 ≤ 2 ^ 47] (aa.leaf ah.ret [ak 1 ((0 : Nat) + n) fun (i : Nat) ↦ if i + 0 < 0 then nth [] (int IntKind.u32 (0 : Int)) (i + 0) else f (i + 0 - 0)]))) := by kernel_rfl
theorem NW {A B : Nat} : aI T [] [10] 30 [0, 1, 12, 13, 4] (before (au kS) [1,1,0,1]) ⟨aM 0 [.mag A, .mag B], [], 0⟩ =
  some (aa.fork ((↑(nl A) : Int) != (↑(nl B) : Int)) (aa.leaf ah.ret ([mag A, mag B, tuple [], tuple [], AV.bool false], [])) (aa.leaf ah.normal ([mag A, mag B, int IntKind.i64 (↑(nl A) : Int), int IntKind.i64 (0 : Int), AV.bool false], []))) := by kernel_rfl
theorem Qi {A B i : Nat} : aI T [] [14, 24] 30 [0, 1, 12, 13, 4] [part (au kS) [1,1,0,1,0,0]] ⟨aB [0, 1, 12, 13, 4] [.mag A, .mag B, .int .i64 (nl A), .int .i64 i, .bool false], [], 0⟩ =
  some (aa.fork (decide ((↑i : Int) < (↑(nl A) : Int))) (aa.af [(0 : Int) ≤ (↑i : Int) ∧ (↑i : Int).toNat < nl A, (0 : Int) ≤ (↑i : Int) ∧ (↑i : Int).toNat < nl B] (aa.fork ((↑(aj A (↑i : Int).toNat) : Int) != (↑(aj B (↑i : Int).toNat) : Int)) (aa.leaf ah.ret ([mag A, mag B, int IntKind.i64 (↑(nl A) : Int), int IntKind.i64 (↑i : Int), AV.bool false], [])) (aa.leaf ah.normal ([mag A, mag B, int IntKind.i64 (↑(nl A) : Int), int IntKind.i64 (IntKind.i64.wrap ((↑i : Int) + (1 : Int))), AV.bool false], [])))) (aa.leaf (ah.exit 0) ([mag A, mag B, int IntKind.i64 (↑(nl A) : Int), int IntKind.i64 (↑i : Int), AV.bool false], []))) := by kernel_rfl
theorem On {A B i : Nat} : cr T [] [] 30 kS (behind (au kS) [1,1,0,1]) ⟨aB [0, 1, 12, 13, 4] [.mag A, .mag B, .int .i64 (nl A), .int .i64 i, .bool false], [], 0⟩ =
  some (aa.leaf ah.ret [AV.bool true]) := by kernel_rfl
theorem OS {n m : Nat} {z y : Nat → Nat} : aI T G1 [] 30 [1, 5, 17, 18, 19] (before (au fO) [1,1,0,1]) ⟨aM 0 [.ak 1 n (ag z), .ak 1 m (ag y)], [], 0⟩ =
  some (aa.af [(0 : Int) ≤ IntKind.i64.wrap ((↑n : Int) + (↑m : Int)) ∧ IntKind.i64.wrap ((↑n : Int) + (↑m : Int)) ≤ IntKind.i64.wrap ((↑n : Int) + (↑m : Int)) ∧ IntKind.i64.wrap ((↑n : Int) + (↑m : Int)) ≤ (2 : Int) ^ 47 ∧ IntKind.i64.wrap ((↑n : Int) + (↑m : Int)) * (↑(4 : Nat) : Int) ≤ (2 : Int) ^ 47] (aa.leaf ah.normal ([ak 1 m (ag y), own 24576 1 0 (IntKind.i64.wrap ((↑n : Int) + (↑m : Int))).toNat, ak 1 n (ag z), int IntKind.i64 (↑n : Int), int IntKind.i64 (0 : Int)], [((24576 : Nat), ⟨true, true, 1, (IntKind.i64.wrap ((↑n : Int) + (↑m : Int))).toNat, fun (x : Nat) ↦ int IntKind.u32 (0 : Int)⟩)]))) := by kernel_rfl
theorem LO {n m i : Nat} {z y o : Nat → Nat} : aI T G1 [20] 30 [1, 5, 17, 18, 19] (before (part (au fO) [1,1,0,1,0,0]) [1,1,0]) ⟨aB [1, 5, 17, 18, 19] [.ak 1 m (ag y), .own 7 1 0 (n + m), .ak 1 n (ag z), .int .i64 n, .int .i64 i], [(7, ⟨true, true, 1, n + m, ag o⟩)], 8⟩ =
  some (aa.fork (decide ((↑i : Int) < (↑n : Int))) (aa.leaf ah.normal ([ak 1 m (ag y), own 7 1 0 (n + m), ak 1 n (ag z), int IntKind.i64 (↑n : Int), int IntKind.i64 (↑i : Int)], [((7 : Nat), ⟨true, true, 1, n + m, ag o⟩)])) (aa.leaf (ah.exit 0) ([ak 1 m (ag y), own 7 1 0 (n + m), ak 1 n (ag z), int IntKind.i64 (↑n : Int), int IntKind.i64 (↑i : Int)], [((7 : Nat), ⟨true, true, 1, n + m, ag o⟩)]))) := by kernel_rfl
theorem U3 {n m i : Nat} {z y o : Nat → Nat} : aI T G1 [25] 30 [1, 5, 17, 18, 19, 6, 7, 8, 26, 27, 28] (before (part (au fO) [1,1,0,1,0,0,1,1,0,0]) [1,1,1,0,1]) ⟨aB [1, 5, 17, 18, 19] [.ak 1 m (ag y), .own 7 1 0 (n + m), .ak 1 n (ag z), .int .i64 n, .int .i64 i], [(7, ⟨true, true, 1, n + m, ag o⟩)], 8⟩ =
  some (aa.af [(0 : Int) ≤ (↑i : Int) ∧ (↑i : Int).toNat < n] (aa.fork ((↑(z (↑i : Int).toNat) : Int) == (0 : Int)) (aa.leaf (ah.exit 1) ([ak 1 m (ag y), own 7 1 0 (n + m), ak 1 n (ag z), int IntKind.i64 (↑n : Int), int IntKind.i64 (↑i : Int), int IntKind.i64 (↑i : Int), int IntKind.u32 (↑(z (↑i : Int).toNat) : Int), tuple [], tuple [], tuple [], tuple []], [((7 : Nat), ⟨true, true, 1, n + m, ag o⟩)])) (aa.leaf ah.normal ([ak 1 m (ag y), own 7 1 0 (n + m), ak 1 n (ag z), int IntKind.i64 (↑n : Int), int IntKind.i64 (↑i : Int), int IntKind.i64 (↑i : Int), int IntKind.u32 (↑(z (↑i : Int).toNat) : Int), int IntKind.u64 (0 : Int), ak 1 m (ag y), int IntKind.i64 (↑m : Int), int IntKind.i64 (0 : Int)], [((7 : Nat), ⟨true, true, 1, n + m, ag o⟩)])))) := by kernel_rfl
theorem Vc {n m i j x c : Nat} {z y o : Nat → Nat} : aI T G1 [29] 30 [1, 5, 17, 18, 19, 6, 7, 8, 26, 27, 28] [part (part (au fO) [1,1,0,1,0,0,1,1,0,0]) [1,1,1,0,1,0,0]] ⟨aB [1, 5, 17, 18, 19, 6, 7, 8, 26, 27, 28] [.ak 1 m (ag y), .own 7 1 0 (n + m), .ak 1 n (ag z), .int .i64 n, .int .i64 i, .int .i64 i, .int .u32 x, .int .u64 c, .ak 1 m (ag y), .int .i64 m, .int .i64 j], [(7, ⟨true, true, 1, n + m, ag o⟩)], 8⟩ =
  some (aa.fork (decide ((↑j : Int) < (↑m : Int))) (aa.af [(0 : Int) ≤ (↑j : Int) ∧ (↑j : Int).toNat < m] (aa.af [(0 : Int) ≤ IntKind.i64.wrap ((↑i : Int) + (↑j : Int)) ∧ (IntKind.i64.wrap ((↑i : Int) + (↑j : Int))).toNat < n + m, (IntKind.i64.wrap ((↑i : Int) + (↑j : Int))).toNat + 0 < n + m] (aa.af [(0 : Int) ≤ IntKind.i64.wrap ((↑i : Int) + (↑j : Int)) ∧ (IntKind.i64.wrap ((↑i : Int) + (↑j : Int))).toNat < n + m, (IntKind.i64.wrap ((↑i : Int) + (↑j : Int))).toNat + 0 < n + m] (aa.af [(0 : Int) ≤ (32 : Int)] (aa.leaf ah.normal ([ak 1 m (ag y), own 7 1 0 (n + m), ak 1 n (ag z), int IntKind.i64 (↑n : Int), int IntKind.i64 (↑i : Int), int IntKind.i64 (↑i : Int), int IntKind.u32 (↑x : Int), int IntKind.u64 ((IntKind.u64.wrap ((↑c : Int) + IntKind.u64.wrap (IntKind.u64.wrap (IntKind.u64.wrap (↑x : Int) * IntKind.u64.wrap (↑(y (↑j : Int).toNat) : Int)) + IntKind.u64.wrap (↑(o ((IntKind.i64.wrap ((↑i : Int) + (↑j : Int))).toNat + 0)) : Int)))).fdiv ((2 : Int) ^ min (Int.toNat (32 : Int)) IntKind.u64.bits)), ak 1 m (ag y), int IntKind.i64 (↑m : Int), int IntKind.i64 (IntKind.i64.wrap ((↑j : Int) + (1 : Int)))], [((7 : Nat), ⟨true, true, 1, n + m, fun (j_1 : Nat) ↦ if (j_1 == (IntKind.i64.wrap ((↑i : Int) + (↑j : Int))).toNat + 0) = true then int IntKind.u32 (IntKind.u32.wrap (IntKind.u64.wrap ((↑c : Int) + IntKind.u64.wrap (IntKind.u64.wrap (IntKind.u64.wrap (↑x : Int) * IntKind.u64.wrap (↑(y (↑j : Int).toNat) : Int)) + IntKind.u64.wrap (↑(o ((IntKind.i64.wrap ((↑i : Int) + (↑j : Int))).toNat + 0)) : Int))))) else ag o j_1⟩)])))))) (aa.leaf (ah.exit 2) ([ak 1 m (ag y), own 7 1 0 (n + m), ak 1 n (ag z), int IntKind.i64 (↑n : Int), int IntKind.i64 (↑i : Int), int IntKind.i64 (↑i : Int), int IntKind.u32 (↑x : Int), int IntKind.u64 (↑c : Int), ak 1 m (ag y), int IntKind.i64 (↑m : Int), int IntKind.i64 (↑j : Int)], [((7 : Nat), ⟨true, true, 1, n + m, ag o⟩)]))) := by kernel_rfl
theorem JF {n m i j x c : Nat} {z y o : Nat → Nat} : aI T G1 [] 30 [1, 5, 17, 18, 19] (behind (part (au fO) [1,1,0,1,0,0,1,1,0,0]) [1,1,1,0,1]) ⟨aB [1, 5, 17, 18, 19, 6, 7, 8, 26, 27, 28] [.ak 1 m (ag y), .own 7 1 0 (n + m), .ak 1 n (ag z), .int .i64 n, .int .i64 i, .int .i64 i, .int .u32 x, .int .u64 c, .ak 1 m (ag y), .int .i64 m, .int .i64 j], [(7, ⟨true, true, 1, n + m, ag o⟩)], 8⟩ =
  some (aa.af [(0 : Int) ≤ IntKind.i64.wrap ((↑i : Int) + (↑m : Int)) ∧ (IntKind.i64.wrap ((↑i : Int) + (↑m : Int))).toNat < n + m, (IntKind.i64.wrap ((↑i : Int) + (↑m : Int))).toNat + 0 < n + m] (aa.leaf ah.normal ([ak 1 m (ag y), own 7 1 0 (n + m), ak 1 n (ag z), int IntKind.i64 (↑n : Int), int IntKind.i64 (↑i : Int)], [((7 : Nat), ⟨true, true, 1, n + m, fun (j : Nat) ↦ if (j == (IntKind.i64.wrap ((↑i : Int) + (↑m : Int))).toNat + 0) = true then int IntKind.u32 (IntKind.u32.wrap (↑c : Int)) else ag o j⟩)]))) := by kernel_rfl
theorem KE {n m i : Nat} {z y o : Nat → Nat} : aI T G1 [] 30 [1, 5, 17, 18, 19] (behind (part (au fO) [1,1,0,1,0,0]) [1,1,0]) ⟨aB [1, 5, 17, 18, 19] [.ak 1 m (ag y), .own 7 1 0 (n + m), .ak 1 n (ag z), .int .i64 n, .int .i64 i], [(7, ⟨true, true, 1, n + m, ag o⟩)], 8⟩ =
  some (aa.leaf ah.normal ([ak 1 m (ag y), own 7 1 0 (n + m), ak 1 n (ag z), int IntKind.i64 (↑n : Int), int IntKind.i64 (IntKind.i64.wrap ((↑i : Int) + (1 : Int)))], [((7 : Nat), ⟨true, true, 1, n + m, ag o⟩)])) := by kernel_rfl
theorem H8 {n m i : Nat} {z y o : Nat → Nat} : cr T G1 [] 30 fO (behind (au fO) [1,1,0,1]) ⟨aB [1, 5, 17, 18, 19] [.ak 1 m (ag y), .own 7 1 0 (n + m), .ak 1 n (ag z), .int .i64 n, .int .i64 i], [(7, ⟨true, true, 1, n + m, ag o⟩)], 8⟩ =
  some (aa.af [cB (n + m) fun (i : Nat) ↦ ag o (i + 0), n + m < 2 ^ 62] (aa.leaf ah.ret [mag (val (n + m) fun (i : Nat) ↦ numOf (ag o (i + 0)))])) := by kernel_rfl
theorem vW {n : Nat} {f : Nat → AV} (hn : n < 2 ^ 40) (K : Nat) : az P lN K [.ak 1 n f] [] (aG (.ak 1 n f) []) := by
 refine O8 fun b hb => ?_
 refine bC hT aZ hm HC rfl (of_decide_eq_true (by kernel_rfl)) rfl 30 TU (fun _ => ?_) K []
 simp only [aa.all, ay]
 refine ⟨fun h => ?_, fun h => ⟨⟨by omega, by omega⟩, xJ (by omega) fun i hi => by simp⟩⟩
 rw [hb h]
 exact fK (by omega)
def sO : Spec := bk fun l => match l with
 | [.mag N] => some (aG (.mag N) [nl N < 2 ^ 40])
 | [.nil] => some (aG (.mag 0) [])
 | [.ak es n f] => if es == 1 then some (aG (.ak 1 n f) [n < 2 ^ 40]) else none
 | _ => none
theorem yN : ∀ K args pre r, sO K args pre = some r → az P lN K args pre r := by
 refine bD fun K args r hk hs _ => ?_
 split at hs
 ·rename_i N
  simp only [Option.some.injEq] at hs
  subst hs
  intro need
  have := eF (args := [.mag N]) (vW (n := nl N) (f := fun i => .int .u32 (aj N i)) need K) rfl ⟨Ae rfl fun i hi => rfl, trivial⟩ []
  exact Fa (l' := []) this id rfl rfl (gQ rfl fun i hi => rfl) trivial
 ·simp only [Option.some.injEq] at hs
  subst hs
  intro need
  have := eF (args := [.nil]) (vW (n := 0) (f := fun _ => .nil) (by omega) K) rfl ⟨fK (by omega), trivial⟩ []
  exact Fa (l' := []) this id rfl rfl (gQ (by simp [nl]) fun i hi => by omega) trivial
 ·rename_i es n f
  split at hs
  ·rename_i he
   have he : es = 1 := by simpa using he
   subst he
   simp only [Option.some.injEq] at hs
   subst hs
   exact fun need => vW need K trivial
  ·simp at hs
 ·simp at hs
theorem KX {A B : Nat} (hA : nl A < 2 ^ 40) (hB : nl B < 2 ^ 40) (K : Nat) (pre : aC) : az P od K [.mag A, .mag B] pre (aG (.bool (decide (A = B))) []) := by
 refine fY hT Mg rfl (of_decide_eq_true (by kernel_rfl)) rfl (fun _ c h0 => ?_) K pre
 refine aq.hole [1,1,0,1] (by kernel_rfl) (ax.aV hT aZ hm 30 [0, 1, 12, 13, 4] NW (by kernel_rfl) ?_)
 simp only [aa.all, bne_iff_ne, ne_eq, Int.natCast_inj, bne_eq_false_iff_eq]
 refine ⟨fun hb s' hv => ?_, fun hb s' hv => ?_⟩
 ·exact en (us := [.bool false]) (.inr rfl) hv (by kernel_rfl) (fZ (decide_eq_false fun h => hb (by rw [h])).symm)
 refine aq.fN (i := 0) (y := part (au kS) [1,1,0,1,0,0]) (by kernel_rfl)
  (fun i : Nat => ⟨aB [0, 1, 12, 13, 4] [.mag A, .mag B, .int .i64 (nl A), .int .i64 i, .bool false], [], 0⟩)
  (fun i => i ≤ nl A ∧ ∀ j, j < i → aj A j = aj B j) (fun i => nl A - i) 0
  (bY [] hv h0 rfl ⟨⟨rfl, aD rfl⟩, ⟨rfl, aD rfl⟩, ⟨rfl, aD rfl⟩, ⟨rfl, aD rfl⟩, ⟨rfl, aD rfl⟩, trivial⟩ trivial) ⟨by omega, fun j h => by omega⟩ ?_
 rintro i ⟨hi, hlim⟩
 refine aq.aV hT aZ hm 30 [0, 1, 12, 13, 4] Qi (by kernel_rfl) ?_
 simp only [aa.all, ay, decide_eq_true_eq, decide_eq_false_iff_not, bne_iff_ne, ne_eq, Int.natCast_inj, bne_eq_false_iff_eq, Int.toNat_natCast]
 refine ⟨fun h1 => ⟨⟨by omega, by omega⟩, fun hne s' hv => ?_, fun heq s' hv => ?_⟩, fun h1 s' hv => ?_⟩
 ·exact en (us := [.bool false]) (.inr rfl) hv (by kernel_rfl) (fZ (decide_eq_false fun h => hne (by rw [h])).symm)
 ·refine ⟨i + 1, bY [] hv h0 rfl ⟨⟨rfl, aD rfl⟩, ⟨rfl, aD rfl⟩, ⟨rfl, aD rfl⟩, ⟨rfl, dY (by rw [wrap_i64 (by omega) (by omega)]; omega)⟩, ⟨rfl, aD rfl⟩, trivial⟩ trivial, ⟨by omega, fun j hj => ?_⟩, by omega⟩
  by_cases h : j = i
  ·subst h; exact heq
  ·exact hlim j (by omega)
 ·have hAB : A = B := xK hb fun j hj => hlim j (by omega)
  exact ax.weak (by kernel_rfl) (bY (vs := [.mag A, .mag B, .int .i64 (nl A), .int .i64 i, .bool false]) (ps := []) (nx := 0) [] hv h0 rfl ⟨⟨rfl, aD rfl⟩, ⟨rfl, aD rfl⟩, ⟨rfl, aD rfl⟩, ⟨rfl, aD rfl⟩, ⟨rfl, aD rfl⟩, trivial⟩ trivial)
   (ax.fin hT aZ hm 30 On (by kernel_rfl) (fZ (decide_eq_true hAB).symm))
def fB : AV → Option Nat
 | .mag N => some N
 | .nil => some 0
 | _ => none
theorem gV {a : AV} {N : Nat} (h : fB a = some N) : bp a (.mag N) := by
 cases a <;> simp only [fB, reduceCtorEq, Option.some.injEq] at h
 case mag M => subst h; exact .refl _
 case nil => subst h; exact gy
def yp : Spec := bk fun l => match l with
 | [a, b] => match fB a, fB b with
  | some A, some B => some (aG (.bool (decide (A = B))) [nl A < 2 ^ 40, nl B < 2 ^ 40])
  | _, _ => none
 | _ => none
theorem Ei : ∀ K args pre r, yp K args pre = some r → az P od K args pre r := by
 refine bD fun K args r hk hs _ => ?_
 split at hs
 ·split at hs
  ·rename_i A B hA hB
   simp only [Option.some.injEq] at hs
   subst hs
   exact fun need => eF (KX need.1 need.2 K []) hk ⟨gV hA, gV hB, trivial⟩ [] trivial
  ·simp at hs
 ·simp at hs
abbrev kQ : List Nat := [1, 5, 17, 18, 19]
abbrev lO (n m : Nat) (z y : Nat → Nat) (K i : Nat) : List AV := [.ak 1 m (ag y), .own K 1 0 (n + m), .ak 1 n (ag z), .int .i64 n, .int .i64 i]
abbrev yJ : List Nat := [1, 5, 17, 18, 19, 6, 7, 8, 26, 27, 28]
abbrev Fv (n m : Nat) (z y : Nat → Nat) (K i x c j : Nat) : List AV := [.ak 1 m (ag y), .own K 1 0 (n + m), .ak 1 n (ag z), .int .i64 n, .int .i64 i, .int .i64 i, .int .u32 x, .int .u64 c, .ak 1 m (ag y), .int .i64 m, .int .i64 j]
theorem Tz {n m : Nat} {z y : Nat → Nat} (hz : ∀ i, i < n → z i < 2 ^ 32) (hy : ∀ i, i < m → y i < 2 ^ 32) (hn : n < 2 ^ 40) (hm' : m < 2 ^ 40) (K : Nat) (pre : aC) :
  az P rj K [.ak 1 n (ag z), .ak 1 m (ag y)] pre (aG (.mag (val n z * val m y)) []) := by
 refine fY hT RC rfl (of_decide_eq_true (by kernel_rfl)) rfl (fun _ c0 h0 => ?_) K pre
 refine aq.hole [1,1,0,1] (by kernel_rfl) (ax.aV hT er hm 30 kQ OS (by kernel_rfl) ?_)
 have hw : IntKind.i64.wrap ((n : Int) + (m : Int)) = ((n + m : Nat) : Int) := by rw [wrap_i64 (by omega) (by omega)]; omega
 simp only [aa.all, ay, hw, Int.toNat_natCast]
 refine ⟨by omega, fun s' hv => ?_⟩
 refine aq.fN (i := 0) (y := part (au fO) [1,1,0,1,0,0]) (by kernel_rfl)
  (fun p : Nat × (Nat → Nat) => ⟨aB kQ (lO n m z y 7 p.1), [(7, ⟨true, true, 1, n + m, ag p.2⟩)], 8⟩)
  (fun p => p.1 ≤ n ∧ (∀ j, j < n + m → p.2 j < 2 ^ 32) ∧ (∀ j, p.1 + m ≤ j → p.2 j = 0) ∧ val (n + m) p.2 = val p.1 z * val m y)
  (fun p => n - p.1) (0, fun _ => 0)
  (bY [(7, 24576)] hv h0 rfl ⟨⟨rfl, aD rfl⟩, ⟨rfl, cw rfl rfl rfl⟩, ⟨rfl, aD rfl⟩, ⟨rfl, aD rfl⟩, ⟨rfl, aD rfl⟩, trivial⟩
   ⟨⟨_, _, rfl, rfl, dH rfl fun j _ => rfl⟩, trivial⟩)
  ⟨by simp, fun j _ => by simp, fun j _ => rfl, ?_⟩ ?_
 ·simp only
  rw [iX (k := 0) (by omega) fun _ _ _ => rfl]
  simp [val]
 rintro ⟨i, o⟩ ⟨hi, ho, ho0, hval⟩
 simp only at hi ho ho0 hval
 have next : ∀ {o' : Nat → Nat} {s' : aA}, i < n → aR kQ s' = some (lO n m z y 7 i, [(7, ⟨true, true, 1, n + m, ag o'⟩)]) → (∀ j, j < n + m → o' j < 2 ^ 32) → (∀ j, i + 1 + m ≤ j → o' j = 0) →
   val (n + m) o' = val (i + 1) z * val m y → ∀ {QF : ah → aA → Prop},
   ax P c0 fO.ntmps (behind (part (au fO) [1,1,0,1,0,0]) [1,1,0]) s' (cU (fun s' => ∃ k : Nat × (Nat → Nat), (∃ ρ, Le c0 ρ s' ⟨aB kQ (lO n m z y 7 k.1), [(7, ⟨true, true, 1, n + m, ag k.2⟩)], 8⟩) ∧
    (k.1 ≤ n ∧ (∀ j, j < n + m → k.2 j < 2 ^ 32) ∧ (∀ j, k.1 + m ≤ j → k.2 j = 0) ∧ val (n + m) k.2 = val k.1 z * val m y) ∧ n - k.1 < n - i) QF) := by
  intro o' s' hin hv g1 g2 g3 QF
  refine ax.weak (by kernel_rfl) (bY (vs := lO n m z y 7 i) (ps := [(7, ⟨true, true, 1, n + m, ag o'⟩)]) (nx := 8) [(7, 7)] hv h0 rfl ⟨⟨rfl, aD rfl⟩, ⟨rfl, cw rfl rfl rfl⟩, ⟨rfl, aD rfl⟩, ⟨rfl, aD rfl⟩, ⟨rfl, aD rfl⟩, trivial⟩
    ⟨⟨_, _, rfl, rfl, dH rfl fun j _ => rfl⟩, trivial⟩)
   (ax.aV hT er hm 30 kQ KE (by kernel_rfl) ?_)
  intro s' hv
  exact ⟨(i + 1, o'), bY [(7, 7)] hv h0 rfl ⟨⟨rfl, aD rfl⟩, ⟨rfl, cw rfl rfl rfl⟩, ⟨rfl, aD rfl⟩, ⟨rfl, aD rfl⟩, ⟨rfl, dY (by rw [wrap_i64 (by omega) (by omega)]; simp only; omega)⟩, trivial⟩
    ⟨⟨_, _, rfl, rfl, dH rfl fun j _ => rfl⟩, trivial⟩, ⟨by simp only; omega, g1, g2, g3⟩, by simp only; omega⟩
 refine aq.hole [1,1,0] (by kernel_rfl) (ax.aV hT er hm 30 kQ LO (by kernel_rfl) ?_)
 simp only [aa.all, decide_eq_true_eq, decide_eq_false_iff_not]
 refine ⟨fun h1 s' hv => ?_, fun h1 s' hv => ?_⟩
 ·have hin : i < n := by omega
  have hzi := hz i hin
  refine aq.nW (bY (vs := lO n m z y 7 i) (ps := [(7, ⟨true, true, 1, n + m, ag o⟩)]) (nx := 8) [(7, 7)] hv h0 rfl ⟨⟨rfl, aD rfl⟩, ⟨rfl, cw rfl rfl rfl⟩, ⟨rfl, aD rfl⟩, ⟨rfl, aD rfl⟩, ⟨rfl, aD rfl⟩, trivial⟩
    ⟨⟨_, _, rfl, rfl, dH rfl fun j _ => rfl⟩, trivial⟩) ?_
  refine aq.kW (i := 1) (y := part (au fO) [1,1,0,1,0,0,1,1,0,0]) (by kernel_rfl) ?_
  refine aq.hole [1,1,1,0,1] (by kernel_rfl) (ax.aV hT er hm 30 yJ U3 (by kernel_rfl) ?_)
  simp only [aa.all, ay, Int.toNat_natCast, beq_iff_eq, beq_eq_false_iff_ne, ne_eq]
  refine ⟨by omega, fun hz0 s' hv => ?_, fun hz0 s' hv => ?_⟩
  ·refine dr ?_
   exact (next hin (fA (ls := kQ) (l := [6, 7, 8, 26, 27, 28]) (vs := lO n m z y 7 i) hv rfl rfl) ho (fun j hj => ho0 j (by omega)) (by rw [hval, val, show z i = 0 by omega]; simp))
  refine aq.fN (i := 2) (y := part (part (au fO) [1,1,0,1,0,0,1,1,0,0]) [1,1,1,0,1,0,0]) (by kernel_rfl)
   (fun p : Nat × Nat × (Nat → Nat) => ⟨aB yJ (Fv n m z y 7 i (z i) p.2.1 p.1), [(7, ⟨true, true, 1, n + m, ag p.2.2⟩)], 8⟩)
   (fun p => p.1 ≤ m ∧ p.2.1 < 2 ^ 32 ∧ (∀ j, j < n + m → p.2.2 j < 2 ^ 32) ∧ (∀ j, i + m ≤ j → p.2.2 j = 0) ∧ val (n + m) p.2.2 + p.2.1 * 2 ^ (32 * (i + p.1)) = val i z * val m y + z i * val p.1 y * 2 ^ (32 * i))
   (fun p => m - p.1) (0, 0, o)
   (bY [(7, 7)] hv h0 rfl ⟨⟨rfl, aD rfl⟩, ⟨rfl, cw rfl rfl rfl⟩, ⟨rfl, aD rfl⟩, ⟨rfl, aD rfl⟩, ⟨rfl, aD rfl⟩, ⟨rfl, aD rfl⟩, ⟨rfl, aD rfl⟩, ⟨rfl, aD rfl⟩, ⟨rfl, aD rfl⟩, ⟨rfl, aD rfl⟩, ⟨rfl, aD rfl⟩, trivial⟩
    ⟨⟨_, _, rfl, rfl, dH rfl fun j _ => rfl⟩, trivial⟩)
   ⟨by simp, by simp, ho, ho0, by simp [val, hval]⟩ ?_
  rintro ⟨j, c, o⟩ ⟨hj, hc, ho, ho0, hval⟩
  simp only at hj hc ho ho0 hval
  refine aq.aV hT er hm 30 yJ Vc (by kernel_rfl) ?_
  have hij : IntKind.i64.wrap ((i : Int) + (j : Int)) = ((i + j : Nat) : Int) := by rw [wrap_i64 (by omega) (by omega)]; omega
  simp only [aa.all, ay, decide_eq_true_eq, decide_eq_false_iff_not, hij, Int.toNat_natCast, Nat.add_zero, beq_iff_eq]
  refine ⟨fun h2 => ?_, fun h2 s' hv => dr ?_⟩
  ·have hjm : j < m := by omega
   obtain ⟨m1, m2, m3⟩ := EZ hc hzi (hy j hjm) (ho (i + j) (by omega))
   rw [m1]
   refine ⟨by omega, by omega, by omega, by omega, fun s' hv => ⟨(j + 1, (c + z i * y j + o (i + j)) / 4294967296, bt o (i + j) ((c + z i * y j + o (i + j)) % 4294967296)), ?_, ⟨by simp only; omega, m3, eZ (by omega) ho, fun k hk => ?_, ?_⟩, by simp only; omega⟩⟩
   ·refine bY [(7, 7)] hv h0 rfl ⟨⟨rfl, aD rfl⟩, ⟨rfl, cw rfl rfl rfl⟩, ⟨rfl, aD rfl⟩, ⟨rfl, aD rfl⟩, ⟨rfl, aD rfl⟩, ⟨rfl, aD rfl⟩, ⟨rfl, aD rfl⟩, ⟨rfl, dY ?_⟩, ⟨rfl, aD rfl⟩, ⟨rfl, aD rfl⟩, ⟨rfl, dY ?_⟩, trivial⟩
     ⟨⟨_, _, rfl, rfl, dH rfl fun k _ => eA (by rw [fX]) k⟩, trivial⟩
    ·rw [gZ]; simp only; omega
    ·rw [wrap_i64 (by omega) (by omega)]; simp only; omega
   ·exact (dI (by omega)).trans (ho0 k hk)
   ·simp only
    rw [show 32 * (i + (j + 1)) = 32 * ((i + j) + 1) by omega, eI, val]
    have hset := wk (o := o) (x := (c + z i * y j + o (i + j)) % 4294967296) (show i + j < n + m by omega)
    exact Dm rfl (Nat.div_add_mod _ _) hset (by rw [← Nat.pow_add]; congr 1; omega) hval
  ·have hjm : j = m := by omega
   subst hjm
   refine ax.weak (by kernel_rfl) (bY (vs := Fv n j z y 7 i (z i) c j) (ps := [(7, ⟨true, true, 1, n + j, ag o⟩)]) (nx := 8) [(7, 7)] hv h0 rfl
     ⟨⟨rfl, aD rfl⟩, ⟨rfl, cw rfl rfl rfl⟩, ⟨rfl, aD rfl⟩, ⟨rfl, aD rfl⟩, ⟨rfl, aD rfl⟩, ⟨rfl, aD rfl⟩, ⟨rfl, aD rfl⟩, ⟨rfl, aD rfl⟩, ⟨rfl, aD rfl⟩, ⟨rfl, aD rfl⟩, ⟨rfl, aD rfl⟩, trivial⟩
     ⟨⟨_, _, rfl, rfl, dH rfl fun j _ => rfl⟩, trivial⟩)
    (ax.aV hT er hm 30 kQ JF (by kernel_rfl) ?_)
   simp only [aa.all, ay, hij, Int.toNat_natCast, Nat.add_zero, beq_iff_eq]
   refine ⟨by omega, fun s' hv => ?_⟩
   have hf : (fun k => if k = i + j then AV.int .u32 (IntKind.u32.wrap (c : Int)) else ag o k) = ag (bt o (i + j) c) := by
    funext k
    exact eA (wrap_u32 (by omega) (by omega)) k
   rw [hf] at hv
   refine next hin hv (eZ hc ho) (fun k hk => (dI (by omega)).trans (ho0 k (by omega))) ?_
   rw [k9 (by omega) (ho0 _ (by omega)), hval, val, Nat.add_mul, Nat.mul_assoc, Nat.mul_assoc, Nat.mul_comm (val j y)]
 ·have hin : i = n := by omega
  subst hin
  refine lI (dr ?_)
  refine (ax.weak (by kernel_rfl) (bY (vs := lO i m z y 7 i) (ps := [(7, ⟨true, true, 1, i + m, ag o⟩)]) (nx := 8) [(7, 7)] hv h0 rfl ⟨⟨rfl, aD rfl⟩, ⟨rfl, cw rfl rfl rfl⟩, ⟨rfl, aD rfl⟩, ⟨rfl, aD rfl⟩, ⟨rfl, aD rfl⟩, trivial⟩
    ⟨⟨_, _, rfl, rfl, dH rfl fun j _ => rfl⟩, trivial⟩)
   (ax.fin hT er hm 30 H8 (by kernel_rfl) ?_))
  simp only [aa.all, ay, Nat.add_zero, fS]
  exact ⟨⟨ef ho, by omega⟩, cI (congrArg AV.mag hval)⟩
def A3 (A n B m : Nat) : b7 := aG (.mag (A * B)) [n < 2 ^ 40, m < 2 ^ 40]
theorem Gj : ∀ K args pre r, bk (fe A3) K args pre = some r → az P rj K args pre r :=
 bD (nK fun _ _ _ _ K hz hy need => Tz hz hy need.1 need.2 K [])
end Go.Am.B
