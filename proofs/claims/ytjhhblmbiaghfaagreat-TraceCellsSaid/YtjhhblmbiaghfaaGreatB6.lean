/- slices.Clone, slices.Equal, natural.Mul. -/
import Derived.Test.YtjhhblmbiaghfaaGreatB5
set_option linter.unusedVariables false
namespace Go.Am.B
open Go Go.Am.N AV
theorem Tx : aO P nQ qO (ax qO) := aP YZ (by kernel_rfl) (by kernel_rfl) (by kernel_rfl)
theorem P2 : aO P p8 lF (ax lF) := aP Vd (by kernel_rfl) (by kernel_rfl) (by kernel_rfl)
theorem Nv : aO P sx gv (ax gv) := aP Qw (by kernel_rfl) (by kernel_rfl) (by kernel_rfl)
theorem Pv {n : Nat} {b : Bool} {f : Nat → AV} : bF T [] [4] 30 qO (ax qO) ⟨aN 0 [.cX b 1 n f], [], 0⟩ =
  some (af.fork b (af.leaf ak.ret [nil]) (af.ag [(0 : Nat) * 1 ≤ 2 ^ 24, ((0 : Nat) + n) * ((4 : Nat) + 1) * 2 ≤ 2 ^ 47] (af.leaf ak.ret [ah 1 ((0 : Nat) + n) fun (i : Nat) ↦ if i + 0 < 0 then nth [] (int IntKind.u32 (0 : Int)) (i + 0) else f (i + 0 - 0)]))) := by kernel_rfl
theorem Pa {A B : Nat} : aF T [] [10] 30 [0, 1, 12, 13, 4] (before (ax lF) [1,1,0,1]) ⟨aN 0 [.mag A, .mag B], [], 0⟩ =
  some (af.fork ((↑(nl A) : Int) != (↑(nl B) : Int)) (af.leaf ak.ret ([mag A, mag B, tuple [], tuple [], AV.bool false], [])) (af.leaf ak.normal ([mag A, mag B, int IntKind.i64 (↑(nl A) : Int), int IntKind.i64 (0 : Int), AV.bool false], []))) := by kernel_rfl
theorem QT {A B i : Nat} : aF T [] [14, 24] 30 [0, 1, 12, 13, 4] [part (ax lF) [1,1,0,1,0,0]] ⟨az [0, 1, 12, 13, 4] [.mag A, .mag B, .int .i64 (nl A), .int .i64 i, .bool false], [], 0⟩ =
  some (af.fork (decide ((↑i : Int) < (↑(nl A) : Int))) (af.ag [(0 : Int) ≤ (↑i : Int) ∧ (↑i : Int).toNat < nl A, (0 : Int) ≤ (↑i : Int) ∧ (↑i : Int).toNat < nl B] (af.fork ((↑(au A (↑i : Int).toNat) : Int) != (↑(au B (↑i : Int).toNat) : Int)) (af.leaf ak.ret ([mag A, mag B, int IntKind.i64 (↑(nl A) : Int), int IntKind.i64 (↑i : Int), AV.bool false], [])) (af.leaf ak.normal ([mag A, mag B, int IntKind.i64 (↑(nl A) : Int), int IntKind.i64 (IntKind.i64.wrap ((↑i : Int) + (1 : Int))), AV.bool false], [])))) (af.leaf (ak.exit 0) ([mag A, mag B, int IntKind.i64 (↑(nl A) : Int), int IntKind.i64 (↑i : Int), AV.bool false], []))) := by kernel_rfl
theorem JM {A B i : Nat} : b9 T [] [] 30 lF (behind (ax lF) [1,1,0,1]) ⟨az [0, 1, 12, 13, 4] [.mag A, .mag B, .int .i64 (nl A), .int .i64 i, .bool false], [], 0⟩ =
  some (af.leaf ak.ret [AV.bool true]) := by kernel_rfl
theorem Kp {n m : Nat} {z y : Nat → Nat} : aF T G1 [] 30 [1, 5, 17, 18, 19] (before (ax gv) [1,1,0,1]) ⟨aN 0 [.ah 1 n (aj z), .ah 1 m (aj y)], [], 0⟩ =
  some (af.ag [(0 : Int) ≤ IntKind.i64.wrap ((↑n : Int) + (↑m : Int)) ∧ IntKind.i64.wrap ((↑n : Int) + (↑m : Int)) ≤ IntKind.i64.wrap ((↑n : Int) + (↑m : Int)) ∧ IntKind.i64.wrap ((↑n : Int) + (↑m : Int)) ≤ (2 : Int) ^ 47 ∧ IntKind.i64.wrap ((↑n : Int) + (↑m : Int)) * (↑(4 : Nat) : Int) ≤ (2 : Int) ^ 47] (af.leaf ak.normal ([ah 1 m (aj y), own 24576 1 0 (IntKind.i64.wrap ((↑n : Int) + (↑m : Int))).toNat, ah 1 n (aj z), int IntKind.i64 (↑n : Int), int IntKind.i64 (0 : Int)], [((24576 : Nat), ⟨true, true, 1, (IntKind.i64.wrap ((↑n : Int) + (↑m : Int))).toNat, fun (x : Nat) ↦ int IntKind.u32 (0 : Int)⟩)]))) := by kernel_rfl
theorem MI {n m i : Nat} {z y o : Nat → Nat} : aF T G1 [20] 30 [1, 5, 17, 18, 19] (before (part (ax gv) [1,1,0,1,0,0]) [1,1,0]) ⟨az [1, 5, 17, 18, 19] [.ah 1 m (aj y), .own 7 1 0 (n + m), .ah 1 n (aj z), .int .i64 n, .int .i64 i], [(7, ⟨true, true, 1, n + m, aj o⟩)], 8⟩ =
  some (af.fork (decide ((↑i : Int) < (↑n : Int))) (af.leaf ak.normal ([ah 1 m (aj y), own 7 1 0 (n + m), ah 1 n (aj z), int IntKind.i64 (↑n : Int), int IntKind.i64 (↑i : Int)], [((7 : Nat), ⟨true, true, 1, n + m, aj o⟩)])) (af.leaf (ak.exit 0) ([ah 1 m (aj y), own 7 1 0 (n + m), ah 1 n (aj z), int IntKind.i64 (↑n : Int), int IntKind.i64 (↑i : Int)], [((7 : Nat), ⟨true, true, 1, n + m, aj o⟩)]))) := by kernel_rfl
theorem XM {n m i : Nat} {z y o : Nat → Nat} : aF T G1 [25] 30 [1, 5, 17, 18, 19, 6, 7, 8, 26, 27, 28] (before (part (ax gv) [1,1,0,1,0,0,1,1,0,0]) [1,1,1,0,1]) ⟨az [1, 5, 17, 18, 19] [.ah 1 m (aj y), .own 7 1 0 (n + m), .ah 1 n (aj z), .int .i64 n, .int .i64 i], [(7, ⟨true, true, 1, n + m, aj o⟩)], 8⟩ =
  some (af.ag [(0 : Int) ≤ (↑i : Int) ∧ (↑i : Int).toNat < n] (af.fork ((↑(z (↑i : Int).toNat) : Int) == (0 : Int)) (af.leaf (ak.exit 1) ([ah 1 m (aj y), own 7 1 0 (n + m), ah 1 n (aj z), int IntKind.i64 (↑n : Int), int IntKind.i64 (↑i : Int), int IntKind.i64 (↑i : Int), int IntKind.u32 (↑(z (↑i : Int).toNat) : Int), tuple [], tuple [], tuple [], tuple []], [((7 : Nat), ⟨true, true, 1, n + m, aj o⟩)])) (af.leaf ak.normal ([ah 1 m (aj y), own 7 1 0 (n + m), ah 1 n (aj z), int IntKind.i64 (↑n : Int), int IntKind.i64 (↑i : Int), int IntKind.i64 (↑i : Int), int IntKind.u32 (↑(z (↑i : Int).toNat) : Int), int IntKind.u64 (0 : Int), ah 1 m (aj y), int IntKind.i64 (↑m : Int), int IntKind.i64 (0 : Int)], [((7 : Nat), ⟨true, true, 1, n + m, aj o⟩)])))) := by kernel_rfl
theorem PA {n m i j x c : Nat} {z y o : Nat → Nat} : aF T G1 [29] 30 [1, 5, 17, 18, 19, 6, 7, 8, 26, 27, 28] [part (part (ax gv) [1,1,0,1,0,0,1,1,0,0]) [1,1,1,0,1,0,0]] ⟨az [1, 5, 17, 18, 19, 6, 7, 8, 26, 27, 28] [.ah 1 m (aj y), .own 7 1 0 (n + m), .ah 1 n (aj z), .int .i64 n, .int .i64 i, .int .i64 i, .int .u32 x, .int .u64 c, .ah 1 m (aj y), .int .i64 m, .int .i64 j], [(7, ⟨true, true, 1, n + m, aj o⟩)], 8⟩ =
  some (af.fork (decide ((↑j : Int) < (↑m : Int))) (af.ag [(0 : Int) ≤ (↑j : Int) ∧ (↑j : Int).toNat < m] (af.ag [(0 : Int) ≤ IntKind.i64.wrap ((↑i : Int) + (↑j : Int)) ∧ (IntKind.i64.wrap ((↑i : Int) + (↑j : Int))).toNat < n + m, (IntKind.i64.wrap ((↑i : Int) + (↑j : Int))).toNat + 0 < n + m] (af.ag [(0 : Int) ≤ IntKind.i64.wrap ((↑i : Int) + (↑j : Int)) ∧ (IntKind.i64.wrap ((↑i : Int) + (↑j : Int))).toNat < n + m, (IntKind.i64.wrap ((↑i : Int) + (↑j : Int))).toNat + 0 < n + m] (af.ag [(0 : Int) ≤ (32 : Int)] (af.leaf ak.normal ([ah 1 m (aj y), own 7 1 0 (n + m), ah 1 n (aj z), int IntKind.i64 (↑n : Int), int IntKind.i64 (↑i : Int), int IntKind.i64 (↑i : Int), int IntKind.u32 (↑x : Int), int IntKind.u64 ((IntKind.u64.wrap ((↑c : Int) + IntKind.u64.wrap (IntKind.u64.wrap (IntKind.u64.wrap (↑x : Int) * IntKind.u64.wrap (↑(y (↑j : Int).toNat) : Int)) + IntKind.u64.wrap (↑(o ((IntKind.i64.wrap ((↑i : Int) + (↑j : Int))).toNat + 0)) : Int)))).fdiv ((2 : Int) ^ min (Int.toNat (32 : Int)) IntKind.u64.bits)), ah 1 m (aj y), int IntKind.i64 (↑m : Int), int IntKind.i64 (IntKind.i64.wrap ((↑j : Int) + (1 : Int)))], [((7 : Nat), ⟨true, true, 1, n + m, fun (j_1 : Nat) ↦ if (j_1 == (IntKind.i64.wrap ((↑i : Int) + (↑j : Int))).toNat + 0) = true then int IntKind.u32 (IntKind.u32.wrap (IntKind.u64.wrap ((↑c : Int) + IntKind.u64.wrap (IntKind.u64.wrap (IntKind.u64.wrap (↑x : Int) * IntKind.u64.wrap (↑(y (↑j : Int).toNat) : Int)) + IntKind.u64.wrap (↑(o ((IntKind.i64.wrap ((↑i : Int) + (↑j : Int))).toNat + 0)) : Int))))) else aj o j_1⟩)])))))) (af.leaf (ak.exit 2) ([ah 1 m (aj y), own 7 1 0 (n + m), ah 1 n (aj z), int IntKind.i64 (↑n : Int), int IntKind.i64 (↑i : Int), int IntKind.i64 (↑i : Int), int IntKind.u32 (↑x : Int), int IntKind.u64 (↑c : Int), ah 1 m (aj y), int IntKind.i64 (↑m : Int), int IntKind.i64 (↑j : Int)], [((7 : Nat), ⟨true, true, 1, n + m, aj o⟩)]))) := by kernel_rfl
theorem OX {n m i j x c : Nat} {z y o : Nat → Nat} : aF T G1 [] 30 [1, 5, 17, 18, 19] (behind (part (ax gv) [1,1,0,1,0,0,1,1,0,0]) [1,1,1,0,1]) ⟨az [1, 5, 17, 18, 19, 6, 7, 8, 26, 27, 28] [.ah 1 m (aj y), .own 7 1 0 (n + m), .ah 1 n (aj z), .int .i64 n, .int .i64 i, .int .i64 i, .int .u32 x, .int .u64 c, .ah 1 m (aj y), .int .i64 m, .int .i64 j], [(7, ⟨true, true, 1, n + m, aj o⟩)], 8⟩ =
  some (af.ag [(0 : Int) ≤ IntKind.i64.wrap ((↑i : Int) + (↑m : Int)) ∧ (IntKind.i64.wrap ((↑i : Int) + (↑m : Int))).toNat < n + m, (IntKind.i64.wrap ((↑i : Int) + (↑m : Int))).toNat + 0 < n + m] (af.leaf ak.normal ([ah 1 m (aj y), own 7 1 0 (n + m), ah 1 n (aj z), int IntKind.i64 (↑n : Int), int IntKind.i64 (↑i : Int)], [((7 : Nat), ⟨true, true, 1, n + m, fun (j : Nat) ↦ if (j == (IntKind.i64.wrap ((↑i : Int) + (↑m : Int))).toNat + 0) = true then int IntKind.u32 (IntKind.u32.wrap (↑c : Int)) else aj o j⟩)]))) := by kernel_rfl
theorem LS {n m i : Nat} {z y o : Nat → Nat} : aF T G1 [] 30 [1, 5, 17, 18, 19] (behind (part (ax gv) [1,1,0,1,0,0]) [1,1,0]) ⟨az [1, 5, 17, 18, 19] [.ah 1 m (aj y), .own 7 1 0 (n + m), .ah 1 n (aj z), .int .i64 n, .int .i64 i], [(7, ⟨true, true, 1, n + m, aj o⟩)], 8⟩ =
  some (af.leaf ak.normal ([ah 1 m (aj y), own 7 1 0 (n + m), ah 1 n (aj z), int IntKind.i64 (↑n : Int), int IntKind.i64 (IntKind.i64.wrap ((↑i : Int) + (1 : Int)))], [((7 : Nat), ⟨true, true, 1, n + m, aj o⟩)])) := by kernel_rfl
theorem Tz {n m i : Nat} {z y o : Nat → Nat} : b9 T G1 [] 30 gv (behind (ax gv) [1,1,0,1]) ⟨az [1, 5, 17, 18, 19] [.ah 1 m (aj y), .own 7 1 0 (n + m), .ah 1 n (aj z), .int .i64 n, .int .i64 i], [(7, ⟨true, true, 1, n + m, aj o⟩)], 8⟩ =
  some (af.ag [cN (n + m) fun (i : Nat) ↦ aj o (i + 0), n + m < 2 ^ 62] (af.leaf ak.ret [mag (val (n + m) fun (i : Nat) ↦ numOf (aj o (i + 0)))])) := by kernel_rfl
theorem Cp {n : Nat} {f : Nat → AV} (hn : n < 2 ^ 40) (K : Nat) : aC P nQ K [.ah 1 n f] [] (aK (.ah 1 n f) []) := by
 refine WS fun b hb => ?_
 refine bH hT aY hm Tx rfl (of_decide_eq_true (by kernel_rfl)) rfl 30 Pv (fun _ => ?_) K []
 simp only [af.all, ay]
 refine ⟨fun h => ?_, fun h => ⟨⟨by omega, by omega⟩, Jc (by omega) fun i hi => by simp⟩⟩
 rw [hb h]
 exact fS (by omega)
def xJ : Spec := bu fun l => match l with
 | [.mag N] => some (aK (.mag N) [nl N < 2 ^ 40])
 | [.nil] => some (aK (.mag 0) [])
 | [.ah es n f] => if es == 1 then some (aK (.ah 1 n f) [n < 2 ^ 40]) else none
 | _ => none
theorem AN : ∀ K args pre r, xJ K args pre = some r → aC P nQ K args pre r := by
 refine bQ fun K args r hk hs _ => ?_
 split at hs
 ·rename_i N
  simp only [Option.some.injEq] at hs
  subst hs
  intro need
  have := fm (args := [.mag N]) (Cp (n := nl N) (f := fun i => .int .u32 (au N i)) need K) rfl ⟨II rfl fun i hi => rfl, trivial⟩ []
  exact DB (l' := []) this id rfl rfl (iM rfl fun i hi => rfl) trivial
 ·simp only [Option.some.injEq] at hs
  subst hs
  intro need
  have := fm (args := [.nil]) (Cp (n := 0) (f := fun _ => .nil) (by omega) K) rfl ⟨fS (by omega), trivial⟩ []
  exact DB (l' := []) this id rfl rfl (iM (by simp [nl]) fun i hi => by omega) trivial
 ·rename_i es n f
  split at hs
  ·rename_i he
   have he : es = 1 := by simpa using he
   subst he
   simp only [Option.some.injEq] at hs
   subst hs
   exact fun need => Cp need K trivial
  ·simp at hs
 ·simp at hs
theorem Zr {A B : Nat} (hA : nl A < 2 ^ 40) (hB : nl B < 2 ^ 40) (K : Nat) (pre : aB) : aC P p8 K [.mag A, .mag B] pre (aK (.bool (decide (A = B))) []) := by
 refine gA hT P2 rfl (of_decide_eq_true (by kernel_rfl)) rfl (fun _ c h0 => ?_) K pre
 refine aq.hole [1,1,0,1] (by kernel_rfl) (aA.aS hT aY hm 30 [0, 1, 12, 13, 4] Pa (by kernel_rfl) ?_)
 simp only [af.all, bne_iff_ne, ne_eq, Int.natCast_inj, bne_eq_false_iff_eq]
 refine ⟨fun hb s' hv => ?_, fun hb s' hv => ?_⟩
 ·exact eL (us := [.bool false]) (.inr rfl) hv (by kernel_rfl) (cZ (decide_eq_false fun h => hb (by rw [h])).symm)
 refine aq.fz (i := 0) (y := part (ax lF) [1,1,0,1,0,0]) (by kernel_rfl)
  (fun i : Nat => ⟨az [0, 1, 12, 13, 4] [.mag A, .mag B, .int .i64 (nl A), .int .i64 i, .bool false], [], 0⟩)
  (fun i => i ≤ nl A ∧ ∀ j, j < i → au A j = au B j) (fun i => nl A - i) 0
  (cz [] hv h0 rfl ⟨⟨rfl, aG rfl⟩, ⟨rfl, aG rfl⟩, ⟨rfl, aG rfl⟩, ⟨rfl, aG rfl⟩, ⟨rfl, aG rfl⟩, trivial⟩ trivial) ⟨by omega, fun j h => by omega⟩ ?_
 rintro i ⟨hi, hlim⟩
 refine aq.aS hT aY hm 30 [0, 1, 12, 13, 4] QT (by kernel_rfl) ?_
 simp only [af.all, ay, decide_eq_true_eq, decide_eq_false_iff_not, bne_iff_ne, ne_eq, Int.natCast_inj, bne_eq_false_iff_eq, Int.toNat_natCast]
 refine ⟨fun h1 => ⟨⟨by omega, by omega⟩, fun hne s' hv => ?_, fun heq s' hv => ?_⟩, fun h1 s' hv => ?_⟩
 ·exact eL (us := [.bool false]) (.inr rfl) hv (by kernel_rfl) (cZ (decide_eq_false fun h => hne (by rw [h])).symm)
 ·refine ⟨i + 1, cz [] hv h0 rfl ⟨⟨rfl, aG rfl⟩, ⟨rfl, aG rfl⟩, ⟨rfl, aG rfl⟩, ⟨rfl, eB (by rw [wrap_i64 (by omega) (by omega)]; omega)⟩, ⟨rfl, aG rfl⟩, trivial⟩ trivial, ⟨by omega, fun j hj => ?_⟩, by omega⟩
  by_cases h : j = i
  ·subst h; exact heq
  ·exact hlim j (by omega)
 ·have hAB : A = B := zZ hb fun j hj => hlim j (by omega)
  exact aA.weak (by kernel_rfl) (cz (vs := [.mag A, .mag B, .int .i64 (nl A), .int .i64 i, .bool false]) (ps := []) (nx := 0) [] hv h0 rfl ⟨⟨rfl, aG rfl⟩, ⟨rfl, aG rfl⟩, ⟨rfl, aG rfl⟩, ⟨rfl, aG rfl⟩, ⟨rfl, aG rfl⟩, trivial⟩ trivial)
   (aA.fin hT aY hm 30 JM (by kernel_rfl) (cZ (decide_eq_true hAB).symm))
def gh : AV → Option Nat
 | .mag N => some N
 | .nil => some 0
 | _ => none
theorem iZ {a : AV} {N : Nat} (h : gh a = some N) : bq a (.mag N) := by
 cases a <;> simp only [gh, reduceCtorEq, Option.some.injEq] at h
 case mag M => subst h; exact .refl _
 case nil => subst h; exact iB
def Be : Spec := bu fun l => match l with
 | [a, b] => match gh a, gh b with
  | some A, some B => some (aK (.bool (decide (A = B))) [nl A < 2 ^ 40, nl B < 2 ^ 40])
  | _, _ => none
 | _ => none
theorem FP : ∀ K args pre r, Be K args pre = some r → aC P p8 K args pre r := by
 refine bQ fun K args r hk hs _ => ?_
 split at hs
 ·split at hs
  ·rename_i A B hA hB
   simp only [Option.some.injEq] at hs
   subst hs
   exact fun need => fm (Zr need.1 need.2 K []) hk ⟨iZ hA, iZ hB, trivial⟩ [] trivial
  ·simp at hs
 ·simp at hs
abbrev k9 : List Nat := [1, 5, 17, 18, 19]
abbrev nE (n m : Nat) (z y : Nat → Nat) (K i : Nat) : List AV := [.ah 1 m (aj y), .own K 1 0 (n + m), .ah 1 n (aj z), .int .i64 n, .int .i64 i]
abbrev AA : List Nat := [1, 5, 17, 18, 19, 6, 7, 8, 26, 27, 28]
abbrev EF (n m : Nat) (z y : Nat → Nat) (K i x c j : Nat) : List AV := [.ah 1 m (aj y), .own K 1 0 (n + m), .ah 1 n (aj z), .int .i64 n, .int .i64 i, .int .i64 i, .int .u32 x, .int .u64 c, .ah 1 m (aj y), .int .i64 m, .int .i64 j]
theorem Kt {n m : Nat} {z y : Nat → Nat} (hz : ∀ i, i < n → z i < 2 ^ 32) (hy : ∀ i, i < m → y i < 2 ^ 32) (hn : n < 2 ^ 40) (hm' : m < 2 ^ 40) (K : Nat) (pre : aB) :
  aC P sx K [.ah 1 n (aj z), .ah 1 m (aj y)] pre (aK (.mag (val n z * val m y)) []) := by
 refine gA hT Nv rfl (of_decide_eq_true (by kernel_rfl)) rfl (fun _ c0 h0 => ?_) K pre
 refine aq.hole [1,1,0,1] (by kernel_rfl) (aA.aS hT eM hm 30 k9 Kp (by kernel_rfl) ?_)
 have hw : IntKind.i64.wrap ((n : Int) + (m : Int)) = ((n + m : Nat) : Int) := by rw [wrap_i64 (by omega) (by omega)]; omega
 simp only [af.all, ay, hw, Int.toNat_natCast]
 refine ⟨by omega, fun s' hv => ?_⟩
 refine aq.fz (i := 0) (y := part (ax gv) [1,1,0,1,0,0]) (by kernel_rfl)
  (fun p : Nat × (Nat → Nat) => ⟨az k9 (nE n m z y 7 p.1), [(7, ⟨true, true, 1, n + m, aj p.2⟩)], 8⟩)
  (fun p => p.1 ≤ n ∧ (∀ j, j < n + m → p.2 j < 2 ^ 32) ∧ (∀ j, p.1 + m ≤ j → p.2 j = 0) ∧ val (n + m) p.2 = val p.1 z * val m y)
  (fun p => n - p.1) (0, fun _ => 0)
  (cz [(7, 24576)] hv h0 rfl ⟨⟨rfl, aG rfl⟩, ⟨rfl, cH rfl rfl rfl⟩, ⟨rfl, aG rfl⟩, ⟨rfl, aG rfl⟩, ⟨rfl, aG rfl⟩, trivial⟩
   ⟨⟨_, _, rfl, rfl, dU rfl fun j _ => rfl⟩, trivial⟩)
  ⟨by simp, fun j _ => by simp, fun j _ => rfl, ?_⟩ ?_
 ·simp only
  rw [jV (k := 0) (by omega) fun _ _ _ => rfl]
  simp [val]
 rintro ⟨i, o⟩ ⟨hi, ho, ho0, hval⟩
 simp only at hi ho ho0 hval
 have next : ∀ {o' : Nat → Nat} {s' : aE}, i < n → aQ k9 s' = some (nE n m z y 7 i, [(7, ⟨true, true, 1, n + m, aj o'⟩)]) → (∀ j, j < n + m → o' j < 2 ^ 32) → (∀ j, i + 1 + m ≤ j → o' j = 0) →
   val (n + m) o' = val (i + 1) z * val m y → ∀ {QF : ak → aE → Prop},
   aA P c0 gv.ntmps (behind (part (ax gv) [1,1,0,1,0,0]) [1,1,0]) s' (cS (fun s' => ∃ k : Nat × (Nat → Nat), (∃ ρ, Le c0 ρ s' ⟨az k9 (nE n m z y 7 k.1), [(7, ⟨true, true, 1, n + m, aj k.2⟩)], 8⟩) ∧
    (k.1 ≤ n ∧ (∀ j, j < n + m → k.2 j < 2 ^ 32) ∧ (∀ j, k.1 + m ≤ j → k.2 j = 0) ∧ val (n + m) k.2 = val k.1 z * val m y) ∧ n - k.1 < n - i) QF) := by
  intro o' s' hin hv g1 g2 g3 QF
  refine aA.weak (by kernel_rfl) (cz (vs := nE n m z y 7 i) (ps := [(7, ⟨true, true, 1, n + m, aj o'⟩)]) (nx := 8) [(7, 7)] hv h0 rfl ⟨⟨rfl, aG rfl⟩, ⟨rfl, cH rfl rfl rfl⟩, ⟨rfl, aG rfl⟩, ⟨rfl, aG rfl⟩, ⟨rfl, aG rfl⟩, trivial⟩
    ⟨⟨_, _, rfl, rfl, dU rfl fun j _ => rfl⟩, trivial⟩)
   (aA.aS hT eM hm 30 k9 LS (by kernel_rfl) ?_)
  intro s' hv
  exact ⟨(i + 1, o'), cz [(7, 7)] hv h0 rfl ⟨⟨rfl, aG rfl⟩, ⟨rfl, cH rfl rfl rfl⟩, ⟨rfl, aG rfl⟩, ⟨rfl, aG rfl⟩, ⟨rfl, eB (by rw [wrap_i64 (by omega) (by omega)]; simp only; omega)⟩, trivial⟩
    ⟨⟨_, _, rfl, rfl, dU rfl fun j _ => rfl⟩, trivial⟩, ⟨by simp only; omega, g1, g2, g3⟩, by simp only; omega⟩
 refine aq.hole [1,1,0] (by kernel_rfl) (aA.aS hT eM hm 30 k9 MI (by kernel_rfl) ?_)
 simp only [af.all, decide_eq_true_eq, decide_eq_false_iff_not]
 refine ⟨fun h1 s' hv => ?_, fun h1 s' hv => ?_⟩
 ·have hin : i < n := by omega
  have hzi := hz i hin
  refine aq.jB (cz (vs := nE n m z y 7 i) (ps := [(7, ⟨true, true, 1, n + m, aj o⟩)]) (nx := 8) [(7, 7)] hv h0 rfl ⟨⟨rfl, aG rfl⟩, ⟨rfl, cH rfl rfl rfl⟩, ⟨rfl, aG rfl⟩, ⟨rfl, aG rfl⟩, ⟨rfl, aG rfl⟩, trivial⟩
    ⟨⟨_, _, rfl, rfl, dU rfl fun j _ => rfl⟩, trivial⟩) ?_
  refine aq.mM (i := 1) (y := part (ax gv) [1,1,0,1,0,0,1,1,0,0]) (by kernel_rfl) ?_
  refine aq.hole [1,1,1,0,1] (by kernel_rfl) (aA.aS hT eM hm 30 AA XM (by kernel_rfl) ?_)
  simp only [af.all, ay, Int.toNat_natCast, beq_iff_eq, beq_eq_false_iff_ne, ne_eq]
  refine ⟨by omega, fun hz0 s' hv => ?_, fun hz0 s' hv => ?_⟩
  ·refine dI ?_
   exact (next hin (gf (ls := k9) (l := [6, 7, 8, 26, 27, 28]) (vs := nE n m z y 7 i) hv rfl rfl) ho (fun j hj => ho0 j (by omega)) (by rw [hval, val, show z i = 0 by omega]; simp))
  refine aq.fz (i := 2) (y := part (part (ax gv) [1,1,0,1,0,0,1,1,0,0]) [1,1,1,0,1,0,0]) (by kernel_rfl)
   (fun p : Nat × Nat × (Nat → Nat) => ⟨az AA (EF n m z y 7 i (z i) p.2.1 p.1), [(7, ⟨true, true, 1, n + m, aj p.2.2⟩)], 8⟩)
   (fun p => p.1 ≤ m ∧ p.2.1 < 2 ^ 32 ∧ (∀ j, j < n + m → p.2.2 j < 2 ^ 32) ∧ (∀ j, i + m ≤ j → p.2.2 j = 0) ∧ val (n + m) p.2.2 + p.2.1 * 2 ^ (32 * (i + p.1)) = val i z * val m y + z i * val p.1 y * 2 ^ (32 * i))
   (fun p => m - p.1) (0, 0, o)
   (cz [(7, 7)] hv h0 rfl ⟨⟨rfl, aG rfl⟩, ⟨rfl, cH rfl rfl rfl⟩, ⟨rfl, aG rfl⟩, ⟨rfl, aG rfl⟩, ⟨rfl, aG rfl⟩, ⟨rfl, aG rfl⟩, ⟨rfl, aG rfl⟩, ⟨rfl, aG rfl⟩, ⟨rfl, aG rfl⟩, ⟨rfl, aG rfl⟩, ⟨rfl, aG rfl⟩, trivial⟩
    ⟨⟨_, _, rfl, rfl, dU rfl fun j _ => rfl⟩, trivial⟩)
   ⟨by simp, by simp, ho, ho0, by simp [val, hval]⟩ ?_
  rintro ⟨j, c, o⟩ ⟨hj, hc, ho, ho0, hval⟩
  simp only at hj hc ho ho0 hval
  refine aq.aS hT eM hm 30 AA PA (by kernel_rfl) ?_
  have hij : IntKind.i64.wrap ((i : Int) + (j : Int)) = ((i + j : Nat) : Int) := by rw [wrap_i64 (by omega) (by omega)]; omega
  simp only [af.all, ay, decide_eq_true_eq, decide_eq_false_iff_not, hij, Int.toNat_natCast, Nat.add_zero, beq_iff_eq]
  refine ⟨fun h2 => ?_, fun h2 s' hv => dI ?_⟩
  ·have hjm : j < m := by omega
   obtain ⟨m1, m2, m3⟩ := Em hc hzi (hy j hjm) (ho (i + j) (by omega))
   rw [m1]
   refine ⟨by omega, by omega, by omega, by omega, fun s' hv => ⟨(j + 1, (c + z i * y j + o (i + j)) / 4294967296, bI o (i + j) ((c + z i * y j + o (i + j)) % 4294967296)), ?_, ⟨by simp only; omega, m3, fA (by omega) ho, fun k hk => ?_, ?_⟩, by simp only; omega⟩⟩
   ·refine cz [(7, 7)] hv h0 rfl ⟨⟨rfl, aG rfl⟩, ⟨rfl, cH rfl rfl rfl⟩, ⟨rfl, aG rfl⟩, ⟨rfl, aG rfl⟩, ⟨rfl, aG rfl⟩, ⟨rfl, aG rfl⟩, ⟨rfl, aG rfl⟩, ⟨rfl, eB ?_⟩, ⟨rfl, aG rfl⟩, ⟨rfl, aG rfl⟩, ⟨rfl, eB ?_⟩, trivial⟩
     ⟨⟨_, _, rfl, rfl, dU rfl fun k _ => eZ (by rw [gC]) k⟩, trivial⟩
    ·rw [iY]; simp only; omega
    ·rw [wrap_i64 (by omega) (by omega)]; simp only; omega
   ·exact (dY (by omega)).trans (ho0 k hk)
   ·simp only
    rw [show 32 * (i + (j + 1)) = 32 * ((i + j) + 1) by omega, fq, val]
    have hset := Ab (o := o) (x := (c + z i * y j + o (i + j)) % 4294967296) (show i + j < n + m by omega)
    exact Je rfl (Nat.div_add_mod _ _) hset (by rw [← Nat.pow_add]; congr 1; omega) hval
  ·have hjm : j = m := by omega
   subst hjm
   refine aA.weak (by kernel_rfl) (cz (vs := EF n j z y 7 i (z i) c j) (ps := [(7, ⟨true, true, 1, n + j, aj o⟩)]) (nx := 8) [(7, 7)] hv h0 rfl
     ⟨⟨rfl, aG rfl⟩, ⟨rfl, cH rfl rfl rfl⟩, ⟨rfl, aG rfl⟩, ⟨rfl, aG rfl⟩, ⟨rfl, aG rfl⟩, ⟨rfl, aG rfl⟩, ⟨rfl, aG rfl⟩, ⟨rfl, aG rfl⟩, ⟨rfl, aG rfl⟩, ⟨rfl, aG rfl⟩, ⟨rfl, aG rfl⟩, trivial⟩
     ⟨⟨_, _, rfl, rfl, dU rfl fun j _ => rfl⟩, trivial⟩)
    (aA.aS hT eM hm 30 k9 OX (by kernel_rfl) ?_)
   simp only [af.all, ay, hij, Int.toNat_natCast, Nat.add_zero, beq_iff_eq]
   refine ⟨by omega, fun s' hv => ?_⟩
   have hf : (fun k => if k = i + j then AV.int .u32 (IntKind.u32.wrap (c : Int)) else aj o k) = aj (bI o (i + j) c) := by
    funext k
    exact eZ (wrap_u32 (by omega) (by omega)) k
   rw [hf] at hv
   refine next hin hv (fA hc ho) (fun k hk => (dY (by omega)).trans (ho0 k (by omega))) ?_
   rw [mT (by omega) (ho0 _ (by omega)), hval, val, Nat.add_mul, Nat.mul_assoc, Nat.mul_assoc, Nat.mul_comm (val j y)]
 ·have hin : i = n := by omega
  subst hin
  refine nq (dI ?_)
  refine (aA.weak (by kernel_rfl) (cz (vs := nE i m z y 7 i) (ps := [(7, ⟨true, true, 1, i + m, aj o⟩)]) (nx := 8) [(7, 7)] hv h0 rfl ⟨⟨rfl, aG rfl⟩, ⟨rfl, cH rfl rfl rfl⟩, ⟨rfl, aG rfl⟩, ⟨rfl, aG rfl⟩, ⟨rfl, aG rfl⟩, trivial⟩
    ⟨⟨_, _, rfl, rfl, dU rfl fun j _ => rfl⟩, trivial⟩)
   (aA.fin hT eM hm 30 Tz (by kernel_rfl) ?_))
  simp only [af.all, ay, Nat.add_zero, gI]
  exact ⟨⟨eG ho, by omega⟩, cV (congrArg AV.mag hval)⟩
def DR (A n B m : Nat) : cC := aK (.mag (A * B)) [n < 2 ^ 40, m < 2 ^ 40]
theorem Lc : ∀ K args pre r, bu (fP DR) K args pre = some r → aC P sx K args pre r :=
 bQ (pJ fun _ _ _ _ K hz hy need => Kt hz hy need.1 need.2 K [])
end Go.Am.B
