/- slices.Clone, slices.Equal, natural.Mul. -/
import Derived.Test.YtnocdkaonpdmjaaGreatB5
set_option linter.unusedVariables false
namespace Go.Am.B
open Go Go.Am.N AV
theorem Zu : aN P od r9 (au r9) := aP W1 (by kernel_rfl) (by kernel_rfl) (by kernel_rfl)
theorem Sn : aN P qQ mq (au mq) := aP aaC (by kernel_rfl) (by kernel_rfl) (by kernel_rfl)
theorem aa5 : aN P s8 gD (au gD) := aP abk (by kernel_rfl) (by kernel_rfl) (by kernel_rfl)
theorem Rg {n : Nat} {b : Bool} {f : Nat → AV} : bu T [] [4] 30 r9 (au r9) ⟨aL 0 [.cL b 1 n f], [], 0⟩ =
  some (aa.fork b (aa.leaf ah.ret [nil]) (aa.ag [(0 : Nat) * 1 ≤ 2 ^ 24, ((0 : Nat) + n) * ((4 : Nat) + 1) * 2 ≤ 2 ^ 47] (aa.leaf ah.ret [ak 1 ((0 : Nat) + n) fun (i : Nat) ↦ if i + 0 < 0 then nth [] (int IntKind.u32 (0 : Int)) (i + 0) else f (i + 0 - 0)]))) := by kernel_rfl
theorem abb {A B : Nat} : aI T [] [10] 30 [0, 1, 12, 13, 4] (before (au mq) [1,1,0,1]) ⟨aL 0 [.mag A, .mag B], [], 0⟩ =
  some (aa.fork ((↑(nl A) : Int) != (↑(nl B) : Int)) (aa.leaf ah.ret ([mag A, mag B, tuple [], tuple [], AV.bool false], [])) (aa.leaf ah.normal ([mag A, mag B, int IntKind.i64 (↑(nl A) : Int), int IntKind.i64 (0 : Int), AV.bool false], []))) := by kernel_rfl
theorem acr {A B i : Nat} : aI T [] [14, 24] 30 [0, 1, 12, 13, 4] [part (au mq) [1,1,0,1,0,0]] ⟨aB [0, 1, 12, 13, 4] [.mag A, .mag B, .int .i64 (nl A), .int .i64 i, .bool false], [], 0⟩ =
  some (aa.fork (decide ((↑i : Int) < (↑(nl A) : Int))) (aa.ag [(0 : Int) ≤ (↑i : Int) ∧ (↑i : Int).toNat < nl A, (0 : Int) ≤ (↑i : Int) ∧ (↑i : Int).toNat < nl B] (aa.fork ((↑(ax A (↑i : Int).toNat) : Int) != (↑(ax B (↑i : Int).toNat) : Int)) (aa.leaf ah.ret ([mag A, mag B, int IntKind.i64 (↑(nl A) : Int), int IntKind.i64 (↑i : Int), AV.bool false], [])) (aa.leaf ah.normal ([mag A, mag B, int IntKind.i64 (↑(nl A) : Int), int IntKind.i64 (IntKind.i64.wrap ((↑i : Int) + (1 : Int))), AV.bool false], [])))) (aa.leaf (ah.exit 0) ([mag A, mag B, int IntKind.i64 (↑(nl A) : Int), int IntKind.i64 (↑i : Int), AV.bool false], []))) := by kernel_rfl
theorem aes {A B i : Nat} : b9 T [] [] 30 mq (behind (au mq) [1,1,0,1]) ⟨aB [0, 1, 12, 13, 4] [.mag A, .mag B, .int .i64 (nl A), .int .i64 i, .bool false], [], 0⟩ =
  some (aa.leaf ah.ret [AV.bool true]) := by kernel_rfl
theorem SR {n m : Nat} {z y : Nat → Nat} : aI T G1 [] 30 [1, 5, 17, 18, 19] (before (au gD) [1,1,0,1]) ⟨aL 0 [.ak 1 n (aj z), .ak 1 m (aj y)], [], 0⟩ =
  some (aa.ag [(0 : Int) ≤ IntKind.i64.wrap ((↑n : Int) + (↑m : Int)) ∧ IntKind.i64.wrap ((↑n : Int) + (↑m : Int)) ≤ IntKind.i64.wrap ((↑n : Int) + (↑m : Int)) ∧ IntKind.i64.wrap ((↑n : Int) + (↑m : Int)) ≤ (2 : Int) ^ 47 ∧ IntKind.i64.wrap ((↑n : Int) + (↑m : Int)) * (↑(4 : Nat) : Int) ≤ (2 : Int) ^ 47] (aa.leaf ah.normal ([ak 1 m (aj y), own 24576 1 0 (IntKind.i64.wrap ((↑n : Int) + (↑m : Int))).toNat, ak 1 n (aj z), int IntKind.i64 (↑n : Int), int IntKind.i64 (0 : Int)], [((24576 : Nat), ⟨true, true, 1, (IntKind.i64.wrap ((↑n : Int) + (↑m : Int))).toNat, fun (x : Nat) ↦ int IntKind.u32 (0 : Int)⟩)]))) := by kernel_rfl
theorem aeh {n m i : Nat} {z y o : Nat → Nat} : aI T G1 [20] 30 [1, 5, 17, 18, 19] (before (part (au gD) [1,1,0,1,0,0]) [1,1,0]) ⟨aB [1, 5, 17, 18, 19] [.ak 1 m (aj y), .own 7 1 0 (n + m), .ak 1 n (aj z), .int .i64 n, .int .i64 i], [(7, ⟨true, true, 1, n + m, aj o⟩)], 8⟩ =
  some (aa.fork (decide ((↑i : Int) < (↑n : Int))) (aa.leaf ah.normal ([ak 1 m (aj y), own 7 1 0 (n + m), ak 1 n (aj z), int IntKind.i64 (↑n : Int), int IntKind.i64 (↑i : Int)], [((7 : Nat), ⟨true, true, 1, n + m, aj o⟩)])) (aa.leaf (ah.exit 0) ([ak 1 m (aj y), own 7 1 0 (n + m), ak 1 n (aj z), int IntKind.i64 (↑n : Int), int IntKind.i64 (↑i : Int)], [((7 : Nat), ⟨true, true, 1, n + m, aj o⟩)]))) := by kernel_rfl
theorem RD {n m i : Nat} {z y o : Nat → Nat} : aI T G1 [25] 30 [1, 5, 17, 18, 19, 6, 7, 8, 26, 27, 28] (before (part (au gD) [1,1,0,1,0,0,1,1,0,0]) [1,1,1,0,1]) ⟨aB [1, 5, 17, 18, 19] [.ak 1 m (aj y), .own 7 1 0 (n + m), .ak 1 n (aj z), .int .i64 n, .int .i64 i], [(7, ⟨true, true, 1, n + m, aj o⟩)], 8⟩ =
  some (aa.ag [(0 : Int) ≤ (↑i : Int) ∧ (↑i : Int).toNat < n] (aa.fork ((↑(z (↑i : Int).toNat) : Int) == (0 : Int)) (aa.leaf (ah.exit 1) ([ak 1 m (aj y), own 7 1 0 (n + m), ak 1 n (aj z), int IntKind.i64 (↑n : Int), int IntKind.i64 (↑i : Int), int IntKind.i64 (↑i : Int), int IntKind.u32 (↑(z (↑i : Int).toNat) : Int), tuple [], tuple [], tuple [], tuple []], [((7 : Nat), ⟨true, true, 1, n + m, aj o⟩)])) (aa.leaf ah.normal ([ak 1 m (aj y), own 7 1 0 (n + m), ak 1 n (aj z), int IntKind.i64 (↑n : Int), int IntKind.i64 (↑i : Int), int IntKind.i64 (↑i : Int), int IntKind.u32 (↑(z (↑i : Int).toNat) : Int), int IntKind.u64 (0 : Int), ak 1 m (aj y), int IntKind.i64 (↑m : Int), int IntKind.i64 (0 : Int)], [((7 : Nat), ⟨true, true, 1, n + m, aj o⟩)])))) := by kernel_rfl
theorem VG {n m i j x c : Nat} {z y o : Nat → Nat} : aI T G1 [29] 30 [1, 5, 17, 18, 19, 6, 7, 8, 26, 27, 28] [part (part (au gD) [1,1,0,1,0,0,1,1,0,0]) [1,1,1,0,1,0,0]] ⟨aB [1, 5, 17, 18, 19, 6, 7, 8, 26, 27, 28] [.ak 1 m (aj y), .own 7 1 0 (n + m), .ak 1 n (aj z), .int .i64 n, .int .i64 i, .int .i64 i, .int .u32 x, .int .u64 c, .ak 1 m (aj y), .int .i64 m, .int .i64 j], [(7, ⟨true, true, 1, n + m, aj o⟩)], 8⟩ =
  some (aa.fork (decide ((↑j : Int) < (↑m : Int))) (aa.ag [(0 : Int) ≤ (↑j : Int) ∧ (↑j : Int).toNat < m] (aa.ag [(0 : Int) ≤ IntKind.i64.wrap ((↑i : Int) + (↑j : Int)) ∧ (IntKind.i64.wrap ((↑i : Int) + (↑j : Int))).toNat < n + m, (IntKind.i64.wrap ((↑i : Int) + (↑j : Int))).toNat + 0 < n + m] (aa.ag [(0 : Int) ≤ IntKind.i64.wrap ((↑i : Int) + (↑j : Int)) ∧ (IntKind.i64.wrap ((↑i : Int) + (↑j : Int))).toNat < n + m, (IntKind.i64.wrap ((↑i : Int) + (↑j : Int))).toNat + 0 < n + m] (aa.ag [(0 : Int) ≤ (32 : Int)] (aa.leaf ah.normal ([ak 1 m (aj y), own 7 1 0 (n + m), ak 1 n (aj z), int IntKind.i64 (↑n : Int), int IntKind.i64 (↑i : Int), int IntKind.i64 (↑i : Int), int IntKind.u32 (↑x : Int), int IntKind.u64 ((IntKind.u64.wrap ((↑c : Int) + IntKind.u64.wrap (IntKind.u64.wrap (IntKind.u64.wrap (↑x : Int) * IntKind.u64.wrap (↑(y (↑j : Int).toNat) : Int)) + IntKind.u64.wrap (↑(o ((IntKind.i64.wrap ((↑i : Int) + (↑j : Int))).toNat + 0)) : Int)))).fdiv ((2 : Int) ^ min (Int.toNat (32 : Int)) IntKind.u64.bits)), ak 1 m (aj y), int IntKind.i64 (↑m : Int), int IntKind.i64 (IntKind.i64.wrap ((↑j : Int) + (1 : Int)))], [((7 : Nat), ⟨true, true, 1, n + m, fun (j_1 : Nat) ↦ if (j_1 == (IntKind.i64.wrap ((↑i : Int) + (↑j : Int))).toNat + 0) = true then int IntKind.u32 (IntKind.u32.wrap (IntKind.u64.wrap ((↑c : Int) + IntKind.u64.wrap (IntKind.u64.wrap (IntKind.u64.wrap (↑x : Int) * IntKind.u64.wrap (↑(y (↑j : Int).toNat) : Int)) + IntKind.u64.wrap (↑(o ((IntKind.i64.wrap ((↑i : Int) + (↑j : Int))).toNat + 0)) : Int))))) else aj o j_1⟩)])))))) (aa.leaf (ah.exit 2) ([ak 1 m (aj y), own 7 1 0 (n + m), ak 1 n (aj z), int IntKind.i64 (↑n : Int), int IntKind.i64 (↑i : Int), int IntKind.i64 (↑i : Int), int IntKind.u32 (↑x : Int), int IntKind.u64 (↑c : Int), ak 1 m (aj y), int IntKind.i64 (↑m : Int), int IntKind.i64 (↑j : Int)], [((7 : Nat), ⟨true, true, 1, n + m, aj o⟩)]))) := by kernel_rfl
theorem WG {n m i j x c : Nat} {z y o : Nat → Nat} : aI T G1 [] 30 [1, 5, 17, 18, 19] (behind (part (au gD) [1,1,0,1,0,0,1,1,0,0]) [1,1,1,0,1]) ⟨aB [1, 5, 17, 18, 19, 6, 7, 8, 26, 27, 28] [.ak 1 m (aj y), .own 7 1 0 (n + m), .ak 1 n (aj z), .int .i64 n, .int .i64 i, .int .i64 i, .int .u32 x, .int .u64 c, .ak 1 m (aj y), .int .i64 m, .int .i64 j], [(7, ⟨true, true, 1, n + m, aj o⟩)], 8⟩ =
  some (aa.ag [(0 : Int) ≤ IntKind.i64.wrap ((↑i : Int) + (↑m : Int)) ∧ (IntKind.i64.wrap ((↑i : Int) + (↑m : Int))).toNat < n + m, (IntKind.i64.wrap ((↑i : Int) + (↑m : Int))).toNat + 0 < n + m] (aa.leaf ah.normal ([ak 1 m (aj y), own 7 1 0 (n + m), ak 1 n (aj z), int IntKind.i64 (↑n : Int), int IntKind.i64 (↑i : Int)], [((7 : Nat), ⟨true, true, 1, n + m, fun (j : Nat) ↦ if (j == (IntKind.i64.wrap ((↑i : Int) + (↑m : Int))).toNat + 0) = true then int IntKind.u32 (IntKind.u32.wrap (↑c : Int)) else aj o j⟩)]))) := by kernel_rfl
theorem aen {n m i : Nat} {z y o : Nat → Nat} : aI T G1 [] 30 [1, 5, 17, 18, 19] (behind (part (au gD) [1,1,0,1,0,0]) [1,1,0]) ⟨aB [1, 5, 17, 18, 19] [.ak 1 m (aj y), .own 7 1 0 (n + m), .ak 1 n (aj z), .int .i64 n, .int .i64 i], [(7, ⟨true, true, 1, n + m, aj o⟩)], 8⟩ =
  some (aa.leaf ah.normal ([ak 1 m (aj y), own 7 1 0 (n + m), ak 1 n (aj z), int IntKind.i64 (↑n : Int), int IntKind.i64 (IntKind.i64.wrap ((↑i : Int) + (1 : Int)))], [((7 : Nat), ⟨true, true, 1, n + m, aj o⟩)])) := by kernel_rfl
theorem Og {n m i : Nat} {z y o : Nat → Nat} : b9 T G1 [] 30 gD (behind (au gD) [1,1,0,1]) ⟨aB [1, 5, 17, 18, 19] [.ak 1 m (aj y), .own 7 1 0 (n + m), .ak 1 n (aj z), .int .i64 n, .int .i64 i], [(7, ⟨true, true, 1, n + m, aj o⟩)], 8⟩ =
  some (aa.ag [cV (n + m) fun (i : Nat) ↦ aj o (i + 0), n + m < 2 ^ 62] (aa.leaf ah.ret [mag (val (n + m) fun (i : Nat) ↦ numOf (aj o (i + 0)))])) := by kernel_rfl
theorem Es {n : Nat} {f : Nat → AV} (hn : n < 2 ^ 40) (K : Nat) : aA P od K [.ak 1 n f] [] (aG (.ak 1 n f) []) := by
 refine Ky fun b hb => ?_
 refine bC hT bk hm Zu rfl (of_decide_eq_true (by kernel_rfl)) rfl 30 Rg (fun _ => ?_) K []
 simp only [aa.all, ay]
 refine ⟨fun h => ?_, fun h => ⟨⟨by omega, by omega⟩, uK (by omega) fun i hi => by simp⟩⟩
 rw [hb h]
 exact jo (by omega)
def AU : Spec := bw fun l => match l with
 | [.mag N] => some (aG (.mag N) [nl N < 2 ^ 40])
 | [.nil] => some (aG (.mag 0) [])
 | [.ak es n f] => if es == 1 then some (aG (.ak 1 n f) [n < 2 ^ 40]) else none
 | _ => none
theorem BA : ∀ K args pre r, AU K args pre = some r → aA P od K args pre r := by
 refine bI fun K args r hk hs _ => ?_
 split at hs
 ·rename_i N
  simp only [Option.some.injEq] at hs
  subst hs
  intro need
  have := eR (args := [.mag N]) (Es (n := nl N) (f := fun i => .int .u32 (ax N i)) need K) rfl ⟨KZ rfl fun i hi => rfl, trivial⟩ []
  exact GL (l' := []) this id rfl rfl (jh rfl fun i hi => rfl) trivial
 ·simp only [Option.some.injEq] at hs
  subst hs
  intro need
  have := eR (args := [.nil]) (Es (n := 0) (f := fun _ => .nil) (by omega) K) rfl ⟨jo (by omega), trivial⟩ []
  exact GL (l' := []) this id rfl rfl (jh (by simp [nl]) fun i hi => by omega) trivial
 ·rename_i es n f
  split at hs
  ·rename_i he
   have he : es = 1 := by simpa using he
   subst he
   simp only [Option.some.injEq] at hs
   subst hs
   exact fun need => Es need K trivial
  ·simp at hs
 ·simp at hs
theorem adu {A B : Nat} (hA : nl A < 2 ^ 40) (hB : nl B < 2 ^ 40) (K : Nat) (pre : aD) : aA P qQ K [.mag A, .mag B] pre (aG (.bool (decide (A = B))) []) := by
 refine gZ hT Sn rfl (of_decide_eq_true (by kernel_rfl)) rfl (fun _ c h0 => ?_) K pre
 refine aq.hole [1,1,0,1] (by kernel_rfl) (aC.aZ hT bk hm 30 [0, 1, 12, 13, 4] abb (by kernel_rfl) ?_)
 simp only [aa.all, bne_iff_ne, ne_eq, Int.natCast_inj, bne_eq_false_iff_eq]
 refine ⟨fun hb s' hv => ?_, fun hb s' hv => ?_⟩
 ·exact eP (us := [.bool false]) (.inr rfl) hv (by kernel_rfl) (eL (decide_eq_false fun h => hb (by rw [h])).symm)
 refine aq.gh (i := 0) (y := part (au mq) [1,1,0,1,0,0]) (by kernel_rfl)
  (fun i : Nat => ⟨aB [0, 1, 12, 13, 4] [.mag A, .mag B, .int .i64 (nl A), .int .i64 i, .bool false], [], 0⟩)
  (fun i => i ≤ nl A ∧ ∀ j, j < i → ax A j = ax B j) (fun i => nl A - i) 0
  (cB [] hv h0 rfl ⟨⟨rfl, aH rfl⟩, ⟨rfl, aH rfl⟩, ⟨rfl, aH rfl⟩, ⟨rfl, aH rfl⟩, ⟨rfl, aH rfl⟩, trivial⟩ trivial) ⟨by omega, fun j h => by omega⟩ ?_
 rintro i ⟨hi, hlim⟩
 refine aq.aZ hT bk hm 30 [0, 1, 12, 13, 4] acr (by kernel_rfl) ?_
 simp only [aa.all, ay, decide_eq_true_eq, decide_eq_false_iff_not, bne_iff_ne, ne_eq, Int.natCast_inj, bne_eq_false_iff_eq, Int.toNat_natCast]
 refine ⟨fun h1 => ⟨⟨by omega, by omega⟩, fun hne s' hv => ?_, fun heq s' hv => ?_⟩, fun h1 s' hv => ?_⟩
 ·exact eP (us := [.bool false]) (.inr rfl) hv (by kernel_rfl) (eL (decide_eq_false fun h => hne (by rw [h])).symm)
 ·refine ⟨i + 1, cB [] hv h0 rfl ⟨⟨rfl, aH rfl⟩, ⟨rfl, aH rfl⟩, ⟨rfl, aH rfl⟩, ⟨rfl, eH (by rw [wrap_i64 (by omega) (by omega)]; omega)⟩, ⟨rfl, aH rfl⟩, trivial⟩ trivial, ⟨by omega, fun j hj => ?_⟩, by omega⟩
  by_cases h : j = i
  ·subst h; exact heq
  ·exact hlim j (by omega)
 ·have hAB : A = B := DF hb fun j hj => hlim j (by omega)
  exact aC.weak (by kernel_rfl) (cB (vs := [.mag A, .mag B, .int .i64 (nl A), .int .i64 i, .bool false]) (ps := []) (nx := 0) [] hv h0 rfl ⟨⟨rfl, aH rfl⟩, ⟨rfl, aH rfl⟩, ⟨rfl, aH rfl⟩, ⟨rfl, aH rfl⟩, ⟨rfl, aH rfl⟩, trivial⟩ trivial)
   (aC.fin hT bk hm 30 aes (by kernel_rfl) (eL (decide_eq_true hAB).symm))
def fZ : AV → Option Nat
 | .mag N => some N
 | .nil => some 0
 | _ => none
theorem jw {a : AV} {N : Nat} (h : fZ a = some N) : bB a (.mag N) := by
 cases a <;> simp only [fZ, reduceCtorEq, Option.some.injEq] at h
 case mag M => subst h; exact .refl _
 case nil => subst h; exact iP
def Dq : Spec := bw fun l => match l with
 | [a, b] => match fZ a, fZ b with
  | some A, some B => some (aG (.bool (decide (A = B))) [nl A < 2 ^ 40, nl B < 2 ^ 40])
  | _, _ => none
 | _ => none
theorem EW : ∀ K args pre r, Dq K args pre = some r → aA P qQ K args pre r := by
 refine bI fun K args r hk hs _ => ?_
 split at hs
 ·split at hs
  ·rename_i A B hA hB
   simp only [Option.some.injEq] at hs
   subst hs
   exact fun need => eR (adu need.1 need.2 K []) hk ⟨jw hA, jw hB, trivial⟩ [] trivial
  ·simp at hs
 ·simp at hs
abbrev nv : List Nat := [1, 5, 17, 18, 19]
abbrev nQ (n m : Nat) (z y : Nat → Nat) (K i : Nat) : List AV := [.ak 1 m (aj y), .own K 1 0 (n + m), .ak 1 n (aj z), .int .i64 n, .int .i64 i]
abbrev El : List Nat := [1, 5, 17, 18, 19, 6, 7, 8, 26, 27, 28]
abbrev FR (n m : Nat) (z y : Nat → Nat) (K i x c j : Nat) : List AV := [.ak 1 m (aj y), .own K 1 0 (n + m), .ak 1 n (aj z), .int .i64 n, .int .i64 i, .int .i64 i, .int .u32 x, .int .u64 c, .ak 1 m (aj y), .int .i64 m, .int .i64 j]
theorem Zp {n m : Nat} {z y : Nat → Nat} (hz : ∀ i, i < n → z i < 2 ^ 32) (hy : ∀ i, i < m → y i < 2 ^ 32) (hn : n < 2 ^ 40) (hm' : m < 2 ^ 40) (K : Nat) (pre : aD) :
  aA P s8 K [.ak 1 n (aj z), .ak 1 m (aj y)] pre (aG (.mag (val n z * val m y)) []) := by
 refine gZ hT aa5 rfl (of_decide_eq_true (by kernel_rfl)) rfl (fun _ c0 h0 => ?_) K pre
 refine aq.hole [1,1,0,1] (by kernel_rfl) (aC.aZ hT eW hm 30 nv SR (by kernel_rfl) ?_)
 have hw : IntKind.i64.wrap ((n : Int) + (m : Int)) = ((n + m : Nat) : Int) := by rw [wrap_i64 (by omega) (by omega)]; omega
 simp only [aa.all, ay, hw, Int.toNat_natCast]
 refine ⟨by omega, fun s' hv => ?_⟩
 refine aq.gh (i := 0) (y := part (au gD) [1,1,0,1,0,0]) (by kernel_rfl)
  (fun p : Nat × (Nat → Nat) => ⟨aB nv (nQ n m z y 7 p.1), [(7, ⟨true, true, 1, n + m, aj p.2⟩)], 8⟩)
  (fun p => p.1 ≤ n ∧ (∀ j, j < n + m → p.2 j < 2 ^ 32) ∧ (∀ j, p.1 + m ≤ j → p.2 j = 0) ∧ val (n + m) p.2 = val p.1 z * val m y)
  (fun p => n - p.1) (0, fun _ => 0)
  (cB [(7, 24576)] hv h0 rfl ⟨⟨rfl, aH rfl⟩, ⟨rfl, cF rfl rfl rfl⟩, ⟨rfl, aH rfl⟩, ⟨rfl, aH rfl⟩, ⟨rfl, aH rfl⟩, trivial⟩
   ⟨⟨_, _, rfl, rfl, ee rfl fun j _ => rfl⟩, trivial⟩)
  ⟨by simp, fun j _ => by simp, fun j _ => rfl, ?_⟩ ?_
 ·simp only
  rw [kq (k := 0) (by omega) fun _ _ _ => rfl]
  simp [val]
 rintro ⟨i, o⟩ ⟨hi, ho, ho0, hval⟩
 simp only at hi ho ho0 hval
 have next : ∀ {o' : Nat → Nat} {s' : aE}, i < n → aV nv s' = some (nQ n m z y 7 i, [(7, ⟨true, true, 1, n + m, aj o'⟩)]) → (∀ j, j < n + m → o' j < 2 ^ 32) → (∀ j, i + 1 + m ≤ j → o' j = 0) →
   val (n + m) o' = val (i + 1) z * val m y → ∀ {QF : ah → aE → Prop},
   aC P c0 gD.ntmps (behind (part (au gD) [1,1,0,1,0,0]) [1,1,0]) s' (cX (fun s' => ∃ k : Nat × (Nat → Nat), (∃ ρ, Le c0 ρ s' ⟨aB nv (nQ n m z y 7 k.1), [(7, ⟨true, true, 1, n + m, aj k.2⟩)], 8⟩) ∧
    (k.1 ≤ n ∧ (∀ j, j < n + m → k.2 j < 2 ^ 32) ∧ (∀ j, k.1 + m ≤ j → k.2 j = 0) ∧ val (n + m) k.2 = val k.1 z * val m y) ∧ n - k.1 < n - i) QF) := by
  intro o' s' hin hv g1 g2 g3 QF
  refine aC.weak (by kernel_rfl) (cB (vs := nQ n m z y 7 i) (ps := [(7, ⟨true, true, 1, n + m, aj o'⟩)]) (nx := 8) [(7, 7)] hv h0 rfl ⟨⟨rfl, aH rfl⟩, ⟨rfl, cF rfl rfl rfl⟩, ⟨rfl, aH rfl⟩, ⟨rfl, aH rfl⟩, ⟨rfl, aH rfl⟩, trivial⟩
    ⟨⟨_, _, rfl, rfl, ee rfl fun j _ => rfl⟩, trivial⟩)
   (aC.aZ hT eW hm 30 nv aen (by kernel_rfl) ?_)
  intro s' hv
  exact ⟨(i + 1, o'), cB [(7, 7)] hv h0 rfl ⟨⟨rfl, aH rfl⟩, ⟨rfl, cF rfl rfl rfl⟩, ⟨rfl, aH rfl⟩, ⟨rfl, aH rfl⟩, ⟨rfl, eH (by rw [wrap_i64 (by omega) (by omega)]; simp only; omega)⟩, trivial⟩
    ⟨⟨_, _, rfl, rfl, ee rfl fun j _ => rfl⟩, trivial⟩, ⟨by simp only; omega, g1, g2, g3⟩, by simp only; omega⟩
 refine aq.hole [1,1,0] (by kernel_rfl) (aC.aZ hT eW hm 30 nv aeh (by kernel_rfl) ?_)
 simp only [aa.all, decide_eq_true_eq, decide_eq_false_iff_not]
 refine ⟨fun h1 s' hv => ?_, fun h1 s' hv => ?_⟩
 ·have hin : i < n := by omega
  have hzi := hz i hin
  refine aq.jG (cB (vs := nQ n m z y 7 i) (ps := [(7, ⟨true, true, 1, n + m, aj o⟩)]) (nx := 8) [(7, 7)] hv h0 rfl ⟨⟨rfl, aH rfl⟩, ⟨rfl, cF rfl rfl rfl⟩, ⟨rfl, aH rfl⟩, ⟨rfl, aH rfl⟩, ⟨rfl, aH rfl⟩, trivial⟩
    ⟨⟨_, _, rfl, rfl, ee rfl fun j _ => rfl⟩, trivial⟩) ?_
  refine aq.m8 (i := 1) (y := part (au gD) [1,1,0,1,0,0,1,1,0,0]) (by kernel_rfl) ?_
  refine aq.hole [1,1,1,0,1] (by kernel_rfl) (aC.aZ hT eW hm 30 El RD (by kernel_rfl) ?_)
  simp only [aa.all, ay, Int.toNat_natCast, beq_iff_eq, beq_eq_false_iff_ne, ne_eq]
  refine ⟨by omega, fun hz0 s' hv => ?_, fun hz0 s' hv => ?_⟩
  ·refine dS ?_
   exact (next hin (fP (ls := nv) (l := [6, 7, 8, 26, 27, 28]) (vs := nQ n m z y 7 i) hv rfl rfl) ho (fun j hj => ho0 j (by omega)) (by rw [hval, val, show z i = 0 by omega]; simp))
  refine aq.gh (i := 2) (y := part (part (au gD) [1,1,0,1,0,0,1,1,0,0]) [1,1,1,0,1,0,0]) (by kernel_rfl)
   (fun p : Nat × Nat × (Nat → Nat) => ⟨aB El (FR n m z y 7 i (z i) p.2.1 p.1), [(7, ⟨true, true, 1, n + m, aj p.2.2⟩)], 8⟩)
   (fun p => p.1 ≤ m ∧ p.2.1 < 2 ^ 32 ∧ (∀ j, j < n + m → p.2.2 j < 2 ^ 32) ∧ (∀ j, i + m ≤ j → p.2.2 j = 0) ∧ val (n + m) p.2.2 + p.2.1 * 2 ^ (32 * (i + p.1)) = val i z * val m y + z i * val p.1 y * 2 ^ (32 * i))
   (fun p => m - p.1) (0, 0, o)
   (cB [(7, 7)] hv h0 rfl ⟨⟨rfl, aH rfl⟩, ⟨rfl, cF rfl rfl rfl⟩, ⟨rfl, aH rfl⟩, ⟨rfl, aH rfl⟩, ⟨rfl, aH rfl⟩, ⟨rfl, aH rfl⟩, ⟨rfl, aH rfl⟩, ⟨rfl, aH rfl⟩, ⟨rfl, aH rfl⟩, ⟨rfl, aH rfl⟩, ⟨rfl, aH rfl⟩, trivial⟩
    ⟨⟨_, _, rfl, rfl, ee rfl fun j _ => rfl⟩, trivial⟩)
   ⟨by simp, by simp, ho, ho0, by simp [val, hval]⟩ ?_
  rintro ⟨j, c, o⟩ ⟨hj, hc, ho, ho0, hval⟩
  simp only at hj hc ho ho0 hval
  refine aq.aZ hT eW hm 30 El VG (by kernel_rfl) ?_
  have hij : IntKind.i64.wrap ((i : Int) + (j : Int)) = ((i + j : Nat) : Int) := by rw [wrap_i64 (by omega) (by omega)]; omega
  simp only [aa.all, ay, decide_eq_true_eq, decide_eq_false_iff_not, hij, Int.toNat_natCast, Nat.add_zero, beq_iff_eq]
  refine ⟨fun h2 => ?_, fun h2 s' hv => dS ?_⟩
  ·have hjm : j < m := by omega
   obtain ⟨m1, m2, m3⟩ := LJ hc hzi (hy j hjm) (ho (i + j) (by omega))
   rw [m1]
   refine ⟨by omega, by omega, by omega, by omega, fun s' hv => ⟨(j + 1, (c + z i * y j + o (i + j)) / 4294967296, bJ o (i + j) ((c + z i * y j + o (i + j)) % 4294967296)), ?_, ⟨by simp only; omega, m3, fH (by omega) ho, fun k hk => ?_, ?_⟩, by simp only; omega⟩⟩
   ·refine cB [(7, 7)] hv h0 rfl ⟨⟨rfl, aH rfl⟩, ⟨rfl, cF rfl rfl rfl⟩, ⟨rfl, aH rfl⟩, ⟨rfl, aH rfl⟩, ⟨rfl, aH rfl⟩, ⟨rfl, aH rfl⟩, ⟨rfl, aH rfl⟩, ⟨rfl, eH ?_⟩, ⟨rfl, aH rfl⟩, ⟨rfl, aH rfl⟩, ⟨rfl, eH ?_⟩, trivial⟩
     ⟨⟨_, _, rfl, rfl, ee rfl fun k _ => e9 (by rw [gU]) k⟩, trivial⟩
    ·rw [jq]; simp only; omega
    ·rw [wrap_i64 (by omega) (by omega)]; simp only; omega
   ·exact (ej (by omega)).trans (ho0 k hk)
   ·simp only
    rw [show 32 * (i + (j + 1)) = 32 * ((i + j) + 1) by omega, fu, val]
    have hset := BZ (o := o) (x := (c + z i * y j + o (i + j)) % 4294967296) (show i + j < n + m by omega)
    exact IC rfl (Nat.div_add_mod _ _) hset (by rw [← Nat.pow_add]; congr 1; omega) hval
  ·have hjm : j = m := by omega
   subst hjm
   refine aC.weak (by kernel_rfl) (cB (vs := FR n j z y 7 i (z i) c j) (ps := [(7, ⟨true, true, 1, n + j, aj o⟩)]) (nx := 8) [(7, 7)] hv h0 rfl
     ⟨⟨rfl, aH rfl⟩, ⟨rfl, cF rfl rfl rfl⟩, ⟨rfl, aH rfl⟩, ⟨rfl, aH rfl⟩, ⟨rfl, aH rfl⟩, ⟨rfl, aH rfl⟩, ⟨rfl, aH rfl⟩, ⟨rfl, aH rfl⟩, ⟨rfl, aH rfl⟩, ⟨rfl, aH rfl⟩, ⟨rfl, aH rfl⟩, trivial⟩
     ⟨⟨_, _, rfl, rfl, ee rfl fun j _ => rfl⟩, trivial⟩)
    (aC.aZ hT eW hm 30 nv WG (by kernel_rfl) ?_)
   simp only [aa.all, ay, hij, Int.toNat_natCast, Nat.add_zero, beq_iff_eq]
   refine ⟨by omega, fun s' hv => ?_⟩
   have hf : (fun k => if k = i + j then AV.int .u32 (IntKind.u32.wrap (c : Int)) else aj o k) = aj (bJ o (i + j) c) := by
    funext k
    exact e9 (wrap_u32 (by omega) (by omega)) k
   rw [hf] at hv
   refine next hin hv (fH hc ho) (fun k hk => (ej (by omega)).trans (ho0 k (by omega))) ?_
   rw [oZ (by omega) (ho0 _ (by omega)), hval, val, Nat.add_mul, Nat.mul_assoc, Nat.mul_assoc, Nat.mul_comm (val j y)]
 ·have hin : i = n := by omega
  subst hin
  refine oQ (dS ?_)
  refine (aC.weak (by kernel_rfl) (cB (vs := nQ i m z y 7 i) (ps := [(7, ⟨true, true, 1, i + m, aj o⟩)]) (nx := 8) [(7, 7)] hv h0 rfl ⟨⟨rfl, aH rfl⟩, ⟨rfl, cF rfl rfl rfl⟩, ⟨rfl, aH rfl⟩, ⟨rfl, aH rfl⟩, ⟨rfl, aH rfl⟩, trivial⟩
    ⟨⟨_, _, rfl, rfl, ee rfl fun j _ => rfl⟩, trivial⟩)
   (aC.fin hT eW hm 30 Og (by kernel_rfl) ?_))
  simp only [aa.all, ay, Nat.add_zero, gV]
  exact ⟨⟨eJ ho, by omega⟩, cI (congrArg AV.mag hval)⟩
def JK (A n B m : Nat) : cy := aG (.mag (A * B)) [n < 2 ^ 40, m < 2 ^ 40]
theorem ab7 : ∀ K args pre r, bw (fJ JK) K args pre = some r → aA P s8 K args pre r :=
 bI (rm fun _ _ _ _ K hz hy need => Zp hz hy need.1 need.2 K [])
end Go.Am.B
