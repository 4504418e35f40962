/- slices.Clone, slices.Equal, natural.Mul. -/
import Derived.Test.YtnocdkaonpdmjaaGreatB5
set_option linter.unusedVariables false
namespace Go.Am.B
open Go Go.Am.N AV
theorem K0 : aO P nP wI (ax wI) := aP OP (by kernel_rfl) (by kernel_rfl) (by kernel_rfl)
theorem RR : aO P pV l5 (ax l5) := aP Uq (by kernel_rfl) (by kernel_rfl) (by kernel_rfl)
theorem SY : aO P uV gA (ax gA) := aP X9 (by kernel_rfl) (by kernel_rfl) (by kernel_rfl)
theorem OW {n : Nat} {b : Bool} {f : Nat → AV} : bB T [] [4] 30 wI (ax wI) ⟨aL 0 [.cL b 1 n f], [], 0⟩ =
  some (aa.fork b (aa.leaf aj.ret [nil]) (aa.ag [(0 : Nat) * 1 ≤ 2 ^ 24, ((0 : Nat) + n) * ((4 : Nat) + 1) * 2 ≤ 2 ^ 47] (aa.leaf aj.ret [ak 1 ((0 : Nat) + n) fun (i : Nat) ↦ if i + 0 < 0 then nth [] (int IntKind.u32 (0 : Int)) (i + 0) else f (i + 0 - 0)]))) := by kernel_rfl
theorem acg {A B : Nat} : aI T [] [10] 30 [0, 1, 12, 13, 4] (before (ax l5) [1,1,0,1]) ⟨aL 0 [.mag A, .mag B], [], 0⟩ =
  some (aa.fork ((↑(nl A) : Int) != (↑(nl B) : Int)) (aa.leaf aj.ret ([mag A, mag B, tuple [], tuple [], AV.bool false], [])) (aa.leaf aj.normal ([mag A, mag B, int IntKind.i64 (↑(nl A) : Int), int IntKind.i64 (0 : Int), AV.bool false], []))) := by kernel_rfl
theorem Yi {A B i : Nat} : aI T [] [14, 24] 30 [0, 1, 12, 13, 4] [part (ax l5) [1,1,0,1,0,0]] ⟨aC [0, 1, 12, 13, 4] [.mag A, .mag B, .int .i64 (nl A), .int .i64 i, .bool false], [], 0⟩ =
  some (aa.fork (decide ((↑i : Int) < (↑(nl A) : Int))) (aa.ag [(0 : Int) ≤ (↑i : Int) ∧ (↑i : Int).toNat < nl A, (0 : Int) ≤ (↑i : Int) ∧ (↑i : Int).toNat < nl B] (aa.fork ((↑(au A (↑i : Int).toNat) : Int) != (↑(au B (↑i : Int).toNat) : Int)) (aa.leaf aj.ret ([mag A, mag B, int IntKind.i64 (↑(nl A) : Int), int IntKind.i64 (↑i : Int), AV.bool false], [])) (aa.leaf aj.normal ([mag A, mag B, int IntKind.i64 (↑(nl A) : Int), int IntKind.i64 (IntKind.i64.wrap ((↑i : Int) + (1 : Int))), AV.bool false], [])))) (aa.leaf (aj.exit 0) ([mag A, mag B, int IntKind.i64 (↑(nl A) : Int), int IntKind.i64 (↑i : Int), AV.bool false], []))) := by kernel_rfl
theorem acf {A B i : Nat} : cq T [] [] 30 l5 (behind (ax l5) [1,1,0,1]) ⟨aC [0, 1, 12, 13, 4] [.mag A, .mag B, .int .i64 (nl A), .int .i64 i, .bool false], [], 0⟩ =
  some (aa.leaf aj.ret [AV.bool true]) := by kernel_rfl
theorem SR {n m : Nat} {z y : Nat → Nat} : aI T G1 [] 30 [1, 5, 17, 18, 19] (before (ax gA) [1,1,0,1]) ⟨aL 0 [.ak 1 n (ah z), .ak 1 m (ah y)], [], 0⟩ =
  some (aa.ag [(0 : Int) ≤ IntKind.i64.wrap ((↑n : Int) + (↑m : Int)) ∧ IntKind.i64.wrap ((↑n : Int) + (↑m : Int)) ≤ IntKind.i64.wrap ((↑n : Int) + (↑m : Int)) ∧ IntKind.i64.wrap ((↑n : Int) + (↑m : Int)) ≤ (2 : Int) ^ 47 ∧ IntKind.i64.wrap ((↑n : Int) + (↑m : Int)) * (↑(4 : Nat) : Int) ≤ (2 : Int) ^ 47] (aa.leaf aj.normal ([ak 1 m (ah y), own 24576 1 0 (IntKind.i64.wrap ((↑n : Int) + (↑m : Int))).toNat, ak 1 n (ah z), int IntKind.i64 (↑n : Int), int IntKind.i64 (0 : Int)], [((24576 : Nat), ⟨true, true, 1, (IntKind.i64.wrap ((↑n : Int) + (↑m : Int))).toNat, fun (x : Nat) ↦ int IntKind.u32 (0 : Int)⟩)]))) := by kernel_rfl
theorem Ss {n m i : Nat} {z y o : Nat → Nat} : aI T G1 [20] 30 [1, 5, 17, 18, 19] (before (part (ax gA) [1,1,0,1,0,0]) [1,1,0]) ⟨aC [1, 5, 17, 18, 19] [.ak 1 m (ah y), .own 7 1 0 (n + m), .ak 1 n (ah z), .int .i64 n, .int .i64 i], [(7, ⟨true, true, 1, n + m, ah o⟩)], 8⟩ =
  some (aa.fork (decide ((↑i : Int) < (↑n : Int))) (aa.leaf aj.normal ([ak 1 m (ah y), own 7 1 0 (n + m), ak 1 n (ah z), int IntKind.i64 (↑n : Int), int IntKind.i64 (↑i : Int)], [((7 : Nat), ⟨true, true, 1, n + m, ah o⟩)])) (aa.leaf (aj.exit 0) ([ak 1 m (ah y), own 7 1 0 (n + m), ak 1 n (ah z), int IntKind.i64 (↑n : Int), int IntKind.i64 (↑i : Int)], [((7 : Nat), ⟨true, true, 1, n + m, ah o⟩)]))) := by kernel_rfl
theorem Nb {n m i : Nat} {z y o : Nat → Nat} : aI T G1 [25] 30 [1, 5, 17, 18, 19, 6, 7, 8, 26, 27, 28] (before (part (ax gA) [1,1,0,1,0,0,1,1,0,0]) [1,1,1,0,1]) ⟨aC [1, 5, 17, 18, 19] [.ak 1 m (ah y), .own 7 1 0 (n + m), .ak 1 n (ah z), .int .i64 n, .int .i64 i], [(7, ⟨true, true, 1, n + m, ah o⟩)], 8⟩ =
  some (aa.ag [(0 : Int) ≤ (↑i : Int) ∧ (↑i : Int).toNat < n] (aa.fork ((↑(z (↑i : Int).toNat) : Int) == (0 : Int)) (aa.leaf (aj.exit 1) ([ak 1 m (ah y), own 7 1 0 (n + m), ak 1 n (ah z), int IntKind.i64 (↑n : Int), int IntKind.i64 (↑i : Int), int IntKind.i64 (↑i : Int), int IntKind.u32 (↑(z (↑i : Int).toNat) : Int), tuple [], tuple [], tuple [], tuple []], [((7 : Nat), ⟨true, true, 1, n + m, ah o⟩)])) (aa.leaf aj.normal ([ak 1 m (ah y), own 7 1 0 (n + m), ak 1 n (ah z), int IntKind.i64 (↑n : Int), int IntKind.i64 (↑i : Int), int IntKind.i64 (↑i : Int), int IntKind.u32 (↑(z (↑i : Int).toNat) : Int), int IntKind.u64 (0 : Int), ak 1 m (ah y), int IntKind.i64 (↑m : Int), int IntKind.i64 (0 : Int)], [((7 : Nat), ⟨true, true, 1, n + m, ah o⟩)])))) := by kernel_rfl
theorem NT {n m i j x c : Nat} {z y o : Nat → Nat} : aI T G1 [29] 30 [1, 5, 17, 18, 19, 6, 7, 8, 26, 27, 28] [part (part (ax gA) [1,1,0,1,0,0,1,1,0,0]) [1,1,1,0,1,0,0]] ⟨aC [1, 5, 17, 18, 19, 6, 7, 8, 26, 27, 28] [.ak 1 m (ah y), .own 7 1 0 (n + m), .ak 1 n (ah z), .int .i64 n, .int .i64 i, .int .i64 i, .int .u32 x, .int .u64 c, .ak 1 m (ah y), .int .i64 m, .int .i64 j], [(7, ⟨true, true, 1, n + m, ah o⟩)], 8⟩ =
  some (aa.fork (decide ((↑j : Int) < (↑m : Int))) (aa.ag [(0 : Int) ≤ (↑j : Int) ∧ (↑j : Int).toNat < m] (aa.ag [(0 : Int) ≤ IntKind.i64.wrap ((↑i : Int) + (↑j : Int)) ∧ (IntKind.i64.wrap ((↑i : Int) + (↑j : Int))).toNat < n + m, (IntKind.i64.wrap ((↑i : Int) + (↑j : Int))).toNat + 0 < n + m] (aa.ag [(0 : Int) ≤ IntKind.i64.wrap ((↑i : Int) + (↑j : Int)) ∧ (IntKind.i64.wrap ((↑i : Int) + (↑j : Int))).toNat < n + m, (IntKind.i64.wrap ((↑i : Int) + (↑j : Int))).toNat + 0 < n + m] (aa.ag [(0 : Int) ≤ (32 : Int)] (aa.leaf aj.normal ([ak 1 m (ah y), own 7 1 0 (n + m), ak 1 n (ah z), int IntKind.i64 (↑n : Int), int IntKind.i64 (↑i : Int), int IntKind.i64 (↑i : Int), int IntKind.u32 (↑x : Int), int IntKind.u64 ((IntKind.u64.wrap ((↑c : Int) + IntKind.u64.wrap (IntKind.u64.wrap (IntKind.u64.wrap (↑x : Int) * IntKind.u64.wrap (↑(y (↑j : Int).toNat) : Int)) + IntKind.u64.wrap (↑(o ((IntKind.i64.wrap ((↑i : Int) + (↑j : Int))).toNat + 0)) : Int)))).fdiv ((2 : Int) ^ min (Int.toNat (32 : Int)) IntKind.u64.bits)), ak 1 m (ah y), int IntKind.i64 (↑m : Int), int IntKind.i64 (IntKind.i64.wrap ((↑j : Int) + (1 : Int)))], [((7 : Nat), ⟨true, true, 1, n + m, fun (j_1 : Nat) ↦ if (j_1 == (IntKind.i64.wrap ((↑i : Int) + (↑j : Int))).toNat + 0) = true then int IntKind.u32 (IntKind.u32.wrap (IntKind.u64.wrap ((↑c : Int) + IntKind.u64.wrap (IntKind.u64.wrap (IntKind.u64.wrap (↑x : Int) * IntKind.u64.wrap (↑(y (↑j : Int).toNat) : Int)) + IntKind.u64.wrap (↑(o ((IntKind.i64.wrap ((↑i : Int) + (↑j : Int))).toNat + 0)) : Int))))) else ah o j_1⟩)])))))) (aa.leaf (aj.exit 2) ([ak 1 m (ah y), own 7 1 0 (n + m), ak 1 n (ah z), int IntKind.i64 (↑n : Int), int IntKind.i64 (↑i : Int), int IntKind.i64 (↑i : Int), int IntKind.u32 (↑x : Int), int IntKind.u64 (↑c : Int), ak 1 m (ah y), int IntKind.i64 (↑m : Int), int IntKind.i64 (↑j : Int)], [((7 : Nat), ⟨true, true, 1, n + m, ah o⟩)]))) := by kernel_rfl
theorem T1 {n m i j x c : Nat} {z y o : Nat → Nat} : aI T G1 [] 30 [1, 5, 17, 18, 19] (behind (part (ax gA) [1,1,0,1,0,0,1,1,0,0]) [1,1,1,0,1]) ⟨aC [1, 5, 17, 18, 19, 6, 7, 8, 26, 27, 28] [.ak 1 m (ah y), .own 7 1 0 (n + m), .ak 1 n (ah z), .int .i64 n, .int .i64 i, .int .i64 i, .int .u32 x, .int .u64 c, .ak 1 m (ah y), .int .i64 m, .int .i64 j], [(7, ⟨true, true, 1, n + m, ah o⟩)], 8⟩ =
  some (aa.ag [(0 : Int) ≤ IntKind.i64.wrap ((↑i : Int) + (↑m : Int)) ∧ (IntKind.i64.wrap ((↑i : Int) + (↑m : Int))).toNat < n + m, (IntKind.i64.wrap ((↑i : Int) + (↑m : Int))).toNat + 0 < n + m] (aa.leaf aj.normal ([ak 1 m (ah y), own 7 1 0 (n + m), ak 1 n (ah z), int IntKind.i64 (↑n : Int), int IntKind.i64 (↑i : Int)], [((7 : Nat), ⟨true, true, 1, n + m, fun (j : Nat) ↦ if (j == (IntKind.i64.wrap ((↑i : Int) + (↑m : Int))).toNat + 0) = true then int IntKind.u32 (IntKind.u32.wrap (↑c : Int)) else ah o j⟩)]))) := by kernel_rfl
theorem Qm {n m i : Nat} {z y o : Nat → Nat} : aI T G1 [] 30 [1, 5, 17, 18, 19] (behind (part (ax gA) [1,1,0,1,0,0]) [1,1,0]) ⟨aC [1, 5, 17, 18, 19] [.ak 1 m (ah y), .own 7 1 0 (n + m), .ak 1 n (ah z), .int .i64 n, .int .i64 i], [(7, ⟨true, true, 1, n + m, ah o⟩)], 8⟩ =
  some (aa.leaf aj.normal ([ak 1 m (ah y), own 7 1 0 (n + m), ak 1 n (ah z), int IntKind.i64 (↑n : Int), int IntKind.i64 (IntKind.i64.wrap ((↑i : Int) + (1 : Int)))], [((7 : Nat), ⟨true, true, 1, n + m, ah o⟩)])) := by kernel_rfl
theorem TY {n m i : Nat} {z y o : Nat → Nat} : cq T G1 [] 30 gA (behind (ax gA) [1,1,0,1]) ⟨aC [1, 5, 17, 18, 19] [.ak 1 m (ah y), .own 7 1 0 (n + m), .ak 1 n (ah z), .int .i64 n, .int .i64 i], [(7, ⟨true, true, 1, n + m, ah o⟩)], 8⟩ =
  some (aa.ag [cO (n + m) fun (i : Nat) ↦ ah o (i + 0), n + m < 2 ^ 62] (aa.leaf aj.ret [mag (val (n + m) fun (i : Nat) ↦ numOf (ah o (i + 0)))])) := by kernel_rfl
theorem A5 {n : Nat} {f : Nat → AV} (hn : n < 2 ^ 40) (K : Nat) : aA P nP K [.ak 1 n f] [] (aG (.ak 1 n f) []) := by
 refine Gn fun b hb => ?_
 refine bH hT bn hm K0 rfl (of_decide_eq_true (by kernel_rfl)) rfl 30 OW (fun _ => ?_) K []
 simp only [aa.all, ay]
 refine ⟨fun h => ?_, fun h => ⟨⟨by omega, by omega⟩, wD (by omega) fun i hi => by simp⟩⟩
 rw [hb h]
 exact jf (by omega)
def Ao : Spec := bu fun l => match l with
 | [.mag N] => some (aG (.mag N) [nl N < 2 ^ 40])
 | [.nil] => some (aG (.mag 0) [])
 | [.ak es n f] => if es == 1 then some (aG (.ak 1 n f) [n < 2 ^ 40]) else none
 | _ => none
theorem CY : ∀ K args pre r, Ao K args pre = some r → aA P nP K args pre r := by
 refine bN fun K args r hk hs _ => ?_
 split at hs
 ·rename_i N
  simp only [Option.some.injEq] at hs
  subst hs
  intro need
  have := fc (args := [.mag N]) (A5 (n := nl N) (f := fun i => .int .u32 (au N i)) need K) rfl ⟨Jb rfl fun i hi => rfl, trivial⟩ []
  exact I0 (l' := []) this id rfl rfl (jd rfl fun i hi => rfl) trivial
 ·simp only [Option.some.injEq] at hs
  subst hs
  intro need
  have := fc (args := [.nil]) (A5 (n := 0) (f := fun _ => .nil) (by omega) K) rfl ⟨jf (by omega), trivial⟩ []
  exact I0 (l' := []) this id rfl rfl (jd (by simp [nl]) fun i hi => by omega) trivial
 ·rename_i es n f
  split at hs
  ·rename_i he
   have he : es = 1 := by simpa using he
   subst he
   simp only [Option.some.injEq] at hs
   subst hs
   exact fun need => A5 need K trivial
  ·simp at hs
 ·simp at hs
theorem U9 {A B : Nat} (hA : nl A < 2 ^ 40) (hB : nl B < 2 ^ 40) (K : Nat) (pre : aD) : aA P pV K [.mag A, .mag B] pre (aG (.bool (decide (A = B))) []) := by
 refine gQ hT RR rfl (of_decide_eq_true (by kernel_rfl)) rfl (fun _ c h0 => ?_) K pre
 refine aq.hole [1,1,0,1] (by kernel_rfl) (aB.aX hT bn hm 30 [0, 1, 12, 13, 4] acg (by kernel_rfl) ?_)
 simp only [aa.all, bne_iff_ne, ne_eq, Int.natCast_inj, bne_eq_false_iff_eq]
 refine ⟨fun hb s' hv => ?_, fun hb s' hv => ?_⟩
 ·exact eM (us := [.bool false]) (.inr rfl) hv (by kernel_rfl) (eO (decide_eq_false fun h => hb (by rw [h])).symm)
 refine aq.gp (i := 0) (y := part (ax l5) [1,1,0,1,0,0]) (by kernel_rfl)
  (fun i : Nat => ⟨aC [0, 1, 12, 13, 4] [.mag A, .mag B, .int .i64 (nl A), .int .i64 i, .bool false], [], 0⟩)
  (fun i => i ≤ nl A ∧ ∀ j, j < i → au A j = au B j) (fun i => nl A - i) 0
  (cC [] hv h0 rfl ⟨⟨rfl, aF rfl⟩, ⟨rfl, aF rfl⟩, ⟨rfl, aF rfl⟩, ⟨rfl, aF rfl⟩, ⟨rfl, aF rfl⟩, trivial⟩ trivial) ⟨by omega, fun j h => by omega⟩ ?_
 rintro i ⟨hi, hlim⟩
 refine aq.aX hT bn hm 30 [0, 1, 12, 13, 4] Yi (by kernel_rfl) ?_
 simp only [aa.all, ay, decide_eq_true_eq, decide_eq_false_iff_not, bne_iff_ne, ne_eq, Int.natCast_inj, bne_eq_false_iff_eq, Int.toNat_natCast]
 refine ⟨fun h1 => ⟨⟨by omega, by omega⟩, fun hne s' hv => ?_, fun heq s' hv => ?_⟩, fun h1 s' hv => ?_⟩
 ·exact eM (us := [.bool false]) (.inr rfl) hv (by kernel_rfl) (eO (decide_eq_false fun h => hne (by rw [h])).symm)
 ·refine ⟨i + 1, cC [] hv h0 rfl ⟨⟨rfl, aF rfl⟩, ⟨rfl, aF rfl⟩, ⟨rfl, aF rfl⟩, ⟨rfl, eG (by rw [wrap_i64 (by omega) (by omega)]; omega)⟩, ⟨rfl, aF rfl⟩, trivial⟩ trivial, ⟨by omega, fun j hj => ?_⟩, by omega⟩
  by_cases h : j = i
  ·subst h; exact heq
  ·exact hlim j (by omega)
 ·have hAB : A = B := CV hb fun j hj => hlim j (by omega)
  exact aB.weak (by kernel_rfl) (cC (vs := [.mag A, .mag B, .int .i64 (nl A), .int .i64 i, .bool false]) (ps := []) (nx := 0) [] hv h0 rfl ⟨⟨rfl, aF rfl⟩, ⟨rfl, aF rfl⟩, ⟨rfl, aF rfl⟩, ⟨rfl, aF rfl⟩, ⟨rfl, aF rfl⟩, trivial⟩ trivial)
   (aB.fin hT bn hm 30 acf (by kernel_rfl) (eO (decide_eq_true hAB).symm))
def gm : AV → Option Nat
 | .mag N => some N
 | .nil => some 0
 | _ => none
theorem jg {a : AV} {N : Nat} (h : gm a = some N) : bA a (.mag N) := by
 cases a <;> simp only [gm, reduceCtorEq, Option.some.injEq] at h
 case mag M => subst h; exact .refl _
 case nil => subst h; exact iG
def Bb : Spec := bu fun l => match l with
 | [a, b] => match gm a, gm b with
  | some A, some B => some (aG (.bool (decide (A = B))) [nl A < 2 ^ 40, nl B < 2 ^ 40])
  | _, _ => none
 | _ => none
theorem Ge : ∀ K args pre r, Bb K args pre = some r → aA P pV K args pre r := by
 refine bN fun K args r hk hs _ => ?_
 split at hs
 ·split at hs
  ·rename_i A B hA hB
   simp only [Option.some.injEq] at hs
   subst hs
   exact fun need => fc (U9 need.1 need.2 K []) hk ⟨jg hA, jg hB, trivial⟩ [] trivial
  ·simp at hs
 ·simp at hs
abbrev ni : List Nat := [1, 5, 17, 18, 19]
abbrev nY (n m : Nat) (z y : Nat → Nat) (K i : Nat) : List AV := [.ak 1 m (ah y), .own K 1 0 (n + m), .ak 1 n (ah z), .int .i64 n, .int .i64 i]
abbrev CH : List Nat := [1, 5, 17, 18, 19, 6, 7, 8, 26, 27, 28]
abbrev Gm (n m : Nat) (z y : Nat → Nat) (K i x c j : Nat) : List AV := [.ak 1 m (ah y), .own K 1 0 (n + m), .ak 1 n (ah z), .int .i64 n, .int .i64 i, .int .i64 i, .int .u32 x, .int .u64 c, .ak 1 m (ah y), .int .i64 m, .int .i64 j]
theorem V5 {n m : Nat} {z y : Nat → Nat} (hz : ∀ i, i < n → z i < 2 ^ 32) (hy : ∀ i, i < m → y i < 2 ^ 32) (hn : n < 2 ^ 40) (hm' : m < 2 ^ 40) (K : Nat) (pre : aD) :
  aA P uV K [.ak 1 n (ah z), .ak 1 m (ah y)] pre (aG (.mag (val n z * val m y)) []) := by
 refine gQ hT SY rfl (of_decide_eq_true (by kernel_rfl)) rfl (fun _ c0 h0 => ?_) K pre
 refine aq.hole [1,1,0,1] (by kernel_rfl) (aB.aX hT e9 hm 30 ni SR (by kernel_rfl) ?_)
 have hw : IntKind.i64.wrap ((n : Int) + (m : Int)) = ((n + m : Nat) : Int) := by rw [wrap_i64 (by omega) (by omega)]; omega
 simp only [aa.all, ay, hw, Int.toNat_natCast]
 refine ⟨by omega, fun s' hv => ?_⟩
 refine aq.gp (i := 0) (y := part (ax gA) [1,1,0,1,0,0]) (by kernel_rfl)
  (fun p : Nat × (Nat → Nat) => ⟨aC ni (nY n m z y 7 p.1), [(7, ⟨true, true, 1, n + m, ah p.2⟩)], 8⟩)
  (fun p => p.1 ≤ n ∧ (∀ j, j < n + m → p.2 j < 2 ^ 32) ∧ (∀ j, p.1 + m ≤ j → p.2 j = 0) ∧ val (n + m) p.2 = val p.1 z * val m y)
  (fun p => n - p.1) (0, fun _ => 0)
  (cC [(7, 24576)] hv h0 rfl ⟨⟨rfl, aF rfl⟩, ⟨rfl, cF rfl rfl rfl⟩, ⟨rfl, aF rfl⟩, ⟨rfl, aF rfl⟩, ⟨rfl, aF rfl⟩, trivial⟩
   ⟨⟨_, _, rfl, rfl, dZ rfl fun j _ => rfl⟩, trivial⟩)
  ⟨by simp, fun j _ => by simp, fun j _ => rfl, ?_⟩ ?_
 ·simp only
  rw [jY (k := 0) (by omega) fun _ _ _ => rfl]
  simp [val]
 rintro ⟨i, o⟩ ⟨hi, ho, ho0, hval⟩
 simp only at hi ho ho0 hval
 have next : ∀ {o' : Nat → Nat} {s' : aE}, i < n → aU ni s' = some (nY n m z y 7 i, [(7, ⟨true, true, 1, n + m, ah o'⟩)]) → (∀ j, j < n + m → o' j < 2 ^ 32) → (∀ j, i + 1 + m ≤ j → o' j = 0) →
   val (n + m) o' = val (i + 1) z * val m y → ∀ {QF : aj → aE → Prop},
   aB P c0 gA.ntmps (behind (part (ax gA) [1,1,0,1,0,0]) [1,1,0]) s' (cP (fun s' => ∃ k : Nat × (Nat → Nat), (∃ ρ, Le c0 ρ s' ⟨aC ni (nY n m z y 7 k.1), [(7, ⟨true, true, 1, n + m, ah k.2⟩)], 8⟩) ∧
    (k.1 ≤ n ∧ (∀ j, j < n + m → k.2 j < 2 ^ 32) ∧ (∀ j, k.1 + m ≤ j → k.2 j = 0) ∧ val (n + m) k.2 = val k.1 z * val m y) ∧ n - k.1 < n - i) QF) := by
  intro o' s' hin hv g1 g2 g3 QF
  refine aB.weak (by kernel_rfl) (cC (vs := nY n m z y 7 i) (ps := [(7, ⟨true, true, 1, n + m, ah o'⟩)]) (nx := 8) [(7, 7)] hv h0 rfl ⟨⟨rfl, aF rfl⟩, ⟨rfl, cF rfl rfl rfl⟩, ⟨rfl, aF rfl⟩, ⟨rfl, aF rfl⟩, ⟨rfl, aF rfl⟩, trivial⟩
    ⟨⟨_, _, rfl, rfl, dZ rfl fun j _ => rfl⟩, trivial⟩)
   (aB.aX hT e9 hm 30 ni Qm (by kernel_rfl) ?_)
  intro s' hv
  exact ⟨(i + 1, o'), cC [(7, 7)] hv h0 rfl ⟨⟨rfl, aF rfl⟩, ⟨rfl, cF rfl rfl rfl⟩, ⟨rfl, aF rfl⟩, ⟨rfl, aF rfl⟩, ⟨rfl, eG (by rw [wrap_i64 (by omega) (by omega)]; simp only; omega)⟩, trivial⟩
    ⟨⟨_, _, rfl, rfl, dZ rfl fun j _ => rfl⟩, trivial⟩, ⟨by simp only; omega, g1, g2, g3⟩, by simp only; omega⟩
 refine aq.hole [1,1,0] (by kernel_rfl) (aB.aX hT e9 hm 30 ni Ss (by kernel_rfl) ?_)
 simp only [aa.all, decide_eq_true_eq, decide_eq_false_iff_not]
 refine ⟨fun h1 s' hv => ?_, fun h1 s' hv => ?_⟩
 ·have hin : i < n := by omega
  have hzi := hz i hin
  refine aq.jK (cC (vs := nY n m z y 7 i) (ps := [(7, ⟨true, true, 1, n + m, ah o⟩)]) (nx := 8) [(7, 7)] hv h0 rfl ⟨⟨rfl, aF rfl⟩, ⟨rfl, cF rfl rfl rfl⟩, ⟨rfl, aF rfl⟩, ⟨rfl, aF rfl⟩, ⟨rfl, aF rfl⟩, trivial⟩
    ⟨⟨_, _, rfl, rfl, dZ rfl fun j _ => rfl⟩, trivial⟩) ?_
  refine aq.m9 (i := 1) (y := part (ax gA) [1,1,0,1,0,0,1,1,0,0]) (by kernel_rfl) ?_
  refine aq.hole [1,1,1,0,1] (by kernel_rfl) (aB.aX hT e9 hm 30 CH Nb (by kernel_rfl) ?_)
  simp only [aa.all, ay, Int.toNat_natCast, beq_iff_eq, beq_eq_false_iff_ne, ne_eq]
  refine ⟨by omega, fun hz0 s' hv => ?_, fun hz0 s' hv => ?_⟩
  ·refine dQ ?_
   exact (next hin (fV (ls := ni) (l := [6, 7, 8, 26, 27, 28]) (vs := nY n m z y 7 i) hv rfl rfl) ho (fun j hj => ho0 j (by omega)) (by rw [hval, val, show z i = 0 by omega]; simp))
  refine aq.gp (i := 2) (y := part (part (ax gA) [1,1,0,1,0,0,1,1,0,0]) [1,1,1,0,1,0,0]) (by kernel_rfl)
   (fun p : Nat × Nat × (Nat → Nat) => ⟨aC CH (Gm n m z y 7 i (z i) p.2.1 p.1), [(7, ⟨true, true, 1, n + m, ah p.2.2⟩)], 8⟩)
   (fun p => p.1 ≤ m ∧ p.2.1 < 2 ^ 32 ∧ (∀ j, j < n + m → p.2.2 j < 2 ^ 32) ∧ (∀ j, i + m ≤ j → p.2.2 j = 0) ∧ val (n + m) p.2.2 + p.2.1 * 2 ^ (32 * (i + p.1)) = val i z * val m y + z i * val p.1 y * 2 ^ (32 * i))
   (fun p => m - p.1) (0, 0, o)
   (cC [(7, 7)] hv h0 rfl ⟨⟨rfl, aF rfl⟩, ⟨rfl, cF rfl rfl rfl⟩, ⟨rfl, aF rfl⟩, ⟨rfl, aF rfl⟩, ⟨rfl, aF rfl⟩, ⟨rfl, aF rfl⟩, ⟨rfl, aF rfl⟩, ⟨rfl, aF rfl⟩, ⟨rfl, aF rfl⟩, ⟨rfl, aF rfl⟩, ⟨rfl, aF rfl⟩, trivial⟩
    ⟨⟨_, _, rfl, rfl, dZ rfl fun j _ => rfl⟩, trivial⟩)
   ⟨by simp, by simp, ho, ho0, by simp [val, hval]⟩ ?_
  rintro ⟨j, c, o⟩ ⟨hj, hc, ho, ho0, hval⟩
  simp only at hj hc ho ho0 hval
  refine aq.aX hT e9 hm 30 CH NT (by kernel_rfl) ?_
  have hij : IntKind.i64.wrap ((i : Int) + (j : Int)) = ((i + j : Nat) : Int) := by rw [wrap_i64 (by omega) (by omega)]; omega
  simp only [aa.all, ay, decide_eq_true_eq, decide_eq_false_iff_not, hij, Int.toNat_natCast, Nat.add_zero, beq_iff_eq]
  refine ⟨fun h2 => ?_, fun h2 s' hv => dQ ?_⟩
  ·have hjm : j < m := by omega
   obtain ⟨m1, m2, m3⟩ := HF hc hzi (hy j hjm) (ho (i + j) (by omega))
   rw [m1]
   refine ⟨by omega, by omega, by omega, by omega, fun s' hv => ⟨(j + 1, (c + z i * y j + o (i + j)) / 4294967296, bJ o (i + j) ((c + z i * y j + o (i + j)) % 4294967296)), ?_, ⟨by simp only; omega, m3, fQ (by omega) ho, fun k hk => ?_, ?_⟩, by simp only; omega⟩⟩
   ·refine cC [(7, 7)] hv h0 rfl ⟨⟨rfl, aF rfl⟩, ⟨rfl, cF rfl rfl rfl⟩, ⟨rfl, aF rfl⟩, ⟨rfl, aF rfl⟩, ⟨rfl, aF rfl⟩, ⟨rfl, aF rfl⟩, ⟨rfl, aF rfl⟩, ⟨rfl, eG ?_⟩, ⟨rfl, aF rfl⟩, ⟨rfl, aF rfl⟩, ⟨rfl, eG ?_⟩, trivial⟩
     ⟨⟨_, _, rfl, rfl, dZ rfl fun k _ => fe (by rw [gZ]) k⟩, trivial⟩
    ·rw [jo]; simp only; omega
    ·rw [wrap_i64 (by omega) (by omega)]; simp only; omega
   ·exact (eg (by omega)).trans (ho0 k hk)
   ·simp only
    rw [show 32 * (i + (j + 1)) = 32 * ((i + j) + 1) by omega, fB, val]
    have hset := Bd (o := o) (x := (c + z i * y j + o (i + j)) % 4294967296) (show i + j < n + m by omega)
    exact HS rfl (Nat.div_add_mod _ _) hset (by rw [← Nat.pow_add]; congr 1; omega) hval
  ·have hjm : j = m := by omega
   subst hjm
   refine aB.weak (by kernel_rfl) (cC (vs := Gm n j z y 7 i (z i) c j) (ps := [(7, ⟨true, true, 1, n + j, ah o⟩)]) (nx := 8) [(7, 7)] hv h0 rfl
     ⟨⟨rfl, aF rfl⟩, ⟨rfl, cF rfl rfl rfl⟩, ⟨rfl, aF rfl⟩, ⟨rfl, aF rfl⟩, ⟨rfl, aF rfl⟩, ⟨rfl, aF rfl⟩, ⟨rfl, aF rfl⟩, ⟨rfl, aF rfl⟩, ⟨rfl, aF rfl⟩, ⟨rfl, aF rfl⟩, ⟨rfl, aF rfl⟩, trivial⟩
     ⟨⟨_, _, rfl, rfl, dZ rfl fun j _ => rfl⟩, trivial⟩)
    (aB.aX hT e9 hm 30 ni T1 (by kernel_rfl) ?_)
   simp only [aa.all, ay, hij, Int.toNat_natCast, Nat.add_zero, beq_iff_eq]
   refine ⟨by omega, fun s' hv => ?_⟩
   have hf : (fun k => if k = i + j then AV.int .u32 (IntKind.u32.wrap (c : Int)) else ah o k) = ah (bJ o (i + j) c) := by
    funext k
    exact fe (wrap_u32 (by omega) (by omega)) k
   rw [hf] at hv
   refine next hin hv (fQ hc ho) (fun k hk => (eg (by omega)).trans (ho0 k (by omega))) ?_
   rw [oH (by omega) (ho0 _ (by omega)), hval, val, Nat.add_mul, Nat.mul_assoc, Nat.mul_assoc, Nat.mul_comm (val j y)]
 ·have hin : i = n := by omega
  subst hin
  refine nE (dQ ?_)
  refine (aB.weak (by kernel_rfl) (cC (vs := nY i m z y 7 i) (ps := [(7, ⟨true, true, 1, i + m, ah o⟩)]) (nx := 8) [(7, 7)] hv h0 rfl ⟨⟨rfl, aF rfl⟩, ⟨rfl, cF rfl rfl rfl⟩, ⟨rfl, aF rfl⟩, ⟨rfl, aF rfl⟩, ⟨rfl, aF rfl⟩, trivial⟩
    ⟨⟨_, _, rfl, rfl, dZ rfl fun j _ => rfl⟩, trivial⟩)
   (aB.fin hT e9 hm 30 TY (by kernel_rfl) ?_))
  simp only [aa.all, ay, Nat.add_zero, gX]
  exact ⟨⟨eI ho, by omega⟩, cI (congrArg AV.mag hval)⟩
def Ee (A n B m : Nat) : cA := aG (.mag (A * B)) [n < 2 ^ 40, m < 2 ^ 40]
theorem aaN : ∀ K args pre r, bu (fM Ee) K args pre = some r → aA P uV K args pre r :=
 bN (qo fun _ _ _ _ K hz hy need => V5 hz hy need.1 need.2 K [])
end Go.Am.B
