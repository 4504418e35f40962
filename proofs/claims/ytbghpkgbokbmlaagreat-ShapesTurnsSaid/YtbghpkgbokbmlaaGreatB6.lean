/- slices.Clone, slices.Equal, natural.Mul. -/
import Derived.Test.YtbghpkgbokbmlaaGreatB5
set_option linter.unusedVariables false
namespace Go.Am.B
open Go Go.Am.N AV
theorem Mg : aN P nh rj (au rj) := aK Vx (by kernel_rfl) (by kernel_rfl) (by kernel_rfl)
theorem M7 : aN P oo lP (au lP) := aK Wr (by kernel_rfl) (by kernel_rfl) (by kernel_rfl)
theorem OH : aN P sw gl (au gl) := aK LD (by kernel_rfl) (by kernel_rfl) (by kernel_rfl)
theorem K1 {n : Nat} {b : Bool} {f : Nat → AV} : bA T [] [4] 30 rj (au rj) ⟨aL 0 [.cN b 1 n f], [], 0⟩ =
  some (aa.fork b (aa.leaf aj.ret [nil]) (aa.af [(0 : Nat) * 1 ≤ 2 ^ 24, ((0 : Nat) + n) * ((4 : Nat) + 1) * 2 ≤ 2 ^ 47] (aa.leaf aj.ret [ag 1 ((0 : Nat) + n) fun (i : Nat) ↦ if i + 0 < 0 then nth [] (int IntKind.u32 (0 : Int)) (i + 0) else f (i + 0 - 0)]))) := by kernel_rfl
theorem PG {A B : Nat} : aH T [] [10] 30 [0, 1, 12, 13, 4] (before (au lP) [1,1,0,1]) ⟨aL 0 [.mag A, .mag B], [], 0⟩ =
  some (aa.fork ((↑(nl A) : Int) != (↑(nl B) : Int)) (aa.leaf aj.ret ([mag A, mag B, tuple [], tuple [], AV.bool false], [])) (aa.leaf aj.normal ([mag A, mag B, int IntKind.i64 (↑(nl A) : Int), int IntKind.i64 (0 : Int), AV.bool false], []))) := by kernel_rfl
theorem Rq {A B i : Nat} : aH T [] [14, 24] 30 [0, 1, 12, 13, 4] [part (au lP) [1,1,0,1,0,0]] ⟨az [0, 1, 12, 13, 4] [.mag A, .mag B, .int .i64 (nl A), .int .i64 i, .bool false], [], 0⟩ =
  some (aa.fork (decide ((↑i : Int) < (↑(nl A) : Int))) (aa.af [(0 : Int) ≤ (↑i : Int) ∧ (↑i : Int).toNat < nl A, (0 : Int) ≤ (↑i : Int) ∧ (↑i : Int).toNat < nl B] (aa.fork ((↑(aq A (↑i : Int).toNat) : Int) != (↑(aq B (↑i : Int).toNat) : Int)) (aa.leaf aj.ret ([mag A, mag B, int IntKind.i64 (↑(nl A) : Int), int IntKind.i64 (↑i : Int), AV.bool false], [])) (aa.leaf aj.normal ([mag A, mag B, int IntKind.i64 (↑(nl A) : Int), int IntKind.i64 (IntKind.i64.wrap ((↑i : Int) + (1 : Int))), AV.bool false], [])))) (aa.leaf (aj.exit 0) ([mag A, mag B, int IntKind.i64 (↑(nl A) : Int), int IntKind.i64 (↑i : Int), AV.bool false], []))) := by kernel_rfl
theorem To {A B i : Nat} : bR T [] [] 30 lP (behind (au lP) [1,1,0,1]) ⟨az [0, 1, 12, 13, 4] [.mag A, .mag B, .int .i64 (nl A), .int .i64 i, .bool false], [], 0⟩ =
  some (aa.leaf aj.ret [AV.bool true]) := by kernel_rfl
theorem YP {n m : Nat} {z y : Nat → Nat} : aH T G1 [] 30 [1, 5, 17, 18, 19] (before (au gl) [1,1,0,1]) ⟨aL 0 [.ag 1 n (ah z), .ag 1 m (ah y)], [], 0⟩ =
  some (aa.af [(0 : Int) ≤ IntKind.i64.wrap ((↑n : Int) + (↑m : Int)) ∧ IntKind.i64.wrap ((↑n : Int) + (↑m : Int)) ≤ IntKind.i64.wrap ((↑n : Int) + (↑m : Int)) ∧ IntKind.i64.wrap ((↑n : Int) + (↑m : Int)) ≤ (2 : Int) ^ 47 ∧ IntKind.i64.wrap ((↑n : Int) + (↑m : Int)) * (↑(4 : Nat) : Int) ≤ (2 : Int) ^ 47] (aa.leaf aj.normal ([ag 1 m (ah y), own 24576 1 0 (IntKind.i64.wrap ((↑n : Int) + (↑m : Int))).toNat, ag 1 n (ah z), int IntKind.i64 (↑n : Int), int IntKind.i64 (0 : Int)], [((24576 : Nat), ⟨true, true, 1, (IntKind.i64.wrap ((↑n : Int) + (↑m : Int))).toNat, fun (x : Nat) ↦ int IntKind.u32 (0 : Int)⟩)]))) := by kernel_rfl
theorem Ve {n m i : Nat} {z y o : Nat → Nat} : aH T G1 [20] 30 [1, 5, 17, 18, 19] (before (part (au gl) [1,1,0,1,0,0]) [1,1,0]) ⟨az [1, 5, 17, 18, 19] [.ag 1 m (ah y), .own 7 1 0 (n + m), .ag 1 n (ah z), .int .i64 n, .int .i64 i], [(7, ⟨true, true, 1, n + m, ah o⟩)], 8⟩ =
  some (aa.fork (decide ((↑i : Int) < (↑n : Int))) (aa.leaf aj.normal ([ag 1 m (ah y), own 7 1 0 (n + m), ag 1 n (ah z), int IntKind.i64 (↑n : Int), int IntKind.i64 (↑i : Int)], [((7 : Nat), ⟨true, true, 1, n + m, ah o⟩)])) (aa.leaf (aj.exit 0) ([ag 1 m (ah y), own 7 1 0 (n + m), ag 1 n (ah z), int IntKind.i64 (↑n : Int), int IntKind.i64 (↑i : Int)], [((7 : Nat), ⟨true, true, 1, n + m, ah o⟩)]))) := by kernel_rfl
theorem MI {n m i : Nat} {z y o : Nat → Nat} : aH T G1 [25] 30 [1, 5, 17, 18, 19, 6, 7, 8, 26, 27, 28] (before (part (au gl) [1,1,0,1,0,0,1,1,0,0]) [1,1,1,0,1]) ⟨az [1, 5, 17, 18, 19] [.ag 1 m (ah y), .own 7 1 0 (n + m), .ag 1 n (ah z), .int .i64 n, .int .i64 i], [(7, ⟨true, true, 1, n + m, ah o⟩)], 8⟩ =
  some (aa.af [(0 : Int) ≤ (↑i : Int) ∧ (↑i : Int).toNat < n] (aa.fork ((↑(z (↑i : Int).toNat) : Int) == (0 : Int)) (aa.leaf (aj.exit 1) ([ag 1 m (ah y), own 7 1 0 (n + m), ag 1 n (ah z), int IntKind.i64 (↑n : Int), int IntKind.i64 (↑i : Int), int IntKind.i64 (↑i : Int), int IntKind.u32 (↑(z (↑i : Int).toNat) : Int), tuple [], tuple [], tuple [], tuple []], [((7 : Nat), ⟨true, true, 1, n + m, ah o⟩)])) (aa.leaf aj.normal ([ag 1 m (ah y), own 7 1 0 (n + m), ag 1 n (ah z), int IntKind.i64 (↑n : Int), int IntKind.i64 (↑i : Int), int IntKind.i64 (↑i : Int), int IntKind.u32 (↑(z (↑i : Int).toNat) : Int), int IntKind.u64 (0 : Int), ag 1 m (ah y), int IntKind.i64 (↑m : Int), int IntKind.i64 (0 : Int)], [((7 : Nat), ⟨true, true, 1, n + m, ah o⟩)])))) := by kernel_rfl
theorem Qp {n m i j x c : Nat} {z y o : Nat → Nat} : aH T G1 [29] 30 [1, 5, 17, 18, 19, 6, 7, 8, 26, 27, 28] [part (part (au gl) [1,1,0,1,0,0,1,1,0,0]) [1,1,1,0,1,0,0]] ⟨az [1, 5, 17, 18, 19, 6, 7, 8, 26, 27, 28] [.ag 1 m (ah y), .own 7 1 0 (n + m), .ag 1 n (ah z), .int .i64 n, .int .i64 i, .int .i64 i, .int .u32 x, .int .u64 c, .ag 1 m (ah y), .int .i64 m, .int .i64 j], [(7, ⟨true, true, 1, n + m, ah o⟩)], 8⟩ =
  some (aa.fork (decide ((↑j : Int) < (↑m : Int))) (aa.af [(0 : Int) ≤ (↑j : Int) ∧ (↑j : Int).toNat < m] (aa.af [(0 : Int) ≤ IntKind.i64.wrap ((↑i : Int) + (↑j : Int)) ∧ (IntKind.i64.wrap ((↑i : Int) + (↑j : Int))).toNat < n + m, (IntKind.i64.wrap ((↑i : Int) + (↑j : Int))).toNat + 0 < n + m] (aa.af [(0 : Int) ≤ IntKind.i64.wrap ((↑i : Int) + (↑j : Int)) ∧ (IntKind.i64.wrap ((↑i : Int) + (↑j : Int))).toNat < n + m, (IntKind.i64.wrap ((↑i : Int) + (↑j : Int))).toNat + 0 < n + m] (aa.af [(0 : Int) ≤ (32 : Int)] (aa.leaf aj.normal ([ag 1 m (ah y), own 7 1 0 (n + m), ag 1 n (ah z), int IntKind.i64 (↑n : Int), int IntKind.i64 (↑i : Int), int IntKind.i64 (↑i : Int), int IntKind.u32 (↑x : Int), int IntKind.u64 ((IntKind.u64.wrap ((↑c : Int) + IntKind.u64.wrap (IntKind.u64.wrap (IntKind.u64.wrap (↑x : Int) * IntKind.u64.wrap (↑(y (↑j : Int).toNat) : Int)) + IntKind.u64.wrap (↑(o ((IntKind.i64.wrap ((↑i : Int) + (↑j : Int))).toNat + 0)) : Int)))).fdiv ((2 : Int) ^ min (Int.toNat (32 : Int)) IntKind.u64.bits)), ag 1 m (ah y), int IntKind.i64 (↑m : Int), int IntKind.i64 (IntKind.i64.wrap ((↑j : Int) + (1 : Int)))], [((7 : Nat), ⟨true, true, 1, n + m, fun (j_1 : Nat) ↦ if (j_1 == (IntKind.i64.wrap ((↑i : Int) + (↑j : Int))).toNat + 0) = true then int IntKind.u32 (IntKind.u32.wrap (IntKind.u64.wrap ((↑c : Int) + IntKind.u64.wrap (IntKind.u64.wrap (IntKind.u64.wrap (↑x : Int) * IntKind.u64.wrap (↑(y (↑j : Int).toNat) : Int)) + IntKind.u64.wrap (↑(o ((IntKind.i64.wrap ((↑i : Int) + (↑j : Int))).toNat + 0)) : Int))))) else ah o j_1⟩)])))))) (aa.leaf (aj.exit 2) ([ag 1 m (ah y), own 7 1 0 (n + m), ag 1 n (ah z), int IntKind.i64 (↑n : Int), int IntKind.i64 (↑i : Int), int IntKind.i64 (↑i : Int), int IntKind.u32 (↑x : Int), int IntKind.u64 (↑c : Int), ag 1 m (ah y), int IntKind.i64 (↑m : Int), int IntKind.i64 (↑j : Int)], [((7 : Nat), ⟨true, true, 1, n + m, ah o⟩)]))) := by kernel_rfl
theorem R7 {n m i j x c : Nat} {z y o : Nat → Nat} : aH T G1 [] 30 [1, 5, 17, 18, 19] (behind (part (au gl) [1,1,0,1,0,0,1,1,0,0]) [1,1,1,0,1]) ⟨az [1, 5, 17, 18, 19, 6, 7, 8, 26, 27, 28] [.ag 1 m (ah y), .own 7 1 0 (n + m), .ag 1 n (ah z), .int .i64 n, .int .i64 i, .int .i64 i, .int .u32 x, .int .u64 c, .ag 1 m (ah y), .int .i64 m, .int .i64 j], [(7, ⟨true, true, 1, n + m, ah o⟩)], 8⟩ =
  some (aa.af [(0 : Int) ≤ IntKind.i64.wrap ((↑i : Int) + (↑m : Int)) ∧ (IntKind.i64.wrap ((↑i : Int) + (↑m : Int))).toNat < n + m, (IntKind.i64.wrap ((↑i : Int) + (↑m : Int))).toNat + 0 < n + m] (aa.leaf aj.normal ([ag 1 m (ah y), own 7 1 0 (n + m), ag 1 n (ah z), int IntKind.i64 (↑n : Int), int IntKind.i64 (↑i : Int)], [((7 : Nat), ⟨true, true, 1, n + m, fun (j : Nat) ↦ if (j == (IntKind.i64.wrap ((↑i : Int) + (↑m : Int))).toNat + 0) = true then int IntKind.u32 (IntKind.u32.wrap (↑c : Int)) else ah o j⟩)]))) := by kernel_rfl
theorem T5 {n m i : Nat} {z y o : Nat → Nat} : aH T G1 [] 30 [1, 5, 17, 18, 19] (behind (part (au gl) [1,1,0,1,0,0]) [1,1,0]) ⟨az [1, 5, 17, 18, 19] [.ag 1 m (ah y), .own 7 1 0 (n + m), .ag 1 n (ah z), .int .i64 n, .int .i64 i], [(7, ⟨true, true, 1, n + m, ah o⟩)], 8⟩ =
  some (aa.leaf aj.normal ([ag 1 m (ah y), own 7 1 0 (n + m), ag 1 n (ah z), int IntKind.i64 (↑n : Int), int IntKind.i64 (IntKind.i64.wrap ((↑i : Int) + (1 : Int)))], [((7 : Nat), ⟨true, true, 1, n + m, ah o⟩)])) := by kernel_rfl
theorem Rv {n m i : Nat} {z y o : Nat → Nat} : bR T G1 [] 30 gl (behind (au gl) [1,1,0,1]) ⟨az [1, 5, 17, 18, 19] [.ag 1 m (ah y), .own 7 1 0 (n + m), .ag 1 n (ah z), .int .i64 n, .int .i64 i], [(7, ⟨true, true, 1, n + m, ah o⟩)], 8⟩ =
  some (aa.af [cH (n + m) fun (i : Nat) ↦ ah o (i + 0), n + m < 2 ^ 62] (aa.leaf aj.ret [mag (val (n + m) fun (i : Nat) ↦ numOf (ah o (i + 0)))])) := by kernel_rfl
theorem AJ {n : Nat} {f : Nat → AV} (hn : n < 2 ^ 40) (K : Nat) : aA P nh K [.ag 1 n f] [] (aG (.ag 1 n f) []) := by
 refine Z4 fun b hb => ?_
 refine bD hT aU hm Mg rfl (of_decide_eq_true (by kernel_rfl)) rfl 30 K1 (fun _ => ?_) K []
 simp only [aa.all, ax]
 refine ⟨fun h => ?_, fun h => ⟨⟨by omega, by omega⟩, j0 (by omega) fun i hi => by simp⟩⟩
 rw [hb h]
 exact jB (by omega)
def ya : Spec := bp fun l => match l with
 | [.mag N] => some (aG (.mag N) [nl N < 2 ^ 40])
 | [.nil] => some (aG (.mag 0) [])
 | [.ag es n f] => if es == 1 then some (aG (.ag 1 n f) [n < 2 ^ 40]) else none
 | _ => none
theorem zA : ∀ K args pre r, ya K args pre = some r → aA P nh K args pre r := by
 refine bF fun K args r hk hs _ => ?_
 split at hs
 ·rename_i N
  simp only [Option.some.injEq] at hs
  subst hs
  intro need
  have := fk (args := [.mag N]) (AJ (n := nl N) (f := fun i => .int .u32 (aq N i)) need K) rfl ⟨Jq rfl fun i hi => rfl, trivial⟩ []
  exact EV (l' := []) this id rfl rfl (iU rfl fun i hi => rfl) trivial
 ·simp only [Option.some.injEq] at hs
  subst hs
  intro need
  have := fk (args := [.nil]) (AJ (n := 0) (f := fun _ => .nil) (by omega) K) rfl ⟨jB (by omega), trivial⟩ []
  exact EV (l' := []) this id rfl rfl (iU (by simp [nl]) fun i hi => by omega) trivial
 ·rename_i es n f
  split at hs
  ·rename_i he
   have he : es = 1 := by simpa using he
   subst he
   simp only [Option.some.injEq] at hs
   subst hs
   exact fun need => AJ need K trivial
  ·simp at hs
 ·simp at hs
theorem ZU {A B : Nat} (hA : nl A < 2 ^ 40) (hB : nl B < 2 ^ 40) (K : Nat) (pre : aC) : aA P oo K [.mag A, .mag B] pre (aG (.bool (decide (A = B))) []) := by
 refine gz hT M7 rfl (of_decide_eq_true (by kernel_rfl)) rfl (fun _ c h0 => ?_) K pre
 refine ak.hole [1,1,0,1] (by kernel_rfl) (ay.aY hT aU hm 30 [0, 1, 12, 13, 4] PG (by kernel_rfl) ?_)
 simp only [aa.all, bne_iff_ne, ne_eq, Int.natCast_inj, bne_eq_false_iff_eq]
 refine ⟨fun hb s' hv => ?_, fun hb s' hv => ?_⟩
 ·exact eO (us := [.bool false]) (.inr rfl) hv (by kernel_rfl) (gd (decide_eq_false fun h => hb (by rw [h])).symm)
 refine ak.fL (i := 0) (y := part (au lP) [1,1,0,1,0,0]) (by kernel_rfl)
  (fun i : Nat => ⟨az [0, 1, 12, 13, 4] [.mag A, .mag B, .int .i64 (nl A), .int .i64 i, .bool false], [], 0⟩)
  (fun i => i ≤ nl A ∧ ∀ j, j < i → aq A j = aq B j) (fun i => nl A - i) 0
  (ck [] hv h0 rfl ⟨⟨rfl, aF rfl⟩, ⟨rfl, aF rfl⟩, ⟨rfl, aF rfl⟩, ⟨rfl, aF rfl⟩, ⟨rfl, aF rfl⟩, trivial⟩ trivial) ⟨by omega, fun j h => by omega⟩ ?_
 rintro i ⟨hi, hlim⟩
 refine ak.aY hT aU hm 30 [0, 1, 12, 13, 4] Rq (by kernel_rfl) ?_
 simp only [aa.all, ax, decide_eq_true_eq, decide_eq_false_iff_not, bne_iff_ne, ne_eq, Int.natCast_inj, bne_eq_false_iff_eq, Int.toNat_natCast]
 refine ⟨fun h1 => ⟨⟨by omega, by omega⟩, fun hne s' hv => ?_, fun heq s' hv => ?_⟩, fun h1 s' hv => ?_⟩
 ·exact eO (us := [.bool false]) (.inr rfl) hv (by kernel_rfl) (gd (decide_eq_false fun h => hne (by rw [h])).symm)
 ·refine ⟨i + 1, ck [] hv h0 rfl ⟨⟨rfl, aF rfl⟩, ⟨rfl, aF rfl⟩, ⟨rfl, aF rfl⟩, ⟨rfl, eH (by rw [wrap_i64 (by omega) (by omega)]; omega)⟩, ⟨rfl, aF rfl⟩, trivial⟩ trivial, ⟨by omega, fun j hj => ?_⟩, by omega⟩
  by_cases h : j = i
  ·subst h; exact heq
  ·exact hlim j (by omega)
 ·have hAB : A = B := Bx hb fun j hj => hlim j (by omega)
  exact ay.weak (by kernel_rfl) (ck (vs := [.mag A, .mag B, .int .i64 (nl A), .int .i64 i, .bool false]) (ps := []) (nx := 0) [] hv h0 rfl ⟨⟨rfl, aF rfl⟩, ⟨rfl, aF rfl⟩, ⟨rfl, aF rfl⟩, ⟨rfl, aF rfl⟩, ⟨rfl, aF rfl⟩, trivial⟩ trivial)
   (ay.fin hT aU hm 30 To (by kernel_rfl) (gd (decide_eq_true hAB).symm))
def fW : AV → Option Nat
 | .mag N => some N
 | .nil => some 0
 | _ => none
theorem iF {a : AV} {N : Nat} (h : fW a = some N) : bu a (.mag N) := by
 cases a <;> simp only [fW, reduceCtorEq, Option.some.injEq] at h
 case mag M => subst h; exact .refl _
 case nil => subst h; exact g9
def Cq : Spec := bp fun l => match l with
 | [a, b] => match fW a, fW b with
  | some A, some B => some (aG (.bool (decide (A = B))) [nl A < 2 ^ 40, nl B < 2 ^ 40])
  | _, _ => none
 | _ => none
theorem D0 : ∀ K args pre r, Cq K args pre = some r → aA P oo K args pre r := by
 refine bF fun K args r hk hs _ => ?_
 split at hs
 ·split at hs
  ·rename_i A B hA hB
   simp only [Option.some.injEq] at hs
   subst hs
   exact fun need => fk (ZU need.1 need.2 K []) hk ⟨iF hA, iF hB, trivial⟩ [] trivial
  ·simp at hs
 ·simp at hs
abbrev lD : List Nat := [1, 5, 17, 18, 19]
abbrev nu (n m : Nat) (z y : Nat → Nat) (K i : Nat) : List AV := [.ag 1 m (ah y), .own K 1 0 (n + m), .ag 1 n (ah z), .int .i64 n, .int .i64 i]
abbrev As : List Nat := [1, 5, 17, 18, 19, 6, 7, 8, 26, 27, 28]
abbrev JM (n m : Nat) (z y : Nat → Nat) (K i x c j : Nat) : List AV := [.ag 1 m (ah y), .own K 1 0 (n + m), .ag 1 n (ah z), .int .i64 n, .int .i64 i, .int .i64 i, .int .u32 x, .int .u64 c, .ag 1 m (ah y), .int .i64 m, .int .i64 j]
theorem Pm {n m : Nat} {z y : Nat → Nat} (hz : ∀ i, i < n → z i < 2 ^ 32) (hy : ∀ i, i < m → y i < 2 ^ 32) (hn : n < 2 ^ 40) (hm' : m < 2 ^ 40) (K : Nat) (pre : aC) :
  aA P sw K [.ag 1 n (ah z), .ag 1 m (ah y)] pre (aG (.mag (val n z * val m y)) []) := by
 refine gz hT OH rfl (of_decide_eq_true (by kernel_rfl)) rfl (fun _ c0 h0 => ?_) K pre
 refine ak.hole [1,1,0,1] (by kernel_rfl) (ay.aY hT eU hm 30 lD YP (by kernel_rfl) ?_)
 have hw : IntKind.i64.wrap ((n : Int) + (m : Int)) = ((n + m : Nat) : Int) := by rw [wrap_i64 (by omega) (by omega)]; omega
 simp only [aa.all, ax, hw, Int.toNat_natCast]
 refine ⟨by omega, fun s' hv => ?_⟩
 refine ak.fL (i := 0) (y := part (au gl) [1,1,0,1,0,0]) (by kernel_rfl)
  (fun p : Nat × (Nat → Nat) => ⟨az lD (nu n m z y 7 p.1), [(7, ⟨true, true, 1, n + m, ah p.2⟩)], 8⟩)
  (fun p => p.1 ≤ n ∧ (∀ j, j < n + m → p.2 j < 2 ^ 32) ∧ (∀ j, p.1 + m ≤ j → p.2 j = 0) ∧ val (n + m) p.2 = val p.1 z * val m y)
  (fun p => n - p.1) (0, fun _ => 0)
  (ck [(7, 24576)] hv h0 rfl ⟨⟨rfl, aF rfl⟩, ⟨rfl, cr rfl rfl rfl⟩, ⟨rfl, aF rfl⟩, ⟨rfl, aF rfl⟩, ⟨rfl, aF rfl⟩, trivial⟩
   ⟨⟨_, _, rfl, rfl, dZ rfl fun j _ => rfl⟩, trivial⟩)
  ⟨by simp, fun j _ => by simp, fun j _ => rfl, ?_⟩ ?_
 ·simp only
  rw [jw (k := 0) (by omega) fun _ _ _ => rfl]
  simp [val]
 rintro ⟨i, o⟩ ⟨hi, ho, ho0, hval⟩
 simp only at hi ho ho0 hval
 have next : ∀ {o' : Nat → Nat} {s' : aE}, i < n → aR lD s' = some (nu n m z y 7 i, [(7, ⟨true, true, 1, n + m, ah o'⟩)]) → (∀ j, j < n + m → o' j < 2 ^ 32) → (∀ j, i + 1 + m ≤ j → o' j = 0) →
   val (n + m) o' = val (i + 1) z * val m y → ∀ {QF : aj → aE → Prop},
   ay P c0 gl.ntmps (behind (part (au gl) [1,1,0,1,0,0]) [1,1,0]) s' (cR (fun s' => ∃ k : Nat × (Nat → Nat), (∃ ρ, Le c0 ρ s' ⟨az lD (nu n m z y 7 k.1), [(7, ⟨true, true, 1, n + m, ah k.2⟩)], 8⟩) ∧
    (k.1 ≤ n ∧ (∀ j, j < n + m → k.2 j < 2 ^ 32) ∧ (∀ j, k.1 + m ≤ j → k.2 j = 0) ∧ val (n + m) k.2 = val k.1 z * val m y) ∧ n - k.1 < n - i) QF) := by
  intro o' s' hin hv g1 g2 g3 QF
  refine ay.weak (by kernel_rfl) (ck (vs := nu n m z y 7 i) (ps := [(7, ⟨true, true, 1, n + m, ah o'⟩)]) (nx := 8) [(7, 7)] hv h0 rfl ⟨⟨rfl, aF rfl⟩, ⟨rfl, cr rfl rfl rfl⟩, ⟨rfl, aF rfl⟩, ⟨rfl, aF rfl⟩, ⟨rfl, aF rfl⟩, trivial⟩
    ⟨⟨_, _, rfl, rfl, dZ rfl fun j _ => rfl⟩, trivial⟩)
   (ay.aY hT eU hm 30 lD T5 (by kernel_rfl) ?_)
  intro s' hv
  exact ⟨(i + 1, o'), ck [(7, 7)] hv h0 rfl ⟨⟨rfl, aF rfl⟩, ⟨rfl, cr rfl rfl rfl⟩, ⟨rfl, aF rfl⟩, ⟨rfl, aF rfl⟩, ⟨rfl, eH (by rw [wrap_i64 (by omega) (by omega)]; simp only; omega)⟩, trivial⟩
    ⟨⟨_, _, rfl, rfl, dZ rfl fun j _ => rfl⟩, trivial⟩, ⟨by simp only; omega, g1, g2, g3⟩, by simp only; omega⟩
 refine ak.hole [1,1,0] (by kernel_rfl) (ay.aY hT eU hm 30 lD Ve (by kernel_rfl) ?_)
 simp only [aa.all, decide_eq_true_eq, decide_eq_false_iff_not]
 refine ⟨fun h1 s' hv => ?_, fun h1 s' hv => ?_⟩
 ·have hin : i < n := by omega
  have hzi := hz i hin
  refine ak.l6 (ck (vs := nu n m z y 7 i) (ps := [(7, ⟨true, true, 1, n + m, ah o⟩)]) (nx := 8) [(7, 7)] hv h0 rfl ⟨⟨rfl, aF rfl⟩, ⟨rfl, cr rfl rfl rfl⟩, ⟨rfl, aF rfl⟩, ⟨rfl, aF rfl⟩, ⟨rfl, aF rfl⟩, trivial⟩
    ⟨⟨_, _, rfl, rfl, dZ rfl fun j _ => rfl⟩, trivial⟩) ?_
  refine ak.lJ (i := 1) (y := part (au gl) [1,1,0,1,0,0,1,1,0,0]) (by kernel_rfl) ?_
  refine ak.hole [1,1,1,0,1] (by kernel_rfl) (ay.aY hT eU hm 30 As MI (by kernel_rfl) ?_)
  simp only [aa.all, ax, Int.toNat_natCast, beq_iff_eq, beq_eq_false_iff_ne, ne_eq]
  refine ⟨by omega, fun hz0 s' hv => ?_, fun hz0 s' hv => ?_⟩
  ·refine dK ?_
   exact (next hin (fY (ls := lD) (l := [6, 7, 8, 26, 27, 28]) (vs := nu n m z y 7 i) hv rfl rfl) ho (fun j hj => ho0 j (by omega)) (by rw [hval, val, show z i = 0 by omega]; simp))
  refine ak.fL (i := 2) (y := part (part (au gl) [1,1,0,1,0,0,1,1,0,0]) [1,1,1,0,1,0,0]) (by kernel_rfl)
   (fun p : Nat × Nat × (Nat → Nat) => ⟨az As (JM n m z y 7 i (z i) p.2.1 p.1), [(7, ⟨true, true, 1, n + m, ah p.2.2⟩)], 8⟩)
   (fun p => p.1 ≤ m ∧ p.2.1 < 2 ^ 32 ∧ (∀ j, j < n + m → p.2.2 j < 2 ^ 32) ∧ (∀ j, i + m ≤ j → p.2.2 j = 0) ∧ val (n + m) p.2.2 + p.2.1 * 2 ^ (32 * (i + p.1)) = val i z * val m y + z i * val p.1 y * 2 ^ (32 * i))
   (fun p => m - p.1) (0, 0, o)
   (ck [(7, 7)] hv h0 rfl ⟨⟨rfl, aF rfl⟩, ⟨rfl, cr rfl rfl rfl⟩, ⟨rfl, aF rfl⟩, ⟨rfl, aF rfl⟩, ⟨rfl, aF rfl⟩, ⟨rfl, aF rfl⟩, ⟨rfl, aF rfl⟩, ⟨rfl, aF rfl⟩, ⟨rfl, aF rfl⟩, ⟨rfl, aF rfl⟩, ⟨rfl, aF rfl⟩, trivial⟩
    ⟨⟨_, _, rfl, rfl, dZ rfl fun j _ => rfl⟩, trivial⟩)
   ⟨by simp, by simp, ho, ho0, by simp [val, hval]⟩ ?_
  rintro ⟨j, c, o⟩ ⟨hj, hc, ho, ho0, hval⟩
  simp only at hj hc ho ho0 hval
  refine ak.aY hT eU hm 30 As Qp (by kernel_rfl) ?_
  have hij : IntKind.i64.wrap ((i : Int) + (j : Int)) = ((i + j : Nat) : Int) := by rw [wrap_i64 (by omega) (by omega)]; omega
  simp only [aa.all, ax, decide_eq_true_eq, decide_eq_false_iff_not, hij, Int.toNat_natCast, Nat.add_zero, beq_iff_eq]
  refine ⟨fun h2 => ?_, fun h2 s' hv => dK ?_⟩
  ·have hjm : j < m := by omega
   obtain ⟨m1, m2, m3⟩ := HT hc hzi (hy j hjm) (ho (i + j) (by omega))
   rw [m1]
   refine ⟨by omega, by omega, by omega, by omega, fun s' hv => ⟨(j + 1, (c + z i * y j + o (i + j)) / 4294967296, bE o (i + j) ((c + z i * y j + o (i + j)) % 4294967296)), ?_, ⟨by simp only; omega, m3, fD (by omega) ho, fun k hk => ?_, ?_⟩, by simp only; omega⟩⟩
   ·refine ck [(7, 7)] hv h0 rfl ⟨⟨rfl, aF rfl⟩, ⟨rfl, cr rfl rfl rfl⟩, ⟨rfl, aF rfl⟩, ⟨rfl, aF rfl⟩, ⟨rfl, aF rfl⟩, ⟨rfl, aF rfl⟩, ⟨rfl, aF rfl⟩, ⟨rfl, eH ?_⟩, ⟨rfl, aF rfl⟩, ⟨rfl, aF rfl⟩, ⟨rfl, eH ?_⟩, trivial⟩
     ⟨⟨_, _, rfl, rfl, dZ rfl fun k _ => ff (by rw [gx]) k⟩, trivial⟩
    ·rw [iV]; simp only; omega
    ·rw [wrap_i64 (by omega) (by omega)]; simp only; omega
   ·exact (eg (by omega)).trans (ho0 k hk)
   ·simp only
    rw [show 32 * (i + (j + 1)) = 32 * ((i + j) + 1) by omega, fA, val]
    have hset := Bm (o := o) (x := (c + z i * y j + o (i + j)) % 4294967296) (show i + j < n + m by omega)
    exact Iy rfl (Nat.div_add_mod _ _) hset (by rw [← Nat.pow_add]; congr 1; omega) hval
  ·have hjm : j = m := by omega
   subst hjm
   refine ay.weak (by kernel_rfl) (ck (vs := JM n j z y 7 i (z i) c j) (ps := [(7, ⟨true, true, 1, n + j, ah o⟩)]) (nx := 8) [(7, 7)] hv h0 rfl
     ⟨⟨rfl, aF rfl⟩, ⟨rfl, cr rfl rfl rfl⟩, ⟨rfl, aF rfl⟩, ⟨rfl, aF rfl⟩, ⟨rfl, aF rfl⟩, ⟨rfl, aF rfl⟩, ⟨rfl, aF rfl⟩, ⟨rfl, aF rfl⟩, ⟨rfl, aF rfl⟩, ⟨rfl, aF rfl⟩, ⟨rfl, aF rfl⟩, trivial⟩
     ⟨⟨_, _, rfl, rfl, dZ rfl fun j _ => rfl⟩, trivial⟩)
    (ay.aY hT eU hm 30 lD R7 (by kernel_rfl) ?_)
   simp only [aa.all, ax, hij, Int.toNat_natCast, Nat.add_zero, beq_iff_eq]
   refine ⟨by omega, fun s' hv => ?_⟩
   have hf : (fun k => if k = i + j then AV.int .u32 (IntKind.u32.wrap (c : Int)) else ah o k) = ah (bE o (i + j) c) := by
    funext k
    exact ff (wrap_u32 (by omega) (by omega)) k
   rw [hf] at hv
   refine next hin hv (fD hc ho) (fun k hk => (eg (by omega)).trans (ho0 k (by omega))) ?_
   rw [nF (by omega) (ho0 _ (by omega)), hval, val, Nat.add_mul, Nat.mul_assoc, Nat.mul_assoc, Nat.mul_comm (val j y)]
 ·have hin : i = n := by omega
  subst hin
  refine nk (dK ?_)
  refine (ay.weak (by kernel_rfl) (ck (vs := nu i m z y 7 i) (ps := [(7, ⟨true, true, 1, i + m, ah o⟩)]) (nx := 8) [(7, 7)] hv h0 rfl ⟨⟨rfl, aF rfl⟩, ⟨rfl, cr rfl rfl rfl⟩, ⟨rfl, aF rfl⟩, ⟨rfl, aF rfl⟩, ⟨rfl, aF rfl⟩, trivial⟩
    ⟨⟨_, _, rfl, rfl, dZ rfl fun j _ => rfl⟩, trivial⟩)
   (ay.fin hT eU hm 30 Rv (by kernel_rfl) ?_))
  simp only [aa.all, ax, Nat.add_zero, gC]
  exact ⟨⟨eJ ho, by omega⟩, cW (congrArg AV.mag hval)⟩
def GZ (A n B m : Nat) : cw := aG (.mag (A * B)) [n < 2 ^ 40, m < 2 ^ 40]
theorem Om : ∀ K args pre r, bp (fP GZ) K args pre = some r → aA P sw K args pre r :=
 bF (og fun _ _ _ _ K hz hy need => Pm hz hy need.1 need.2 K [])
end Go.Am.B
