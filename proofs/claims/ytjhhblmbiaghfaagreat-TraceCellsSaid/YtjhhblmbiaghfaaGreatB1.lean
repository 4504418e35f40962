/- natural.trim. -/
import Derived.Test.YtjhhblmbiaghfaaGreatZ1
import Derived.Test.YtjhhblmbiaghfaaGreatNames
set_option linter.unusedVariables false
namespace Go.Am.B
open Go Go.Am.N AV
theorem Fe : aO P oA fD (ax fD) := aP Pw (by kernel_rfl) (by kernel_rfl) (by kernel_rfl)
theorem Pz {n : Nat} {z : Nat → Nat} : aF T [] [] 30 [0, 3] (before (ax fD) [1,1,0]) ⟨aN 0 [.ah 1 n (aj z)], [], 0⟩ =
  some (af.leaf ak.normal ([AV.ah 1 n (aj z), AV.int IntKind.i64 (n : Int)], [])) := by kernel_rfl
theorem QC {n k : Nat} {z : Nat → Nat} : aF T [] [8, 15] 30 [0, 3] [part (ax fD) [1,1,0,0,0]] ⟨[(0, .ah 1 n (aj z)), (3, .int .i64 k)], [], 0⟩ =
  some
 (af.fork (decide ((k : Int) > 0))
  (af.ag
   [decide ((k : Int) > 0) = true,
    0 ≤ IntKind.i64.wrap ((k : Int) - 1) ∧ (IntKind.i64.wrap ((k : Int) - 1)).toNat < n]
   (af.fork (bif true then ((z (IntKind.i64.wrap ((k : Int) - 1)).toNat) : Int) == 0 else false)
    (af.leaf ak.normal ([AV.ah 1 n (aj z), AV.int IntKind.i64 (IntKind.i64.wrap ((k : Int) - 1))], []))
    (af.leaf (ak.exit 0) ([AV.ah 1 n (aj z), AV.int IntKind.i64 (k : Int)], []))))
  (af.ag [decide ((k : Int) > 0) = false]
   (af.fork false (af.leaf ak.normal ([AV.ah 1 n (aj z), AV.int IntKind.i64 (IntKind.i64.wrap ((k : Int) - 1))], []))
    (af.leaf (ak.exit 0) ([AV.ah 1 n (aj z), AV.int IntKind.i64 (k : Int)], []))))) := by kernel_rfl
theorem KE {n k : Nat} {z : Nat → Nat} : b9 T [] [] 30 fD (behind (ax fD) [1,1,0]) ⟨[(0, .ah 1 n (aj z)), (3, .int .i64 k)], [], 0⟩ =
  some
 (af.ag [(0 : Int) ≤ 0 ∧ 0 ≤ (k : Int) ∧ (k : Int) ≤ (k : Int) ∧ (k : Int) ≤ (n : Int)]
  (af.leaf ak.ret [AV.ah 1 ((k : Int).toNat - Int.toNat 0) fun i => aj z (i + Int.toNat 0)])) := by kernel_rfl
theorem O4 {n : Nat} {z : Nat → Nat} (K : Nat) (pre : aB) : aC P oA K [.ah 1 n (aj z)] pre ⟨.mag (val n z), [], [n < 2 ^ 62, ∀ i, i < n → z i < 2 ^ 32]⟩ := by
 refine gA hT Fe rfl (of_decide_eq_true (by kernel_rfl)) rfl (fun need c h0 => ?_) K pre
 obtain ⟨hn, hz⟩ : n < 2 ^ 62 ∧ ∀ i, i < n → z i < 2 ^ 32 := need
 refine aq.hole [1,1,0] (by kernel_rfl) (aA.aS hT aY hm 30 [0, 3] Pz (by kernel_rfl) fun s' hv => ?_)
 refine aq.fz (i := 0) (y := part (ax fD) [1,1,0,0,0]) (by kernel_rfl) (fun k : Nat => ⟨az [0, 3] [.ah 1 n (aj z), .int .i64 k], [], 0⟩) (fun k => k ≤ n ∧ ∀ i, k ≤ i → i < n → z i = 0) id n
  (cz [] hv h0 rfl ⟨⟨rfl, aG rfl⟩, ⟨rfl, aG rfl⟩, trivial⟩ trivial) ⟨Nat.le_refl _, fun i h1 h2 => by omega⟩ ?_
 rintro k ⟨hk, hzk⟩
 refine aq.aS hT aY hm 30 [0, 3] QC (by kernel_rfl) ?_
 have fin : (k = 0 ∨ z (k - 1) ≠ 0) → ∀ s', aQ [0, 3] s' = some ([.ah 1 n (aj z), .int .i64 k], []) → aA P c fD.ntmps (behind (ax fD) [1,1,0]) s' (Fin T fD (.mag (val n z))) := by
  intro hk0 s' hv
  refine aA.weak (by kernel_rfl) (cz (vs := [.ah 1 n (aj z), .int .i64 k]) (ps := []) (nx := 0) [] hv h0 rfl ⟨⟨rfl, aG rfl⟩, ⟨rfl, aG rfl⟩, trivial⟩ trivial)
   (aA.fin hT aY hm 30 KE (by kernel_rfl) ⟨⟨by omega, by omega, by omega, by omega⟩, ?_⟩)
  have e : val n z = val k z := jV hk hzk
  refine iM (by rw [e, yz (fun i hi => hz i (by omega)) hk0]; simp) fun i hi => ?_
  have hi' : i < k := by simpa using hi
  rw [e, lV (fun j hj => hz j (by omega)) hi']
  rfl
 have hw : 0 < k → IntKind.i64.wrap ((k : Int) - 1) = ((k - 1 : Nat) : Int) := fun h => by rw [wrap_i64 (by omega) (by omega)]; omega
 refine ⟨fun hb => ?_, fun hb => ?_⟩
 ·have h1 : 0 < k := by simpa using hb
  rw [hw h1]
  refine ⟨⟨hb, by omega, by simp; omega⟩, fun hc s' hv => ?_, fun hc s' hv => ?_⟩
  ·refine ⟨k - 1, cz [] hv h0 rfl ⟨⟨rfl, aG rfl⟩, ⟨rfl, aG rfl⟩, trivial⟩ trivial, ⟨by omega, fun i h1 h2 => ?_⟩, by simp; omega⟩
   by_cases hi : i = k - 1
   ·subst hi; simpa using hc
   ·exact hzk i (by omega) h2
  ·exact fin (.inr (by simpa using hc)) s' hv
 ·have h1 : k = 0 := by simpa using hb
  refine ⟨hb, fun hc => by simp at hc, fun hc s' hv => fin (.inl h1) s' hv⟩
def PN (N n : Nat) : cC := aK (.mag N) [n < 2 ^ 62]
def G1 : aW := [(oA, bu (jv PN))]
theorem eM : br P G1 := aJ (bQ (p0 fun z n K hz need => fun _ => O4 K [] ⟨need, hz⟩)) aY
end Go.Am.B
