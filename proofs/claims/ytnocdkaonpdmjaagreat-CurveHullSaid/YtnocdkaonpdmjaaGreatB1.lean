/- natural.trim. -/
import Derived.Test.YtnocdkaonpdmjaaGreatZ2
import Derived.Test.YtnocdkaonpdmjaaGreatNames
set_option linter.unusedVariables false
namespace Go.Am.B
open Go Go.Am.N AV
theorem EZ : aO P oJ fI (ax fI) := aP Mr (by kernel_rfl) (by kernel_rfl) (by kernel_rfl)
theorem Rq {n : Nat} {z : Nat → Nat} : aI T [] [] 30 [0, 3] (before (ax fI) [1,1,0]) ⟨aL 0 [.ak 1 n (ah z)], [], 0⟩ =
  some (aa.leaf aj.normal ([AV.ak 1 n (ah z), AV.int IntKind.i64 (n : Int)], [])) := by kernel_rfl
theorem ack {n k : Nat} {z : Nat → Nat} : aI T [] [8, 15] 30 [0, 3] [part (ax fI) [1,1,0,0,0]] ⟨[(0, .ak 1 n (ah z)), (3, .int .i64 k)], [], 0⟩ =
  some
 (aa.fork (decide ((k : Int) > 0))
  (aa.ag
   [decide ((k : Int) > 0) = true,
    0 ≤ IntKind.i64.wrap ((k : Int) - 1) ∧ (IntKind.i64.wrap ((k : Int) - 1)).toNat < n]
   (aa.fork (bif true then ((z (IntKind.i64.wrap ((k : Int) - 1)).toNat) : Int) == 0 else false)
    (aa.leaf aj.normal ([AV.ak 1 n (ah z), AV.int IntKind.i64 (IntKind.i64.wrap ((k : Int) - 1))], []))
    (aa.leaf (aj.exit 0) ([AV.ak 1 n (ah z), AV.int IntKind.i64 (k : Int)], []))))
  (aa.ag [decide ((k : Int) > 0) = false]
   (aa.fork false (aa.leaf aj.normal ([AV.ak 1 n (ah z), AV.int IntKind.i64 (IntKind.i64.wrap ((k : Int) - 1))], []))
    (aa.leaf (aj.exit 0) ([AV.ak 1 n (ah z), AV.int IntKind.i64 (k : Int)], []))))) := by kernel_rfl
theorem YB {n k : Nat} {z : Nat → Nat} : cq T [] [] 30 fI (behind (ax fI) [1,1,0]) ⟨[(0, .ak 1 n (ah z)), (3, .int .i64 k)], [], 0⟩ =
  some
 (aa.ag [(0 : Int) ≤ 0 ∧ 0 ≤ (k : Int) ∧ (k : Int) ≤ (k : Int) ∧ (k : Int) ≤ (n : Int)]
  (aa.leaf aj.ret [AV.ak 1 ((k : Int).toNat - Int.toNat 0) fun i => ah z (i + Int.toNat 0)])) := by kernel_rfl
theorem Pa {n : Nat} {z : Nat → Nat} (K : Nat) (pre : aD) : aA P oJ K [.ak 1 n (ah z)] pre ⟨.mag (val n z), [], [n < 2 ^ 62, ∀ i, i < n → z i < 2 ^ 32]⟩ := by
 refine gQ hT EZ rfl (of_decide_eq_true (by kernel_rfl)) rfl (fun need c h0 => ?_) K pre
 obtain ⟨hn, hz⟩ : n < 2 ^ 62 ∧ ∀ i, i < n → z i < 2 ^ 32 := need
 refine aq.hole [1,1,0] (by kernel_rfl) (aB.aX hT bn hm 30 [0, 3] Rq (by kernel_rfl) fun s' hv => ?_)
 refine aq.gp (i := 0) (y := part (ax fI) [1,1,0,0,0]) (by kernel_rfl) (fun k : Nat => ⟨aC [0, 3] [.ak 1 n (ah z), .int .i64 k], [], 0⟩) (fun k => k ≤ n ∧ ∀ i, k ≤ i → i < n → z i = 0) id n
  (cC [] hv h0 rfl ⟨⟨rfl, aF rfl⟩, ⟨rfl, aF rfl⟩, trivial⟩ trivial) ⟨Nat.le_refl _, fun i h1 h2 => by omega⟩ ?_
 rintro k ⟨hk, hzk⟩
 refine aq.aX hT bn hm 30 [0, 3] ack (by kernel_rfl) ?_
 have fin : (k = 0 ∨ z (k - 1) ≠ 0) → ∀ s', aU [0, 3] s' = some ([.ak 1 n (ah z), .int .i64 k], []) → aB P c fI.ntmps (behind (ax fI) [1,1,0]) s' (Fin T fI (.mag (val n z))) := by
  intro hk0 s' hv
  refine aB.weak (by kernel_rfl) (cC (vs := [.ak 1 n (ah z), .int .i64 k]) (ps := []) (nx := 0) [] hv h0 rfl ⟨⟨rfl, aF rfl⟩, ⟨rfl, aF rfl⟩, trivial⟩ trivial)
   (aB.fin hT bn hm 30 YB (by kernel_rfl) ⟨⟨by omega, by omega, by omega, by omega⟩, ?_⟩)
  have e : val n z = val k z := jY hk hzk
  refine jd (by rw [e, ya (fun i hi => hz i (by omega)) hk0]; simp) fun i hi => ?_
  have hi' : i < k := by simpa using hi
  rw [e, mI (fun j hj => hz j (by omega)) hi']
  rfl
 have hw : 0 < k → IntKind.i64.wrap ((k : Int) - 1) = ((k - 1 : Nat) : Int) := fun h => by rw [wrap_i64 (by omega) (by omega)]; omega
 refine ⟨fun hb => ?_, fun hb => ?_⟩
 ·have h1 : 0 < k := by simpa using hb
  rw [hw h1]
  refine ⟨⟨hb, by omega, by simp; omega⟩, fun hc s' hv => ?_, fun hc s' hv => ?_⟩
  ·refine ⟨k - 1, cC [] hv h0 rfl ⟨⟨rfl, aF rfl⟩, ⟨rfl, aF rfl⟩, trivial⟩ trivial, ⟨by omega, fun i h1 h2 => ?_⟩, by simp; omega⟩
   by_cases hi : i = k - 1
   ·subst hi; simpa using hc
   ·exact hzk i (by omega) h2
  ·exact fin (.inr (by simpa using hc)) s' hv
 ·have h1 : k = 0 := by simpa using hb
  refine ⟨hb, fun hc => by simp at hc, fun hc s' hv => fin (.inl h1) s' hv⟩
def YI (N n : Nat) : cA := aG (.mag N) [n < 2 ^ 62]
def G1 : aQ := [(oJ, bu (jr YI))]
theorem e9 : bg P G1 := aH (bN (qu fun z n K hz need => fun _ => Pa K [] ⟨need, hz⟩)) bn
end Go.Am.B
