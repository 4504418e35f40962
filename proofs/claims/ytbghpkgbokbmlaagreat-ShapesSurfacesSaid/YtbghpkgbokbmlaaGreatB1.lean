/- natural.trim. -/
import Derived.Test.YtbghpkgbokbmlaaGreatZ1
import Derived.Test.YtbghpkgbokbmlaaGreatNames
set_option linter.unusedVariables false
namespace Go.Am.B
open Go Go.Am.N AV
theorem Gf : aP P nv fL (au fL) := aL aaB (by kernel_rfl) (by kernel_rfl) (by kernel_rfl)
theorem TW {n : Nat} {z : Nat → Nat} : aI T [] [] 30 [0, 3] (before (au fL) [1,1,0]) ⟨aK 0 [.aj 1 n (ag z)], [], 0⟩ =
  some (aa.leaf ah.normal ([AV.aj 1 n (ag z), AV.int IntKind.i64 (n : Int)], [])) := by kernel_rfl
theorem X5 {n k : Nat} {z : Nat → Nat} : aI T [] [8, 15] 30 [0, 3] [part (au fL) [1,1,0,0,0]] ⟨[(0, .aj 1 n (ag z)), (3, .int .i64 k)], [], 0⟩ =
  some
 (aa.fork (decide ((k : Int) > 0))
  (aa.af
   [decide ((k : Int) > 0) = true,
    0 ≤ IntKind.i64.wrap ((k : Int) - 1) ∧ (IntKind.i64.wrap ((k : Int) - 1)).toNat < n]
   (aa.fork (bif true then ((z (IntKind.i64.wrap ((k : Int) - 1)).toNat) : Int) == 0 else false)
    (aa.leaf ah.normal ([AV.aj 1 n (ag z), AV.int IntKind.i64 (IntKind.i64.wrap ((k : Int) - 1))], []))
    (aa.leaf (ah.exit 0) ([AV.aj 1 n (ag z), AV.int IntKind.i64 (k : Int)], []))))
  (aa.af [decide ((k : Int) > 0) = false]
   (aa.fork false (aa.leaf ah.normal ([AV.aj 1 n (ag z), AV.int IntKind.i64 (IntKind.i64.wrap ((k : Int) - 1))], []))
    (aa.leaf (ah.exit 0) ([AV.aj 1 n (ag z), AV.int IntKind.i64 (k : Int)], []))))) := by kernel_rfl
theorem Uu {n k : Nat} {z : Nat → Nat} : ct T [] [] 30 fL (behind (au fL) [1,1,0]) ⟨[(0, .aj 1 n (ag z)), (3, .int .i64 k)], [], 0⟩ =
  some
 (aa.af [(0 : Int) ≤ 0 ∧ 0 ≤ (k : Int) ∧ (k : Int) ≤ (k : Int) ∧ (k : Int) ≤ (n : Int)]
  (aa.leaf ah.ret [AV.aj 1 ((k : Int).toNat - Int.toNat 0) fun i => ag z (i + Int.toNat 0)])) := by kernel_rfl
theorem Tm {n : Nat} {z : Nat → Nat} (K : Nat) (pre : aC) : ay P nv K [.aj 1 n (ag z)] pre ⟨.mag (val n z), [], [n < 2 ^ 62, ∀ i, i < n → z i < 2 ^ 32]⟩ := by
 refine gF hT Gf rfl (of_decide_eq_true (by kernel_rfl)) rfl (fun need c h0 => ?_) K pre
 obtain ⟨hn, hz⟩ : n < 2 ^ 62 ∧ ∀ i, i < n → z i < 2 ^ 32 := need
 refine ak.hole [1,1,0] (by kernel_rfl) (az.bk hT bg hm 30 [0, 3] TW (by kernel_rfl) fun s' hv => ?_)
 refine ak.fR (i := 0) (y := part (au fL) [1,1,0,0,0]) (by kernel_rfl) (fun k : Nat => ⟨aB [0, 3] [.aj 1 n (ag z), .int .i64 k], [], 0⟩) (fun k => k ≤ n ∧ ∀ i, k ≤ i → i < n → z i = 0) id n
  (cB [] hv h0 rfl ⟨⟨rfl, aG rfl⟩, ⟨rfl, aG rfl⟩, trivial⟩ trivial) ⟨Nat.le_refl _, fun i h1 h2 => by omega⟩ ?_
 rintro k ⟨hk, hzk⟩
 refine ak.bk hT bg hm 30 [0, 3] X5 (by kernel_rfl) ?_
 have fin : (k = 0 ∨ z (k - 1) ≠ 0) → ∀ s', aT [0, 3] s' = some ([.aj 1 n (ag z), .int .i64 k], []) → az P c fL.ntmps (behind (au fL) [1,1,0]) s' (Fin T fL (.mag (val n z))) := by
  intro hk0 s' hv
  refine az.weak (by kernel_rfl) (cB (vs := [.aj 1 n (ag z), .int .i64 k]) (ps := []) (nx := 0) [] hv h0 rfl ⟨⟨rfl, aG rfl⟩, ⟨rfl, aG rfl⟩, trivial⟩ trivial)
   (az.fin hT bg hm 30 Uu (by kernel_rfl) ⟨⟨by omega, by omega, by omega, by omega⟩, ?_⟩)
  have e : val n z = val k z := jF hk hzk
  refine iW (by rw [e, xA (fun i hi => hz i (by omega)) hk0]; simp) fun i hi => ?_
  have hi' : i < k := by simpa using hi
  rw [e, mB (fun j hj => hz j (by omega)) hi']
  rfl
 have hw : 0 < k → IntKind.i64.wrap ((k : Int) - 1) = ((k - 1 : Nat) : Int) := fun h => by rw [wrap_i64 (by omega) (by omega)]; omega
 refine ⟨fun hb => ?_, fun hb => ?_⟩
 ·have h1 : 0 < k := by simpa using hb
  rw [hw h1]
  refine ⟨⟨hb, by omega, by simp; omega⟩, fun hc s' hv => ?_, fun hc s' hv => ?_⟩
  ·refine ⟨k - 1, cB [] hv h0 rfl ⟨⟨rfl, aG rfl⟩, ⟨rfl, aG rfl⟩, trivial⟩ trivial, ⟨by omega, fun i h1 h2 => ?_⟩, by simp; omega⟩
   by_cases hi : i = k - 1
   ·subst hi; simpa using hc
   ·exact hzk i (by omega) h2
  ·exact fin (.inr (by simpa using hc)) s' hv
 ·have h1 : k = 0 := by simpa using hb
  refine ⟨hb, fun hc => by simp at hc, fun hc s' hv => fin (.inl h1) s' hv⟩
def UW (N n : Nat) : cF := aF (.mag N) [n < 2 ^ 62]
def G1 : aO := [(nv, bA (ju UW))]
theorem e9 : aW P G1 := aD (bQ (oF fun z n K hz need => fun _ => Tm K [] ⟨need, hz⟩)) bg
end Go.Am.B
