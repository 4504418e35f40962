/- natural.trim. -/
import Derived.Test.YtnocdkaonpdmjaaGreatZ2
import Derived.Test.YtnocdkaonpdmjaaGreatNames
set_option linter.unusedVariables false
namespace Go.Am.B
open Go Go.Am.N AV
theorem J3 : aN P pq fF (au fF) := aP adU (by kernel_rfl) (by kernel_rfl) (by kernel_rfl)
theorem QA {n : Nat} {z : Nat → Nat} : aI T [] [] 30 [0, 3] (before (au fF) [1,1,0]) ⟨aL 0 [.ak 1 n (aj z)], [], 0⟩ =
  some (aa.leaf ah.normal ([AV.ak 1 n (aj z), AV.int IntKind.i64 (n : Int)], [])) := by kernel_rfl
theorem YA {n k : Nat} {z : Nat → Nat} : aI T [] [8, 15] 30 [0, 3] [part (au fF) [1,1,0,0,0]] ⟨[(0, .ak 1 n (aj z)), (3, .int .i64 k)], [], 0⟩ =
  some
 (aa.fork (decide ((k : Int) > 0))
  (aa.ag
   [decide ((k : Int) > 0) = true,
    0 ≤ IntKind.i64.wrap ((k : Int) - 1) ∧ (IntKind.i64.wrap ((k : Int) - 1)).toNat < n]
   (aa.fork (bif true then ((z (IntKind.i64.wrap ((k : Int) - 1)).toNat) : Int) == 0 else false)
    (aa.leaf ah.normal ([AV.ak 1 n (aj z), AV.int IntKind.i64 (IntKind.i64.wrap ((k : Int) - 1))], []))
    (aa.leaf (ah.exit 0) ([AV.ak 1 n (aj z), AV.int IntKind.i64 (k : Int)], []))))
  (aa.ag [decide ((k : Int) > 0) = false]
   (aa.fork false (aa.leaf ah.normal ([AV.ak 1 n (aj z), AV.int IntKind.i64 (IntKind.i64.wrap ((k : Int) - 1))], []))
    (aa.leaf (ah.exit 0) ([AV.ak 1 n (aj z), AV.int IntKind.i64 (k : Int)], []))))) := by kernel_rfl
theorem OE {n k : Nat} {z : Nat → Nat} : b9 T [] [] 30 fF (behind (au fF) [1,1,0]) ⟨[(0, .ak 1 n (aj z)), (3, .int .i64 k)], [], 0⟩ =
  some
 (aa.ag [(0 : Int) ≤ 0 ∧ 0 ≤ (k : Int) ∧ (k : Int) ≤ (k : Int) ∧ (k : Int) ≤ (n : Int)]
  (aa.leaf ah.ret [AV.ak 1 ((k : Int).toNat - Int.toNat 0) fun i => aj z (i + Int.toNat 0)])) := by kernel_rfl
theorem Th {n : Nat} {z : Nat → Nat} (K : Nat) (pre : aD) : aA P pq K [.ak 1 n (aj z)] pre ⟨.mag (val n z), [], [n < 2 ^ 62, ∀ i, i < n → z i < 2 ^ 32]⟩ := by
 refine gZ hT J3 rfl (of_decide_eq_true (by kernel_rfl)) rfl (fun need c h0 => ?_) K pre
 obtain ⟨hn, hz⟩ : n < 2 ^ 62 ∧ ∀ i, i < n → z i < 2 ^ 32 := need
 refine aq.hole [1,1,0] (by kernel_rfl) (aC.aZ hT bk hm 30 [0, 3] QA (by kernel_rfl) fun s' hv => ?_)
 refine aq.gh (i := 0) (y := part (au fF) [1,1,0,0,0]) (by kernel_rfl) (fun k : Nat => ⟨aB [0, 3] [.ak 1 n (aj z), .int .i64 k], [], 0⟩) (fun k => k ≤ n ∧ ∀ i, k ≤ i → i < n → z i = 0) id n
  (cB [] hv h0 rfl ⟨⟨rfl, aH rfl⟩, ⟨rfl, aH rfl⟩, trivial⟩ trivial) ⟨Nat.le_refl _, fun i h1 h2 => by omega⟩ ?_
 rintro k ⟨hk, hzk⟩
 refine aq.aZ hT bk hm 30 [0, 3] YA (by kernel_rfl) ?_
 have fin : (k = 0 ∨ z (k - 1) ≠ 0) → ∀ s', aV [0, 3] s' = some ([.ak 1 n (aj z), .int .i64 k], []) → aC P c fF.ntmps (behind (au fF) [1,1,0]) s' (Fin T fF (.mag (val n z))) := by
  intro hk0 s' hv
  refine aC.weak (by kernel_rfl) (cB (vs := [.ak 1 n (aj z), .int .i64 k]) (ps := []) (nx := 0) [] hv h0 rfl ⟨⟨rfl, aH rfl⟩, ⟨rfl, aH rfl⟩, trivial⟩ trivial)
   (aC.fin hT bk hm 30 OE (by kernel_rfl) ⟨⟨by omega, by omega, by omega, by omega⟩, ?_⟩)
  have e : val n z = val k z := kq hk hzk
  refine jh (by rw [e, A4 (fun i hi => hz i (by omega)) hk0]; simp) fun i hi => ?_
  have hi' : i < k := by simpa using hi
  rw [e, mD (fun j hj => hz j (by omega)) hi']
  rfl
 have hw : 0 < k → IntKind.i64.wrap ((k : Int) - 1) = ((k - 1 : Nat) : Int) := fun h => by rw [wrap_i64 (by omega) (by omega)]; omega
 refine ⟨fun hb => ?_, fun hb => ?_⟩
 ·have h1 : 0 < k := by simpa using hb
  rw [hw h1]
  refine ⟨⟨hb, by omega, by simp; omega⟩, fun hc s' hv => ?_, fun hc s' hv => ?_⟩
  ·refine ⟨k - 1, cB [] hv h0 rfl ⟨⟨rfl, aH rfl⟩, ⟨rfl, aH rfl⟩, trivial⟩ trivial, ⟨by omega, fun i h1 h2 => ?_⟩, by simp; omega⟩
   by_cases hi : i = k - 1
   ·subst hi; simpa using hc
   ·exact hzk i (by omega) h2
  ·exact fin (.inr (by simpa using hc)) s' hv
 ·have h1 : k = 0 := by simpa using hb
  refine ⟨hb, fun hc => by simp at hc, fun hc s' hv => fin (.inl h1) s' hv⟩
def adH (N n : Nat) : cy := aG (.mag N) [n < 2 ^ 62]
def G1 : aQ := [(pq, bw (jD adH))]
theorem eW : aY P G1 := aF (bI (qF fun z n K hz need => fun _ => Th K [] ⟨need, hz⟩)) bk
end Go.Am.B
