/- natural.trim. -/
import Derived.Test.YtbghpkgbokbmlaaGreatZ1
import Derived.Test.YtbghpkgbokbmlaaGreatNames
set_option linter.unusedVariables false
namespace Go.Am.B
open Go Go.Am.N AV
theorem G9 : aN P nj fE (au fE) := aK Y5 (by kernel_rfl) (by kernel_rfl) (by kernel_rfl)
theorem Kl {n : Nat} {z : Nat → Nat} : aH T [] [] 30 [0, 3] (before (au fE) [1,1,0]) ⟨aL 0 [.ag 1 n (ah z)], [], 0⟩ =
  some (aa.leaf aj.normal ([AV.ag 1 n (ah z), AV.int IntKind.i64 (n : Int)], [])) := by kernel_rfl
theorem Mi {n k : Nat} {z : Nat → Nat} : aH T [] [8, 15] 30 [0, 3] [part (au fE) [1,1,0,0,0]] ⟨[(0, .ag 1 n (ah z)), (3, .int .i64 k)], [], 0⟩ =
  some
 (aa.fork (decide ((k : Int) > 0))
  (aa.af
   [decide ((k : Int) > 0) = true,
    0 ≤ IntKind.i64.wrap ((k : Int) - 1) ∧ (IntKind.i64.wrap ((k : Int) - 1)).toNat < n]
   (aa.fork (bif true then ((z (IntKind.i64.wrap ((k : Int) - 1)).toNat) : Int) == 0 else false)
    (aa.leaf aj.normal ([AV.ag 1 n (ah z), AV.int IntKind.i64 (IntKind.i64.wrap ((k : Int) - 1))], []))
    (aa.leaf (aj.exit 0) ([AV.ag 1 n (ah z), AV.int IntKind.i64 (k : Int)], []))))
  (aa.af [decide ((k : Int) > 0) = false]
   (aa.fork false (aa.leaf aj.normal ([AV.ag 1 n (ah z), AV.int IntKind.i64 (IntKind.i64.wrap ((k : Int) - 1))], []))
    (aa.leaf (aj.exit 0) ([AV.ag 1 n (ah z), AV.int IntKind.i64 (k : Int)], []))))) := by kernel_rfl
theorem Wc {n k : Nat} {z : Nat → Nat} : bR T [] [] 30 fE (behind (au fE) [1,1,0]) ⟨[(0, .ag 1 n (ah z)), (3, .int .i64 k)], [], 0⟩ =
  some
 (aa.af [(0 : Int) ≤ 0 ∧ 0 ≤ (k : Int) ∧ (k : Int) ≤ (k : Int) ∧ (k : Int) ≤ (n : Int)]
  (aa.leaf aj.ret [AV.ag 1 ((k : Int).toNat - Int.toNat 0) fun i => ah z (i + Int.toNat 0)])) := by kernel_rfl
theorem My {n : Nat} {z : Nat → Nat} (K : Nat) (pre : aC) : aA P nj K [.ag 1 n (ah z)] pre ⟨.mag (val n z), [], [n < 2 ^ 62, ∀ i, i < n → z i < 2 ^ 32]⟩ := by
 refine gz hT G9 rfl (of_decide_eq_true (by kernel_rfl)) rfl (fun need c h0 => ?_) K pre
 obtain ⟨hn, hz⟩ : n < 2 ^ 62 ∧ ∀ i, i < n → z i < 2 ^ 32 := need
 refine ak.hole [1,1,0] (by kernel_rfl) (ay.aY hT aU hm 30 [0, 3] Kl (by kernel_rfl) fun s' hv => ?_)
 refine ak.fL (i := 0) (y := part (au fE) [1,1,0,0,0]) (by kernel_rfl) (fun k : Nat => ⟨az [0, 3] [.ag 1 n (ah z), .int .i64 k], [], 0⟩) (fun k => k ≤ n ∧ ∀ i, k ≤ i → i < n → z i = 0) id n
  (ck [] hv h0 rfl ⟨⟨rfl, aF rfl⟩, ⟨rfl, aF rfl⟩, trivial⟩ trivial) ⟨Nat.le_refl _, fun i h1 h2 => by omega⟩ ?_
 rintro k ⟨hk, hzk⟩
 refine ak.aY hT aU hm 30 [0, 3] Mi (by kernel_rfl) ?_
 have fin : (k = 0 ∨ z (k - 1) ≠ 0) → ∀ s', aR [0, 3] s' = some ([.ag 1 n (ah z), .int .i64 k], []) → ay P c fE.ntmps (behind (au fE) [1,1,0]) s' (Fin T fE (.mag (val n z))) := by
  intro hk0 s' hv
  refine ay.weak (by kernel_rfl) (ck (vs := [.ag 1 n (ah z), .int .i64 k]) (ps := []) (nx := 0) [] hv h0 rfl ⟨⟨rfl, aF rfl⟩, ⟨rfl, aF rfl⟩, trivial⟩ trivial)
   (ay.fin hT aU hm 30 Wc (by kernel_rfl) ⟨⟨by omega, by omega, by omega, by omega⟩, ?_⟩)
  have e : val n z = val k z := jw hk hzk
  refine iU (by rw [e, yY (fun i hi => hz i (by omega)) hk0]; simp) fun i hi => ?_
  have hi' : i < k := by simpa using hi
  rw [e, kY (fun j hj => hz j (by omega)) hi']
  rfl
 have hw : 0 < k → IntKind.i64.wrap ((k : Int) - 1) = ((k - 1 : Nat) : Int) := fun h => by rw [wrap_i64 (by omega) (by omega)]; omega
 refine ⟨fun hb => ?_, fun hb => ?_⟩
 ·have h1 : 0 < k := by simpa using hb
  rw [hw h1]
  refine ⟨⟨hb, by omega, by simp; omega⟩, fun hc s' hv => ?_, fun hc s' hv => ?_⟩
  ·refine ⟨k - 1, ck [] hv h0 rfl ⟨⟨rfl, aF rfl⟩, ⟨rfl, aF rfl⟩, trivial⟩ trivial, ⟨by omega, fun i h1 h2 => ?_⟩, by simp; omega⟩
   by_cases hi : i = k - 1
   ·subst hi; simpa using hc
   ·exact hzk i (by omega) h2
  ·exact fin (.inr (by simpa using hc)) s' hv
 ·have h1 : k = 0 := by simpa using hb
  refine ⟨hb, fun hc => by simp at hc, fun hc s' hv => fin (.inl h1) s' hv⟩
def W2 (N n : Nat) : cw := aG (.mag N) [n < 2 ^ 62]
def G1 : aO := [(nj, bp (jk W2))]
theorem eU : aV P G1 := aD (bF (qo fun z n K hz need => fun _ => My K [] ⟨need, hz⟩)) aU
end Go.Am.B
