/- natural.trim. -/
import Derived.Test.YtbghpkgbokbmlaaGreatZ1
import Derived.Test.YtbghpkgbokbmlaaGreatNames
set_option linter.unusedVariables false
namespace Go.Am.B
open Go Go.Am.N AV
theorem HS : aP P nS fI (au fI) := aL L7 (by kernel_rfl) (by kernel_rfl) (by kernel_rfl)
theorem adQ {n : Nat} {z : Nat → Nat} : aH T [] [] 30 [0, 3] (before (au fI) [1,1,0]) ⟨aM 0 [.aj 1 n (ah z)], [], 0⟩ =
  some (aa.leaf ag.normal ([AV.aj 1 n (ah z), AV.int IntKind.i64 (n : Int)], [])) := by kernel_rfl
theorem Za {n k : Nat} {z : Nat → Nat} : aH T [] [8, 15] 30 [0, 3] [part (au fI) [1,1,0,0,0]] ⟨[(0, .aj 1 n (ah z)), (3, .int .i64 k)], [], 0⟩ =
  some
 (aa.fork (decide ((k : Int) > 0))
  (aa.af
   [decide ((k : Int) > 0) = true,
    0 ≤ IntKind.i64.wrap ((k : Int) - 1) ∧ (IntKind.i64.wrap ((k : Int) - 1)).toNat < n]
   (aa.fork (bif true then ((z (IntKind.i64.wrap ((k : Int) - 1)).toNat) : Int) == 0 else false)
    (aa.leaf ag.normal ([AV.aj 1 n (ah z), AV.int IntKind.i64 (IntKind.i64.wrap ((k : Int) - 1))], []))
    (aa.leaf (ag.exit 0) ([AV.aj 1 n (ah z), AV.int IntKind.i64 (k : Int)], []))))
  (aa.af [decide ((k : Int) > 0) = false]
   (aa.fork false (aa.leaf ag.normal ([AV.aj 1 n (ah z), AV.int IntKind.i64 (IntKind.i64.wrap ((k : Int) - 1))], []))
    (aa.leaf (ag.exit 0) ([AV.aj 1 n (ah z), AV.int IntKind.i64 (k : Int)], []))))) := by kernel_rfl
theorem Yl {n k : Nat} {z : Nat → Nat} : bW T [] [] 30 fI (behind (au fI) [1,1,0]) ⟨[(0, .aj 1 n (ah z)), (3, .int .i64 k)], [], 0⟩ =
  some
 (aa.af [(0 : Int) ≤ 0 ∧ 0 ≤ (k : Int) ∧ (k : Int) ≤ (k : Int) ∧ (k : Int) ≤ (n : Int)]
  (aa.leaf ag.ret [AV.aj 1 ((k : Int).toNat - Int.toNat 0) fun i => ah z (i + Int.toNat 0)])) := by kernel_rfl
theorem ZW {n : Nat} {z : Nat → Nat} (K : Nat) (pre : aD) : az P nS K [.aj 1 n (ah z)] pre ⟨.mag (val n z), [], [n < 2 ^ 62, ∀ i, i < n → z i < 2 ^ 32]⟩ := by
 refine gX hT HS rfl (of_decide_eq_true (by kernel_rfl)) rfl (fun need c h0 => ?_) K pre
 obtain ⟨hn, hz⟩ : n < 2 ^ 62 ∧ ∀ i, i < n → z i < 2 ^ 32 := need
 refine aq.hole [1,1,0] (by kernel_rfl) (aA.aZ hT aT hm 30 [0, 3] adQ (by kernel_rfl) fun s' hv => ?_)
 refine aq.gk (i := 0) (y := part (au fI) [1,1,0,0,0]) (by kernel_rfl) (fun k : Nat => ⟨aB [0, 3] [.aj 1 n (ah z), .int .i64 k], [], 0⟩) (fun k => k ≤ n ∧ ∀ i, k ≤ i → i < n → z i = 0) id n
  (cA [] hv h0 rfl ⟨⟨rfl, aG rfl⟩, ⟨rfl, aG rfl⟩, trivial⟩ trivial) ⟨Nat.le_refl _, fun i h1 h2 => by omega⟩ ?_
 rintro k ⟨hk, hzk⟩
 refine aq.aZ hT aT hm 30 [0, 3] Za (by kernel_rfl) ?_
 have fin : (k = 0 ∨ z (k - 1) ≠ 0) → ∀ s', aU [0, 3] s' = some ([.aj 1 n (ah z), .int .i64 k], []) → aA P c fI.ntmps (behind (au fI) [1,1,0]) s' (Fin T fI (.mag (val n z))) := by
  intro hk0 s' hv
  refine aA.weak (by kernel_rfl) (cA (vs := [.aj 1 n (ah z), .int .i64 k]) (ps := []) (nx := 0) [] hv h0 rfl ⟨⟨rfl, aG rfl⟩, ⟨rfl, aG rfl⟩, trivial⟩ trivial)
   (aA.fin hT aT hm 30 Yl (by kernel_rfl) ⟨⟨by omega, by omega, by omega, by omega⟩, ?_⟩)
  have e : val n z = val k z := jV hk hzk
  refine jj (by rw [e, z9 (fun i hi => hz i (by omega)) hk0]; simp) fun i hi => ?_
  have hi' : i < k := by simpa using hi
  rw [e, mH (fun j hj => hz j (by omega)) hi']
  rfl
 have hw : 0 < k → IntKind.i64.wrap ((k : Int) - 1) = ((k - 1 : Nat) : Int) := fun h => by rw [wrap_i64 (by omega) (by omega)]; omega
 refine ⟨fun hb => ?_, fun hb => ?_⟩
 ·have h1 : 0 < k := by simpa using hb
  rw [hw h1]
  refine ⟨⟨hb, by omega, by simp; omega⟩, fun hc s' hv => ?_, fun hc s' hv => ?_⟩
  ·refine ⟨k - 1, cA [] hv h0 rfl ⟨⟨rfl, aG rfl⟩, ⟨rfl, aG rfl⟩, trivial⟩ trivial, ⟨by omega, fun i h1 h2 => ?_⟩, by simp; omega⟩
   by_cases hi : i = k - 1
   ·subst hi; simpa using hc
   ·exact hzk i (by omega) h2
  ·exact fin (.inr (by simpa using hc)) s' hv
 ·have h1 : k = 0 := by simpa using hb
  refine ⟨hb, fun hc => by simp at hc, fun hc s' hv => fin (.inl h1) s' hv⟩
def So (N n : Nat) : cB := aF (.mag N) [n < 2 ^ 62]
def G1 : aQ := [(nS, bt (jJ So))]
theorem fj : aW P G1 := aC (bH (oZ fun z n K hz need => fun _ => ZW K [] ⟨need, hz⟩)) aT
end Go.Am.B
