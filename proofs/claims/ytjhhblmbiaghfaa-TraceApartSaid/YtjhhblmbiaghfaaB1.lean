/- natural.trim. -/
import Derived.Test.YtjhhblmbiaghfaaZ1
import Derived.Test.YtjhhblmbiaghfaaNames
set_option linter.unusedVariables false
namespace Go.Am.B
open Go Go.Am.N AV
theorem B2 : aO P nc fc (ax fc) := aS JR (by kernel_rfl) (by kernel_rfl) (by kernel_rfl)
theorem Ga {n : Nat} {z : Nat → Nat} : aG T [] [] 30 [0, 3] (before (ax fc) [1,1,0]) ⟨aM 0 [.ah 1 n (ag z)], [], 0⟩ =
  some (aa.leaf aj.normal ([AV.ah 1 n (ag z), AV.int IntKind.i64 (n : Int)], [])) := by kernel_rfl
theorem Ie {n k : Nat} {z : Nat → Nat} : aG T [] [8, 15] 30 [0, 3] [part (ax fc) [1,1,0,0,0]] ⟨[(0, .ah 1 n (ag z)), (3, .int .i64 k)], [], 0⟩ =
  some
 (aa.fork (decide ((k : Int) > 0))
  (aa.af
   [decide ((k : Int) > 0) = true,
    0 ≤ IntKind.i64.wrap ((k : Int) - 1) ∧ (IntKind.i64.wrap ((k : Int) - 1)).toNat < n]
   (aa.fork (bif true then ((z (IntKind.i64.wrap ((k : Int) - 1)).toNat) : Int) == 0 else false)
    (aa.leaf aj.normal ([AV.ah 1 n (ag z), AV.int IntKind.i64 (IntKind.i64.wrap ((k : Int) - 1))], []))
    (aa.leaf (aj.exit 0) ([AV.ah 1 n (ag z), AV.int IntKind.i64 (k : Int)], []))))
  (aa.af [decide ((k : Int) > 0) = false]
   (aa.fork false (aa.leaf aj.normal ([AV.ah 1 n (ag z), AV.int IntKind.i64 (IntKind.i64.wrap ((k : Int) - 1))], []))
    (aa.leaf (aj.exit 0) ([AV.ah 1 n (ag z), AV.int IntKind.i64 (k : Int)], []))))) := by kernel_rfl
theorem PZ {n k : Nat} {z : Nat → Nat} : cJ T [] [] 30 fc (behind (ax fc) [1,1,0]) ⟨[(0, .ah 1 n (ag z)), (3, .int .i64 k)], [], 0⟩ =
  some
 (aa.af [(0 : Int) ≤ 0 ∧ 0 ≤ (k : Int) ∧ (k : Int) ≤ (k : Int) ∧ (k : Int) ≤ (n : Int)]
  (aa.leaf aj.ret [AV.ah 1 ((k : Int).toNat - Int.toNat 0) fun i => ag z (i + Int.toNat 0)])) := by kernel_rfl
theorem SJ {n : Nat} {z : Nat → Nat} (K : Nat) (pre : aA) : aC P nc K [.ah 1 n (ag z)] pre ⟨.mag (val n z), [], [n < 2 ^ 62, ∀ i, i < n → z i < 2 ^ 32]⟩ := by
 refine gn hT B2 rfl (of_decide_eq_true (by kernel_rfl)) rfl (fun need c h0 => ?_) K pre
 obtain ⟨hn, hz⟩ : n < 2 ^ 62 ∧ ∀ i, i < n → z i < 2 ^ 32 := need
 refine aq.hole [1,1,0] (by kernel_rfl) (ay.aR hT aZ hm 30 [0, 3] Ga (by kernel_rfl) fun s' hv => ?_)
 refine aq.fh (i := 0) (y := part (ax fc) [1,1,0,0,0]) (by kernel_rfl) (fun k : Nat => ⟨aB [0, 3] [.ah 1 n (ag z), .int .i64 k], [], 0⟩) (fun k => k ≤ n ∧ ∀ i, k ≤ i → i < n → z i = 0) id n
  (b9 [] hv h0 rfl ⟨⟨rfl, aE rfl⟩, ⟨rfl, aE rfl⟩, trivial⟩ trivial) ⟨Nat.le_refl _, fun i h1 h2 => by omega⟩ ?_
 rintro k ⟨hk, hzk⟩
 refine aq.aR hT aZ hm 30 [0, 3] Ie (by kernel_rfl) ?_
 have fin : (k = 0 ∨ z (k - 1) ≠ 0) → ∀ s', aN [0, 3] s' = some ([.ah 1 n (ag z), .int .i64 k], []) → ay P c fc.ntmps (behind (ax fc) [1,1,0]) s' (Fin T fc (.mag (val n z))) := by
  intro hk0 s' hv
  refine ay.weak (by kernel_rfl) (b9 (vs := [.ah 1 n (ag z), .int .i64 k]) (ps := []) (nx := 0) [] hv h0 rfl ⟨⟨rfl, aE rfl⟩, ⟨rfl, aE rfl⟩, trivial⟩ trivial)
   (ay.fin hT aZ hm 30 PZ (by kernel_rfl) ⟨⟨by omega, by omega, by omega, by omega⟩, ?_⟩)
  have e : val n z = val k z := jy hk hzk
  refine g9 (by rw [e, uQ (fun i hi => hz i (by omega)) hk0]; simp) fun i hi => ?_
  have hi' : i < k := by simpa using hi
  rw [e, kH (fun j hj => hz j (by omega)) hi']
  rfl
 have hw : 0 < k → IntKind.i64.wrap ((k : Int) - 1) = ((k - 1 : Nat) : Int) := fun h => by rw [wrap_i64 (by omega) (by omega)]; omega
 refine ⟨fun hb => ?_, fun hb => ?_⟩
 ·have h1 : 0 < k := by simpa using hb
  rw [hw h1]
  refine ⟨⟨hb, by omega, by simp; omega⟩, fun hc s' hv => ?_, fun hc s' hv => ?_⟩
  ·refine ⟨k - 1, b9 [] hv h0 rfl ⟨⟨rfl, aE rfl⟩, ⟨rfl, aE rfl⟩, trivial⟩ trivial, ⟨by omega, fun i h1 h2 => ?_⟩, by simp; omega⟩
   by_cases hi : i = k - 1
   ·subst hi; simpa using hc
   ·exact hzk i (by omega) h2
  ·exact fin (.inr (by simpa using hc)) s' hv
 ·have h1 : k = 0 := by simpa using hb
  refine ⟨hb, fun hc => by simp at hc, fun hc s' hv => fin (.inl h1) s' hv⟩
def Ln (N n : Nat) : cq := aJ (.mag N) [n < 2 ^ 62]
def G1 : bf := [(nc, bp (iR Ln))]
theorem eA : bC P G1 := aK (bK (oL fun z n K hz need => fun _ => SJ K [] ⟨need, hz⟩)) aZ
end Go.Am.B
