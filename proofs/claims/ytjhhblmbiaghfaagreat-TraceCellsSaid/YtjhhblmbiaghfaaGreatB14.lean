/- natural.Gcd. -/
import Derived.Test.YtjhhblmbiaghfaaGreatB13
set_option linter.unusedVariables false
namespace Go.Am.B
open Go Go.Am.N AV
theorem Zm : aO P uL fR (ax fR) := aP Wt (by kernel_rfl) (by kernel_rfl) (by kernel_rfl)
def GG : aW := (p4, bu (fP B1)) :: (nQ, xJ) :: (uJ, bu (jv wK)) :: (pg, z9) :: G1
noncomputable abbrev nC : Code := part (ax fR) [1,1,1]
theorem sM : br P GG := aJ Iy (aJ AN (aJ Wn (aJ Gb eM)))
theorem XB {n m : Nat} {z y : Nat → Nat} : aF T GG [] 60 [5, 6] (before (ax fR) [1,1,0]) ⟨aN 0 [.ah 1 n (aj z), .ah 1 m (aj y)], [], 0⟩ =
  some (af.ag [cN n (aj z), n < 2 ^ 62, nl (val n fun (i : Nat) ↦ numOf (aj z i)) < 2 ^ 40, cN m (aj y), m < 2 ^ 62, nl (val m fun (i : Nat) ↦ numOf (aj y i)) < 2 ^ 40] (af.leaf ak.normal ([mag (val n fun (i : Nat) ↦ numOf (aj z i)), mag (val m fun (i : Nat) ↦ numOf (aj y i))], []))) := by kernel_rfl
theorem W3 {X Y : Nat} : aF T GG [23] 60 [5, 6] [part (ax fR) [1,1,0,0,0]] ⟨az [5, 6] [.mag X, .mag Y], [], 0⟩ =
  some (af.fork (decide ((↑(nl Y) : Int) > (2 : Int))) (af.ag [nl X < 2 ^ 40, nl Y < 2 ^ 40] (af.leaf ak.normal ([mag Y, mag (if Y = 0 then 0 else X % Y)], []))) (af.leaf (ak.exit 0) ([mag X, mag Y], []))) := by kernel_rfl
theorem OC {X Y : Nat} : aF T GG [35, 39] 60 [13, 14, 4] (before nC [1,1,1,0]) ⟨az [5, 6] [.mag X, .mag Y], [], 0⟩ =
  some (af.fork ((↑(nl Y) : Int) == (0 : Int)) (af.leaf ak.ret ([tuple [], tuple [], mag X], [])) (af.fork (decide ((↑(nl X) : Int) > (2 : Int))) (af.ag [nl X < 2 ^ 40, nl Y < 2 ^ 40] (af.ag [nl Y ≤ 2, nl (if Y = 0 then 0 else X % Y) ≤ 2] (af.leaf ak.normal ([int IntKind.u64 (↑Y : Int), int IntKind.u64 (↑(if Y = 0 then 0 else X % Y) : Int), tuple []], [])))) (af.ag [nl X ≤ 2, nl Y ≤ 2] (af.leaf ak.normal ([int IntKind.u64 (↑X : Int), int IntKind.u64 (↑Y : Int), tuple []], []))))) := by kernel_rfl
theorem M4 {x y : Nat} : aF T GG [54] 60 [13, 14] [part nC [1,1,1,0,0,0]] ⟨az [13, 14] [.int .u64 x, .int .u64 y], [], 0⟩ =
  some (af.fork ((↑y : Int) != (0 : Int)) (af.ag [(↑y : Int) ≠ (0 : Int)] (af.leaf ak.normal ([int IntKind.u64 (↑y : Int), int IntKind.u64 ((↑x : Int).tmod (↑y : Int))], []))) (af.leaf (ak.exit 2) ([int IntKind.u64 (↑x : Int), int IntKind.u64 (↑y : Int)], []))) := by kernel_rfl
theorem TU {x y : Nat} : b9 T GG [] 60 fR (behind nC [1,1,1,0]) ⟨az [13, 14] [.int .u64 x, .int .u64 y], [], 0⟩ =
  some (af.ag [(0 : Int) ≤ (↑x : Int) ∧ (↑x : Int) < (2 : Int) ^ 64] (af.leaf ak.ret [mag (↑x : Int).toNat])) := by kernel_rfl
theorem mB {Y : Nat} (h : nl Y ≤ 2) : Y < 2 ^ 64 := cw.1 h
theorem NS {n m : Nat} {z y : Nat → Nat} (hz : ∀ i, i < n → z i < 2 ^ 32) (hy : ∀ i, i < m → y i < 2 ^ 32) (hn : n < 2 ^ 40) (hm' : m < 2 ^ 40) (K : Nat) (pre : aB) :
  aC P uL K [.ah 1 n (aj z), .ah 1 m (aj y)] pre (aK (.mag (Nat.gcd (val n z) (val m y))) []) := by
 refine gA hT Zm rfl (of_decide_eq_true (by kernel_rfl)) rfl (fun _ c h0 => ?_) K pre
 have hk0 : ∀ {nx : Nat} k x, c.k0 k = some x → k < nx := gT h0
 have hA : nl (val n z) ≤ n := cw.2 (ec hz)
 have hB : nl (val m y) ≤ m := cw.2 (ec hy)
 refine aq.hole [1,1,0] (by kernel_rfl) (aA.aS hT sM hm 60 [5, 6] XB (by kernel_rfl) ?_)
 simp only [af.all, ay, gI]
 generalize val n z = A at *
 generalize val m y = B at *
 refine ⟨⟨eG hz, by omega, by omega, eG hy, by omega, by omega⟩, fun s' hv => bL ?_⟩
 refine aq.fl (i := 0) (y := part (ax fR) [1,1,0,0,0]) (by kernel_rfl) [5, 6] 0 hk0 (fun p : Nat × Nat => [.mag p.1, .mag p.2]) (fun _ => []) (fun _ => rfl) (fun _ => trivial)
  (fun p => Nat.gcd p.1 p.2 = Nat.gcd A B ∧ nl p.1 < 2 ^ 40 ∧ nl p.2 < 2 ^ 40) (fun p => p.2) (A, B) hv ⟨rfl, by simp only; omega, by simp only; omega⟩ ?_
 rintro ⟨X, Y⟩ ⟨hg, hX, hY⟩
 simp only at hg hX hY
 refine aq.aS hT sM hm 60 [5, 6] W3 (by kernel_rfl) ?_
 simp only [af.all, ay, decide_eq_true_eq, decide_eq_false_iff_not]
 have hstep : ∀ {X Y : Nat}, Y ≠ 0 → Nat.gcd Y (X % Y) = Nat.gcd X Y := fun {X Y} _ => by rw [Nat.gcd_comm X Y, Nat.gcd_rec Y X, Nat.gcd_comm]
 refine ⟨fun hb => ⟨⟨hX, hY⟩, fun s' hv => ?_⟩, fun hb s' hv => dI ?_⟩
 ·have hY0 : Y ≠ 0 := eH.1 (by omega)
  have hlt := Nat.mod_lt X (show 0 < Y by omega)
  refine ⟨(Y, X % Y), cG hv (by rw [if_neg hY0]) rfl, ⟨by rw [← hg]; exact hstep hY0, hY, Nat.lt_of_le_of_lt (fo (Nat.le_of_lt hlt)) hY⟩, hlt⟩
 have hY2 : nl Y ≤ 2 := by omega
 refine bL (aA.gZ (nx := 0) hv hk0 (by kernel_rfl) rfl trivial ?_)
 show aA P c fR.ntmps [nC] _ _
 refine aq.hole [1,1,1,0] (by kernel_rfl) (aA.aS hT sM hm 60 [13, 14, 4] OC (by kernel_rfl) ?_)
 simp only [af.all, ay, decide_eq_true_eq, decide_eq_false_iff_not, beq_iff_eq, beq_eq_false_iff_ne, ne_eq]
 have rest : ∀ {x y : Nat} {s' : aE}, x < 2 ^ 64 → y < 2 ^ 64 → Nat.gcd x y = Nat.gcd A B → aQ [13, 14, 4] s' = some ([.int .u64 (x : Nat), .int .u64 (y : Nat)] ++ [.tuple []], []) →
   aq P c fR.ntmps (part nC [1,1,1,0]) s' (cS (fun s' => aA P c fR.ntmps (behind nC [1,1,1,0]) s' (cS (fun s' => aA P c fR.ntmps [] s' (Fin T fR (.mag (Nat.gcd A B)))) (Fin T fR (.mag (Nat.gcd A B)))))
    (cS (fun s' => aA P c fR.ntmps [] s' (Fin T fR (.mag (Nat.gcd A B)))) (Fin T fR (.mag (Nat.gcd A B))))) := by
  intro x y s' hx hy hg hv
  have hv := gf (ls := [13, 14]) (l := [4]) (vs := [.int .u64 (x : Nat), .int .u64 (y : Nat)]) hv rfl rfl
  refine aq.fl (i := 2) (y := part nC [1,1,1,0,0,0]) (by kernel_rfl) [13, 14] 0 hk0 (fun p : Nat × Nat => [.int .u64 (p.1 : Nat), .int .u64 (p.2 : Nat)]) (fun _ => []) (fun _ => rfl) (fun _ => trivial)
   (fun p => Nat.gcd p.1 p.2 = Nat.gcd A B ∧ p.1 < 2 ^ 64 ∧ p.2 < 2 ^ 64) (fun p => p.2) (x, y) hv ⟨hg, hx, hy⟩ ?_
  rintro ⟨x, y⟩ ⟨hg, hx, hy⟩
  simp only at hg hx hy
  refine aq.aS hT sM hm 60 [13, 14] M4 (by kernel_rfl) ?_
  simp only [af.all, ay, bne_iff_ne, ne_eq, bne_eq_false_iff_eq]
  refine ⟨fun hb => ⟨hb, fun s' hv => ?_⟩, fun hb s' hv => dI ?_⟩
  ·have hy0 : y ≠ 0 := by omega
   have hlt := Nat.mod_lt x (show 0 < y by omega)
   exact ⟨(y, x % y), cG hv (by rw [← Int.ofNat_tmod]) rfl, ⟨by rw [← hg]; exact hstep hy0, hy, by simp only; omega⟩, hlt⟩
  ·have hy0 : y = 0 := by omega
   subst hy0
   refine bL ?_
   refine aA.mono (Q := Fin T fR (.mag (Nat.gcd A B))) (fun e s' h => by cases e <;> exact h) ?_
   refine aA.xQ hT sM hm 60 (nx := 0) hv hk0 rfl trivial TU (by kernel_rfl) (by kernel_rfl) ⟨⟨by omega, by omega⟩, cV ?_⟩
   rw [Int.toNat_natCast, ← hg, Nat.gcd_zero_right]
 refine ⟨fun hb s' hv => dJ (dJ ?_), fun hb => ⟨fun h1 => ⟨⟨hX, hY⟩, ⟨by omega, ?_⟩, fun s' hv => bL (rest (mB hY2) ?_ ?_ (cG hv rfl rfl))⟩, fun h1 => ⟨⟨by omega, by omega⟩, fun s' hv => bL (rest (mB (by omega)) (mB hY2) hg (cG hv rfl rfl))⟩⟩⟩
 ·have hY0 : Y = 0 := by
   rcases Nat.eq_zero_or_pos Y with h1 | h1
   ·exact h1
   ·have := eH.2 (show Y ≠ 0 by omega); omega
  refine eL (us := [.mag X]) (.inr rfl) hv (by kernel_rfl) (cV ?_)
  rw [← hg, hY0, Nat.gcd_zero_right]
 all_goals
  have hY0 : Y ≠ 0 := eH.1 (by omega)
  have hlt := Nat.mod_lt X (show 0 < Y by omega)
  rw [if_neg hY0]
 ·exact Nat.le_trans (fo (Nat.le_of_lt hlt)) hY2
 ·exact Nat.lt_trans hlt (mB hY2)
 ·rw [← hg]; exact hstep hY0
def HV (A n B m : Nat) : cC := aK (.mag (Nat.gcd A B)) [n < 2 ^ 40, m < 2 ^ 40]
theorem W1 : ∀ K args pre r, bu (fP HV) K args pre = some r → aC P uL K args pre r :=
 bQ (pJ fun _ _ _ _ K hz hy need => NS hz hy need.1 need.2 K [])
end Go.Am.B
