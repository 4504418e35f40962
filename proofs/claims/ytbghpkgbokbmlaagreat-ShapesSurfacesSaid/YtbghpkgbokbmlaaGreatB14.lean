/- natural.Gcd. -/
import Derived.Test.YtbghpkgbokbmlaaGreatB13
set_option linter.unusedVariables false
namespace Go.Am.B
open Go Go.Am.N AV
theorem WT : aP P ve fP (au fP) := aL Vf (by kernel_rfl) (by kernel_rfl) (by kernel_rfl)
def GG : aO := (p6, bA (fS Bz)) :: (nQ, w8) :: (rI, bA (ju yG)) :: (oK, Af) :: G1
noncomputable abbrev n6 : Code := part (au fP) [1,1,1]
theorem rN : aW P GG := aD EM (aD As (aD Y1 (aD Jp e9)))
theorem Yy {n m : Nat} {z y : Nat → Nat} : aI T GG [] 60 [5, 6] (before (au fP) [1,1,0]) ⟨aK 0 [.aj 1 n (ag z), .aj 1 m (ag y)], [], 0⟩ =
  some (aa.af [cO n (ag z), n < 2 ^ 62, nl (val n fun (i : Nat) ↦ numOf (ag z i)) < 2 ^ 40, cO m (ag y), m < 2 ^ 62, nl (val m fun (i : Nat) ↦ numOf (ag y i)) < 2 ^ 40] (aa.leaf ah.normal ([mag (val n fun (i : Nat) ↦ numOf (ag z i)), mag (val m fun (i : Nat) ↦ numOf (ag y i))], []))) := by kernel_rfl
theorem KI {X Y : Nat} : aI T GG [23] 60 [5, 6] [part (au fP) [1,1,0,0,0]] ⟨aB [5, 6] [.mag X, .mag Y], [], 0⟩ =
  some (aa.fork (decide ((↑(nl Y) : Int) > (2 : Int))) (aa.af [nl X < 2 ^ 40, nl Y < 2 ^ 40] (aa.leaf ah.normal ([mag Y, mag (if Y = 0 then 0 else X % Y)], []))) (aa.leaf (ah.exit 0) ([mag X, mag Y], []))) := by kernel_rfl
theorem Km {X Y : Nat} : aI T GG [35, 39] 60 [13, 14, 4] (before n6 [1,1,1,0]) ⟨aB [5, 6] [.mag X, .mag Y], [], 0⟩ =
  some (aa.fork ((↑(nl Y) : Int) == (0 : Int)) (aa.leaf ah.ret ([tuple [], tuple [], mag X], [])) (aa.fork (decide ((↑(nl X) : Int) > (2 : Int))) (aa.af [nl X < 2 ^ 40, nl Y < 2 ^ 40] (aa.af [nl Y ≤ 2, nl (if Y = 0 then 0 else X % Y) ≤ 2] (aa.leaf ah.normal ([int IntKind.u64 (↑Y : Int), int IntKind.u64 (↑(if Y = 0 then 0 else X % Y) : Int), tuple []], [])))) (aa.af [nl X ≤ 2, nl Y ≤ 2] (aa.leaf ah.normal ([int IntKind.u64 (↑X : Int), int IntKind.u64 (↑Y : Int), tuple []], []))))) := by kernel_rfl
theorem RN {x y : Nat} : aI T GG [54] 60 [13, 14] [part n6 [1,1,1,0,0,0]] ⟨aB [13, 14] [.int .u64 x, .int .u64 y], [], 0⟩ =
  some (aa.fork ((↑y : Int) != (0 : Int)) (aa.af [(↑y : Int) ≠ (0 : Int)] (aa.leaf ah.normal ([int IntKind.u64 (↑y : Int), int IntKind.u64 ((↑x : Int).tmod (↑y : Int))], []))) (aa.leaf (ah.exit 2) ([int IntKind.u64 (↑x : Int), int IntKind.u64 (↑y : Int)], []))) := by kernel_rfl
theorem Wp {x y : Nat} : ct T GG [] 60 fP (behind n6 [1,1,1,0]) ⟨aB [13, 14] [.int .u64 x, .int .u64 y], [], 0⟩ =
  some (aa.af [(0 : Int) ≤ (↑x : Int) ∧ (↑x : Int) < (2 : Int) ^ 64] (aa.leaf ah.ret [mag (↑x : Int).toNat])) := by kernel_rfl
theorem lU {Y : Nat} (h : nl Y ≤ 2) : Y < 2 ^ 64 := cD.1 h
theorem LI {n m : Nat} {z y : Nat → Nat} (hz : ∀ i, i < n → z i < 2 ^ 32) (hy : ∀ i, i < m → y i < 2 ^ 32) (hn : n < 2 ^ 40) (hm' : m < 2 ^ 40) (K : Nat) (pre : aC) :
  ay P ve K [.aj 1 n (ag z), .aj 1 m (ag y)] pre (aF (.mag (Nat.gcd (val n z) (val m y))) []) := by
 refine gF hT WT rfl (of_decide_eq_true (by kernel_rfl)) rfl (fun _ c h0 => ?_) K pre
 have hk0 : ∀ {nx : Nat} k x, c.k0 k = some x → k < nx := gU h0
 have hA : nl (val n z) ≤ n := cD.2 (eA hz)
 have hB : nl (val m y) ≤ m := cD.2 (eA hy)
 refine ak.hole [1,1,0] (by kernel_rfl) (az.bk hT rN hm 60 [5, 6] Yy (by kernel_rfl) ?_)
 simp only [aa.all, ax, gE]
 generalize val n z = A at *
 generalize val m y = B at *
 refine ⟨⟨eM hz, by omega, by omega, eM hy, by omega, by omega⟩, fun s' hv => bM ?_⟩
 refine ak.fu (i := 0) (y := part (au fP) [1,1,0,0,0]) (by kernel_rfl) [5, 6] 0 hk0 (fun p : Nat × Nat => [.mag p.1, .mag p.2]) (fun _ => []) (fun _ => rfl) (fun _ => trivial)
  (fun p => Nat.gcd p.1 p.2 = Nat.gcd A B ∧ nl p.1 < 2 ^ 40 ∧ nl p.2 < 2 ^ 40) (fun p => p.2) (A, B) hv ⟨rfl, by simp only; omega, by simp only; omega⟩ ?_
 rintro ⟨X, Y⟩ ⟨hg, hX, hY⟩
 simp only at hg hX hY
 refine ak.bk hT rN hm 60 [5, 6] KI (by kernel_rfl) ?_
 simp only [aa.all, ax, decide_eq_true_eq, decide_eq_false_iff_not]
 have hstep : ∀ {X Y : Nat}, Y ≠ 0 → Nat.gcd Y (X % Y) = Nat.gcd X Y := fun {X Y} _ => by rw [Nat.gcd_comm X Y, Nat.gcd_rec Y X, Nat.gcd_comm]
 refine ⟨fun hb => ⟨⟨hX, hY⟩, fun s' hv => ?_⟩, fun hb s' hv => dX ?_⟩
 ·have hY0 : Y ≠ 0 := eL.1 (by omega)
  have hlt := Nat.mod_lt X (show 0 < Y by omega)
  refine ⟨(Y, X % Y), cL hv (by rw [if_neg hY0]) rfl, ⟨by rw [← hg]; exact hstep hY0, hY, Nat.lt_of_le_of_lt (fA (Nat.le_of_lt hlt)) hY⟩, hlt⟩
 have hY2 : nl Y ≤ 2 := by omega
 refine bM (az.gW (nx := 0) hv hk0 (by kernel_rfl) rfl trivial ?_)
 show az P c fP.ntmps [n6] _ _
 refine ak.hole [1,1,1,0] (by kernel_rfl) (az.bk hT rN hm 60 [13, 14, 4] Km (by kernel_rfl) ?_)
 simp only [aa.all, ax, decide_eq_true_eq, decide_eq_false_iff_not, beq_iff_eq, beq_eq_false_iff_ne, ne_eq]
 have rest : ∀ {x y : Nat} {s' : aE}, x < 2 ^ 64 → y < 2 ^ 64 → Nat.gcd x y = Nat.gcd A B → aT [13, 14, 4] s' = some ([.int .u64 (x : Nat), .int .u64 (y : Nat)] ++ [.tuple []], []) →
   ak P c fP.ntmps (part n6 [1,1,1,0]) s' (dc (fun s' => az P c fP.ntmps (behind n6 [1,1,1,0]) s' (dc (fun s' => az P c fP.ntmps [] s' (Fin T fP (.mag (Nat.gcd A B)))) (Fin T fP (.mag (Nat.gcd A B)))))
    (dc (fun s' => az P c fP.ntmps [] s' (Fin T fP (.mag (Nat.gcd A B)))) (Fin T fP (.mag (Nat.gcd A B))))) := by
  intro x y s' hx hy hg hv
  have hv := gd (ls := [13, 14]) (l := [4]) (vs := [.int .u64 (x : Nat), .int .u64 (y : Nat)]) hv rfl rfl
  refine ak.fu (i := 2) (y := part n6 [1,1,1,0,0,0]) (by kernel_rfl) [13, 14] 0 hk0 (fun p : Nat × Nat => [.int .u64 (p.1 : Nat), .int .u64 (p.2 : Nat)]) (fun _ => []) (fun _ => rfl) (fun _ => trivial)
   (fun p => Nat.gcd p.1 p.2 = Nat.gcd A B ∧ p.1 < 2 ^ 64 ∧ p.2 < 2 ^ 64) (fun p => p.2) (x, y) hv ⟨hg, hx, hy⟩ ?_
  rintro ⟨x, y⟩ ⟨hg, hx, hy⟩
  simp only at hg hx hy
  refine ak.bk hT rN hm 60 [13, 14] RN (by kernel_rfl) ?_
  simp only [aa.all, ax, bne_iff_ne, ne_eq, bne_eq_false_iff_eq]
  refine ⟨fun hb => ⟨hb, fun s' hv => ?_⟩, fun hb s' hv => dX ?_⟩
  ·have hy0 : y ≠ 0 := by omega
   have hlt := Nat.mod_lt x (show 0 < y by omega)
   exact ⟨(y, x % y), cL hv (by rw [← Int.ofNat_tmod]) rfl, ⟨by rw [← hg]; exact hstep hy0, hy, by simp only; omega⟩, hlt⟩
  ·have hy0 : y = 0 := by omega
   subst hy0
   refine bM ?_
   refine az.mono (Q := Fin T fP (.mag (Nat.gcd A B))) (fun e s' h => by cases e <;> exact h) ?_
   refine az.xz hT rN hm 60 (nx := 0) hv hk0 rfl trivial Wp (by kernel_rfl) (by kernel_rfl) ⟨⟨by omega, by omega⟩, de ?_⟩
   rw [Int.toNat_natCast, ← hg, Nat.gcd_zero_right]
 refine ⟨fun hb s' hv => dZ (dZ ?_), fun hb => ⟨fun h1 => ⟨⟨hX, hY⟩, ⟨by omega, ?_⟩, fun s' hv => bM (rest (lU hY2) ?_ ?_ (cL hv rfl rfl))⟩, fun h1 => ⟨⟨by omega, by omega⟩, fun s' hv => bM (rest (lU (by omega)) (lU hY2) hg (cL hv rfl rfl))⟩⟩⟩
 ·have hY0 : Y = 0 := by
   rcases Nat.eq_zero_or_pos Y with h1 | h1
   ·exact h1
   ·have := eL.2 (show Y ≠ 0 by omega); omega
  refine eW (us := [.mag X]) (.inr rfl) hv (by kernel_rfl) (de ?_)
  rw [← hg, hY0, Nat.gcd_zero_right]
 all_goals
  have hY0 : Y ≠ 0 := eL.1 (by omega)
  have hlt := Nat.mod_lt X (show 0 < Y by omega)
  rw [if_neg hY0]
 ·exact Nat.le_trans (fA (Nat.le_of_lt hlt)) hY2
 ·exact Nat.lt_trans hlt (lU hY2)
 ·rw [← hg]; exact hstep hY0
def Dz (A n B m : Nat) : cF := aF (.mag (Nat.gcd A B)) [n < 2 ^ 40, m < 2 ^ 40]
theorem Kr : ∀ K args pre r, bA (fS Dz) K args pre = some r → ay P ve K args pre r :=
 bQ (oU fun _ _ _ _ K hz hy need => LI hz hy need.1 need.2 K [])
end Go.Am.B
