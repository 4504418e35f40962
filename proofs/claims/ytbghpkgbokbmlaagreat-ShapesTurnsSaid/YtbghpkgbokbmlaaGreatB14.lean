/- natural.Gcd. -/
import Derived.Test.YtbghpkgbokbmlaaGreatB13
set_option linter.unusedVariables false
namespace Go.Am.B
open Go Go.Am.N AV
theorem RV : aN P uN fI (au fI) := aK Zx (by kernel_rfl) (by kernel_rfl) (by kernel_rfl)
def GG : aO := (pK, bp (fP A1)) :: (nh, ya) :: (ve, bp (jk xu)) :: (pg, Cr) :: G1
noncomputable abbrev mL : Code := part (au fI) [1,1,1]
theorem rR : aV P GG := aD GF (aD zA (aD TP (aD F8 eU)))
theorem NL {n m : Nat} {z y : Nat → Nat} : aH T GG [] 60 [5, 6] (before (au fI) [1,1,0]) ⟨aL 0 [.ag 1 n (ah z), .ag 1 m (ah y)], [], 0⟩ =
  some (aa.af [cH n (ah z), n < 2 ^ 62, nl (val n fun (i : Nat) ↦ numOf (ah z i)) < 2 ^ 40, cH m (ah y), m < 2 ^ 62, nl (val m fun (i : Nat) ↦ numOf (ah y i)) < 2 ^ 40] (aa.leaf aj.normal ([mag (val n fun (i : Nat) ↦ numOf (ah z i)), mag (val m fun (i : Nat) ↦ numOf (ah y i))], []))) := by kernel_rfl
theorem Up {X Y : Nat} : aH T GG [23] 60 [5, 6] [part (au fI) [1,1,0,0,0]] ⟨az [5, 6] [.mag X, .mag Y], [], 0⟩ =
  some (aa.fork (decide ((↑(nl Y) : Int) > (2 : Int))) (aa.af [nl X < 2 ^ 40, nl Y < 2 ^ 40] (aa.leaf aj.normal ([mag Y, mag (if Y = 0 then 0 else X % Y)], []))) (aa.leaf (aj.exit 0) ([mag X, mag Y], []))) := by kernel_rfl
theorem OZ {X Y : Nat} : aH T GG [35, 39] 60 [13, 14, 4] (before mL [1,1,1,0]) ⟨az [5, 6] [.mag X, .mag Y], [], 0⟩ =
  some (aa.fork ((↑(nl Y) : Int) == (0 : Int)) (aa.leaf aj.ret ([tuple [], tuple [], mag X], [])) (aa.fork (decide ((↑(nl X) : Int) > (2 : Int))) (aa.af [nl X < 2 ^ 40, nl Y < 2 ^ 40] (aa.af [nl Y ≤ 2, nl (if Y = 0 then 0 else X % Y) ≤ 2] (aa.leaf aj.normal ([int IntKind.u64 (↑Y : Int), int IntKind.u64 (↑(if Y = 0 then 0 else X % Y) : Int), tuple []], [])))) (aa.af [nl X ≤ 2, nl Y ≤ 2] (aa.leaf aj.normal ([int IntKind.u64 (↑X : Int), int IntKind.u64 (↑Y : Int), tuple []], []))))) := by kernel_rfl
theorem Mn {x y : Nat} : aH T GG [54] 60 [13, 14] [part mL [1,1,1,0,0,0]] ⟨az [13, 14] [.int .u64 x, .int .u64 y], [], 0⟩ =
  some (aa.fork ((↑y : Int) != (0 : Int)) (aa.af [(↑y : Int) ≠ (0 : Int)] (aa.leaf aj.normal ([int IntKind.u64 (↑y : Int), int IntKind.u64 ((↑x : Int).tmod (↑y : Int))], []))) (aa.leaf (aj.exit 2) ([int IntKind.u64 (↑x : Int), int IntKind.u64 (↑y : Int)], []))) := by kernel_rfl
theorem N7 {x y : Nat} : bR T GG [] 60 fI (behind mL [1,1,1,0]) ⟨az [13, 14] [.int .u64 x, .int .u64 y], [], 0⟩ =
  some (aa.af [(0 : Int) ≤ (↑x : Int) ∧ (↑x : Int) < (2 : Int) ^ 64] (aa.leaf aj.ret [mag (↑x : Int).toNat])) := by kernel_rfl
theorem lp {Y : Nat} (h : nl Y ≤ 2) : Y < 2 ^ 64 := cj.1 h
theorem RR {n m : Nat} {z y : Nat → Nat} (hz : ∀ i, i < n → z i < 2 ^ 32) (hy : ∀ i, i < m → y i < 2 ^ 32) (hn : n < 2 ^ 40) (hm' : m < 2 ^ 40) (K : Nat) (pre : aC) :
  aA P uN K [.ag 1 n (ah z), .ag 1 m (ah y)] pre (aG (.mag (Nat.gcd (val n z) (val m y))) []) := by
 refine gz hT RV rfl (of_decide_eq_true (by kernel_rfl)) rfl (fun _ c h0 => ?_) K pre
 have hk0 : ∀ {nx : Nat} k x, c.k0 k = some x → k < nx := gZ h0
 have hA : nl (val n z) ≤ n := cj.2 (eo hz)
 have hB : nl (val m y) ≤ m := cj.2 (eo hy)
 refine ak.hole [1,1,0] (by kernel_rfl) (ay.aY hT rR hm 60 [5, 6] NL (by kernel_rfl) ?_)
 simp only [aa.all, ax, gC]
 generalize val n z = A at *
 generalize val m y = B at *
 refine ⟨⟨eJ hz, by omega, by omega, eJ hy, by omega, by omega⟩, fun s' hv => bG ?_⟩
 refine ak.fu (i := 0) (y := part (au fI) [1,1,0,0,0]) (by kernel_rfl) [5, 6] 0 hk0 (fun p : Nat × Nat => [.mag p.1, .mag p.2]) (fun _ => []) (fun _ => rfl) (fun _ => trivial)
  (fun p => Nat.gcd p.1 p.2 = Nat.gcd A B ∧ nl p.1 < 2 ^ 40 ∧ nl p.2 < 2 ^ 40) (fun p => p.2) (A, B) hv ⟨rfl, by simp only; omega, by simp only; omega⟩ ?_
 rintro ⟨X, Y⟩ ⟨hg, hX, hY⟩
 simp only at hg hX hY
 refine ak.aY hT rR hm 60 [5, 6] Up (by kernel_rfl) ?_
 simp only [aa.all, ax, decide_eq_true_eq, decide_eq_false_iff_not]
 have hstep : ∀ {X Y : Nat}, Y ≠ 0 → Nat.gcd Y (X % Y) = Nat.gcd X Y := fun {X Y} _ => by rw [Nat.gcd_comm X Y, Nat.gcd_rec Y X, Nat.gcd_comm]
 refine ⟨fun hb => ⟨⟨hX, hY⟩, fun s' hv => ?_⟩, fun hb s' hv => dK ?_⟩
 ·have hY0 : Y ≠ 0 := eE.1 (by omega)
  have hlt := Nat.mod_lt X (show 0 < Y by omega)
  refine ⟨(Y, X % Y), cD hv (by rw [if_neg hY0]) rfl, ⟨by rw [← hg]; exact hstep hY0, hY, Nat.lt_of_le_of_lt (fc (Nat.le_of_lt hlt)) hY⟩, hlt⟩
 have hY2 : nl Y ≤ 2 := by omega
 refine bG (ay.gX (nx := 0) hv hk0 (by kernel_rfl) rfl trivial ?_)
 show ay P c fI.ntmps [mL] _ _
 refine ak.hole [1,1,1,0] (by kernel_rfl) (ay.aY hT rR hm 60 [13, 14, 4] OZ (by kernel_rfl) ?_)
 simp only [aa.all, ax, decide_eq_true_eq, decide_eq_false_iff_not, beq_iff_eq, beq_eq_false_iff_ne, ne_eq]
 have rest : ∀ {x y : Nat} {s' : aE}, x < 2 ^ 64 → y < 2 ^ 64 → Nat.gcd x y = Nat.gcd A B → aR [13, 14, 4] s' = some ([.int .u64 (x : Nat), .int .u64 (y : Nat)] ++ [.tuple []], []) →
   ak P c fI.ntmps (part mL [1,1,1,0]) s' (cR (fun s' => ay P c fI.ntmps (behind mL [1,1,1,0]) s' (cR (fun s' => ay P c fI.ntmps [] s' (Fin T fI (.mag (Nat.gcd A B)))) (Fin T fI (.mag (Nat.gcd A B)))))
    (cR (fun s' => ay P c fI.ntmps [] s' (Fin T fI (.mag (Nat.gcd A B)))) (Fin T fI (.mag (Nat.gcd A B))))) := by
  intro x y s' hx hy hg hv
  have hv := fY (ls := [13, 14]) (l := [4]) (vs := [.int .u64 (x : Nat), .int .u64 (y : Nat)]) hv rfl rfl
  refine ak.fu (i := 2) (y := part mL [1,1,1,0,0,0]) (by kernel_rfl) [13, 14] 0 hk0 (fun p : Nat × Nat => [.int .u64 (p.1 : Nat), .int .u64 (p.2 : Nat)]) (fun _ => []) (fun _ => rfl) (fun _ => trivial)
   (fun p => Nat.gcd p.1 p.2 = Nat.gcd A B ∧ p.1 < 2 ^ 64 ∧ p.2 < 2 ^ 64) (fun p => p.2) (x, y) hv ⟨hg, hx, hy⟩ ?_
  rintro ⟨x, y⟩ ⟨hg, hx, hy⟩
  simp only at hg hx hy
  refine ak.aY hT rR hm 60 [13, 14] Mn (by kernel_rfl) ?_
  simp only [aa.all, ax, bne_iff_ne, ne_eq, bne_eq_false_iff_eq]
  refine ⟨fun hb => ⟨hb, fun s' hv => ?_⟩, fun hb s' hv => dK ?_⟩
  ·have hy0 : y ≠ 0 := by omega
   have hlt := Nat.mod_lt x (show 0 < y by omega)
   exact ⟨(y, x % y), cD hv (by rw [← Int.ofNat_tmod]) rfl, ⟨by rw [← hg]; exact hstep hy0, hy, by simp only; omega⟩, hlt⟩
  ·have hy0 : y = 0 := by omega
   subst hy0
   refine bG ?_
   refine ay.mono (Q := Fin T fI (.mag (Nat.gcd A B))) (fun e s' h => by cases e <;> exact h) ?_
   refine ay.yO hT rR hm 60 (nx := 0) hv hk0 rfl trivial N7 (by kernel_rfl) (by kernel_rfl) ⟨⟨by omega, by omega⟩, cW ?_⟩
   rw [Int.toNat_natCast, ← hg, Nat.gcd_zero_right]
 refine ⟨fun hb s' hv => dO (dO ?_), fun hb => ⟨fun h1 => ⟨⟨hX, hY⟩, ⟨by omega, ?_⟩, fun s' hv => bG (rest (lp hY2) ?_ ?_ (cD hv rfl rfl))⟩, fun h1 => ⟨⟨by omega, by omega⟩, fun s' hv => bG (rest (lp (by omega)) (lp hY2) hg (cD hv rfl rfl))⟩⟩⟩
 ·have hY0 : Y = 0 := by
   rcases Nat.eq_zero_or_pos Y with h1 | h1
   ·exact h1
   ·have := eE.2 (show Y ≠ 0 by omega); omega
  refine eO (us := [.mag X]) (.inr rfl) hv (by kernel_rfl) (cW ?_)
  rw [← hg, hY0, Nat.gcd_zero_right]
 all_goals
  have hY0 : Y ≠ 0 := eE.1 (by omega)
  have hlt := Nat.mod_lt X (show 0 < Y by omega)
  rw [if_neg hY0]
 ·exact Nat.le_trans (fc (Nat.le_of_lt hlt)) hY2
 ·exact Nat.lt_trans hlt (lp hY2)
 ·rw [← hg]; exact hstep hY0
def GX (A n B m : Nat) : cw := aG (.mag (Nat.gcd A B)) [n < 2 ^ 40, m < 2 ^ 40]
theorem Qh : ∀ K args pre r, bp (fP GX) K args pre = some r → aA P uN K args pre r :=
 bF (og fun _ _ _ _ K hz hy need => RR hz hy need.1 need.2 K [])
end Go.Am.B
