/- natural.Gcd. -/
import Derived.Test.YtbghpkgbokbmlaaGreatB13
set_option linter.unusedVariables false
namespace Go.Am.B
open Go Go.Am.N AV
theorem G9 : aO P rR fu (au fu) := aL LM (by kernel_rfl) (by kernel_rfl) (by kernel_rfl)
def GG : aP := (nu, bk (fe xp)) :: (lN, sO) :: (qY, bk (iw uF)) :: (mO, yy) :: G1
noncomputable abbrev kY : Code := part (au fu) [1,1,1]
theorem qq : aX P GG := aE Ag (aE yN (aE HA (aE BY er)))
theorem Nz {n m : Nat} {z y : Nat → Nat} : aI T GG [] 60 [5, 6] (before (au fu) [1,1,0]) ⟨aM 0 [.ak 1 n (ag z), .ak 1 m (ag y)], [], 0⟩ =
  some (aa.af [cB n (ag z), n < 2 ^ 62, nl (val n fun (i : Nat) ↦ numOf (ag z i)) < 2 ^ 40, cB m (ag y), m < 2 ^ 62, nl (val m fun (i : Nat) ↦ numOf (ag y i)) < 2 ^ 40] (aa.leaf ah.normal ([mag (val n fun (i : Nat) ↦ numOf (ag z i)), mag (val m fun (i : Nat) ↦ numOf (ag y i))], []))) := by kernel_rfl
theorem J5 {X Y : Nat} : aI T GG [23] 60 [5, 6] [part (au fu) [1,1,0,0,0]] ⟨aB [5, 6] [.mag X, .mag Y], [], 0⟩ =
  some (aa.fork (decide ((↑(nl Y) : Int) > (2 : Int))) (aa.af [nl X < 2 ^ 40, nl Y < 2 ^ 40] (aa.leaf ah.normal ([mag Y, mag (if Y = 0 then 0 else X % Y)], []))) (aa.leaf (ah.exit 0) ([mag X, mag Y], []))) := by kernel_rfl
theorem Li {X Y : Nat} : aI T GG [35, 39] 60 [13, 14, 4] (before kY [1,1,1,0]) ⟨aB [5, 6] [.mag X, .mag Y], [], 0⟩ =
  some (aa.fork ((↑(nl Y) : Int) == (0 : Int)) (aa.leaf ah.ret ([tuple [], tuple [], mag X], [])) (aa.fork (decide ((↑(nl X) : Int) > (2 : Int))) (aa.af [nl X < 2 ^ 40, nl Y < 2 ^ 40] (aa.af [nl Y ≤ 2, nl (if Y = 0 then 0 else X % Y) ≤ 2] (aa.leaf ah.normal ([int IntKind.u64 (↑Y : Int), int IntKind.u64 (↑(if Y = 0 then 0 else X % Y) : Int), tuple []], [])))) (aa.af [nl X ≤ 2, nl Y ≤ 2] (aa.leaf ah.normal ([int IntKind.u64 (↑X : Int), int IntKind.u64 (↑Y : Int), tuple []], []))))) := by kernel_rfl
theorem LC {x y : Nat} : aI T GG [54] 60 [13, 14] [part kY [1,1,1,0,0,0]] ⟨aB [13, 14] [.int .u64 x, .int .u64 y], [], 0⟩ =
  some (aa.fork ((↑y : Int) != (0 : Int)) (aa.af [(↑y : Int) ≠ (0 : Int)] (aa.leaf ah.normal ([int IntKind.u64 (↑y : Int), int IntKind.u64 ((↑x : Int).tmod (↑y : Int))], []))) (aa.leaf (ah.exit 2) ([int IntKind.u64 (↑x : Int), int IntKind.u64 (↑y : Int)], []))) := by kernel_rfl
theorem GJ {x y : Nat} : cr T GG [] 60 fu (behind kY [1,1,1,0]) ⟨aB [13, 14] [.int .u64 x, .int .u64 y], [], 0⟩ =
  some (aa.af [(0 : Int) ≤ (↑x : Int) ∧ (↑x : Int) < (2 : Int) ^ 64] (aa.leaf ah.ret [mag (↑x : Int).toNat])) := by kernel_rfl
theorem kJ {Y : Nat} (h : nl Y ≤ 2) : Y < 2 ^ 64 := bX.1 h
theorem G5 {n m : Nat} {z y : Nat → Nat} (hz : ∀ i, i < n → z i < 2 ^ 32) (hy : ∀ i, i < m → y i < 2 ^ 32) (hn : n < 2 ^ 40) (hm' : m < 2 ^ 40) (K : Nat) (pre : aC) :
  az P rR K [.ak 1 n (ag z), .ak 1 m (ag y)] pre (aG (.mag (Nat.gcd (val n z) (val m y))) []) := by
 refine fY hT G9 rfl (of_decide_eq_true (by kernel_rfl)) rfl (fun _ c h0 => ?_) K pre
 have hk0 : ∀ {nx : Nat} k x, c.k0 k = some x → k < nx := gr h0
 have hA : nl (val n z) ≤ n := bX.2 (dO hz)
 have hB : nl (val m y) ≤ m := bX.2 (dO hy)
 refine aq.hole [1,1,0] (by kernel_rfl) (ax.aV hT qq hm 60 [5, 6] Nz (by kernel_rfl) ?_)
 simp only [aa.all, ay, fS]
 generalize val n z = A at *
 generalize val m y = B at *
 refine ⟨⟨ef hz, by omega, by omega, ef hy, by omega, by omega⟩, fun s' hv => bu ?_⟩
 refine aq.eM (i := 0) (y := part (au fu) [1,1,0,0,0]) (by kernel_rfl) [5, 6] 0 hk0 (fun p : Nat × Nat => [.mag p.1, .mag p.2]) (fun _ => []) (fun _ => rfl) (fun _ => trivial)
  (fun p => Nat.gcd p.1 p.2 = Nat.gcd A B ∧ nl p.1 < 2 ^ 40 ∧ nl p.2 < 2 ^ 40) (fun p => p.2) (A, B) hv ⟨rfl, by simp only; omega, by simp only; omega⟩ ?_
 rintro ⟨X, Y⟩ ⟨hg, hX, hY⟩
 simp only at hg hX hY
 refine aq.aV hT qq hm 60 [5, 6] J5 (by kernel_rfl) ?_
 simp only [aa.all, ay, decide_eq_true_eq, decide_eq_false_iff_not]
 have hstep : ∀ {X Y : Nat}, Y ≠ 0 → Nat.gcd Y (X % Y) = Nat.gcd X Y := fun {X Y} _ => by rw [Nat.gcd_comm X Y, Nat.gcd_rec Y X, Nat.gcd_comm]
 refine ⟨fun hb => ⟨⟨hX, hY⟩, fun s' hv => ?_⟩, fun hb s' hv => dr ?_⟩
 ·have hY0 : Y ≠ 0 := dS.1 (by omega)
  have hlt := Nat.mod_lt X (show 0 < Y by omega)
  refine ⟨(Y, X % Y), cm hv (by rw [if_neg hY0]) rfl, ⟨by rw [← hg]; exact hstep hY0, hY, Nat.lt_of_le_of_lt (eJ (Nat.le_of_lt hlt)) hY⟩, hlt⟩
 have hY2 : nl Y ≤ 2 := by omega
 refine bu (ax.gu (nx := 0) hv hk0 (by kernel_rfl) rfl trivial ?_)
 show ax P c fu.ntmps [kY] _ _
 refine aq.hole [1,1,1,0] (by kernel_rfl) (ax.aV hT qq hm 60 [13, 14, 4] Li (by kernel_rfl) ?_)
 simp only [aa.all, ay, decide_eq_true_eq, decide_eq_false_iff_not, beq_iff_eq, beq_eq_false_iff_ne, ne_eq]
 have rest : ∀ {x y : Nat} {s' : aA}, x < 2 ^ 64 → y < 2 ^ 64 → Nat.gcd x y = Nat.gcd A B → aR [13, 14, 4] s' = some ([.int .u64 (x : Nat), .int .u64 (y : Nat)] ++ [.tuple []], []) →
   aq P c fu.ntmps (part kY [1,1,1,0]) s' (cU (fun s' => ax P c fu.ntmps (behind kY [1,1,1,0]) s' (cU (fun s' => ax P c fu.ntmps [] s' (Fin T fu (.mag (Nat.gcd A B)))) (Fin T fu (.mag (Nat.gcd A B)))))
    (cU (fun s' => ax P c fu.ntmps [] s' (Fin T fu (.mag (Nat.gcd A B)))) (Fin T fu (.mag (Nat.gcd A B))))) := by
  intro x y s' hx hy hg hv
  have hv := fA (ls := [13, 14]) (l := [4]) (vs := [.int .u64 (x : Nat), .int .u64 (y : Nat)]) hv rfl rfl
  refine aq.eM (i := 2) (y := part kY [1,1,1,0,0,0]) (by kernel_rfl) [13, 14] 0 hk0 (fun p : Nat × Nat => [.int .u64 (p.1 : Nat), .int .u64 (p.2 : Nat)]) (fun _ => []) (fun _ => rfl) (fun _ => trivial)
   (fun p => Nat.gcd p.1 p.2 = Nat.gcd A B ∧ p.1 < 2 ^ 64 ∧ p.2 < 2 ^ 64) (fun p => p.2) (x, y) hv ⟨hg, hx, hy⟩ ?_
  rintro ⟨x, y⟩ ⟨hg, hx, hy⟩
  simp only at hg hx hy
  refine aq.aV hT qq hm 60 [13, 14] LC (by kernel_rfl) ?_
  simp only [aa.all, ay, bne_iff_ne, ne_eq, bne_eq_false_iff_eq]
  refine ⟨fun hb => ⟨hb, fun s' hv => ?_⟩, fun hb s' hv => dr ?_⟩
  ·have hy0 : y ≠ 0 := by omega
   have hlt := Nat.mod_lt x (show 0 < y by omega)
   exact ⟨(y, x % y), cm hv (by rw [← Int.ofNat_tmod]) rfl, ⟨by rw [← hg]; exact hstep hy0, hy, by simp only; omega⟩, hlt⟩
  ·have hy0 : y = 0 := by omega
   subst hy0
   refine bu ?_
   refine ax.mono (Q := Fin T fu (.mag (Nat.gcd A B))) (fun e s' h => by cases e <;> exact h) ?_
   refine ax.tF hT qq hm 60 (nx := 0) hv hk0 rfl trivial GJ (by kernel_rfl) (by kernel_rfl) ⟨⟨by omega, by omega⟩, cI ?_⟩
   rw [Int.toNat_natCast, ← hg, Nat.gcd_zero_right]
 refine ⟨fun hb s' hv => dx (dx ?_), fun hb => ⟨fun h1 => ⟨⟨hX, hY⟩, ⟨by omega, ?_⟩, fun s' hv => bu (rest (kJ hY2) ?_ ?_ (cm hv rfl rfl))⟩, fun h1 => ⟨⟨by omega, by omega⟩, fun s' hv => bu (rest (kJ (by omega)) (kJ hY2) hg (cm hv rfl rfl))⟩⟩⟩
 ·have hY0 : Y = 0 := by
   rcases Nat.eq_zero_or_pos Y with h1 | h1
   ·exact h1
   ·have := dS.2 (show Y ≠ 0 by omega); omega
  refine en (us := [.mag X]) (.inr rfl) hv (by kernel_rfl) (cI ?_)
  rw [← hg, hY0, Nat.gcd_zero_right]
 all_goals
  have hY0 : Y ≠ 0 := dS.1 (by omega)
  have hlt := Nat.mod_lt X (show 0 < Y by omega)
  rw [if_neg hY0]
 ·exact Nat.le_trans (eJ (Nat.le_of_lt hlt)) hY2
 ·exact Nat.lt_trans hlt (kJ hY2)
 ·rw [← hg]; exact hstep hY0
def Ca (A n B m : Nat) : b7 := aG (.mag (Nat.gcd A B)) [n < 2 ^ 40, m < 2 ^ 40]
theorem Nt : ∀ K args pre r, bk (fe Ca) K args pre = some r → az P rR K args pre r :=
 bD (nK fun _ _ _ _ K hz hy need => G5 hz hy need.1 need.2 K [])
end Go.Am.B
