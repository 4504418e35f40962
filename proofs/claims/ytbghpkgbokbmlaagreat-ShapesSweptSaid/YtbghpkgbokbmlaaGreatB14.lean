/- natural.Gcd. -/
import Derived.Test.YtbghpkgbokbmlaaGreatB13
set_option linter.unusedVariables false
namespace Go.Am.B
open Go Go.Am.N AV
theorem ZK : aP P th fT (au fT) := aL UI (by kernel_rfl) (by kernel_rfl) (by kernel_rfl)
def GG : aQ := (qg, bt (fZ Dm)) :: (oL, zF) :: (uS, bt (jJ xH)) :: (qQ, BY) :: G1
noncomputable abbrev ov : Code := part (au fT) [1,1,1]
theorem sX : aW P GG := aC Hh (aC Cc (aC aaA (aC Fm fj)))
theorem N3 {n m : Nat} {z y : Nat → Nat} : aH T GG [] 60 [5, 6] (before (au fT) [1,1,0]) ⟨aM 0 [.aj 1 n (ah z), .aj 1 m (ah y)], [], 0⟩ =
  some (aa.af [cR n (ah z), n < 2 ^ 62, nl (val n fun (i : Nat) ↦ numOf (ah z i)) < 2 ^ 40, cR m (ah y), m < 2 ^ 62, nl (val m fun (i : Nat) ↦ numOf (ah y i)) < 2 ^ 40] (aa.leaf ag.normal ([mag (val n fun (i : Nat) ↦ numOf (ah z i)), mag (val m fun (i : Nat) ↦ numOf (ah y i))], []))) := by kernel_rfl
theorem Vm {X Y : Nat} : aH T GG [23] 60 [5, 6] [part (au fT) [1,1,0,0,0]] ⟨aB [5, 6] [.mag X, .mag Y], [], 0⟩ =
  some (aa.fork (decide ((↑(nl Y) : Int) > (2 : Int))) (aa.af [nl X < 2 ^ 40, nl Y < 2 ^ 40] (aa.leaf ag.normal ([mag Y, mag (if Y = 0 then 0 else X % Y)], []))) (aa.leaf (ag.exit 0) ([mag X, mag Y], []))) := by kernel_rfl
theorem R9 {X Y : Nat} : aH T GG [35, 39] 60 [13, 14, 4] (before ov [1,1,1,0]) ⟨aB [5, 6] [.mag X, .mag Y], [], 0⟩ =
  some (aa.fork ((↑(nl Y) : Int) == (0 : Int)) (aa.leaf ag.ret ([tuple [], tuple [], mag X], [])) (aa.fork (decide ((↑(nl X) : Int) > (2 : Int))) (aa.af [nl X < 2 ^ 40, nl Y < 2 ^ 40] (aa.af [nl Y ≤ 2, nl (if Y = 0 then 0 else X % Y) ≤ 2] (aa.leaf ag.normal ([int IntKind.u64 (↑Y : Int), int IntKind.u64 (↑(if Y = 0 then 0 else X % Y) : Int), tuple []], [])))) (aa.af [nl X ≤ 2, nl Y ≤ 2] (aa.leaf ag.normal ([int IntKind.u64 (↑X : Int), int IntKind.u64 (↑Y : Int), tuple []], []))))) := by kernel_rfl
theorem W3 {x y : Nat} : aH T GG [54] 60 [13, 14] [part ov [1,1,1,0,0,0]] ⟨aB [13, 14] [.int .u64 x, .int .u64 y], [], 0⟩ =
  some (aa.fork ((↑y : Int) != (0 : Int)) (aa.af [(↑y : Int) ≠ (0 : Int)] (aa.leaf ag.normal ([int IntKind.u64 (↑y : Int), int IntKind.u64 ((↑x : Int).tmod (↑y : Int))], []))) (aa.leaf (ag.exit 2) ([int IntKind.u64 (↑x : Int), int IntKind.u64 (↑y : Int)], []))) := by kernel_rfl
theorem Zu {x y : Nat} : bW T GG [] 60 fT (behind ov [1,1,1,0]) ⟨aB [13, 14] [.int .u64 x, .int .u64 y], [], 0⟩ =
  some (aa.af [(0 : Int) ≤ (↑x : Int) ∧ (↑x : Int) < (2 : Int) ^ 64] (aa.leaf ag.ret [mag (↑x : Int).toNat])) := by kernel_rfl
theorem mR {Y : Nat} (h : nl Y ≤ 2) : Y < 2 ^ 64 := cw.1 h
theorem VV {n m : Nat} {z y : Nat → Nat} (hz : ∀ i, i < n → z i < 2 ^ 32) (hy : ∀ i, i < m → y i < 2 ^ 32) (hn : n < 2 ^ 40) (hm' : m < 2 ^ 40) (K : Nat) (pre : aD) :
  az P th K [.aj 1 n (ah z), .aj 1 m (ah y)] pre (aF (.mag (Nat.gcd (val n z) (val m y))) []) := by
 refine gX hT ZK rfl (of_decide_eq_true (by kernel_rfl)) rfl (fun _ c h0 => ?_) K pre
 have hk0 : ∀ {nx : Nat} k x, c.k0 k = some x → k < nx := iA h0
 have hA : nl (val n z) ≤ n := cw.2 (eE hz)
 have hB : nl (val m y) ≤ m := cw.2 (eE hy)
 refine aq.hole [1,1,0] (by kernel_rfl) (aA.aZ hT sX hm 60 [5, 6] N3 (by kernel_rfl) ?_)
 simp only [aa.all, ax, gP]
 generalize val n z = A at *
 generalize val m y = B at *
 refine ⟨⟨eW hz, by omega, by omega, eW hy, by omega, by omega⟩, fun s' hv => bI ?_⟩
 refine aq.fF (i := 0) (y := part (au fT) [1,1,0,0,0]) (by kernel_rfl) [5, 6] 0 hk0 (fun p : Nat × Nat => [.mag p.1, .mag p.2]) (fun _ => []) (fun _ => rfl) (fun _ => trivial)
  (fun p => Nat.gcd p.1 p.2 = Nat.gcd A B ∧ nl p.1 < 2 ^ 40 ∧ nl p.2 < 2 ^ 40) (fun p => p.2) (A, B) hv ⟨rfl, by simp only; omega, by simp only; omega⟩ ?_
 rintro ⟨X, Y⟩ ⟨hg, hX, hY⟩
 simp only at hg hX hY
 refine aq.aZ hT sX hm 60 [5, 6] Vm (by kernel_rfl) ?_
 simp only [aa.all, ax, decide_eq_true_eq, decide_eq_false_iff_not]
 have hstep : ∀ {X Y : Nat}, Y ≠ 0 → Nat.gcd Y (X % Y) = Nat.gcd X Y := fun {X Y} _ => by rw [Nat.gcd_comm X Y, Nat.gcd_rec Y X, Nat.gcd_comm]
 refine ⟨fun hb => ⟨⟨hX, hY⟩, fun s' hv => ?_⟩, fun hb s' hv => ek ?_⟩
 ·have hY0 : Y ≠ 0 := eO.1 (by omega)
  have hlt := Nat.mod_lt X (show 0 < Y by omega)
  refine ⟨(Y, X % Y), cM hv (by rw [if_neg hY0]) rfl, ⟨by rw [← hg]; exact hstep hY0, hY, Nat.lt_of_le_of_lt (fu (Nat.le_of_lt hlt)) hY⟩, hlt⟩
 have hY2 : nl Y ≤ 2 := by omega
 refine bI (aA.iD (nx := 0) hv hk0 (by kernel_rfl) rfl trivial ?_)
 show aA P c fT.ntmps [ov] _ _
 refine aq.hole [1,1,1,0] (by kernel_rfl) (aA.aZ hT sX hm 60 [13, 14, 4] R9 (by kernel_rfl) ?_)
 simp only [aa.all, ax, decide_eq_true_eq, decide_eq_false_iff_not, beq_iff_eq, beq_eq_false_iff_ne, ne_eq]
 have rest : ∀ {x y : Nat} {s' : aE}, x < 2 ^ 64 → y < 2 ^ 64 → Nat.gcd x y = Nat.gcd A B → aU [13, 14, 4] s' = some ([.int .u64 (x : Nat), .int .u64 (y : Nat)] ++ [.tuple []], []) →
   aq P c fT.ntmps (part ov [1,1,1,0]) s' (dw (fun s' => aA P c fT.ntmps (behind ov [1,1,1,0]) s' (dw (fun s' => aA P c fT.ntmps [] s' (Fin T fT (.mag (Nat.gcd A B)))) (Fin T fT (.mag (Nat.gcd A B)))))
    (dw (fun s' => aA P c fT.ntmps [] s' (Fin T fT (.mag (Nat.gcd A B)))) (Fin T fT (.mag (Nat.gcd A B))))) := by
  intro x y s' hx hy hg hv
  have hv := gr (ls := [13, 14]) (l := [4]) (vs := [.int .u64 (x : Nat), .int .u64 (y : Nat)]) hv rfl rfl
  refine aq.fF (i := 2) (y := part ov [1,1,1,0,0,0]) (by kernel_rfl) [13, 14] 0 hk0 (fun p : Nat × Nat => [.int .u64 (p.1 : Nat), .int .u64 (p.2 : Nat)]) (fun _ => []) (fun _ => rfl) (fun _ => trivial)
   (fun p => Nat.gcd p.1 p.2 = Nat.gcd A B ∧ p.1 < 2 ^ 64 ∧ p.2 < 2 ^ 64) (fun p => p.2) (x, y) hv ⟨hg, hx, hy⟩ ?_
  rintro ⟨x, y⟩ ⟨hg, hx, hy⟩
  simp only at hg hx hy
  refine aq.aZ hT sX hm 60 [13, 14] W3 (by kernel_rfl) ?_
  simp only [aa.all, ax, bne_iff_ne, ne_eq, bne_eq_false_iff_eq]
  refine ⟨fun hb => ⟨hb, fun s' hv => ?_⟩, fun hb s' hv => ek ?_⟩
  ·have hy0 : y ≠ 0 := by omega
   have hlt := Nat.mod_lt x (show 0 < y by omega)
   exact ⟨(y, x % y), cM hv (by rw [← Int.ofNat_tmod]) rfl, ⟨by rw [← hg]; exact hstep hy0, hy, by simp only; omega⟩, hlt⟩
  ·have hy0 : y = 0 := by omega
   subst hy0
   refine bI ?_
   refine aA.mono (Q := Fin T fT (.mag (Nat.gcd A B))) (fun e s' h => by cases e <;> exact h) ?_
   refine aA.yX hT sX hm 60 (nx := 0) hv hk0 rfl trivial Zu (by kernel_rfl) (by kernel_rfl) ⟨⟨by omega, by omega⟩, cZ ?_⟩
   rw [Int.toNat_natCast, ← hg, Nat.gcd_zero_right]
 refine ⟨fun hb s' hv => ef (ef ?_), fun hb => ⟨fun h1 => ⟨⟨hX, hY⟩, ⟨by omega, ?_⟩, fun s' hv => bI (rest (mR hY2) ?_ ?_ (cM hv rfl rfl))⟩, fun h1 => ⟨⟨by omega, by omega⟩, fun s' hv => bI (rest (mR (by omega)) (mR hY2) hg (cM hv rfl rfl))⟩⟩⟩
 ·have hY0 : Y = 0 := by
   rcases Nat.eq_zero_or_pos Y with h1 | h1
   ·exact h1
   ·have := eO.2 (show Y ≠ 0 by omega); omega
  refine e9 (us := [.mag X]) (.inr rfl) hv (by kernel_rfl) (cZ ?_)
  rw [← hg, hY0, Nat.gcd_zero_right]
 all_goals
  have hY0 : Y ≠ 0 := eO.1 (by omega)
  have hlt := Nat.mod_lt X (show 0 < Y by omega)
  rw [if_neg hY0]
 ·exact Nat.le_trans (fu (Nat.le_of_lt hlt)) hY2
 ·exact Nat.lt_trans hlt (mR hY2)
 ·rw [← hg]; exact hstep hY0
def F6 (A n B m : Nat) : cB := aF (.mag (Nat.gcd A B)) [n < 2 ^ 40, m < 2 ^ 40]
theorem acf : ∀ K args pre r, bt (fZ F6) K args pre = some r → az P th K args pre r :=
 bH (o4 fun _ _ _ _ K hz hy need => VV hz hy need.1 need.2 K [])
end Go.Am.B
