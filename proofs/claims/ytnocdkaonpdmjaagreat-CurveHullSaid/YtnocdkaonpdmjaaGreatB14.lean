/- natural.Gcd. -/
import Derived.Test.YtnocdkaonpdmjaaGreatB13
set_option linter.unusedVariables false
namespace Go.Am.B
open Go Go.Am.N AV
theorem Wd : aO P ru fW (ax fW) := aP NO (by kernel_rfl) (by kernel_rfl) (by kernel_rfl)
def GG : aQ := (pM, bu (fM C0)) :: (nP, Ao) :: (ue, bu (jr zR)) :: (p8, Cj) :: G1
noncomputable abbrev oC : Code := part (ax fW) [1,1,1]
theorem s5 : bg P GG := aH Jk (aH CY (aH abm (aH Es e9)))
theorem Zs {n m : Nat} {z y : Nat → Nat} : aI T GG [] 60 [5, 6] (before (ax fW) [1,1,0]) ⟨aL 0 [.ak 1 n (ah z), .ak 1 m (ah y)], [], 0⟩ =
  some (aa.ag [cO n (ah z), n < 2 ^ 62, nl (val n fun (i : Nat) ↦ numOf (ah z i)) < 2 ^ 40, cO m (ah y), m < 2 ^ 62, nl (val m fun (i : Nat) ↦ numOf (ah y i)) < 2 ^ 40] (aa.leaf aj.normal ([mag (val n fun (i : Nat) ↦ numOf (ah z i)), mag (val m fun (i : Nat) ↦ numOf (ah y i))], []))) := by kernel_rfl
theorem Tw {X Y : Nat} : aI T GG [23] 60 [5, 6] [part (ax fW) [1,1,0,0,0]] ⟨aC [5, 6] [.mag X, .mag Y], [], 0⟩ =
  some (aa.fork (decide ((↑(nl Y) : Int) > (2 : Int))) (aa.ag [nl X < 2 ^ 40, nl Y < 2 ^ 40] (aa.leaf aj.normal ([mag Y, mag (if Y = 0 then 0 else X % Y)], []))) (aa.leaf (aj.exit 0) ([mag X, mag Y], []))) := by kernel_rfl
theorem TJ {X Y : Nat} : aI T GG [35, 39] 60 [13, 14, 4] (before oC [1,1,1,0]) ⟨aC [5, 6] [.mag X, .mag Y], [], 0⟩ =
  some (aa.fork ((↑(nl Y) : Int) == (0 : Int)) (aa.leaf aj.ret ([tuple [], tuple [], mag X], [])) (aa.fork (decide ((↑(nl X) : Int) > (2 : Int))) (aa.ag [nl X < 2 ^ 40, nl Y < 2 ^ 40] (aa.ag [nl Y ≤ 2, nl (if Y = 0 then 0 else X % Y) ≤ 2] (aa.leaf aj.normal ([int IntKind.u64 (↑Y : Int), int IntKind.u64 (↑(if Y = 0 then 0 else X % Y) : Int), tuple []], [])))) (aa.ag [nl X ≤ 2, nl Y ≤ 2] (aa.leaf aj.normal ([int IntKind.u64 (↑X : Int), int IntKind.u64 (↑Y : Int), tuple []], []))))) := by kernel_rfl
theorem Td {x y : Nat} : aI T GG [54] 60 [13, 14] [part oC [1,1,1,0,0,0]] ⟨aC [13, 14] [.int .u64 x, .int .u64 y], [], 0⟩ =
  some (aa.fork ((↑y : Int) != (0 : Int)) (aa.ag [(↑y : Int) ≠ (0 : Int)] (aa.leaf aj.normal ([int IntKind.u64 (↑y : Int), int IntKind.u64 ((↑x : Int).tmod (↑y : Int))], []))) (aa.leaf (aj.exit 2) ([int IntKind.u64 (↑x : Int), int IntKind.u64 (↑y : Int)], []))) := by kernel_rfl
theorem R8 {x y : Nat} : cq T GG [] 60 fW (behind oC [1,1,1,0]) ⟨aC [13, 14] [.int .u64 x, .int .u64 y], [], 0⟩ =
  some (aa.ag [(0 : Int) ≤ (↑x : Int) ∧ (↑x : Int) < (2 : Int) ^ 64] (aa.leaf aj.ret [mag (↑x : Int).toNat])) := by kernel_rfl
theorem mE {Y : Nat} (h : nl Y ≤ 2) : Y < 2 ^ 64 := cB.1 h
theorem WC {n m : Nat} {z y : Nat → Nat} (hz : ∀ i, i < n → z i < 2 ^ 32) (hy : ∀ i, i < m → y i < 2 ^ 32) (hn : n < 2 ^ 40) (hm' : m < 2 ^ 40) (K : Nat) (pre : aD) :
  aA P ru K [.ak 1 n (ah z), .ak 1 m (ah y)] pre (aG (.mag (Nat.gcd (val n z) (val m y))) []) := by
 refine gQ hT Wd rfl (of_decide_eq_true (by kernel_rfl)) rfl (fun _ c h0 => ?_) K pre
 have hk0 : ∀ {nx : Nat} k x, c.k0 k = some x → k < nx := ir h0
 have hA : nl (val n z) ≤ n := cB.2 (eo hz)
 have hB : nl (val m y) ≤ m := cB.2 (eo hy)
 refine aq.hole [1,1,0] (by kernel_rfl) (aB.aX hT s5 hm 60 [5, 6] Zs (by kernel_rfl) ?_)
 simp only [aa.all, ay, gX]
 generalize val n z = A at *
 generalize val m y = B at *
 refine ⟨⟨eI hz, by omega, by omega, eI hy, by omega, by omega⟩, fun s' hv => bP ?_⟩
 refine aq.fq (i := 0) (y := part (ax fW) [1,1,0,0,0]) (by kernel_rfl) [5, 6] 0 hk0 (fun p : Nat × Nat => [.mag p.1, .mag p.2]) (fun _ => []) (fun _ => rfl) (fun _ => trivial)
  (fun p => Nat.gcd p.1 p.2 = Nat.gcd A B ∧ nl p.1 < 2 ^ 40 ∧ nl p.2 < 2 ^ 40) (fun p => p.2) (A, B) hv ⟨rfl, by simp only; omega, by simp only; omega⟩ ?_
 rintro ⟨X, Y⟩ ⟨hg, hX, hY⟩
 simp only at hg hX hY
 refine aq.aX hT s5 hm 60 [5, 6] Tw (by kernel_rfl) ?_
 simp only [aa.all, ay, decide_eq_true_eq, decide_eq_false_iff_not]
 have hstep : ∀ {X Y : Nat}, Y ≠ 0 → Nat.gcd Y (X % Y) = Nat.gcd X Y := fun {X Y} _ => by rw [Nat.gcd_comm X Y, Nat.gcd_rec Y X, Nat.gcd_comm]
 refine ⟨fun hb => ⟨⟨hX, hY⟩, fun s' hv => ?_⟩, fun hb s' hv => dQ ?_⟩
 ·have hY0 : Y ≠ 0 := eP.1 (by omega)
  have hlt := Nat.mod_lt X (show 0 < Y by omega)
  refine ⟨(Y, X % Y), cJ hv (by rw [if_neg hY0]) rfl, ⟨by rw [← hg]; exact hstep hY0, hY, Nat.lt_of_le_of_lt (fu (Nat.le_of_lt hlt)) hY⟩, hlt⟩
 have hY2 : nl Y ≤ 2 := by omega
 refine bP (aB.hG (nx := 0) hv hk0 (by kernel_rfl) rfl trivial ?_)
 show aB P c fW.ntmps [oC] _ _
 refine aq.hole [1,1,1,0] (by kernel_rfl) (aB.aX hT s5 hm 60 [13, 14, 4] TJ (by kernel_rfl) ?_)
 simp only [aa.all, ay, decide_eq_true_eq, decide_eq_false_iff_not, beq_iff_eq, beq_eq_false_iff_ne, ne_eq]
 have rest : ∀ {x y : Nat} {s' : aE}, x < 2 ^ 64 → y < 2 ^ 64 → Nat.gcd x y = Nat.gcd A B → aU [13, 14, 4] s' = some ([.int .u64 (x : Nat), .int .u64 (y : Nat)] ++ [.tuple []], []) →
   aq P c fW.ntmps (part oC [1,1,1,0]) s' (cP (fun s' => aB P c fW.ntmps (behind oC [1,1,1,0]) s' (cP (fun s' => aB P c fW.ntmps [] s' (Fin T fW (.mag (Nat.gcd A B)))) (Fin T fW (.mag (Nat.gcd A B)))))
    (cP (fun s' => aB P c fW.ntmps [] s' (Fin T fW (.mag (Nat.gcd A B)))) (Fin T fW (.mag (Nat.gcd A B))))) := by
  intro x y s' hx hy hg hv
  have hv := fV (ls := [13, 14]) (l := [4]) (vs := [.int .u64 (x : Nat), .int .u64 (y : Nat)]) hv rfl rfl
  refine aq.fq (i := 2) (y := part oC [1,1,1,0,0,0]) (by kernel_rfl) [13, 14] 0 hk0 (fun p : Nat × Nat => [.int .u64 (p.1 : Nat), .int .u64 (p.2 : Nat)]) (fun _ => []) (fun _ => rfl) (fun _ => trivial)
   (fun p => Nat.gcd p.1 p.2 = Nat.gcd A B ∧ p.1 < 2 ^ 64 ∧ p.2 < 2 ^ 64) (fun p => p.2) (x, y) hv ⟨hg, hx, hy⟩ ?_
  rintro ⟨x, y⟩ ⟨hg, hx, hy⟩
  simp only at hg hx hy
  refine aq.aX hT s5 hm 60 [13, 14] Td (by kernel_rfl) ?_
  simp only [aa.all, ay, bne_iff_ne, ne_eq, bne_eq_false_iff_eq]
  refine ⟨fun hb => ⟨hb, fun s' hv => ?_⟩, fun hb s' hv => dQ ?_⟩
  ·have hy0 : y ≠ 0 := by omega
   have hlt := Nat.mod_lt x (show 0 < y by omega)
   exact ⟨(y, x % y), cJ hv (by rw [← Int.ofNat_tmod]) rfl, ⟨by rw [← hg]; exact hstep hy0, hy, by simp only; omega⟩, hlt⟩
  ·have hy0 : y = 0 := by omega
   subst hy0
   refine bP ?_
   refine aB.mono (Q := Fin T fW (.mag (Nat.gcd A B))) (fun e s' h => by cases e <;> exact h) ?_
   refine aB.ze hT s5 hm 60 (nx := 0) hv hk0 rfl trivial R8 (by kernel_rfl) (by kernel_rfl) ⟨⟨by omega, by omega⟩, cI ?_⟩
   rw [Int.toNat_natCast, ← hg, Nat.gcd_zero_right]
 refine ⟨fun hb s' hv => dS (dS ?_), fun hb => ⟨fun h1 => ⟨⟨hX, hY⟩, ⟨by omega, ?_⟩, fun s' hv => bP (rest (mE hY2) ?_ ?_ (cJ hv rfl rfl))⟩, fun h1 => ⟨⟨by omega, by omega⟩, fun s' hv => bP (rest (mE (by omega)) (mE hY2) hg (cJ hv rfl rfl))⟩⟩⟩
 ·have hY0 : Y = 0 := by
   rcases Nat.eq_zero_or_pos Y with h1 | h1
   ·exact h1
   ·have := eP.2 (show Y ≠ 0 by omega); omega
  refine eM (us := [.mag X]) (.inr rfl) hv (by kernel_rfl) (cI ?_)
  rw [← hg, hY0, Nat.gcd_zero_right]
 all_goals
  have hY0 : Y ≠ 0 := eP.1 (by omega)
  have hlt := Nat.mod_lt X (show 0 < Y by omega)
  rw [if_neg hY0]
 ·exact Nat.le_trans (fu (Nat.le_of_lt hlt)) hY2
 ·exact Nat.lt_trans hlt (mE hY2)
 ·rw [← hg]; exact hstep hY0
def DB (A n B m : Nat) : cA := aG (.mag (Nat.gcd A B)) [n < 2 ^ 40, m < 2 ^ 40]
theorem J1 : ∀ K args pre r, bu (fM DB) K args pre = some r → aA P ru K args pre r :=
 bN (qo fun _ _ _ _ K hz hy need => WC hz hy need.1 need.2 K [])
end Go.Am.B
