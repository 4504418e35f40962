/- natural.Gcd. -/
import Derived.Test.YtjhhblmbiaghfaaB13
set_option linter.unusedVariables false
namespace Go.Am.B
open Go Go.Am.N AV
theorem Uf : aO P sX fz (ax fz) := aS LZ (by kernel_rfl) (by kernel_rfl) (by kernel_rfl)
def GG : bf := (ou, bp (fq xW)) :: (mq, wF) :: (sB, bp (iR vU)) :: (oI, yp) :: G1
noncomputable abbrev mw : Code := part (ax fz) [1,1,1]
theorem qz : bC P GG := aK AM (aK yE (aK PO (aK BB eA)))
theorem Ik {n m : Nat} {z y : Nat → Nat} : aG T GG [] 60 [5, 6] (before (ax fz) [1,1,0]) ⟨aM 0 [.ah 1 n (ag z), .ah 1 m (ag y)], [], 0⟩ =
  some (aa.af [cD n (ag z), n < 2 ^ 62, nl (val n fun (i : Nat) ↦ numOf (ag z i)) < 2 ^ 40, cD m (ag y), m < 2 ^ 62, nl (val m fun (i : Nat) ↦ numOf (ag y i)) < 2 ^ 40] (aa.leaf aj.normal ([mag (val n fun (i : Nat) ↦ numOf (ag z i)), mag (val m fun (i : Nat) ↦ numOf (ag y i))], []))) := by kernel_rfl
theorem QU {X Y : Nat} : aG T GG [23] 60 [5, 6] [part (ax fz) [1,1,0,0,0]] ⟨aB [5, 6] [.mag X, .mag Y], [], 0⟩ =
  some (aa.fork (decide ((↑(nl Y) : Int) > (2 : Int))) (aa.af [nl X < 2 ^ 40, nl Y < 2 ^ 40] (aa.leaf aj.normal ([mag Y, mag (if Y = 0 then 0 else X % Y)], []))) (aa.leaf (aj.exit 0) ([mag X, mag Y], []))) := by kernel_rfl
theorem Jq {X Y : Nat} : aG T GG [35, 39] 60 [13, 14, 4] (before mw [1,1,1,0]) ⟨aB [5, 6] [.mag X, .mag Y], [], 0⟩ =
  some (aa.fork ((↑(nl Y) : Int) == (0 : Int)) (aa.leaf aj.ret ([tuple [], tuple [], mag X], [])) (aa.fork (decide ((↑(nl X) : Int) > (2 : Int))) (aa.af [nl X < 2 ^ 40, nl Y < 2 ^ 40] (aa.af [nl Y ≤ 2, nl (if Y = 0 then 0 else X % Y) ≤ 2] (aa.leaf aj.normal ([int IntKind.u64 (↑Y : Int), int IntKind.u64 (↑(if Y = 0 then 0 else X % Y) : Int), tuple []], [])))) (aa.af [nl X ≤ 2, nl Y ≤ 2] (aa.leaf aj.normal ([int IntKind.u64 (↑X : Int), int IntKind.u64 (↑Y : Int), tuple []], []))))) := by kernel_rfl
theorem Lr {x y : Nat} : aG T GG [54] 60 [13, 14] [part mw [1,1,1,0,0,0]] ⟨aB [13, 14] [.int .u64 x, .int .u64 y], [], 0⟩ =
  some (aa.fork ((↑y : Int) != (0 : Int)) (aa.af [(↑y : Int) ≠ (0 : Int)] (aa.leaf aj.normal ([int IntKind.u64 (↑y : Int), int IntKind.u64 ((↑x : Int).tmod (↑y : Int))], []))) (aa.leaf (aj.exit 2) ([int IntKind.u64 (↑x : Int), int IntKind.u64 (↑y : Int)], []))) := by kernel_rfl
theorem HG {x y : Nat} : cJ T GG [] 60 fz (behind mw [1,1,1,0]) ⟨aB [13, 14] [.int .u64 x, .int .u64 y], [], 0⟩ =
  some (aa.af [(0 : Int) ≤ (↑x : Int) ∧ (↑x : Int) < (2 : Int) ^ 64] (aa.leaf aj.ret [mag (↑x : Int).toNat])) := by kernel_rfl
theorem k8 {Y : Nat} (h : nl Y ≤ 2) : Y < 2 ^ 64 := cm.1 h
theorem Kv {n m : Nat} {z y : Nat → Nat} (hz : ∀ i, i < n → z i < 2 ^ 32) (hy : ∀ i, i < m → y i < 2 ^ 32) (hn : n < 2 ^ 40) (hm' : m < 2 ^ 40) (K : Nat) (pre : aA) :
  aC P sX K [.ah 1 n (ag z), .ah 1 m (ag y)] pre (aJ (.mag (Nat.gcd (val n z) (val m y))) []) := by
 refine gn hT Uf rfl (of_decide_eq_true (by kernel_rfl)) rfl (fun _ c h0 => ?_) K pre
 have hk0 : ∀ {nx : Nat} k x, c.k0 k = some x → k < nx := gE h0
 have hA : nl (val n z) ≤ n := cm.2 (dN hz)
 have hB : nl (val m y) ≤ m := cm.2 (dN hy)
 refine aq.hole [1,1,0] (by kernel_rfl) (ay.aR hT qz hm 60 [5, 6] Ik (by kernel_rfl) ?_)
 simp only [aa.all, az, gd]
 generalize val n z = A at *
 generalize val m y = B at *
 refine ⟨⟨er hz, by omega, by omega, er hy, by omega, by omega⟩, fun s' hv => bD ?_⟩
 refine aq.eV (i := 0) (y := part (ax fz) [1,1,0,0,0]) (by kernel_rfl) [5, 6] 0 hk0 (fun p : Nat × Nat => [.mag p.1, .mag p.2]) (fun _ => []) (fun _ => rfl) (fun _ => trivial)
  (fun p => Nat.gcd p.1 p.2 = Nat.gcd A B ∧ nl p.1 < 2 ^ 40 ∧ nl p.2 < 2 ^ 40) (fun p => p.2) (A, B) hv ⟨rfl, by simp only; omega, by simp only; omega⟩ ?_
 rintro ⟨X, Y⟩ ⟨hg, hX, hY⟩
 simp only at hg hX hY
 refine aq.aR hT qz hm 60 [5, 6] QU (by kernel_rfl) ?_
 simp only [aa.all, az, decide_eq_true_eq, decide_eq_false_iff_not]
 have hstep : ∀ {X Y : Nat}, Y ≠ 0 → Nat.gcd Y (X % Y) = Nat.gcd X Y := fun {X Y} _ => by rw [Nat.gcd_comm X Y, Nat.gcd_rec Y X, Nat.gcd_comm]
 refine ⟨fun hb => ⟨⟨hX, hY⟩, fun s' hv => ?_⟩, fun hb s' hv => dz ?_⟩
 ·have hY0 : Y ≠ 0 := ew.1 (by omega)
  have hlt := Nat.mod_lt X (show 0 < Y by omega)
  refine ⟨(Y, X % Y), cy hv (by rw [if_neg hY0]) rfl, ⟨by rw [← hg]; exact hstep hY0, hY, Nat.lt_of_le_of_lt (eR (Nat.le_of_lt hlt)) hY⟩, hlt⟩
 have hY2 : nl Y ≤ 2 := by omega
 refine bD (ay.gB (nx := 0) hv hk0 (by kernel_rfl) rfl trivial ?_)
 show ay P c fz.ntmps [mw] _ _
 refine aq.hole [1,1,1,0] (by kernel_rfl) (ay.aR hT qz hm 60 [13, 14, 4] Jq (by kernel_rfl) ?_)
 simp only [aa.all, az, decide_eq_true_eq, decide_eq_false_iff_not, beq_iff_eq, beq_eq_false_iff_ne, ne_eq]
 have rest : ∀ {x y : Nat} {s' : aD}, x < 2 ^ 64 → y < 2 ^ 64 → Nat.gcd x y = Nat.gcd A B → aN [13, 14, 4] s' = some ([.int .u64 (x : Nat), .int .u64 (y : Nat)] ++ [.tuple []], []) →
   aq P c fz.ntmps (part mw [1,1,1,0]) s' (cM (fun s' => ay P c fz.ntmps (behind mw [1,1,1,0]) s' (cM (fun s' => ay P c fz.ntmps [] s' (Fin T fz (.mag (Nat.gcd A B)))) (Fin T fz (.mag (Nat.gcd A B)))))
    (cM (fun s' => ay P c fz.ntmps [] s' (Fin T fz (.mag (Nat.gcd A B)))) (Fin T fz (.mag (Nat.gcd A B))))) := by
  intro x y s' hx hy hg hv
  have hv := fD (ls := [13, 14]) (l := [4]) (vs := [.int .u64 (x : Nat), .int .u64 (y : Nat)]) hv rfl rfl
  refine aq.eV (i := 2) (y := part mw [1,1,1,0,0,0]) (by kernel_rfl) [13, 14] 0 hk0 (fun p : Nat × Nat => [.int .u64 (p.1 : Nat), .int .u64 (p.2 : Nat)]) (fun _ => []) (fun _ => rfl) (fun _ => trivial)
   (fun p => Nat.gcd p.1 p.2 = Nat.gcd A B ∧ p.1 < 2 ^ 64 ∧ p.2 < 2 ^ 64) (fun p => p.2) (x, y) hv ⟨hg, hx, hy⟩ ?_
  rintro ⟨x, y⟩ ⟨hg, hx, hy⟩
  simp only at hg hx hy
  refine aq.aR hT qz hm 60 [13, 14] Lr (by kernel_rfl) ?_
  simp only [aa.all, az, bne_iff_ne, ne_eq, bne_eq_false_iff_eq]
  refine ⟨fun hb => ⟨hb, fun s' hv => ?_⟩, fun hb s' hv => dz ?_⟩
  ·have hy0 : y ≠ 0 := by omega
   have hlt := Nat.mod_lt x (show 0 < y by omega)
   exact ⟨(y, x % y), cy hv (by rw [← Int.ofNat_tmod]) rfl, ⟨by rw [← hg]; exact hstep hy0, hy, by simp only; omega⟩, hlt⟩
  ·have hy0 : y = 0 := by omega
   subst hy0
   refine bD ?_
   refine ay.mono (Q := Fin T fz (.mag (Nat.gcd A B))) (fun e s' h => by cases e <;> exact h) ?_
   refine ay.wv hT qz hm 60 (nx := 0) hv hk0 rfl trivial HG (by kernel_rfl) (by kernel_rfl) ⟨⟨by omega, by omega⟩, cF ?_⟩
   rw [Int.toNat_natCast, ← hg, Nat.gcd_zero_right]
 refine ⟨fun hb s' hv => dj (dj ?_), fun hb => ⟨fun h1 => ⟨⟨hX, hY⟩, ⟨by omega, ?_⟩, fun s' hv => bD (rest (k8 hY2) ?_ ?_ (cy hv rfl rfl))⟩, fun h1 => ⟨⟨by omega, by omega⟩, fun s' hv => bD (rest (k8 (by omega)) (k8 hY2) hg (cy hv rfl rfl))⟩⟩⟩
 ·have hY0 : Y = 0 := by
   rcases Nat.eq_zero_or_pos Y with h1 | h1
   ·exact h1
   ·have := ew.2 (show Y ≠ 0 by omega); omega
  refine ey (us := [.mag X]) (.inr rfl) hv (by kernel_rfl) (cF ?_)
  rw [← hg, hY0, Nat.gcd_zero_right]
 all_goals
  have hY0 : Y ≠ 0 := ew.1 (by omega)
  have hlt := Nat.mod_lt X (show 0 < Y by omega)
  rw [if_neg hY0]
 ·exact Nat.le_trans (eR (Nat.le_of_lt hlt)) hY2
 ·exact Nat.lt_trans hlt (k8 hY2)
 ·rw [← hg]; exact hstep hY0
def DW (A n B m : Nat) : cq := aJ (.mag (Nat.gcd A B)) [n < 2 ^ 40, m < 2 ^ 40]
theorem JJ : ∀ K args pre r, bp (fq DW) K args pre = some r → aC P sX K args pre r :=
 bK (nr fun _ _ _ _ K hz hy need => Kv hz hy need.1 need.2 K [])
end Go.Am.B
