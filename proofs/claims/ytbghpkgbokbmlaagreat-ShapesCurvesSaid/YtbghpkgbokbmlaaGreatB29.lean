/- ref01.Gcd: Euclid, on words when both are words. -/
import Derived.Test.YtbghpkgbokbmlaaGreatB28
set_option linter.unusedVariables false
namespace Go.Am.B
open Go Go.Am.N AV
theorem HV : aO P sL gn (au gn) := aL Mn (by kernel_rfl) (by kernel_rfl) (by kernel_rfl)
def j7 : aP := [(jz, ov), (mC, yL), (kE, oM), (nq, iI (fun A B => iQ A B) fun A B => [nl A < 2 ^ 38, nl B < 2 ^ 38])]
noncomputable abbrev oJ : Code := part (au gn) [1,1,0,0,0]
noncomputable abbrev r4 : Code := part oJ [1,0]
noncomputable abbrev m7 : Code := part r4 [1,1,0,1,0]
noncomputable abbrev DQ : Code := part m7 [0,0,0]
theorem lC : aX P j7 := aE pT (aE BW (aE ug (aE AE aZ)))
theorem OW {A B : Nat} : aI T j7 [] 60 [0, 1] (before (au gn) [1,1,0]) ⟨aM 0 [.mag A, .mag B], [], 0⟩ =
  some (aa.af [nl A < 2 ^ 40, nl B < 2 ^ 40] (aa.leaf ah.normal ([mag A, mag B], []))) := by kernel_rfl
theorem IQ {A B : Nat} : aI T j7 [18] 60 [0, 1] [part oJ [0]] ⟨aB [0, 1] [.mag A, .mag B], [], 0⟩ =
  some (aa.fork (decide ((↑(nl B) : Int) > (0 : Int))) (aa.leaf ah.normal ([mag A, mag B], [])) (aa.leaf (ah.exit 0) ([mag A, mag B], []))) := by kernel_rfl
theorem J0 {A B : Nat} : aI T j7 [30, 32] 60 [0, 1, 5, 7, 32] (before r4 [1,1,0,1]) ⟨aB [0, 1] [.mag A, .mag B], [], 0⟩ =
  some (aa.fork (ct A) (aa.af [ct A = true] (aa.leaf ah.normal ([mag A, mag B, int IntKind.u64 (↑(if ct A = true then A else 0) : Int), int IntKind.u64 (↑(if ct B = true then B else 0) : Int), AV.bool (bif true then ct B else false)], []))) (aa.af [ct A = false] (aa.leaf ah.normal ([mag A, mag B, int IntKind.u64 (↑(if ct A = true then A else 0) : Int), int IntKind.u64 (↑(if ct B = true then B else 0) : Int), AV.bool false], [])))) := by kernel_rfl
theorem R7 {x y : Nat} : aI T j7 [34] 60 [5, 7] [DQ] ⟨aB [5, 7] [.int .u64 x, .int .u64 y], [], 0⟩ =
  some (aa.fork ((↑y : Int) != (0 : Int)) (aa.af [(↑y : Int) ≠ (0 : Int)] (aa.leaf ah.normal ([int IntKind.u64 (↑y : Int), int IntKind.u64 ((↑x : Int).tmod (↑y : Int))], []))) (aa.leaf (ah.exit 2) ([int IntKind.u64 (↑x : Int), int IntKind.u64 (↑y : Int)], []))) := by kernel_rfl
theorem J6 {x y : Nat} : aI T j7 [] 60 [4] [part m7 [1]] ⟨aB [5, 7] [.int .u64 x, .int .u64 y], [], 0⟩ =
  some (aa.af [(0 : Int) ≤ (↑x : Int) ∧ (↑x : Int) < (2 : Int) ^ 64] (aa.leaf ah.ret ([mag (↑x : Int).toNat], []))) := by kernel_rfl
theorem SG {A B : Nat} : aI T j7 [] 60 [0, 1] (behind r4 [1,1,0,1]) ⟨aB [0, 1] [.mag A, .mag B], [], 0⟩ =
  some (aa.af [nl A < 2 ^ 38, nl B < 2 ^ 38] (aa.leaf ah.normal ([mag B, mag (if B = 0 then 0 else A % B)], []))) := by kernel_rfl
theorem Q7 {A B : Nat} : cr T j7 [] 60 gn (behind (au gn) [1,1,0]) ⟨aB [0, 1] [.mag A, .mag B], [], 0⟩ =
  some (aa.leaf ah.ret [mag A]) := by kernel_rfl
theorem MH {s : aA} {ls l : List Nat} {vs us : List AV} {os : aC} (hv : aR (l ++ ls) s = some (us ++ vs, os)) (hl : us.length = l.length) (hk : aT us = []) : aR ls s = some (vs, os) := by
 unfold aR at hv ⊢
 simp only [Option.some.injEq, Prod.mk.injEq, y2] at hv ⊢
 obtain ⟨h1, h2⟩ := hv
 obtain ⟨h3, h4⟩ := List.append_inj h1 (by rw [yX, hl])
 subst h4
 refine ⟨rfl, ?_⟩
 rw [← h2, h3, zf, hk, List.nil_append]
theorem Rv {A B : Nat} (hA : nl A < 2 ^ 38) (hB : nl B < 2 ^ 38) (K : Nat) : az P sL K [.mag A, .mag B] [] (aG (.mag (Nat.gcd A B)) []) := by
 refine fk hT HV rfl (of_decide_eq_true (by kernel_rfl)) rfl (fun _ c h0 => ?_) K []
 have hk0 := vc h0
 refine aq.hole [1,1,0] (by kernel_rfl) (ax.aV hT lC hm 60 [0, 1] OW (by kernel_rfl) ?_)
 simp only [aa.all, ay]
 refine ⟨⟨by omega, by omega⟩, fun s' hv => bu ?_⟩
 refine aq.eM (i := 0) (y := oJ) (by kernel_rfl) [0, 1] 0 (h0 0) (fun p : Nat × Nat => [.mag p.1, .mag p.2]) (fun _ => []) (fun _ => rfl) (fun _ => trivial)
  (fun p => Nat.gcd p.1 p.2 = Nat.gcd A B ∧ nl p.1 < 2 ^ 38 ∧ nl p.2 < 2 ^ 38) (fun p => p.2) (A, B) hv ⟨rfl, hA, hB⟩ ?_
 rintro ⟨X, Y⟩ ⟨hg, hX, hY⟩
 simp only at hg hX hY
 have hstep : ∀ {X Y : Nat}, Y ≠ 0 → Nat.gcd Y (X % Y) = Nat.gcd X Y := fun {X Y} _ => by rw [Nat.gcd_comm X Y, Nat.gcd_rec Y X, Nat.gcd_comm]
 refine aq.hole [0] (by kernel_rfl) (show aq P c gn.ntmps (part oJ [0]) _ _ from aq.aV hT lC hm 60 [0, 1] IQ (by kernel_rfl) ?_)
 simp only [aa.all, decide_eq_true_eq, decide_eq_false_iff_not]
 refine ⟨fun hb s' hv => bu ?_, fun hb s' hv => lI (dr ?_)⟩
 ·have hY0 : Y ≠ 0 := dS.1 (by omega)
  have hlt := Nat.mod_lt X (show 0 < Y by omega)
  show aq P c gn.ntmps (part oJ [1]) s' _
  refine aq.kW (i := 1) (y := r4) (by kernel_rfl) ?_
  refine aq.hole [1,1,0,1] (by kernel_rfl) (ax.dn hT lC hm 60 hv (h0 0) rfl trivial [0, 1, 5, 7, 32] J0 (by kernel_rfl) (by kernel_rfl) ?_)
  simp only [aa.all, ay]
  have fin : ∀ {s' : aA} {Q : ah → aA → Prop}, aR [0, 1] s' = some ([.mag X, .mag Y], []) → (∀ s', aR [0, 1] s' = some ([.mag Y, .mag (X % Y)], []) → Q .normal s') → ax P c gn.ntmps (behind r4 [1,1,0,1]) s' Q := by
   intro s' Q hv h
   refine ax.dn hT lC hm 60 hv (h0 0) rfl trivial [0, 1] SG (by kernel_rfl) (by kernel_rfl) ?_
   simp only [aa.all, ay]
   exact ⟨⟨hX, hY⟩, fun s' hv => h s' (cm hv (by rw [if_neg hY0]) rfl)⟩
  have good : ∀ {s' : aA}, aR [0, 1] s' = some ([.mag Y, .mag (X % Y)], []) → ∃ k : Nat × Nat, aR [0, 1] s' = some ([.mag k.1, .mag k.2], []) ∧ (Nat.gcd k.1 k.2 = Nat.gcd A B ∧ nl k.1 < 2 ^ 38 ∧ nl k.2 < 2 ^ 38) ∧ k.2 < Y :=
   fun hv => ⟨(Y, X % Y), hv, ⟨by rw [← hg]; exact hstep hY0, hY, Nat.lt_of_le_of_lt (eJ (Nat.le_of_lt hlt)) hY⟩, hlt⟩
  refine ⟨fun hf => ⟨hf, fun s' hv => bu ?_⟩, fun hf => ⟨hf, fun s' hv => bu ?_⟩⟩
  ·refine aq.cond (b := .tmp 32) (t := ct Y) (x := m7) (y := .skip) (qf hv rfl rfl) (fun hf2 => ?_) (fun _ => aq.skip ?_)
   ·rw [if_pos hf, if_pos hf2] at hv
    have hX64 : X < 2 ^ 64 := by unfold ct at hf; simpa using hf
    have hY64 : Y < 2 ^ 64 := by unfold ct at hf2; simpa using hf2
    have hv := MH (l := [0, 1]) (us := [.mag X, .mag Y]) (fA (ls := [0, 1, 5, 7]) (vs := [.mag X, .mag Y, .int .u64 (X : Nat), .int .u64 (Y : Nat)]) hv rfl rfl) rfl rfl
    refine aq.hole [0] (by kernel_rfl) ?_
    show aq P c gn.ntmps (part m7 [0]) s' _
    refine aq.eM (i := 2) (y := DQ) (by kernel_rfl) [5, 7] 0 (h0 0) (fun p : Nat × Nat => [.int .u64 (p.1 : Nat), .int .u64 (p.2 : Nat)]) (fun _ => []) (fun _ => rfl) (fun _ => trivial)
     (fun p => Nat.gcd p.1 p.2 = Nat.gcd A B ∧ p.1 < 2 ^ 64 ∧ p.2 < 2 ^ 64) (fun p => p.2) (X, Y) hv ⟨hg, hX64, hY64⟩ ?_
    rintro ⟨x, y⟩ ⟨hg, hx, hy⟩
    simp only at hg hx hy
    refine aq.aV hT lC hm 60 [5, 7] R7 (by kernel_rfl) ?_
    simp only [aa.all, ay, bne_iff_ne, ne_eq, bne_eq_false_iff_eq]
    refine ⟨fun hb => ⟨hb, fun s' hv => bu ?_⟩, fun hb s' hv => dr ?_⟩
    ·have hy0 : y ≠ 0 := by omega
     have hlt := Nat.mod_lt x (show 0 < y by omega)
     exact ⟨(y, x % y), cm hv (by rw [← Int.ofNat_tmod]) rfl, ⟨by rw [← hg]; exact hstep hy0, hy, by simp only; omega⟩, hlt⟩
    ·have hy0 : y = 0 := by omega
     show ax P c gn.ntmps [part m7 [1]] s' _
     refine ax.dn hT lC hm 60 hv (h0 0) rfl trivial [4] J6 (by kernel_rfl) (by kernel_rfl) ?_
     simp only [aa.all, ay, Int.toNat_natCast]
     refine ⟨by omega, fun s' hv => ?_⟩
     rw [show x = Nat.gcd A B by rw [← hg, hy0, Nat.gcd_zero_right]] at hv
     exact (.inl (en (us := [.mag (Nat.gcd A B)]) (.inr rfl) hv (by kernel_rfl) (cI rfl)))
   ·exact bu (fin (fA (ls := [0, 1]) (vs := [.mag X, .mag Y]) hv rfl rfl) fun s' hv => good hv)
  ·refine aq.cond (b := .tmp 32) (t := false) (x := m7) (y := .skip) (qf hv rfl rfl) (fun h => by simp at h) (fun _ => aq.skip ?_)
   exact bu (fin (fA (ls := [0, 1]) (vs := [.mag X, .mag Y]) hv rfl rfl) fun s' hv => good hv)
 ·have hY0 : Y = 0 := gf.1 (by omega)
  show ax P c gn.ntmps (behind (au gn) [1,1,0]) s' _
  refine ax.gh hT lC hm 60 hv (h0 0) rfl trivial Q7 (by kernel_rfl) (by kernel_rfl) (cI ?_)
  rw [← hg, hY0, Nat.gcd_zero_right]
def C8 : Spec := iI (fun A B => .mag (Nat.gcd A B)) fun A B => [nl A < 2 ^ 38, nl B < 2 ^ 38]
theorem P8 : ∀ K args pre r, C8 K args pre = some r → az P sL K args pre r := kA fun h => Rv h.1 h.2
end Go.Am.B
