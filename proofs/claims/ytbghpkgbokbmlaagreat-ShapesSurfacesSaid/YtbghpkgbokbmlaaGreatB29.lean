/- ref01.Gcd: Euclid, on words when both are words. -/
import Derived.Test.YtbghpkgbokbmlaaGreatB28
set_option linter.unusedVariables false
namespace Go.Am.B
open Go Go.Am.N AV
theorem ZP : aP P qC ia (au ia) := aL YP (by kernel_rfl) (by kernel_rfl) (by kernel_rfl)
def lG : aO := [(k8, qp), (qq, zy), (lN, tC), (oV, jT (fun A B => jA A B) fun A B => [nl A < 2 ^ 38, nl B < 2 ^ 38])]
noncomputable abbrev rQ : Code := part (au ia) [1,1,0,0,0]
noncomputable abbrev tJ : Code := part rQ [1,0]
noncomputable abbrev p9 : Code := part tJ [1,1,0,1,0]
noncomputable abbrev JC : Code := part p9 [0,0,0]
theorem nM : aW P lG := aD vP (aD Ga (aD xD (aD Hg bg)))
theorem U0 {A B : Nat} : aI T lG [] 60 [0, 1] (before (au ia) [1,1,0]) ⟨aK 0 [.mag A, .mag B], [], 0⟩ =
  some (aa.af [nl A < 2 ^ 40, nl B < 2 ^ 40] (aa.leaf ah.normal ([mag A, mag B], []))) := by kernel_rfl
theorem QN {A B : Nat} : aI T lG [18] 60 [0, 1] [part rQ [0]] ⟨aB [0, 1] [.mag A, .mag B], [], 0⟩ =
  some (aa.fork (decide ((↑(nl B) : Int) > (0 : Int))) (aa.leaf ah.normal ([mag A, mag B], [])) (aa.leaf (ah.exit 0) ([mag A, mag B], []))) := by kernel_rfl
theorem aaC {A B : Nat} : aI T lG [30, 32] 60 [0, 1, 5, 7, 32] (before tJ [1,1,0,1]) ⟨aB [0, 1] [.mag A, .mag B], [], 0⟩ =
  some (aa.fork (cN A) (aa.af [cN A = true] (aa.leaf ah.normal ([mag A, mag B, int IntKind.u64 (↑(if cN A = true then A else 0) : Int), int IntKind.u64 (↑(if cN B = true then B else 0) : Int), AV.bool (bif true then cN B else false)], []))) (aa.af [cN A = false] (aa.leaf ah.normal ([mag A, mag B, int IntKind.u64 (↑(if cN A = true then A else 0) : Int), int IntKind.u64 (↑(if cN B = true then B else 0) : Int), AV.bool false], [])))) := by kernel_rfl
theorem Vt {x y : Nat} : aI T lG [34] 60 [5, 7] [JC] ⟨aB [5, 7] [.int .u64 x, .int .u64 y], [], 0⟩ =
  some (aa.fork ((↑y : Int) != (0 : Int)) (aa.af [(↑y : Int) ≠ (0 : Int)] (aa.leaf ah.normal ([int IntKind.u64 (↑y : Int), int IntKind.u64 ((↑x : Int).tmod (↑y : Int))], []))) (aa.leaf (ah.exit 2) ([int IntKind.u64 (↑x : Int), int IntKind.u64 (↑y : Int)], []))) := by kernel_rfl
theorem OI {x y : Nat} : aI T lG [] 60 [4] [part p9 [1]] ⟨aB [5, 7] [.int .u64 x, .int .u64 y], [], 0⟩ =
  some (aa.af [(0 : Int) ≤ (↑x : Int) ∧ (↑x : Int) < (2 : Int) ^ 64] (aa.leaf ah.ret ([mag (↑x : Int).toNat], []))) := by kernel_rfl
theorem J6 {A B : Nat} : aI T lG [] 60 [0, 1] (behind tJ [1,1,0,1]) ⟨aB [0, 1] [.mag A, .mag B], [], 0⟩ =
  some (aa.af [nl A < 2 ^ 38, nl B < 2 ^ 38] (aa.leaf ah.normal ([mag B, mag (if B = 0 then 0 else A % B)], []))) := by kernel_rfl
theorem UM {A B : Nat} : ct T lG [] 60 ia (behind (au ia) [1,1,0]) ⟨aB [0, 1] [.mag A, .mag B], [], 0⟩ =
  some (aa.leaf ah.ret [mag A]) := by kernel_rfl
theorem KS {s : aE} {ls l : List Nat} {vs us : List AV} {os : aC} (hv : aT (l ++ ls) s = some (us ++ vs, os)) (hl : us.length = l.length) (hk : bh us = []) : aT ls s = some (vs, os) := by
 unfold aT at hv ⊢
 simp only [Option.some.injEq, Prod.mk.injEq, AG] at hv ⊢
 obtain ⟨h1, h2⟩ := hv
 obtain ⟨h3, h4⟩ := List.append_inj h1 (by rw [B8, hl])
 subst h4
 refine ⟨rfl, ?_⟩
 rw [← h2, h3, Dr, hk, List.nil_append]
theorem XW {A B : Nat} (hA : nl A < 2 ^ 38) (hB : nl B < 2 ^ 38) (K : Nat) : ay P qC K [.mag A, .mag B] [] (aF (.mag (Nat.gcd A B)) []) := by
 refine fX hT ZP rfl (of_decide_eq_true (by kernel_rfl)) rfl (fun _ c h0 => ?_) K []
 have hk0 := yq h0
 refine ak.hole [1,1,0] (by kernel_rfl) (az.bk hT nM hm 60 [0, 1] U0 (by kernel_rfl) ?_)
 simp only [aa.all, ax]
 refine ⟨⟨by omega, by omega⟩, fun s' hv => bM ?_⟩
 refine ak.fu (i := 0) (y := rQ) (by kernel_rfl) [0, 1] 0 (h0 0) (fun p : Nat × Nat => [.mag p.1, .mag p.2]) (fun _ => []) (fun _ => rfl) (fun _ => trivial)
  (fun p => Nat.gcd p.1 p.2 = Nat.gcd A B ∧ nl p.1 < 2 ^ 38 ∧ nl p.2 < 2 ^ 38) (fun p => p.2) (A, B) hv ⟨rfl, hA, hB⟩ ?_
 rintro ⟨X, Y⟩ ⟨hg, hX, hY⟩
 simp only at hg hX hY
 have hstep : ∀ {X Y : Nat}, Y ≠ 0 → Nat.gcd Y (X % Y) = Nat.gcd X Y := fun {X Y} _ => by rw [Nat.gcd_comm X Y, Nat.gcd_rec Y X, Nat.gcd_comm]
 refine ak.hole [0] (by kernel_rfl) (show ak P c ia.ntmps (part rQ [0]) _ _ from ak.bk hT nM hm 60 [0, 1] QN (by kernel_rfl) ?_)
 simp only [aa.all, decide_eq_true_eq, decide_eq_false_iff_not]
 refine ⟨fun hb s' hv => bM ?_, fun hb s' hv => nq (dX ?_)⟩
 ·have hY0 : Y ≠ 0 := eL.1 (by omega)
  have hlt := Nat.mod_lt X (show 0 < Y by omega)
  show ak P c ia.ntmps (part rQ [1]) s' _
  refine ak.lY (i := 1) (y := tJ) (by kernel_rfl) ?_
  refine ak.hole [1,1,0,1] (by kernel_rfl) (az.dO hT nM hm 60 hv (h0 0) rfl trivial [0, 1, 5, 7, 32] aaC (by kernel_rfl) (by kernel_rfl) ?_)
  simp only [aa.all, ax]
  have fin : ∀ {s' : aE} {Q : ah → aE → Prop}, aT [0, 1] s' = some ([.mag X, .mag Y], []) → (∀ s', aT [0, 1] s' = some ([.mag Y, .mag (X % Y)], []) → Q .normal s') → az P c ia.ntmps (behind tJ [1,1,0,1]) s' Q := by
   intro s' Q hv h
   refine az.dO hT nM hm 60 hv (h0 0) rfl trivial [0, 1] J6 (by kernel_rfl) (by kernel_rfl) ?_
   simp only [aa.all, ax]
   exact ⟨⟨hX, hY⟩, fun s' hv => h s' (cL hv (by rw [if_neg hY0]) rfl)⟩
  have good : ∀ {s' : aE}, aT [0, 1] s' = some ([.mag Y, .mag (X % Y)], []) → ∃ k : Nat × Nat, aT [0, 1] s' = some ([.mag k.1, .mag k.2], []) ∧ (Nat.gcd k.1 k.2 = Nat.gcd A B ∧ nl k.1 < 2 ^ 38 ∧ nl k.2 < 2 ^ 38) ∧ k.2 < Y :=
   fun hv => ⟨(Y, X % Y), hv, ⟨by rw [← hg]; exact hstep hY0, hY, Nat.lt_of_le_of_lt (fA (Nat.le_of_lt hlt)) hY⟩, hlt⟩
  refine ⟨fun hf => ⟨hf, fun s' hv => bM ?_⟩, fun hf => ⟨hf, fun s' hv => bM ?_⟩⟩
  ·refine ak.cond (b := .tmp 32) (t := cN Y) (x := p9) (y := .skip) (rT hv rfl rfl) (fun hf2 => ?_) (fun _ => ak.skip ?_)
   ·rw [if_pos hf, if_pos hf2] at hv
    have hX64 : X < 2 ^ 64 := by unfold cN at hf; simpa using hf
    have hY64 : Y < 2 ^ 64 := by unfold cN at hf2; simpa using hf2
    have hv := KS (l := [0, 1]) (us := [.mag X, .mag Y]) (gd (ls := [0, 1, 5, 7]) (vs := [.mag X, .mag Y, .int .u64 (X : Nat), .int .u64 (Y : Nat)]) hv rfl rfl) rfl rfl
    refine ak.hole [0] (by kernel_rfl) ?_
    show ak P c ia.ntmps (part p9 [0]) s' _
    refine ak.fu (i := 2) (y := JC) (by kernel_rfl) [5, 7] 0 (h0 0) (fun p : Nat × Nat => [.int .u64 (p.1 : Nat), .int .u64 (p.2 : Nat)]) (fun _ => []) (fun _ => rfl) (fun _ => trivial)
     (fun p => Nat.gcd p.1 p.2 = Nat.gcd A B ∧ p.1 < 2 ^ 64 ∧ p.2 < 2 ^ 64) (fun p => p.2) (X, Y) hv ⟨hg, hX64, hY64⟩ ?_
    rintro ⟨x, y⟩ ⟨hg, hx, hy⟩
    simp only at hg hx hy
    refine ak.bk hT nM hm 60 [5, 7] Vt (by kernel_rfl) ?_
    simp only [aa.all, ax, bne_iff_ne, ne_eq, bne_eq_false_iff_eq]
    refine ⟨fun hb => ⟨hb, fun s' hv => bM ?_⟩, fun hb s' hv => dX ?_⟩
    ·have hy0 : y ≠ 0 := by omega
     have hlt := Nat.mod_lt x (show 0 < y by omega)
     exact ⟨(y, x % y), cL hv (by rw [← Int.ofNat_tmod]) rfl, ⟨by rw [← hg]; exact hstep hy0, hy, by simp only; omega⟩, hlt⟩
    ·have hy0 : y = 0 := by omega
     show az P c ia.ntmps [part p9 [1]] s' _
     refine az.dO hT nM hm 60 hv (h0 0) rfl trivial [4] OI (by kernel_rfl) (by kernel_rfl) ?_
     simp only [aa.all, ax, Int.toNat_natCast]
     refine ⟨by omega, fun s' hv => ?_⟩
     rw [show x = Nat.gcd A B by rw [← hg, hy0, Nat.gcd_zero_right]] at hv
     exact (.inl (eW (us := [.mag (Nat.gcd A B)]) (.inr rfl) hv (by kernel_rfl) (de rfl)))
   ·exact bM (fin (gd (ls := [0, 1]) (vs := [.mag X, .mag Y]) hv rfl rfl) fun s' hv => good hv)
  ·refine ak.cond (b := .tmp 32) (t := false) (x := p9) (y := .skip) (rT hv rfl rfl) (fun h => by simp at h) (fun _ => ak.skip ?_)
   exact bM (fin (gd (ls := [0, 1]) (vs := [.mag X, .mag Y]) hv rfl rfl) fun s' hv => good hv)
 ·have hY0 : Y = 0 := gI.1 (by omega)
  show az P c ia.ntmps (behind (au ia) [1,1,0]) s' _
  refine az.gZ hT nM hm 60 hv (h0 0) rfl trivial UM (by kernel_rfl) (by kernel_rfl) (de ?_)
  rw [← hg, hY0, Nat.gcd_zero_right]
def D4 : Spec := jT (fun A B => .mag (Nat.gcd A B)) fun A B => [nl A < 2 ^ 38, nl B < 2 ^ 38]
theorem ZM : ∀ K args pre r, D4 K args pre = some r → ay P qC K args pre r := lP fun h => XW h.1 h.2
end Go.Am.B
