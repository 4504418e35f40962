/- ref01.Gcd: Euclid, on words when both are words. -/
import Derived.Test.YtbghpkgbokbmlaaGreatB28
set_option linter.unusedVariables false
namespace Go.Am.B
open Go Go.Am.N AV
theorem adG : aP P pI hH (au hH) := aL R6 (by kernel_rfl) (by kernel_rfl) (by kernel_rfl)
def nh : aQ := [(lF, pM), (qD, Aj), (mh, uB), (qE, jT (fun A B => jL A B) fun A B => [nl A < 2 ^ 38, nl B < 2 ^ 38])]
noncomputable abbrev wI : Code := part (au hH) [1,1,0,0,0]
noncomputable abbrev wZ : Code := part wI [1,0]
noncomputable abbrev qJ : Code := part wZ [1,1,0,1,0]
noncomputable abbrev Ko : Code := part qJ [0,0,0]
theorem oQ : aW P nh := aC vO (aC Iu (aC yH (aC Gz aT)))
theorem V7 {A B : Nat} : aH T nh [] 60 [0, 1] (before (au hH) [1,1,0]) ⟨aM 0 [.mag A, .mag B], [], 0⟩ =
  some (aa.af [nl A < 2 ^ 40, nl B < 2 ^ 40] (aa.leaf ag.normal ([mag A, mag B], []))) := by kernel_rfl
theorem US {A B : Nat} : aH T nh [18] 60 [0, 1] [part wI [0]] ⟨aB [0, 1] [.mag A, .mag B], [], 0⟩ =
  some (aa.fork (decide ((↑(nl B) : Int) > (0 : Int))) (aa.leaf ag.normal ([mag A, mag B], [])) (aa.leaf (ag.exit 0) ([mag A, mag B], []))) := by kernel_rfl
theorem Yx {A B : Nat} : aH T nh [30, 32] 60 [0, 1, 5, 7, 32] (before wZ [1,1,0,1]) ⟨aB [0, 1] [.mag A, .mag B], [], 0⟩ =
  some (aa.fork (cO A) (aa.af [cO A = true] (aa.leaf ag.normal ([mag A, mag B, int IntKind.u64 (↑(if cO A = true then A else 0) : Int), int IntKind.u64 (↑(if cO B = true then B else 0) : Int), AV.bool (bif true then cO B else false)], []))) (aa.af [cO A = false] (aa.leaf ag.normal ([mag A, mag B, int IntKind.u64 (↑(if cO A = true then A else 0) : Int), int IntKind.u64 (↑(if cO B = true then B else 0) : Int), AV.bool false], [])))) := by kernel_rfl
theorem Yb {x y : Nat} : aH T nh [34] 60 [5, 7] [Ko] ⟨aB [5, 7] [.int .u64 x, .int .u64 y], [], 0⟩ =
  some (aa.fork ((↑y : Int) != (0 : Int)) (aa.af [(↑y : Int) ≠ (0 : Int)] (aa.leaf ag.normal ([int IntKind.u64 (↑y : Int), int IntKind.u64 ((↑x : Int).tmod (↑y : Int))], []))) (aa.leaf (ag.exit 2) ([int IntKind.u64 (↑x : Int), int IntKind.u64 (↑y : Int)], []))) := by kernel_rfl
theorem XD {x y : Nat} : aH T nh [] 60 [4] [part qJ [1]] ⟨aB [5, 7] [.int .u64 x, .int .u64 y], [], 0⟩ =
  some (aa.af [(0 : Int) ≤ (↑x : Int) ∧ (↑x : Int) < (2 : Int) ^ 64] (aa.leaf ag.ret ([mag (↑x : Int).toNat], []))) := by kernel_rfl
theorem adp {A B : Nat} : aH T nh [] 60 [0, 1] (behind wZ [1,1,0,1]) ⟨aB [0, 1] [.mag A, .mag B], [], 0⟩ =
  some (aa.af [nl A < 2 ^ 38, nl B < 2 ^ 38] (aa.leaf ag.normal ([mag B, mag (if B = 0 then 0 else A % B)], []))) := by kernel_rfl
theorem ab8 {A B : Nat} : bW T nh [] 60 hH (behind (au hH) [1,1,0]) ⟨aB [0, 1] [.mag A, .mag B], [], 0⟩ =
  some (aa.leaf ag.ret [mag A]) := by kernel_rfl
theorem Pk {s : aE} {ls l : List Nat} {vs us : List AV} {os : aD} (hv : aU (l ++ ls) s = some (us ++ vs, os)) (hl : us.length = l.length) (hk : bf us = []) : aU ls s = some (vs, os) := by
 unfold aU at hv ⊢
 simp only [Option.some.injEq, Prod.mk.injEq, Cw] at hv ⊢
 obtain ⟨h1, h2⟩ := hv
 obtain ⟨h3, h4⟩ := List.append_inj h1 (by rw [Bc, hl])
 subst h4
 refine ⟨rfl, ?_⟩
 rw [← h2, h3, DZ, hk, List.nil_append]
theorem PB {A B : Nat} (hA : nl A < 2 ^ 38) (hB : nl B < 2 ^ 38) (K : Nat) : az P pI K [.mag A, .mag B] [] (aF (.mag (Nat.gcd A B)) []) := by
 refine fe hT adG rfl (of_decide_eq_true (by kernel_rfl)) rfl (fun _ c h0 => ?_) K []
 have hk0 := z5 h0
 refine aq.hole [1,1,0] (by kernel_rfl) (aA.aZ hT oQ hm 60 [0, 1] V7 (by kernel_rfl) ?_)
 simp only [aa.all, ax]
 refine ⟨⟨by omega, by omega⟩, fun s' hv => bI ?_⟩
 refine aq.fF (i := 0) (y := wI) (by kernel_rfl) [0, 1] 0 (h0 0) (fun p : Nat × Nat => [.mag p.1, .mag p.2]) (fun _ => []) (fun _ => rfl) (fun _ => trivial)
  (fun p => Nat.gcd p.1 p.2 = Nat.gcd A B ∧ nl p.1 < 2 ^ 38 ∧ nl p.2 < 2 ^ 38) (fun p => p.2) (A, B) hv ⟨rfl, hA, hB⟩ ?_
 rintro ⟨X, Y⟩ ⟨hg, hX, hY⟩
 simp only at hg hX hY
 have hstep : ∀ {X Y : Nat}, Y ≠ 0 → Nat.gcd Y (X % Y) = Nat.gcd X Y := fun {X Y} _ => by rw [Nat.gcd_comm X Y, Nat.gcd_rec Y X, Nat.gcd_comm]
 refine aq.hole [0] (by kernel_rfl) (show aq P c hH.ntmps (part wI [0]) _ _ from aq.aZ hT oQ hm 60 [0, 1] US (by kernel_rfl) ?_)
 simp only [aa.all, decide_eq_true_eq, decide_eq_false_iff_not]
 refine ⟨fun hb s' hv => bI ?_, fun hb s' hv => nZ (ek ?_)⟩
 ·have hY0 : Y ≠ 0 := eO.1 (by omega)
  have hlt := Nat.mod_lt X (show 0 < Y by omega)
  show aq P c hH.ntmps (part wI [1]) s' _
  refine aq.mo (i := 1) (y := wZ) (by kernel_rfl) ?_
  refine aq.hole [1,1,0,1] (by kernel_rfl) (aA.dS hT oQ hm 60 hv (h0 0) rfl trivial [0, 1, 5, 7, 32] Yx (by kernel_rfl) (by kernel_rfl) ?_)
  simp only [aa.all, ax]
  have fin : ∀ {s' : aE} {Q : ag → aE → Prop}, aU [0, 1] s' = some ([.mag X, .mag Y], []) → (∀ s', aU [0, 1] s' = some ([.mag Y, .mag (X % Y)], []) → Q .normal s') → aA P c hH.ntmps (behind wZ [1,1,0,1]) s' Q := by
   intro s' Q hv h
   refine aA.dS hT oQ hm 60 hv (h0 0) rfl trivial [0, 1] adp (by kernel_rfl) (by kernel_rfl) ?_
   simp only [aa.all, ax]
   exact ⟨⟨hX, hY⟩, fun s' hv => h s' (cM hv (by rw [if_neg hY0]) rfl)⟩
  have good : ∀ {s' : aE}, aU [0, 1] s' = some ([.mag Y, .mag (X % Y)], []) → ∃ k : Nat × Nat, aU [0, 1] s' = some ([.mag k.1, .mag k.2], []) ∧ (Nat.gcd k.1 k.2 = Nat.gcd A B ∧ nl k.1 < 2 ^ 38 ∧ nl k.2 < 2 ^ 38) ∧ k.2 < Y :=
   fun hv => ⟨(Y, X % Y), hv, ⟨by rw [← hg]; exact hstep hY0, hY, Nat.lt_of_le_of_lt (fu (Nat.le_of_lt hlt)) hY⟩, hlt⟩
  refine ⟨fun hf => ⟨hf, fun s' hv => bI ?_⟩, fun hf => ⟨hf, fun s' hv => bI ?_⟩⟩
  ·refine aq.cond (b := .tmp 32) (t := cO Y) (x := qJ) (y := .skip) (vH hv rfl rfl) (fun hf2 => ?_) (fun _ => aq.skip ?_)
   ·rw [if_pos hf, if_pos hf2] at hv
    have hX64 : X < 2 ^ 64 := by unfold cO at hf; simpa using hf
    have hY64 : Y < 2 ^ 64 := by unfold cO at hf2; simpa using hf2
    have hv := Pk (l := [0, 1]) (us := [.mag X, .mag Y]) (gr (ls := [0, 1, 5, 7]) (vs := [.mag X, .mag Y, .int .u64 (X : Nat), .int .u64 (Y : Nat)]) hv rfl rfl) rfl rfl
    refine aq.hole [0] (by kernel_rfl) ?_
    show aq P c hH.ntmps (part qJ [0]) s' _
    refine aq.fF (i := 2) (y := Ko) (by kernel_rfl) [5, 7] 0 (h0 0) (fun p : Nat × Nat => [.int .u64 (p.1 : Nat), .int .u64 (p.2 : Nat)]) (fun _ => []) (fun _ => rfl) (fun _ => trivial)
     (fun p => Nat.gcd p.1 p.2 = Nat.gcd A B ∧ p.1 < 2 ^ 64 ∧ p.2 < 2 ^ 64) (fun p => p.2) (X, Y) hv ⟨hg, hX64, hY64⟩ ?_
    rintro ⟨x, y⟩ ⟨hg, hx, hy⟩
    simp only at hg hx hy
    refine aq.aZ hT oQ hm 60 [5, 7] Yb (by kernel_rfl) ?_
    simp only [aa.all, ax, bne_iff_ne, ne_eq, bne_eq_false_iff_eq]
    refine ⟨fun hb => ⟨hb, fun s' hv => bI ?_⟩, fun hb s' hv => ek ?_⟩
    ·have hy0 : y ≠ 0 := by omega
     have hlt := Nat.mod_lt x (show 0 < y by omega)
     exact ⟨(y, x % y), cM hv (by rw [← Int.ofNat_tmod]) rfl, ⟨by rw [← hg]; exact hstep hy0, hy, by simp only; omega⟩, hlt⟩
    ·have hy0 : y = 0 := by omega
     show aA P c hH.ntmps [part qJ [1]] s' _
     refine aA.dS hT oQ hm 60 hv (h0 0) rfl trivial [4] XD (by kernel_rfl) (by kernel_rfl) ?_
     simp only [aa.all, ax, Int.toNat_natCast]
     refine ⟨by omega, fun s' hv => ?_⟩
     rw [show x = Nat.gcd A B by rw [← hg, hy0, Nat.gcd_zero_right]] at hv
     exact (.inl (e9 (us := [.mag (Nat.gcd A B)]) (.inr rfl) hv (by kernel_rfl) (cZ rfl)))
   ·exact bI (fin (gr (ls := [0, 1]) (vs := [.mag X, .mag Y]) hv rfl rfl) fun s' hv => good hv)
  ·refine aq.cond (b := .tmp 32) (t := false) (x := qJ) (y := .skip) (vH hv rfl rfl) (fun h => by simp at h) (fun _ => aq.skip ?_)
   exact bI (fin (gr (ls := [0, 1]) (vs := [.mag X, .mag Y]) hv rfl rfl) fun s' hv => good hv)
 ·have hY0 : Y = 0 := iC.1 (by omega)
  show aA P c hH.ntmps (behind (au hH) [1,1,0]) s' _
  refine aA.ij hT oQ hm 60 hv (h0 0) rfl trivial ab8 (by kernel_rfl) (by kernel_rfl) (cZ ?_)
  rw [← hg, hY0, Nat.gcd_zero_right]
def AS : Spec := jT (fun A B => .mag (Nat.gcd A B)) fun A B => [nl A < 2 ^ 38, nl B < 2 ^ 38]
theorem Gj : ∀ K args pre r, AS K args pre = some r → az P pI K args pre r := lT fun h => PB h.1 h.2
end Go.Am.B
