/- ref01.Gcd: Euclid, on words when both are words. -/
import Derived.Test.YtbghpkgbokbmlaaGreatB28
set_option linter.unusedVariables false
namespace Go.Am.B
open Go Go.Am.N AV
theorem abB : aS P oX gJ (au gJ) := aN U3 (by kernel_rfl) (by kernel_rfl) (by kernel_rfl)
def l9 : aT := [(j9, p7), (oM, Ch), (lF, qS), (pO, jH (fun A B => jO A B) fun A B => [nl A < 2 ^ 38, nl B < 2 ^ 38])]
noncomputable abbrev qG : Code := part (au gJ) [1,1,0,0,0]
noncomputable abbrev qH : Code := part qG [1,0]
noncomputable abbrev oQ : Code := part qH [1,1,0,1,0]
noncomputable abbrev IP : Code := part oQ [0,0,0]
theorem mU : bh P l9 := aE uJ (aE Hp (aE xZ (aE HU aY)))
theorem UZ {A B : Nat} : aI T l9 [] 60 [0, 1] (before (au gJ) [1,1,0]) ⟨aO 0 [.mag A, .mag B], [], 0⟩ =
  some (aa.af [nl A < 2 ^ 40, nl B < 2 ^ 40] (aa.leaf ah.normal ([mag A, mag B], []))) := by kernel_rfl
theorem W4 {A B : Nat} : aI T l9 [18] 60 [0, 1] [part qG [0]] ⟨aA [0, 1] [.mag A, .mag B], [], 0⟩ =
  some (aa.fork (decide ((↑(nl B) : Int) > (0 : Int))) (aa.leaf ah.normal ([mag A, mag B], [])) (aa.leaf (ah.exit 0) ([mag A, mag B], []))) := by kernel_rfl
theorem ND {A B : Nat} : aI T l9 [30, 32] 60 [0, 1, 5, 7, 32] (before qH [1,1,0,1]) ⟨aA [0, 1] [.mag A, .mag B], [], 0⟩ =
  some (aa.fork (cJ A) (aa.af [cJ A = true] (aa.leaf ah.normal ([mag A, mag B, int IntKind.u64 (↑(if cJ A = true then A else 0) : Int), int IntKind.u64 (↑(if cJ B = true then B else 0) : Int), AV.bool (bif true then cJ B else false)], []))) (aa.af [cJ A = false] (aa.leaf ah.normal ([mag A, mag B, int IntKind.u64 (↑(if cJ A = true then A else 0) : Int), int IntKind.u64 (↑(if cJ B = true then B else 0) : Int), AV.bool false], [])))) := by kernel_rfl
theorem Zb {x y : Nat} : aI T l9 [34] 60 [5, 7] [IP] ⟨aA [5, 7] [.int .u64 x, .int .u64 y], [], 0⟩ =
  some (aa.fork ((↑y : Int) != (0 : Int)) (aa.af [(↑y : Int) ≠ (0 : Int)] (aa.leaf ah.normal ([int IntKind.u64 (↑y : Int), int IntKind.u64 ((↑x : Int).tmod (↑y : Int))], []))) (aa.leaf (ah.exit 2) ([int IntKind.u64 (↑x : Int), int IntKind.u64 (↑y : Int)], []))) := by kernel_rfl
theorem LW {x y : Nat} : aI T l9 [] 60 [4] [part oQ [1]] ⟨aA [5, 7] [.int .u64 x, .int .u64 y], [], 0⟩ =
  some (aa.af [(0 : Int) ≤ (↑x : Int) ∧ (↑x : Int) < (2 : Int) ^ 64] (aa.leaf ah.ret ([mag (↑x : Int).toNat], []))) := by kernel_rfl
theorem Wb {A B : Nat} : aI T l9 [] 60 [0, 1] (behind qH [1,1,0,1]) ⟨aA [0, 1] [.mag A, .mag B], [], 0⟩ =
  some (aa.af [nl A < 2 ^ 38, nl B < 2 ^ 38] (aa.leaf ah.normal ([mag B, mag (if B = 0 then 0 else A % B)], []))) := by kernel_rfl
theorem XA {A B : Nat} : b9 T l9 [] 60 gJ (behind (au gJ) [1,1,0]) ⟨aA [0, 1] [.mag A, .mag B], [], 0⟩ =
  some (aa.leaf ah.ret [mag A]) := by kernel_rfl
theorem Rj {s : aF} {ls l : List Nat} {vs us : List AV} {os : aD} (hv : aW (l ++ ls) s = some (us ++ vs, os)) (hl : us.length = l.length) (hk : bg us = []) : aW ls s = some (vs, os) := by
 unfold aW at hv ⊢
 simp only [Option.some.injEq, Prod.mk.injEq, Ba] at hv ⊢
 obtain ⟨h1, h2⟩ := hv
 obtain ⟨h3, h4⟩ := List.append_inj h1 (by rw [zN, hl])
 subst h4
 refine ⟨rfl, ?_⟩
 rw [← h2, h3, DT, hk, List.nil_append]
theorem Ty {A B : Nat} (hA : nl A < 2 ^ 38) (hB : nl B < 2 ^ 38) (K : Nat) : aB P oX K [.mag A, .mag B] [] (aH (.mag (Nat.gcd A B)) []) := by
 refine fq hT abB rfl (of_decide_eq_true (by kernel_rfl)) rfl (fun _ c h0 => ?_) K []
 have hk0 := w8 h0
 refine ak.hole [1,1,0] (by kernel_rfl) (az.bk hT mU hm 60 [0, 1] UZ (by kernel_rfl) ?_)
 simp only [aa.all, ax]
 refine ⟨⟨by omega, by omega⟩, fun s' hv => bL ?_⟩
 refine ak.fB (i := 0) (y := qG) (by kernel_rfl) [0, 1] 0 (h0 0) (fun p : Nat × Nat => [.mag p.1, .mag p.2]) (fun _ => []) (fun _ => rfl) (fun _ => trivial)
  (fun p => Nat.gcd p.1 p.2 = Nat.gcd A B ∧ nl p.1 < 2 ^ 38 ∧ nl p.2 < 2 ^ 38) (fun p => p.2) (A, B) hv ⟨rfl, hA, hB⟩ ?_
 rintro ⟨X, Y⟩ ⟨hg, hX, hY⟩
 simp only at hg hX hY
 have hstep : ∀ {X Y : Nat}, Y ≠ 0 → Nat.gcd Y (X % Y) = Nat.gcd X Y := fun {X Y} _ => by rw [Nat.gcd_comm X Y, Nat.gcd_rec Y X, Nat.gcd_comm]
 refine ak.hole [0] (by kernel_rfl) (show ak P c gJ.ntmps (part qG [0]) _ _ from ak.bk hT mU hm 60 [0, 1] W4 (by kernel_rfl) ?_)
 simp only [aa.all, decide_eq_true_eq, decide_eq_false_iff_not]
 refine ⟨fun hb s' hv => bL ?_, fun hb s' hv => mR (dQ ?_)⟩
 ·have hY0 : Y ≠ 0 := eH.1 (by omega)
  have hlt := Nat.mod_lt X (show 0 < Y by omega)
  show ak P c gJ.ntmps (part qG [1]) s' _
  refine ak.mM (i := 1) (y := qH) (by kernel_rfl) ?_
  refine ak.hole [1,1,0,1] (by kernel_rfl) (az.dI hT mU hm 60 hv (h0 0) rfl trivial [0, 1, 5, 7, 32] ND (by kernel_rfl) (by kernel_rfl) ?_)
  simp only [aa.all, ax]
  have fin : ∀ {s' : aF} {Q : ah → aF → Prop}, aW [0, 1] s' = some ([.mag X, .mag Y], []) → (∀ s', aW [0, 1] s' = some ([.mag Y, .mag (X % Y)], []) → Q .normal s') → az P c gJ.ntmps (behind qH [1,1,0,1]) s' Q := by
   intro s' Q hv h
   refine az.dI hT mU hm 60 hv (h0 0) rfl trivial [0, 1] Wb (by kernel_rfl) (by kernel_rfl) ?_
   simp only [aa.all, ax]
   exact ⟨⟨hX, hY⟩, fun s' hv => h s' (cH hv (by rw [if_neg hY0]) rfl)⟩
  have good : ∀ {s' : aF}, aW [0, 1] s' = some ([.mag Y, .mag (X % Y)], []) → ∃ k : Nat × Nat, aW [0, 1] s' = some ([.mag k.1, .mag k.2], []) ∧ (Nat.gcd k.1 k.2 = Nat.gcd A B ∧ nl k.1 < 2 ^ 38 ∧ nl k.2 < 2 ^ 38) ∧ k.2 < Y :=
   fun hv => ⟨(Y, X % Y), hv, ⟨by rw [← hg]; exact hstep hY0, hY, Nat.lt_of_le_of_lt (ff (Nat.le_of_lt hlt)) hY⟩, hlt⟩
  refine ⟨fun hf => ⟨hf, fun s' hv => bL ?_⟩, fun hf => ⟨hf, fun s' hv => bL ?_⟩⟩
  ·refine ak.cond (b := .tmp 32) (t := cJ Y) (x := oQ) (y := .skip) (tv hv rfl rfl) (fun hf2 => ?_) (fun _ => ak.skip ?_)
   ·rw [if_pos hf, if_pos hf2] at hv
    have hX64 : X < 2 ^ 64 := by unfold cJ at hf; simpa using hf
    have hY64 : Y < 2 ^ 64 := by unfold cJ at hf2; simpa using hf2
    have hv := Rj (l := [0, 1]) (us := [.mag X, .mag Y]) (ga (ls := [0, 1, 5, 7]) (vs := [.mag X, .mag Y, .int .u64 (X : Nat), .int .u64 (Y : Nat)]) hv rfl rfl) rfl rfl
    refine ak.hole [0] (by kernel_rfl) ?_
    show ak P c gJ.ntmps (part oQ [0]) s' _
    refine ak.fB (i := 2) (y := IP) (by kernel_rfl) [5, 7] 0 (h0 0) (fun p : Nat × Nat => [.int .u64 (p.1 : Nat), .int .u64 (p.2 : Nat)]) (fun _ => []) (fun _ => rfl) (fun _ => trivial)
     (fun p => Nat.gcd p.1 p.2 = Nat.gcd A B ∧ p.1 < 2 ^ 64 ∧ p.2 < 2 ^ 64) (fun p => p.2) (X, Y) hv ⟨hg, hX64, hY64⟩ ?_
    rintro ⟨x, y⟩ ⟨hg, hx, hy⟩
    simp only at hg hx hy
    refine ak.bk hT mU hm 60 [5, 7] Zb (by kernel_rfl) ?_
    simp only [aa.all, ax, bne_iff_ne, ne_eq, bne_eq_false_iff_eq]
    refine ⟨fun hb => ⟨hb, fun s' hv => bL ?_⟩, fun hb s' hv => dQ ?_⟩
    ·have hy0 : y ≠ 0 := by omega
     have hlt := Nat.mod_lt x (show 0 < y by omega)
     exact ⟨(y, x % y), cH hv (by rw [← Int.ofNat_tmod]) rfl, ⟨by rw [← hg]; exact hstep hy0, hy, by simp only; omega⟩, hlt⟩
    ·have hy0 : y = 0 := by omega
     show az P c gJ.ntmps [part oQ [1]] s' _
     refine az.dI hT mU hm 60 hv (h0 0) rfl trivial [4] LW (by kernel_rfl) (by kernel_rfl) ?_
     simp only [aa.all, ax, Int.toNat_natCast]
     refine ⟨by omega, fun s' hv => ?_⟩
     rw [show x = Nat.gcd A B by rw [← hg, hy0, Nat.gcd_zero_right]] at hv
     exact (.inl (eW (us := [.mag (Nat.gcd A B)]) (.inr rfl) hv (by kernel_rfl) (cR rfl)))
   ·exact bL (fin (ga (ls := [0, 1]) (vs := [.mag X, .mag Y]) hv rfl rfl) fun s' hv => good hv)
  ·refine ak.cond (b := .tmp 32) (t := false) (x := oQ) (y := .skip) (tv hv rfl rfl) (fun h => by simp at h) (fun _ => ak.skip ?_)
   exact bL (fin (ga (ls := [0, 1]) (vs := [.mag X, .mag Y]) hv rfl rfl) fun s' hv => good hv)
 ·have hY0 : Y = 0 := gU.1 (by omega)
  show az P c gJ.ntmps (behind (au gJ) [1,1,0]) s' _
  refine az.ig hT mU hm 60 hv (h0 0) rfl trivial XA (by kernel_rfl) (by kernel_rfl) (cR ?_)
  rw [← hg, hY0, Nat.gcd_zero_right]
def A3 : Spec := jH (fun A B => .mag (Nat.gcd A B)) fun A B => [nl A < 2 ^ 38, nl B < 2 ^ 38]
theorem Ex : ∀ K args pre r, A3 K args pre = some r → aB P oX K args pre r := mO fun h => Ty h.1 h.2
end Go.Am.B
