/- ref01.Gcd: Euclid, on words when both are words. -/
import Derived.Test.YtnocdkaonpdmjaaGreatB28
set_option linter.unusedVariables false
namespace Go.Am.B
open Go Go.Am.N AV
theorem Tl : aN P x8 ij (au ij) := aP XW (by kernel_rfl) (by kernel_rfl) (by kernel_rfl)
def mY : aQ := [(lp, qd), (qa, Dl), (nr, xO), (rB, kO (fun A B => j7 A B) fun A B => [nl A < 2 ^ 38, nl B < 2 ^ 38])]
noncomputable abbrev v9 : Code := part (au ij) [1,1,0,0,0]
noncomputable abbrev xm : Code := part v9 [1,0]
noncomputable abbrev rO : Code := part xm [1,1,0,1,0]
noncomputable abbrev Ix : Code := part rO [0,0,0]
theorem oB : aY P mY := aF xz (aF G8 (aF Ay (aF Ki bk)))
theorem abQ {A B : Nat} : aI T mY [] 60 [0, 1] (before (au ij) [1,1,0]) ⟨aL 0 [.mag A, .mag B], [], 0⟩ =
  some (aa.ag [nl A < 2 ^ 40, nl B < 2 ^ 40] (aa.leaf ah.normal ([mag A, mag B], []))) := by kernel_rfl
theorem YW {A B : Nat} : aI T mY [18] 60 [0, 1] [part v9 [0]] ⟨aB [0, 1] [.mag A, .mag B], [], 0⟩ =
  some (aa.fork (decide ((↑(nl B) : Int) > (0 : Int))) (aa.leaf ah.normal ([mag A, mag B], [])) (aa.leaf (ah.exit 0) ([mag A, mag B], []))) := by kernel_rfl
theorem Pd {A B : Nat} : aI T mY [30, 32] 60 [0, 1, 5, 7, 32] (before xm [1,1,0,1]) ⟨aB [0, 1] [.mag A, .mag B], [], 0⟩ =
  some (aa.fork (cQ A) (aa.ag [cQ A = true] (aa.leaf ah.normal ([mag A, mag B, int IntKind.u64 (↑(if cQ A = true then A else 0) : Int), int IntKind.u64 (↑(if cQ B = true then B else 0) : Int), AV.bool (bif true then cQ B else false)], []))) (aa.ag [cQ A = false] (aa.leaf ah.normal ([mag A, mag B, int IntKind.u64 (↑(if cQ A = true then A else 0) : Int), int IntKind.u64 (↑(if cQ B = true then B else 0) : Int), AV.bool false], [])))) := by kernel_rfl
theorem OV {x y : Nat} : aI T mY [34] 60 [5, 7] [Ix] ⟨aB [5, 7] [.int .u64 x, .int .u64 y], [], 0⟩ =
  some (aa.fork ((↑y : Int) != (0 : Int)) (aa.ag [(↑y : Int) ≠ (0 : Int)] (aa.leaf ah.normal ([int IntKind.u64 (↑y : Int), int IntKind.u64 ((↑x : Int).tmod (↑y : Int))], []))) (aa.leaf (ah.exit 2) ([int IntKind.u64 (↑x : Int), int IntKind.u64 (↑y : Int)], []))) := by kernel_rfl
theorem Qp {x y : Nat} : aI T mY [] 60 [4] [part rO [1]] ⟨aB [5, 7] [.int .u64 x, .int .u64 y], [], 0⟩ =
  some (aa.ag [(0 : Int) ≤ (↑x : Int) ∧ (↑x : Int) < (2 : Int) ^ 64] (aa.leaf ah.ret ([mag (↑x : Int).toNat], []))) := by kernel_rfl
theorem SC {A B : Nat} : aI T mY [] 60 [0, 1] (behind xm [1,1,0,1]) ⟨aB [0, 1] [.mag A, .mag B], [], 0⟩ =
  some (aa.ag [nl A < 2 ^ 38, nl B < 2 ^ 38] (aa.leaf ah.normal ([mag B, mag (if B = 0 then 0 else A % B)], []))) := by kernel_rfl
theorem Zn {A B : Nat} : b9 T mY [] 60 ij (behind (au ij) [1,1,0]) ⟨aB [0, 1] [.mag A, .mag B], [], 0⟩ =
  some (aa.leaf ah.ret [mag A]) := by kernel_rfl
theorem aaa {s : aE} {ls l : List Nat} {vs us : List AV} {os : aD} (hv : aV (l ++ ls) s = some (us ++ vs, os)) (hl : us.length = l.length) (hk : aW us = []) : aV ls s = some (vs, os) := by
 unfold aV at hv ⊢
 simp only [Option.some.injEq, Prod.mk.injEq, C8] at hv ⊢
 obtain ⟨h1, h2⟩ := hv
 obtain ⟨h3, h4⟩ := List.append_inj h1 (by rw [BW, hl])
 subst h4
 refine ⟨rfl, ?_⟩
 rw [← h2, h3, He, hk, List.nil_append]
theorem P0 {A B : Nat} (hA : nl A < 2 ^ 38) (hB : nl B < 2 ^ 38) (K : Nat) : aA P x8 K [.mag A, .mag B] [] (aG (.mag (Nat.gcd A B)) []) := by
 refine fU hT Tl rfl (of_decide_eq_true (by kernel_rfl)) rfl (fun _ c h0 => ?_) K []
 have hk0 := y9 h0
 refine aq.hole [1,1,0] (by kernel_rfl) (aC.aZ hT oB hm 60 [0, 1] abQ (by kernel_rfl) ?_)
 simp only [aa.all, ay]
 refine ⟨⟨by omega, by omega⟩, fun s' hv => bP ?_⟩
 refine aq.fo (i := 0) (y := v9) (by kernel_rfl) [0, 1] 0 (h0 0) (fun p : Nat × Nat => [.mag p.1, .mag p.2]) (fun _ => []) (fun _ => rfl) (fun _ => trivial)
  (fun p => Nat.gcd p.1 p.2 = Nat.gcd A B ∧ nl p.1 < 2 ^ 38 ∧ nl p.2 < 2 ^ 38) (fun p => p.2) (A, B) hv ⟨rfl, hA, hB⟩ ?_
 rintro ⟨X, Y⟩ ⟨hg, hX, hY⟩
 simp only at hg hX hY
 have hstep : ∀ {X Y : Nat}, Y ≠ 0 → Nat.gcd Y (X % Y) = Nat.gcd X Y := fun {X Y} _ => by rw [Nat.gcd_comm X Y, Nat.gcd_rec Y X, Nat.gcd_comm]
 refine aq.hole [0] (by kernel_rfl) (show aq P c ij.ntmps (part v9 [0]) _ _ from aq.aZ hT oB hm 60 [0, 1] YW (by kernel_rfl) ?_)
 simp only [aa.all, decide_eq_true_eq, decide_eq_false_iff_not]
 refine ⟨fun hb s' hv => bP ?_, fun hb s' hv => oQ (dS ?_)⟩
 ·have hY0 : Y ≠ 0 := eE.1 (by omega)
  have hlt := Nat.mod_lt X (show 0 < Y by omega)
  show aq P c ij.ntmps (part v9 [1]) s' _
  refine aq.m8 (i := 1) (y := xm) (by kernel_rfl) ?_
  refine aq.hole [1,1,0,1] (by kernel_rfl) (aC.dQ hT oB hm 60 hv (h0 0) rfl trivial [0, 1, 5, 7, 32] Pd (by kernel_rfl) (by kernel_rfl) ?_)
  simp only [aa.all, ay]
  have fin : ∀ {s' : aE} {Q : ah → aE → Prop}, aV [0, 1] s' = some ([.mag X, .mag Y], []) → (∀ s', aV [0, 1] s' = some ([.mag Y, .mag (X % Y)], []) → Q .normal s') → aC P c ij.ntmps (behind xm [1,1,0,1]) s' Q := by
   intro s' Q hv h
   refine aC.dQ hT oB hm 60 hv (h0 0) rfl trivial [0, 1] SC (by kernel_rfl) (by kernel_rfl) ?_
   simp only [aa.all, ay]
   exact ⟨⟨hX, hY⟩, fun s' hv => h s' (cN hv (by rw [if_neg hY0]) rfl)⟩
  have good : ∀ {s' : aE}, aV [0, 1] s' = some ([.mag Y, .mag (X % Y)], []) → ∃ k : Nat × Nat, aV [0, 1] s' = some ([.mag k.1, .mag k.2], []) ∧ (Nat.gcd k.1 k.2 = Nat.gcd A B ∧ nl k.1 < 2 ^ 38 ∧ nl k.2 < 2 ^ 38) ∧ k.2 < Y :=
   fun hv => ⟨(Y, X % Y), hv, ⟨by rw [← hg]; exact hstep hY0, hY, Nat.lt_of_le_of_lt (fC (Nat.le_of_lt hlt)) hY⟩, hlt⟩
  refine ⟨fun hf => ⟨hf, fun s' hv => bP ?_⟩, fun hf => ⟨hf, fun s' hv => bP ?_⟩⟩
  ·refine aq.cond (b := .tmp 32) (t := cQ Y) (x := rO) (y := .skip) (vN hv rfl rfl) (fun hf2 => ?_) (fun _ => aq.skip ?_)
   ·rw [if_pos hf, if_pos hf2] at hv
    have hX64 : X < 2 ^ 64 := by unfold cQ at hf; simpa using hf
    have hY64 : Y < 2 ^ 64 := by unfold cQ at hf2; simpa using hf2
    have hv := aaa (l := [0, 1]) (us := [.mag X, .mag Y]) (fP (ls := [0, 1, 5, 7]) (vs := [.mag X, .mag Y, .int .u64 (X : Nat), .int .u64 (Y : Nat)]) hv rfl rfl) rfl rfl
    refine aq.hole [0] (by kernel_rfl) ?_
    show aq P c ij.ntmps (part rO [0]) s' _
    refine aq.fo (i := 2) (y := Ix) (by kernel_rfl) [5, 7] 0 (h0 0) (fun p : Nat × Nat => [.int .u64 (p.1 : Nat), .int .u64 (p.2 : Nat)]) (fun _ => []) (fun _ => rfl) (fun _ => trivial)
     (fun p => Nat.gcd p.1 p.2 = Nat.gcd A B ∧ p.1 < 2 ^ 64 ∧ p.2 < 2 ^ 64) (fun p => p.2) (X, Y) hv ⟨hg, hX64, hY64⟩ ?_
    rintro ⟨x, y⟩ ⟨hg, hx, hy⟩
    simp only at hg hx hy
    refine aq.aZ hT oB hm 60 [5, 7] OV (by kernel_rfl) ?_
    simp only [aa.all, ay, bne_iff_ne, ne_eq, bne_eq_false_iff_eq]
    refine ⟨fun hb => ⟨hb, fun s' hv => bP ?_⟩, fun hb s' hv => dS ?_⟩
    ·have hy0 : y ≠ 0 := by omega
     have hlt := Nat.mod_lt x (show 0 < y by omega)
     exact ⟨(y, x % y), cN hv (by rw [← Int.ofNat_tmod]) rfl, ⟨by rw [← hg]; exact hstep hy0, hy, by simp only; omega⟩, hlt⟩
    ·have hy0 : y = 0 := by omega
     show aC P c ij.ntmps [part rO [1]] s' _
     refine aC.dQ hT oB hm 60 hv (h0 0) rfl trivial [4] Qp (by kernel_rfl) (by kernel_rfl) ?_
     simp only [aa.all, ay, Int.toNat_natCast]
     refine ⟨by omega, fun s' hv => ?_⟩
     rw [show x = Nat.gcd A B by rw [← hg, hy0, Nat.gcd_zero_right]] at hv
     exact (.inl (eP (us := [.mag (Nat.gcd A B)]) (.inr rfl) hv (by kernel_rfl) (cI rfl)))
   ·exact bP (fin (fP (ls := [0, 1]) (vs := [.mag X, .mag Y]) hv rfl rfl) fun s' hv => good hv)
  ·refine aq.cond (b := .tmp 32) (t := false) (x := rO) (y := .skip) (vN hv rfl rfl) (fun h => by simp at h) (fun _ => aq.skip ?_)
   exact bP (fin (fP (ls := [0, 1]) (vs := [.mag X, .mag Y]) hv rfl rfl) fun s' hv => good hv)
 ·have hY0 : Y = 0 := gP.1 (by omega)
  show aC P c ij.ntmps (behind (au ij) [1,1,0]) s' _
  refine aC.iE hT oB hm 60 hv (h0 0) rfl trivial Zn (by kernel_rfl) (by kernel_rfl) (cI ?_)
  rw [← hg, hY0, Nat.gcd_zero_right]
def JB : Spec := kO (fun A B => .mag (Nat.gcd A B)) fun A B => [nl A < 2 ^ 38, nl B < 2 ^ 38]
theorem Pu : ∀ K args pre r, JB K args pre = some r → aA P x8 K args pre r := nh fun h => P0 h.1 h.2
end Go.Am.B
