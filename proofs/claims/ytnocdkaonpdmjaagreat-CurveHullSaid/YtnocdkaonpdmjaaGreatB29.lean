/- ref01.Gcd: Euclid, on words when both are words. -/
import Derived.Test.YtnocdkaonpdmjaaGreatB28
set_option linter.unusedVariables false
namespace Go.Am.B
open Go Go.Am.N AV
theorem Pp : aO P wM ig (ax ig) := aP RN (by kernel_rfl) (by kernel_rfl) (by kernel_rfl)
def mP : aQ := [(kS, p7), (pR, Dk), (l7, sI), (qV, kn (fun A B => j0 A B) fun A B => [nl A < 2 ^ 38, nl B < 2 ^ 38])]
noncomputable abbrev vJ : Code := part (ax ig) [1,1,0,0,0]
noncomputable abbrev sW : Code := part vJ [1,0]
noncomputable abbrev qh : Code := part sW [1,1,0,1,0]
noncomputable abbrev EI : Code := part qh [0,0,0]
theorem oT : bg P mP := aH vG (aH Eb (aH yQ (aH E9 bn)))
theorem Tq {A B : Nat} : aI T mP [] 60 [0, 1] (before (ax ig) [1,1,0]) ⟨aL 0 [.mag A, .mag B], [], 0⟩ =
  some (aa.ag [nl A < 2 ^ 40, nl B < 2 ^ 40] (aa.leaf aj.normal ([mag A, mag B], []))) := by kernel_rfl
theorem W1 {A B : Nat} : aI T mP [18] 60 [0, 1] [part vJ [0]] ⟨aC [0, 1] [.mag A, .mag B], [], 0⟩ =
  some (aa.fork (decide ((↑(nl B) : Int) > (0 : Int))) (aa.leaf aj.normal ([mag A, mag B], [])) (aa.leaf (aj.exit 0) ([mag A, mag B], []))) := by kernel_rfl
theorem VB {A B : Nat} : aI T mP [30, 32] 60 [0, 1, 5, 7, 32] (before sW [1,1,0,1]) ⟨aC [0, 1] [.mag A, .mag B], [], 0⟩ =
  some (aa.fork (cN A) (aa.ag [cN A = true] (aa.leaf aj.normal ([mag A, mag B, int IntKind.u64 (↑(if cN A = true then A else 0) : Int), int IntKind.u64 (↑(if cN B = true then B else 0) : Int), AV.bool (bif true then cN B else false)], []))) (aa.ag [cN A = false] (aa.leaf aj.normal ([mag A, mag B, int IntKind.u64 (↑(if cN A = true then A else 0) : Int), int IntKind.u64 (↑(if cN B = true then B else 0) : Int), AV.bool false], [])))) := by kernel_rfl
theorem aaQ {x y : Nat} : aI T mP [34] 60 [5, 7] [EI] ⟨aC [5, 7] [.int .u64 x, .int .u64 y], [], 0⟩ =
  some (aa.fork ((↑y : Int) != (0 : Int)) (aa.ag [(↑y : Int) ≠ (0 : Int)] (aa.leaf aj.normal ([int IntKind.u64 (↑y : Int), int IntKind.u64 ((↑x : Int).tmod (↑y : Int))], []))) (aa.leaf (aj.exit 2) ([int IntKind.u64 (↑x : Int), int IntKind.u64 (↑y : Int)], []))) := by kernel_rfl
theorem NI {x y : Nat} : aI T mP [] 60 [4] [part qh [1]] ⟨aC [5, 7] [.int .u64 x, .int .u64 y], [], 0⟩ =
  some (aa.ag [(0 : Int) ≤ (↑x : Int) ∧ (↑x : Int) < (2 : Int) ^ 64] (aa.leaf aj.ret ([mag (↑x : Int).toNat], []))) := by kernel_rfl
theorem Lq {A B : Nat} : aI T mP [] 60 [0, 1] (behind sW [1,1,0,1]) ⟨aC [0, 1] [.mag A, .mag B], [], 0⟩ =
  some (aa.ag [nl A < 2 ^ 38, nl B < 2 ^ 38] (aa.leaf aj.normal ([mag B, mag (if B = 0 then 0 else A % B)], []))) := by kernel_rfl
theorem RI {A B : Nat} : cq T mP [] 60 ig (behind (ax ig) [1,1,0]) ⟨aC [0, 1] [.mag A, .mag B], [], 0⟩ =
  some (aa.leaf aj.ret [mag A]) := by kernel_rfl
theorem RH {s : aE} {ls l : List Nat} {vs us : List AV} {os : aD} (hv : aU (l ++ ls) s = some (us ++ vs, os)) (hl : us.length = l.length) (hk : aV us = []) : aU ls s = some (vs, os) := by
 unfold aU at hv ⊢
 simp only [Option.some.injEq, Prod.mk.injEq, AN] at hv ⊢
 obtain ⟨h1, h2⟩ := hv
 obtain ⟨h3, h4⟩ := List.append_inj h1 (by rw [CR, hl])
 subst h4
 refine ⟨rfl, ?_⟩
 rw [← h2, h3, EY, hk, List.nil_append]
theorem Lm {A B : Nat} (hA : nl A < 2 ^ 38) (hB : nl B < 2 ^ 38) (K : Nat) : aA P wM K [.mag A, .mag B] [] (aG (.mag (Nat.gcd A B)) []) := by
 refine gb hT Pp rfl (of_decide_eq_true (by kernel_rfl)) rfl (fun _ c h0 => ?_) K []
 have hk0 := zU h0
 refine aq.hole [1,1,0] (by kernel_rfl) (aB.aX hT oT hm 60 [0, 1] Tq (by kernel_rfl) ?_)
 simp only [aa.all, ay]
 refine ⟨⟨by omega, by omega⟩, fun s' hv => bP ?_⟩
 refine aq.fq (i := 0) (y := vJ) (by kernel_rfl) [0, 1] 0 (h0 0) (fun p : Nat × Nat => [.mag p.1, .mag p.2]) (fun _ => []) (fun _ => rfl) (fun _ => trivial)
  (fun p => Nat.gcd p.1 p.2 = Nat.gcd A B ∧ nl p.1 < 2 ^ 38 ∧ nl p.2 < 2 ^ 38) (fun p => p.2) (A, B) hv ⟨rfl, hA, hB⟩ ?_
 rintro ⟨X, Y⟩ ⟨hg, hX, hY⟩
 simp only at hg hX hY
 have hstep : ∀ {X Y : Nat}, Y ≠ 0 → Nat.gcd Y (X % Y) = Nat.gcd X Y := fun {X Y} _ => by rw [Nat.gcd_comm X Y, Nat.gcd_rec Y X, Nat.gcd_comm]
 refine aq.hole [0] (by kernel_rfl) (show aq P c ig.ntmps (part vJ [0]) _ _ from aq.aX hT oT hm 60 [0, 1] W1 (by kernel_rfl) ?_)
 simp only [aa.all, decide_eq_true_eq, decide_eq_false_iff_not]
 refine ⟨fun hb s' hv => bP ?_, fun hb s' hv => nE (dQ ?_)⟩
 ·have hY0 : Y ≠ 0 := eP.1 (by omega)
  have hlt := Nat.mod_lt X (show 0 < Y by omega)
  show aq P c ig.ntmps (part vJ [1]) s' _
  refine aq.m9 (i := 1) (y := sW) (by kernel_rfl) ?_
  refine aq.hole [1,1,0,1] (by kernel_rfl) (aB.dN hT oT hm 60 hv (h0 0) rfl trivial [0, 1, 5, 7, 32] VB (by kernel_rfl) (by kernel_rfl) ?_)
  simp only [aa.all, ay]
  have fin : ∀ {s' : aE} {Q : aj → aE → Prop}, aU [0, 1] s' = some ([.mag X, .mag Y], []) → (∀ s', aU [0, 1] s' = some ([.mag Y, .mag (X % Y)], []) → Q .normal s') → aB P c ig.ntmps (behind sW [1,1,0,1]) s' Q := by
   intro s' Q hv h
   refine aB.dN hT oT hm 60 hv (h0 0) rfl trivial [0, 1] Lq (by kernel_rfl) (by kernel_rfl) ?_
   simp only [aa.all, ay]
   exact ⟨⟨hX, hY⟩, fun s' hv => h s' (cJ hv (by rw [if_neg hY0]) rfl)⟩
  have good : ∀ {s' : aE}, aU [0, 1] s' = some ([.mag Y, .mag (X % Y)], []) → ∃ k : Nat × Nat, aU [0, 1] s' = some ([.mag k.1, .mag k.2], []) ∧ (Nat.gcd k.1 k.2 = Nat.gcd A B ∧ nl k.1 < 2 ^ 38 ∧ nl k.2 < 2 ^ 38) ∧ k.2 < Y :=
   fun hv => ⟨(Y, X % Y), hv, ⟨by rw [← hg]; exact hstep hY0, hY, Nat.lt_of_le_of_lt (fu (Nat.le_of_lt hlt)) hY⟩, hlt⟩
  refine ⟨fun hf => ⟨hf, fun s' hv => bP ?_⟩, fun hf => ⟨hf, fun s' hv => bP ?_⟩⟩
  ·refine aq.cond (b := .tmp 32) (t := cN Y) (x := qh) (y := .skip) (tU hv rfl rfl) (fun hf2 => ?_) (fun _ => aq.skip ?_)
   ·rw [if_pos hf, if_pos hf2] at hv
    have hX64 : X < 2 ^ 64 := by unfold cN at hf; simpa using hf
    have hY64 : Y < 2 ^ 64 := by unfold cN at hf2; simpa using hf2
    have hv := RH (l := [0, 1]) (us := [.mag X, .mag Y]) (fV (ls := [0, 1, 5, 7]) (vs := [.mag X, .mag Y, .int .u64 (X : Nat), .int .u64 (Y : Nat)]) hv rfl rfl) rfl rfl
    refine aq.hole [0] (by kernel_rfl) ?_
    show aq P c ig.ntmps (part qh [0]) s' _
    refine aq.fq (i := 2) (y := EI) (by kernel_rfl) [5, 7] 0 (h0 0) (fun p : Nat × Nat => [.int .u64 (p.1 : Nat), .int .u64 (p.2 : Nat)]) (fun _ => []) (fun _ => rfl) (fun _ => trivial)
     (fun p => Nat.gcd p.1 p.2 = Nat.gcd A B ∧ p.1 < 2 ^ 64 ∧ p.2 < 2 ^ 64) (fun p => p.2) (X, Y) hv ⟨hg, hX64, hY64⟩ ?_
    rintro ⟨x, y⟩ ⟨hg, hx, hy⟩
    simp only at hg hx hy
    refine aq.aX hT oT hm 60 [5, 7] aaQ (by kernel_rfl) ?_
    simp only [aa.all, ay, bne_iff_ne, ne_eq, bne_eq_false_iff_eq]
    refine ⟨fun hb => ⟨hb, fun s' hv => bP ?_⟩, fun hb s' hv => dQ ?_⟩
    ·have hy0 : y ≠ 0 := by omega
     have hlt := Nat.mod_lt x (show 0 < y by omega)
     exact ⟨(y, x % y), cJ hv (by rw [← Int.ofNat_tmod]) rfl, ⟨by rw [← hg]; exact hstep hy0, hy, by simp only; omega⟩, hlt⟩
    ·have hy0 : y = 0 := by omega
     show aB P c ig.ntmps [part qh [1]] s' _
     refine aB.dN hT oT hm 60 hv (h0 0) rfl trivial [4] NI (by kernel_rfl) (by kernel_rfl) ?_
     simp only [aa.all, ay, Int.toNat_natCast]
     refine ⟨by omega, fun s' hv => ?_⟩
     rw [show x = Nat.gcd A B by rw [← hg, hy0, Nat.gcd_zero_right]] at hv
     exact (.inl (eM (us := [.mag (Nat.gcd A B)]) (.inr rfl) hv (by kernel_rfl) (cI rfl)))
   ·exact bP (fin (fV (ls := [0, 1]) (vs := [.mag X, .mag Y]) hv rfl rfl) fun s' hv => good hv)
  ·refine aq.cond (b := .tmp 32) (t := false) (x := qh) (y := .skip) (tU hv rfl rfl) (fun h => by simp at h) (fun _ => aq.skip ?_)
   exact bP (fin (fV (ls := [0, 1]) (vs := [.mag X, .mag Y]) hv rfl rfl) fun s' hv => good hv)
 ·have hY0 : Y = 0 := gH.1 (by omega)
  show aB P c ig.ntmps (behind (ax ig) [1,1,0]) s' _
  refine aB.iC hT oT hm 60 hv (h0 0) rfl trivial RI (by kernel_rfl) (by kernel_rfl) (cI ?_)
  rw [← hg, hY0, Nat.gcd_zero_right]
def IB : Spec := kn (fun A B => .mag (Nat.gcd A B)) fun A B => [nl A < 2 ^ 38, nl B < 2 ^ 38]
theorem abU : ∀ K args pre r, IB K args pre = some r → aA P wM K args pre r := nh fun h => Lm h.1 h.2
end Go.Am.B
