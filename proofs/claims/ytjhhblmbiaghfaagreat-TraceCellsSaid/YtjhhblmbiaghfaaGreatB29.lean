/- ref01.Gcd: Euclid, on words when both are words. -/
import Derived.Test.YtjhhblmbiaghfaaGreatB28
set_option linter.unusedVariables false
namespace Go.Am.B
open Go Go.Am.N AV
theorem KV : aO P uM gO (ax gO) := aP Nr (by kernel_rfl) (by kernel_rfl) (by kernel_rfl)
def mE : aW := [(kQ, pC), (qH, Au), (mA, qZ), (p7, jH (fun A B => jP A B) fun A B => [nl A < 2 ^ 38, nl B < 2 ^ 38])]
noncomputable abbrev tW : Code := part (ax gO) [1,1,0,0,0]
noncomputable abbrev sq : Code := part tW [1,0]
noncomputable abbrev qf : Code := part sq [1,1,0,1,0]
noncomputable abbrev CM : Code := part qf [0,0,0]
theorem nZ : br P mE := aJ tZ (aJ CR (aJ yN (aJ Ic aY)))
theorem MF {A B : Nat} : aF T mE [] 60 [0, 1] (before (ax gO) [1,1,0]) ⟨aN 0 [.mag A, .mag B], [], 0⟩ =
  some (af.ag [nl A < 2 ^ 40, nl B < 2 ^ 40] (af.leaf ak.normal ([mag A, mag B], []))) := by kernel_rfl
theorem KY {A B : Nat} : aF T mE [18] 60 [0, 1] [part tW [0]] ⟨az [0, 1] [.mag A, .mag B], [], 0⟩ =
  some (af.fork (decide ((↑(nl B) : Int) > (0 : Int))) (af.leaf ak.normal ([mag A, mag B], [])) (af.leaf (ak.exit 0) ([mag A, mag B], []))) := by kernel_rfl
theorem S4 {A B : Nat} : aF T mE [30, 32] 60 [0, 1, 5, 7, 32] (before sq [1,1,0,1]) ⟨az [0, 1] [.mag A, .mag B], [], 0⟩ =
  some (af.fork (cI A) (af.ag [cI A = true] (af.leaf ak.normal ([mag A, mag B, int IntKind.u64 (↑(if cI A = true then A else 0) : Int), int IntKind.u64 (↑(if cI B = true then B else 0) : Int), AV.bool (bif true then cI B else false)], []))) (af.ag [cI A = false] (af.leaf ak.normal ([mag A, mag B, int IntKind.u64 (↑(if cI A = true then A else 0) : Int), int IntKind.u64 (↑(if cI B = true then B else 0) : Int), AV.bool false], [])))) := by kernel_rfl
theorem MV {x y : Nat} : aF T mE [34] 60 [5, 7] [CM] ⟨az [5, 7] [.int .u64 x, .int .u64 y], [], 0⟩ =
  some (af.fork ((↑y : Int) != (0 : Int)) (af.ag [(↑y : Int) ≠ (0 : Int)] (af.leaf ak.normal ([int IntKind.u64 (↑y : Int), int IntKind.u64 ((↑x : Int).tmod (↑y : Int))], []))) (af.leaf (ak.exit 2) ([int IntKind.u64 (↑x : Int), int IntKind.u64 (↑y : Int)], []))) := by kernel_rfl
theorem OM {x y : Nat} : aF T mE [] 60 [4] [part qf [1]] ⟨az [5, 7] [.int .u64 x, .int .u64 y], [], 0⟩ =
  some (af.ag [(0 : Int) ≤ (↑x : Int) ∧ (↑x : Int) < (2 : Int) ^ 64] (af.leaf ak.ret ([mag (↑x : Int).toNat], []))) := by kernel_rfl
theorem VU {A B : Nat} : aF T mE [] 60 [0, 1] (behind sq [1,1,0,1]) ⟨az [0, 1] [.mag A, .mag B], [], 0⟩ =
  some (af.ag [nl A < 2 ^ 38, nl B < 2 ^ 38] (af.leaf ak.normal ([mag B, mag (if B = 0 then 0 else A % B)], []))) := by kernel_rfl
theorem NA {A B : Nat} : b9 T mE [] 60 gO (behind (ax gO) [1,1,0]) ⟨az [0, 1] [.mag A, .mag B], [], 0⟩ =
  some (af.leaf ak.ret [mag A]) := by kernel_rfl
theorem Jr {s : aE} {ls l : List Nat} {vs us : List AV} {os : aB} (hv : aQ (l ++ ls) s = some (us ++ vs, os)) (hl : us.length = l.length) (hk : aX us = []) : aQ ls s = some (vs, os) := by
 unfold aQ at hv ⊢
 simp only [Option.some.injEq, Prod.mk.injEq, zT] at hv ⊢
 obtain ⟨h1, h2⟩ := hv
 obtain ⟨h3, h4⟩ := List.append_inj h1 (by rw [Bp, hl])
 subst h4
 refine ⟨rfl, ?_⟩
 rw [← h2, h3, FH, hk, List.nil_append]
theorem Oj {A B : Nat} (hA : nl A < 2 ^ 38) (hB : nl B < 2 ^ 38) (K : Nat) : aC P uM K [.mag A, .mag B] [] (aK (.mag (Nat.gcd A B)) []) := by
 refine eW hT KV rfl (of_decide_eq_true (by kernel_rfl)) rfl (fun _ c h0 => ?_) K []
 have hk0 := xP h0
 refine aq.hole [1,1,0] (by kernel_rfl) (aA.aS hT nZ hm 60 [0, 1] MF (by kernel_rfl) ?_)
 simp only [af.all, ay]
 refine ⟨⟨by omega, by omega⟩, fun s' hv => bL ?_⟩
 refine aq.fl (i := 0) (y := tW) (by kernel_rfl) [0, 1] 0 (h0 0) (fun p : Nat × Nat => [.mag p.1, .mag p.2]) (fun _ => []) (fun _ => rfl) (fun _ => trivial)
  (fun p => Nat.gcd p.1 p.2 = Nat.gcd A B ∧ nl p.1 < 2 ^ 38 ∧ nl p.2 < 2 ^ 38) (fun p => p.2) (A, B) hv ⟨rfl, hA, hB⟩ ?_
 rintro ⟨X, Y⟩ ⟨hg, hX, hY⟩
 simp only at hg hX hY
 have hstep : ∀ {X Y : Nat}, Y ≠ 0 → Nat.gcd Y (X % Y) = Nat.gcd X Y := fun {X Y} _ => by rw [Nat.gcd_comm X Y, Nat.gcd_rec Y X, Nat.gcd_comm]
 refine aq.hole [0] (by kernel_rfl) (show aq P c gO.ntmps (part tW [0]) _ _ from aq.aS hT nZ hm 60 [0, 1] KY (by kernel_rfl) ?_)
 simp only [af.all, decide_eq_true_eq, decide_eq_false_iff_not]
 refine ⟨fun hb s' hv => bL ?_, fun hb s' hv => nq (dI ?_)⟩
 ·have hY0 : Y ≠ 0 := eH.1 (by omega)
  have hlt := Nat.mod_lt X (show 0 < Y by omega)
  show aq P c gO.ntmps (part tW [1]) s' _
  refine aq.mM (i := 1) (y := sq) (by kernel_rfl) ?_
  refine aq.hole [1,1,0,1] (by kernel_rfl) (aA.dB hT nZ hm 60 hv (h0 0) rfl trivial [0, 1, 5, 7, 32] S4 (by kernel_rfl) (by kernel_rfl) ?_)
  simp only [af.all, ay]
  have fin : ∀ {s' : aE} {Q : ak → aE → Prop}, aQ [0, 1] s' = some ([.mag X, .mag Y], []) → (∀ s', aQ [0, 1] s' = some ([.mag Y, .mag (X % Y)], []) → Q .normal s') → aA P c gO.ntmps (behind sq [1,1,0,1]) s' Q := by
   intro s' Q hv h
   refine aA.dB hT nZ hm 60 hv (h0 0) rfl trivial [0, 1] VU (by kernel_rfl) (by kernel_rfl) ?_
   simp only [af.all, ay]
   exact ⟨⟨hX, hY⟩, fun s' hv => h s' (cG hv (by rw [if_neg hY0]) rfl)⟩
  have good : ∀ {s' : aE}, aQ [0, 1] s' = some ([.mag Y, .mag (X % Y)], []) → ∃ k : Nat × Nat, aQ [0, 1] s' = some ([.mag k.1, .mag k.2], []) ∧ (Nat.gcd k.1 k.2 = Nat.gcd A B ∧ nl k.1 < 2 ^ 38 ∧ nl k.2 < 2 ^ 38) ∧ k.2 < Y :=
   fun hv => ⟨(Y, X % Y), hv, ⟨by rw [← hg]; exact hstep hY0, hY, Nat.lt_of_le_of_lt (fo (Nat.le_of_lt hlt)) hY⟩, hlt⟩
  refine ⟨fun hf => ⟨hf, fun s' hv => bL ?_⟩, fun hf => ⟨hf, fun s' hv => bL ?_⟩⟩
  ·refine aq.cond (b := .tmp 32) (t := cI Y) (x := qf) (y := .skip) (rV hv rfl rfl) (fun hf2 => ?_) (fun _ => aq.skip ?_)
   ·rw [if_pos hf, if_pos hf2] at hv
    have hX64 : X < 2 ^ 64 := by unfold cI at hf; simpa using hf
    have hY64 : Y < 2 ^ 64 := by unfold cI at hf2; simpa using hf2
    have hv := Jr (l := [0, 1]) (us := [.mag X, .mag Y]) (gf (ls := [0, 1, 5, 7]) (vs := [.mag X, .mag Y, .int .u64 (X : Nat), .int .u64 (Y : Nat)]) hv rfl rfl) rfl rfl
    refine aq.hole [0] (by kernel_rfl) ?_
    show aq P c gO.ntmps (part qf [0]) s' _
    refine aq.fl (i := 2) (y := CM) (by kernel_rfl) [5, 7] 0 (h0 0) (fun p : Nat × Nat => [.int .u64 (p.1 : Nat), .int .u64 (p.2 : Nat)]) (fun _ => []) (fun _ => rfl) (fun _ => trivial)
     (fun p => Nat.gcd p.1 p.2 = Nat.gcd A B ∧ p.1 < 2 ^ 64 ∧ p.2 < 2 ^ 64) (fun p => p.2) (X, Y) hv ⟨hg, hX64, hY64⟩ ?_
    rintro ⟨x, y⟩ ⟨hg, hx, hy⟩
    simp only at hg hx hy
    refine aq.aS hT nZ hm 60 [5, 7] MV (by kernel_rfl) ?_
    simp only [af.all, ay, bne_iff_ne, ne_eq, bne_eq_false_iff_eq]
    refine ⟨fun hb => ⟨hb, fun s' hv => bL ?_⟩, fun hb s' hv => dI ?_⟩
    ·have hy0 : y ≠ 0 := by omega
     have hlt := Nat.mod_lt x (show 0 < y by omega)
     exact ⟨(y, x % y), cG hv (by rw [← Int.ofNat_tmod]) rfl, ⟨by rw [← hg]; exact hstep hy0, hy, by simp only; omega⟩, hlt⟩
    ·have hy0 : y = 0 := by omega
     show aA P c gO.ntmps [part qf [1]] s' _
     refine aA.dB hT nZ hm 60 hv (h0 0) rfl trivial [4] OM (by kernel_rfl) (by kernel_rfl) ?_
     simp only [af.all, ay, Int.toNat_natCast]
     refine ⟨by omega, fun s' hv => ?_⟩
     rw [show x = Nat.gcd A B by rw [← hg, hy0, Nat.gcd_zero_right]] at hv
     exact (.inl (eL (us := [.mag (Nat.gcd A B)]) (.inr rfl) hv (by kernel_rfl) (cV rfl)))
   ·exact bL (fin (gf (ls := [0, 1]) (vs := [.mag X, .mag Y]) hv rfl rfl) fun s' hv => good hv)
  ·refine aq.cond (b := .tmp 32) (t := false) (x := qf) (y := .skip) (rV hv rfl rfl) (fun h => by simp at h) (fun _ => aq.skip ?_)
   exact bL (fin (gf (ls := [0, 1]) (vs := [.mag X, .mag Y]) hv rfl rfl) fun s' hv => good hv)
 ·have hY0 : Y = 0 := gP.1 (by omega)
  show aA P c gO.ntmps (behind (ax gO) [1,1,0]) s' _
  refine aA.gY hT nZ hm 60 hv (h0 0) rfl trivial NA (by kernel_rfl) (by kernel_rfl) (cV ?_)
  rw [← hg, hY0, Nat.gcd_zero_right]
def D8 : Spec := jH (fun A B => .mag (Nat.gcd A B)) fun A B => [nl A < 2 ^ 38, nl B < 2 ^ 38]
theorem Vb : ∀ K args pre r, D8 K args pre = some r → aC P uM K args pre r := lQ fun h => Oj h.1 h.2
end Go.Am.B
