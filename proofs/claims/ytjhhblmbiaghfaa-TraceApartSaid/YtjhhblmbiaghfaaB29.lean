/- ref01.Gcd: Euclid, on words when both are words. -/
import Derived.Test.YtjhhblmbiaghfaaB28
set_option linter.unusedVariables false
namespace Go.Am.B
open Go Go.Am.N AV
theorem TP : aO P p4 gD (ax gD) := aS Uj (by kernel_rfl) (by kernel_rfl) (by kernel_rfl)
def kG : bf := [(jU, oX), (oM, zj), (kA, p7), (oJ, jw (fun A B => jg A B) fun A B => [nl A < 2 ^ 38, nl B < 2 ^ 38])]
noncomputable abbrev tD : Code := part (ax gD) [1,1,0,0,0]
noncomputable abbrev pQ : Code := part tD [1,0]
noncomputable abbrev nH : Code := part pQ [1,1,0,1,0]
noncomputable abbrev EW : Code := part nH [0,0,0]
theorem lY : bC P kG := aK p0 (aK BU (aK vN (aK CU aZ)))
theorem SU {A B : Nat} : aG T kG [] 60 [0, 1] (before (ax gD) [1,1,0]) ⟨aM 0 [.mag A, .mag B], [], 0⟩ =
  some (aa.af [nl A < 2 ^ 40, nl B < 2 ^ 40] (aa.leaf aj.normal ([mag A, mag B], []))) := by kernel_rfl
theorem Py {A B : Nat} : aG T kG [18] 60 [0, 1] [part tD [0]] ⟨aB [0, 1] [.mag A, .mag B], [], 0⟩ =
  some (aa.fork (decide ((↑(nl B) : Int) > (0 : Int))) (aa.leaf aj.normal ([mag A, mag B], [])) (aa.leaf (aj.exit 0) ([mag A, mag B], []))) := by kernel_rfl
theorem KE {A B : Nat} : aG T kG [30, 32] 60 [0, 1, 5, 7, 32] (before pQ [1,1,0,1]) ⟨aB [0, 1] [.mag A, .mag B], [], 0⟩ =
  some (aa.fork (cA A) (aa.af [cA A = true] (aa.leaf aj.normal ([mag A, mag B, int IntKind.u64 (↑(if cA A = true then A else 0) : Int), int IntKind.u64 (↑(if cA B = true then B else 0) : Int), AV.bool (bif true then cA B else false)], []))) (aa.af [cA A = false] (aa.leaf aj.normal ([mag A, mag B, int IntKind.u64 (↑(if cA A = true then A else 0) : Int), int IntKind.u64 (↑(if cA B = true then B else 0) : Int), AV.bool false], [])))) := by kernel_rfl
theorem Mx {x y : Nat} : aG T kG [34] 60 [5, 7] [EW] ⟨aB [5, 7] [.int .u64 x, .int .u64 y], [], 0⟩ =
  some (aa.fork ((↑y : Int) != (0 : Int)) (aa.af [(↑y : Int) ≠ (0 : Int)] (aa.leaf aj.normal ([int IntKind.u64 (↑y : Int), int IntKind.u64 ((↑x : Int).tmod (↑y : Int))], []))) (aa.leaf (aj.exit 2) ([int IntKind.u64 (↑x : Int), int IntKind.u64 (↑y : Int)], []))) := by kernel_rfl
theorem HS {x y : Nat} : aG T kG [] 60 [4] [part nH [1]] ⟨aB [5, 7] [.int .u64 x, .int .u64 y], [], 0⟩ =
  some (aa.af [(0 : Int) ≤ (↑x : Int) ∧ (↑x : Int) < (2 : Int) ^ 64] (aa.leaf aj.ret ([mag (↑x : Int).toNat], []))) := by kernel_rfl
theorem Gn {A B : Nat} : aG T kG [] 60 [0, 1] (behind pQ [1,1,0,1]) ⟨aB [0, 1] [.mag A, .mag B], [], 0⟩ =
  some (aa.af [nl A < 2 ^ 38, nl B < 2 ^ 38] (aa.leaf aj.normal ([mag B, mag (if B = 0 then 0 else A % B)], []))) := by kernel_rfl
theorem MR {A B : Nat} : cJ T kG [] 60 gD (behind (ax gD) [1,1,0]) ⟨aB [0, 1] [.mag A, .mag B], [], 0⟩ =
  some (aa.leaf aj.ret [mag A]) := by kernel_rfl
theorem TK {s : aD} {ls l : List Nat} {vs us : List AV} {os : aA} (hv : aN (l ++ ls) s = some (us ++ vs, os)) (hl : us.length = l.length) (hk : aV us = []) : aN ls s = some (vs, os) := by
 unfold aN at hv ⊢
 simp only [Option.some.injEq, Prod.mk.injEq, xM] at hv ⊢
 obtain ⟨h1, h2⟩ := hv
 obtain ⟨h3, h4⟩ := List.append_inj h1 (by rw [zR, hl])
 subst h4
 refine ⟨rfl, ?_⟩
 rw [← h2, h3, Fp, hk, List.nil_append]
theorem TW {A B : Nat} (hA : nl A < 2 ^ 38) (hB : nl B < 2 ^ 38) (K : Nat) : aC P p4 K [.mag A, .mag B] [] (aJ (.mag (Nat.gcd A B)) []) := by
 refine fX hT TP rfl (of_decide_eq_true (by kernel_rfl)) rfl (fun _ c h0 => ?_) K []
 have hk0 := tM h0
 refine aq.hole [1,1,0] (by kernel_rfl) (ay.aR hT lY hm 60 [0, 1] SU (by kernel_rfl) ?_)
 simp only [aa.all, az]
 refine ⟨⟨by omega, by omega⟩, fun s' hv => bD ?_⟩
 refine aq.eV (i := 0) (y := tD) (by kernel_rfl) [0, 1] 0 (h0 0) (fun p : Nat × Nat => [.mag p.1, .mag p.2]) (fun _ => []) (fun _ => rfl) (fun _ => trivial)
  (fun p => Nat.gcd p.1 p.2 = Nat.gcd A B ∧ nl p.1 < 2 ^ 38 ∧ nl p.2 < 2 ^ 38) (fun p => p.2) (A, B) hv ⟨rfl, hA, hB⟩ ?_
 rintro ⟨X, Y⟩ ⟨hg, hX, hY⟩
 simp only at hg hX hY
 have hstep : ∀ {X Y : Nat}, Y ≠ 0 → Nat.gcd Y (X % Y) = Nat.gcd X Y := fun {X Y} _ => by rw [Nat.gcd_comm X Y, Nat.gcd_rec Y X, Nat.gcd_comm]
 refine aq.hole [0] (by kernel_rfl) (show aq P c gD.ntmps (part tD [0]) _ _ from aq.aR hT lY hm 60 [0, 1] Py (by kernel_rfl) ?_)
 simp only [aa.all, decide_eq_true_eq, decide_eq_false_iff_not]
 refine ⟨fun hb s' hv => bD ?_, fun hb s' hv => mK (dz ?_)⟩
 ·have hY0 : Y ≠ 0 := ew.1 (by omega)
  have hlt := Nat.mod_lt X (show 0 < Y by omega)
  show aq P c gD.ntmps (part tD [1]) s' _
  refine aq.kn (i := 1) (y := pQ) (by kernel_rfl) ?_
  refine aq.hole [1,1,0,1] (by kernel_rfl) (ay.de hT lY hm 60 hv (h0 0) rfl trivial [0, 1, 5, 7, 32] KE (by kernel_rfl) (by kernel_rfl) ?_)
  simp only [aa.all, az]
  have fin : ∀ {s' : aD} {Q : aj → aD → Prop}, aN [0, 1] s' = some ([.mag X, .mag Y], []) → (∀ s', aN [0, 1] s' = some ([.mag Y, .mag (X % Y)], []) → Q .normal s') → ay P c gD.ntmps (behind pQ [1,1,0,1]) s' Q := by
   intro s' Q hv h
   refine ay.de hT lY hm 60 hv (h0 0) rfl trivial [0, 1] Gn (by kernel_rfl) (by kernel_rfl) ?_
   simp only [aa.all, az]
   exact ⟨⟨hX, hY⟩, fun s' hv => h s' (cy hv (by rw [if_neg hY0]) rfl)⟩
  have good : ∀ {s' : aD}, aN [0, 1] s' = some ([.mag Y, .mag (X % Y)], []) → ∃ k : Nat × Nat, aN [0, 1] s' = some ([.mag k.1, .mag k.2], []) ∧ (Nat.gcd k.1 k.2 = Nat.gcd A B ∧ nl k.1 < 2 ^ 38 ∧ nl k.2 < 2 ^ 38) ∧ k.2 < Y :=
   fun hv => ⟨(Y, X % Y), hv, ⟨by rw [← hg]; exact hstep hY0, hY, Nat.lt_of_le_of_lt (eR (Nat.le_of_lt hlt)) hY⟩, hlt⟩
  refine ⟨fun hf => ⟨hf, fun s' hv => bD ?_⟩, fun hf => ⟨hf, fun s' hv => bD ?_⟩⟩
  ·refine aq.cond (b := .tmp 32) (t := cA Y) (x := nH) (y := .skip) (qp hv rfl rfl) (fun hf2 => ?_) (fun _ => aq.skip ?_)
   ·rw [if_pos hf, if_pos hf2] at hv
    have hX64 : X < 2 ^ 64 := by unfold cA at hf; simpa using hf
    have hY64 : Y < 2 ^ 64 := by unfold cA at hf2; simpa using hf2
    have hv := TK (l := [0, 1]) (us := [.mag X, .mag Y]) (fD (ls := [0, 1, 5, 7]) (vs := [.mag X, .mag Y, .int .u64 (X : Nat), .int .u64 (Y : Nat)]) hv rfl rfl) rfl rfl
    refine aq.hole [0] (by kernel_rfl) ?_
    show aq P c gD.ntmps (part nH [0]) s' _
    refine aq.eV (i := 2) (y := EW) (by kernel_rfl) [5, 7] 0 (h0 0) (fun p : Nat × Nat => [.int .u64 (p.1 : Nat), .int .u64 (p.2 : Nat)]) (fun _ => []) (fun _ => rfl) (fun _ => trivial)
     (fun p => Nat.gcd p.1 p.2 = Nat.gcd A B ∧ p.1 < 2 ^ 64 ∧ p.2 < 2 ^ 64) (fun p => p.2) (X, Y) hv ⟨hg, hX64, hY64⟩ ?_
    rintro ⟨x, y⟩ ⟨hg, hx, hy⟩
    simp only at hg hx hy
    refine aq.aR hT lY hm 60 [5, 7] Mx (by kernel_rfl) ?_
    simp only [aa.all, az, bne_iff_ne, ne_eq, bne_eq_false_iff_eq]
    refine ⟨fun hb => ⟨hb, fun s' hv => bD ?_⟩, fun hb s' hv => dz ?_⟩
    ·have hy0 : y ≠ 0 := by omega
     have hlt := Nat.mod_lt x (show 0 < y by omega)
     exact ⟨(y, x % y), cy hv (by rw [← Int.ofNat_tmod]) rfl, ⟨by rw [← hg]; exact hstep hy0, hy, by simp only; omega⟩, hlt⟩
    ·have hy0 : y = 0 := by omega
     show ay P c gD.ntmps [part nH [1]] s' _
     refine ay.de hT lY hm 60 hv (h0 0) rfl trivial [4] HS (by kernel_rfl) (by kernel_rfl) ?_
     simp only [aa.all, az, Int.toNat_natCast]
     refine ⟨by omega, fun s' hv => ?_⟩
     rw [show x = Nat.gcd A B by rw [← hg, hy0, Nat.gcd_zero_right]] at hv
     exact (.inl (ey (us := [.mag (Nat.gcd A B)]) (.inr rfl) hv (by kernel_rfl) (cF rfl)))
   ·exact bD (fin (fD (ls := [0, 1]) (vs := [.mag X, .mag Y]) hv rfl rfl) fun s' hv => good hv)
  ·refine aq.cond (b := .tmp 32) (t := false) (x := nH) (y := .skip) (qp hv rfl rfl) (fun h => by simp at h) (fun _ => aq.skip ?_)
   exact bD (fin (fD (ls := [0, 1]) (vs := [.mag X, .mag Y]) hv rfl rfl) fun s' hv => good hv)
 ·have hY0 : Y = 0 := gz.1 (by omega)
  show ay P c gD.ntmps (behind (ax gD) [1,1,0]) s' _
  refine ay.gu hT lY hm 60 hv (h0 0) rfl trivial MR (by kernel_rfl) (by kernel_rfl) (cF ?_)
  rw [← hg, hY0, Nat.gcd_zero_right]
def Bl : Spec := jw (fun A B => .mag (Nat.gcd A B)) fun A B => [nl A < 2 ^ 38, nl B < 2 ^ 38]
theorem KD : ∀ K args pre r, Bl K args pre = some r → aC P p4 K args pre r := lI fun h => TW h.1 h.2
end Go.Am.B
