/- ref01.Gcd: Euclid, on words when both are words. -/
import Derived.Test.YtbghpkgbokbmlaaGreatB28
set_option linter.unusedVariables false
namespace Go.Am.B
open Go Go.Am.N AV
theorem RC : aN P pM gI (au gI) := aK KW (by kernel_rfl) (by kernel_rfl) (by kernel_rfl)
def me : aO := [(j9, pS), (pD, BL), (lH, tZ), (od, jD (fun A B => jG A B) fun A B => [nl A < 2 ^ 38, nl B < 2 ^ 38])]
noncomputable abbrev q9 : Code := part (au gI) [1,1,0,0,0]
noncomputable abbrev qE : Code := part q9 [1,0]
noncomputable abbrev oA : Code := part qE [1,1,0,1,0]
noncomputable abbrev DH : Code := part oA [0,0,0]
theorem ng : aV P me := aD sR (aD Jt (aD yH (aD FG aU)))
theorem Rm {A B : Nat} : aH T me [] 60 [0, 1] (before (au gI) [1,1,0]) ⟨aL 0 [.mag A, .mag B], [], 0⟩ =
  some (aa.af [nl A < 2 ^ 40, nl B < 2 ^ 40] (aa.leaf aj.normal ([mag A, mag B], []))) := by kernel_rfl
theorem Wo {A B : Nat} : aH T me [18] 60 [0, 1] [part q9 [0]] ⟨az [0, 1] [.mag A, .mag B], [], 0⟩ =
  some (aa.fork (decide ((↑(nl B) : Int) > (0 : Int))) (aa.leaf aj.normal ([mag A, mag B], [])) (aa.leaf (aj.exit 0) ([mag A, mag B], []))) := by kernel_rfl
theorem Ws {A B : Nat} : aH T me [30, 32] 60 [0, 1, 5, 7, 32] (before qE [1,1,0,1]) ⟨az [0, 1] [.mag A, .mag B], [], 0⟩ =
  some (aa.fork (cF A) (aa.af [cF A = true] (aa.leaf aj.normal ([mag A, mag B, int IntKind.u64 (↑(if cF A = true then A else 0) : Int), int IntKind.u64 (↑(if cF B = true then B else 0) : Int), AV.bool (bif true then cF B else false)], []))) (aa.af [cF A = false] (aa.leaf aj.normal ([mag A, mag B, int IntKind.u64 (↑(if cF A = true then A else 0) : Int), int IntKind.u64 (↑(if cF B = true then B else 0) : Int), AV.bool false], [])))) := by kernel_rfl
theorem Wa {x y : Nat} : aH T me [34] 60 [5, 7] [DH] ⟨az [5, 7] [.int .u64 x, .int .u64 y], [], 0⟩ =
  some (aa.fork ((↑y : Int) != (0 : Int)) (aa.af [(↑y : Int) ≠ (0 : Int)] (aa.leaf aj.normal ([int IntKind.u64 (↑y : Int), int IntKind.u64 ((↑x : Int).tmod (↑y : Int))], []))) (aa.leaf (aj.exit 2) ([int IntKind.u64 (↑x : Int), int IntKind.u64 (↑y : Int)], []))) := by kernel_rfl
theorem Lx {x y : Nat} : aH T me [] 60 [4] [part oA [1]] ⟨az [5, 7] [.int .u64 x, .int .u64 y], [], 0⟩ =
  some (aa.af [(0 : Int) ≤ (↑x : Int) ∧ (↑x : Int) < (2 : Int) ^ 64] (aa.leaf aj.ret ([mag (↑x : Int).toNat], []))) := by kernel_rfl
theorem Tv {A B : Nat} : aH T me [] 60 [0, 1] (behind qE [1,1,0,1]) ⟨az [0, 1] [.mag A, .mag B], [], 0⟩ =
  some (aa.af [nl A < 2 ^ 38, nl B < 2 ^ 38] (aa.leaf aj.normal ([mag B, mag (if B = 0 then 0 else A % B)], []))) := by kernel_rfl
theorem UU {A B : Nat} : bR T me [] 60 gI (behind (au gI) [1,1,0]) ⟨az [0, 1] [.mag A, .mag B], [], 0⟩ =
  some (aa.leaf aj.ret [mag A]) := by kernel_rfl
theorem ZK {s : aE} {ls l : List Nat} {vs us : List AV} {os : aC} (hv : aR (l ++ ls) s = some (us ++ vs, os)) (hl : us.length = l.length) (hk : aZ us = []) : aR ls s = some (vs, os) := by
 unfold aR at hv ⊢
 simp only [Option.some.injEq, Prod.mk.injEq, BB] at hv ⊢
 obtain ⟨h1, h2⟩ := hv
 obtain ⟨h3, h4⟩ := List.append_inj h1 (by rw [Ac, hl])
 subst h4
 refine ⟨rfl, ?_⟩
 rw [← h2, h3, Ih, hk, List.nil_append]
theorem Np {A B : Nat} (hA : nl A < 2 ^ 38) (hB : nl B < 2 ^ 38) (K : Nat) : aA P pM K [.mag A, .mag B] [] (aG (.mag (Nat.gcd A B)) []) := by
 refine eZ hT RC rfl (of_decide_eq_true (by kernel_rfl)) rfl (fun _ c h0 => ?_) K []
 have hk0 := yx h0
 refine ak.hole [1,1,0] (by kernel_rfl) (ay.aY hT ng hm 60 [0, 1] Rm (by kernel_rfl) ?_)
 simp only [aa.all, ax]
 refine ⟨⟨by omega, by omega⟩, fun s' hv => bG ?_⟩
 refine ak.fu (i := 0) (y := q9) (by kernel_rfl) [0, 1] 0 (h0 0) (fun p : Nat × Nat => [.mag p.1, .mag p.2]) (fun _ => []) (fun _ => rfl) (fun _ => trivial)
  (fun p => Nat.gcd p.1 p.2 = Nat.gcd A B ∧ nl p.1 < 2 ^ 38 ∧ nl p.2 < 2 ^ 38) (fun p => p.2) (A, B) hv ⟨rfl, hA, hB⟩ ?_
 rintro ⟨X, Y⟩ ⟨hg, hX, hY⟩
 simp only at hg hX hY
 have hstep : ∀ {X Y : Nat}, Y ≠ 0 → Nat.gcd Y (X % Y) = Nat.gcd X Y := fun {X Y} _ => by rw [Nat.gcd_comm X Y, Nat.gcd_rec Y X, Nat.gcd_comm]
 refine ak.hole [0] (by kernel_rfl) (show ak P c gI.ntmps (part q9 [0]) _ _ from ak.aY hT ng hm 60 [0, 1] Wo (by kernel_rfl) ?_)
 simp only [aa.all, decide_eq_true_eq, decide_eq_false_iff_not]
 refine ⟨fun hb s' hv => bG ?_, fun hb s' hv => nk (dK ?_)⟩
 ·have hY0 : Y ≠ 0 := eE.1 (by omega)
  have hlt := Nat.mod_lt X (show 0 < Y by omega)
  show ak P c gI.ntmps (part q9 [1]) s' _
  refine ak.lJ (i := 1) (y := qE) (by kernel_rfl) ?_
  refine ak.hole [1,1,0,1] (by kernel_rfl) (ay.dJ hT ng hm 60 hv (h0 0) rfl trivial [0, 1, 5, 7, 32] Ws (by kernel_rfl) (by kernel_rfl) ?_)
  simp only [aa.all, ax]
  have fin : ∀ {s' : aE} {Q : aj → aE → Prop}, aR [0, 1] s' = some ([.mag X, .mag Y], []) → (∀ s', aR [0, 1] s' = some ([.mag Y, .mag (X % Y)], []) → Q .normal s') → ay P c gI.ntmps (behind qE [1,1,0,1]) s' Q := by
   intro s' Q hv h
   refine ay.dJ hT ng hm 60 hv (h0 0) rfl trivial [0, 1] Tv (by kernel_rfl) (by kernel_rfl) ?_
   simp only [aa.all, ax]
   exact ⟨⟨hX, hY⟩, fun s' hv => h s' (cD hv (by rw [if_neg hY0]) rfl)⟩
  have good : ∀ {s' : aE}, aR [0, 1] s' = some ([.mag Y, .mag (X % Y)], []) → ∃ k : Nat × Nat, aR [0, 1] s' = some ([.mag k.1, .mag k.2], []) ∧ (Nat.gcd k.1 k.2 = Nat.gcd A B ∧ nl k.1 < 2 ^ 38 ∧ nl k.2 < 2 ^ 38) ∧ k.2 < Y :=
   fun hv => ⟨(Y, X % Y), hv, ⟨by rw [← hg]; exact hstep hY0, hY, Nat.lt_of_le_of_lt (fc (Nat.le_of_lt hlt)) hY⟩, hlt⟩
  refine ⟨fun hf => ⟨hf, fun s' hv => bG ?_⟩, fun hf => ⟨hf, fun s' hv => bG ?_⟩⟩
  ·refine ak.cond (b := .tmp 32) (t := cF Y) (x := oA) (y := .skip) (tX hv rfl rfl) (fun hf2 => ?_) (fun _ => ak.skip ?_)
   ·rw [if_pos hf, if_pos hf2] at hv
    have hX64 : X < 2 ^ 64 := by unfold cF at hf; simpa using hf
    have hY64 : Y < 2 ^ 64 := by unfold cF at hf2; simpa using hf2
    have hv := ZK (l := [0, 1]) (us := [.mag X, .mag Y]) (fY (ls := [0, 1, 5, 7]) (vs := [.mag X, .mag Y, .int .u64 (X : Nat), .int .u64 (Y : Nat)]) hv rfl rfl) rfl rfl
    refine ak.hole [0] (by kernel_rfl) ?_
    show ak P c gI.ntmps (part oA [0]) s' _
    refine ak.fu (i := 2) (y := DH) (by kernel_rfl) [5, 7] 0 (h0 0) (fun p : Nat × Nat => [.int .u64 (p.1 : Nat), .int .u64 (p.2 : Nat)]) (fun _ => []) (fun _ => rfl) (fun _ => trivial)
     (fun p => Nat.gcd p.1 p.2 = Nat.gcd A B ∧ p.1 < 2 ^ 64 ∧ p.2 < 2 ^ 64) (fun p => p.2) (X, Y) hv ⟨hg, hX64, hY64⟩ ?_
    rintro ⟨x, y⟩ ⟨hg, hx, hy⟩
    simp only at hg hx hy
    refine ak.aY hT ng hm 60 [5, 7] Wa (by kernel_rfl) ?_
    simp only [aa.all, ax, bne_iff_ne, ne_eq, bne_eq_false_iff_eq]
    refine ⟨fun hb => ⟨hb, fun s' hv => bG ?_⟩, fun hb s' hv => dK ?_⟩
    ·have hy0 : y ≠ 0 := by omega
     have hlt := Nat.mod_lt x (show 0 < y by omega)
     exact ⟨(y, x % y), cD hv (by rw [← Int.ofNat_tmod]) rfl, ⟨by rw [← hg]; exact hstep hy0, hy, by simp only; omega⟩, hlt⟩
    ·have hy0 : y = 0 := by omega
     show ay P c gI.ntmps [part oA [1]] s' _
     refine ay.dJ hT ng hm 60 hv (h0 0) rfl trivial [4] Lx (by kernel_rfl) (by kernel_rfl) ?_
     simp only [aa.all, ax, Int.toNat_natCast]
     refine ⟨by omega, fun s' hv => ?_⟩
     rw [show x = Nat.gcd A B by rw [← hg, hy0, Nat.gcd_zero_right]] at hv
     exact (.inl (eO (us := [.mag (Nat.gcd A B)]) (.inr rfl) hv (by kernel_rfl) (cW rfl)))
   ·exact bG (fin (fY (ls := [0, 1]) (vs := [.mag X, .mag Y]) hv rfl rfl) fun s' hv => good hv)
  ·refine ak.cond (b := .tmp 32) (t := false) (x := oA) (y := .skip) (tX hv rfl rfl) (fun h => by simp at h) (fun _ => ak.skip ?_)
   exact bG (fin (fY (ls := [0, 1]) (vs := [.mag X, .mag Y]) hv rfl rfl) fun s' hv => good hv)
 ·have hY0 : Y = 0 := gG.1 (by omega)
  show ay P c gI.ntmps (behind (au gI) [1,1,0]) s' _
  refine ay.gQ hT ng hm 60 hv (h0 0) rfl trivial UU (by kernel_rfl) (by kernel_rfl) (cW ?_)
  rw [← hg, hY0, Nat.gcd_zero_right]
def z5 : Spec := jD (fun A B => .mag (Nat.gcd A B)) fun A B => [nl A < 2 ^ 38, nl B < 2 ^ 38]
theorem Fq : ∀ K args pre r, z5 K args pre = some r → aA P pM K args pre r := mb fun h => Np h.1 h.2
end Go.Am.B
