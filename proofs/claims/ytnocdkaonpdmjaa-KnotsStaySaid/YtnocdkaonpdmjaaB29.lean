/- ref01.Gcd: Euclid, on words when both are words. -/
import Derived.Test.YtnocdkaonpdmjaaB28
set_option linter.unusedVariables false
namespace Go.Am.B
open Go Go.Am.N AV
theorem is_fGcd : FnIs P ref01_Gcd fn_ref01_Gcd (codeOf fn_ref01_Gcd) := fnIs get_ref01_Gcd (by kernel_rfl) (by kernel_rfl) (by kernel_rfl)
def GFG : Contracts := [(ref01_Trim, s_fTrim), (ref01_small, s_fsmall), (ref01_Of, s_fOf), (ref01_Div, spec2m (fun A B => divRes A B) fun A B => [nl A < 2 ^ 38, nl B < 2 ^ 38])]
noncomputable abbrev fgL : Code := part (codeOf fn_ref01_Gcd) [1,1,0,0,0]
noncomputable abbrev fgC : Code := part fgL [1,0]
noncomputable abbrev fgX : Code := part fgC [1,1,0,1,0]
noncomputable abbrev fgY : Code := part fgX [0,0,0]
theorem GFG_ok : GOK P GFG := gok_cons s_fTrim_ok (gok_cons s_fsmall_ok (gok_cons s_fOf_ok (gok_cons s_fDiv_ok gok_nil)))
theorem fg_pre {A B : Nat} : seeL T GFG [] 60 [0, 1] (before (codeOf fn_ref01_Gcd) [1,1,0]) ⟨zipSlots 0 [.mag A, .mag B], [], 0⟩ =
    some (ATree.must [nl A < 2 ^ 40, nl B < 2 ^ 40] (ATree.leaf AEx.normal ([mag A, mag B], []))) := by kernel_rfl
theorem fg_head {A B : Nat} : seeL T GFG [18] 60 [0, 1] [part fgL [0]] ⟨zipL [0, 1] [.mag A, .mag B], [], 0⟩ =
    some (ATree.fork (decide ((↑(nl B) : Int) > (0 : Int))) (ATree.leaf AEx.normal ([mag A, mag B], [])) (ATree.leaf (AEx.exit 0) ([mag A, mag B], []))) := by kernel_rfl
theorem fg_1 {A B : Nat} : seeL T GFG [30, 32] 60 [0, 1, 5, 7, 32] (before fgC [1,1,0,1]) ⟨zipL [0, 1] [.mag A, .mag B], [], 0⟩ =
    some (ATree.fork (fitsW A) (ATree.must [fitsW A = true] (ATree.leaf AEx.normal ([mag A, mag B, int IntKind.u64 (↑(if fitsW A = true then A else 0) : Int), int IntKind.u64 (↑(if fitsW B = true then B else 0) : Int), AV.bool (bif true then fitsW B else false)], []))) (ATree.must [fitsW A = false] (ATree.leaf AEx.normal ([mag A, mag B, int IntKind.u64 (↑(if fitsW A = true then A else 0) : Int), int IntKind.u64 (↑(if fitsW B = true then B else 0) : Int), AV.bool false], [])))) := by kernel_rfl
theorem fg_round {x y : Nat} : seeL T GFG [34] 60 [5, 7] [fgY] ⟨zipL [5, 7] [.int .u64 x, .int .u64 y], [], 0⟩ =
    some (ATree.fork ((↑y : Int) != (0 : Int)) (ATree.must [(↑y : Int) ≠ (0 : Int)] (ATree.leaf AEx.normal ([int IntKind.u64 (↑y : Int), int IntKind.u64 ((↑x : Int).tmod (↑y : Int))], []))) (ATree.leaf (AEx.exit 2) ([int IntKind.u64 (↑x : Int), int IntKind.u64 (↑y : Int)], []))) := by kernel_rfl
theorem fg_of {x y : Nat} : seeL T GFG [] 60 [4] [part fgX [1]] ⟨zipL [5, 7] [.int .u64 x, .int .u64 y], [], 0⟩ =
    some (ATree.must [(0 : Int) ≤ (↑x : Int) ∧ (↑x : Int) < (2 : Int) ^ 64] (ATree.leaf AEx.ret ([mag (↑x : Int).toNat], []))) := by kernel_rfl
theorem fg_2 {A B : Nat} : seeL T GFG [] 60 [0, 1] (behind fgC [1,1,0,1]) ⟨zipL [0, 1] [.mag A, .mag B], [], 0⟩ =
    some (ATree.must [nl A < 2 ^ 38, nl B < 2 ^ 38] (ATree.leaf AEx.normal ([mag B, mag (if B = 0 then 0 else A % B)], []))) := by kernel_rfl
theorem fg_end {A B : Nat} : endL T GFG [] 60 fn_ref01_Gcd (behind (codeOf fn_ref01_Gcd) [1,1,0]) ⟨zipL [0, 1] [.mag A, .mag B], [], 0⟩ =
    some (ATree.leaf AEx.ret [mag A]) := by kernel_rfl
theorem view_drop {s : AState} {ls l : List Nat} {vs us : List AV} {os : Store} (hv : viewAV (l ++ ls) s = some (us ++ vs, os)) (hl : us.length = l.length) (hk : keysL us = []) : viewAV ls s = some (vs, os) := by
  unfold viewAV at hv ⊢
  simp only [Option.some.injEq, Prod.mk.injEq, allSlots_append] at hv ⊢
  obtain ⟨h1, h2⟩ := hv
  obtain ⟨h3, h4⟩ := List.append_inj h1 (by rw [allSlots_length, hl])
  subst h4
  refine ⟨rfl, ?_⟩
  rw [← h2, h3, keysL_append, hk, List.nil_append]
theorem fGcd_ok {A B : Nat} (hA : nl A < 2 ^ 38) (hB : nl B < 2 ^ 38) (K : Nat) : FOK P ref01_Gcd K [.mag A, .mag B] [] (pres (.mag (Nat.gcd A B)) []) := by
  refine fok_down hT is_fGcd rfl (of_decide_eq_true (by kernel_rfl)) rfl (fun _ c h0 => ?_) K []
  have hk0 := noKeys_of h0
  refine AWp.hole [1,1,0] (by kernel_rfl) (AWpL.see hT GFG_ok hm 60 [0, 1] fg_pre (by kernel_rfl) ?_)
  simp only [ATree.all, allP]
  refine ⟨⟨by omega, by omega⟩, fun s' hv => then_go ?_⟩
  refine AWp.whileV (i := 0) (y := fgL) (by kernel_rfl) [0, 1] 0 (h0 0) (fun p : Nat × Nat => [.mag p.1, .mag p.2]) (fun _ => []) (fun _ => rfl) (fun _ => trivial)
    (fun p => Nat.gcd p.1 p.2 = Nat.gcd A B ∧ nl p.1 < 2 ^ 38 ∧ nl p.2 < 2 ^ 38) (fun p => p.2) (A, B) hv ⟨rfl, hA, hB⟩ ?_
  rintro ⟨X, Y⟩ ⟨hg, hX, hY⟩
  simp only at hg hX hY
  have hstep : ∀ {X Y : Nat}, Y ≠ 0 → Nat.gcd Y (X % Y) = Nat.gcd X Y := fun {X Y} _ => by rw [Nat.gcd_comm X Y, Nat.gcd_rec Y X, Nat.gcd_comm]
  refine AWp.hole [0] (by kernel_rfl) (show AWp P c fn_ref01_Gcd.ntmps (part fgL [0]) _ _ from AWp.see hT GFG_ok hm 60 [0, 1] fg_head (by kernel_rfl) ?_)
  simp only [ATree.all, decide_eq_true_eq, decide_eq_false_iff_not]
  refine ⟨fun hb s' hv => then_go ?_, fun hb s' hv => then_pass (then_exit ?_)⟩
  · have hY0 : Y ≠ 0 := nl_pos.1 (by omega)
    have hlt := Nat.mod_lt X (show 0 < Y by omega)
    show AWp P c fn_ref01_Gcd.ntmps (part fgL [1]) s' _
    refine AWp.blockAt (i := 1) (y := fgC) (by kernel_rfl) ?_
    refine AWp.hole [1,1,0,1] (by kernel_rfl) (AWpL.seeV hT GFG_ok hm 60 hv (h0 0) rfl trivial [0, 1, 5, 7, 32] fg_1 (by kernel_rfl) (by kernel_rfl) ?_)
    simp only [ATree.all, allP]
    have fin : ∀ {s' : AState} {Q : AEx → AState → Prop}, viewAV [0, 1] s' = some ([.mag X, .mag Y], []) → (∀ s', viewAV [0, 1] s' = some ([.mag Y, .mag (X % Y)], []) → Q .normal s') → AWpL P c fn_ref01_Gcd.ntmps (behind fgC [1,1,0,1]) s' Q := by
      intro s' Q hv h
      refine AWpL.seeV hT GFG_ok hm 60 hv (h0 0) rfl trivial [0, 1] fg_2 (by kernel_rfl) (by kernel_rfl) ?_
      simp only [ATree.all, allP]
      exact ⟨⟨hX, hY⟩, fun s' hv => h s' (view_eq hv (by rw [if_neg hY0]) rfl)⟩
    have good : ∀ {s' : AState}, viewAV [0, 1] s' = some ([.mag Y, .mag (X % Y)], []) → ∃ k : Nat × Nat, viewAV [0, 1] s' = some ([.mag k.1, .mag k.2], []) ∧ (Nat.gcd k.1 k.2 = Nat.gcd A B ∧ nl k.1 < 2 ^ 38 ∧ nl k.2 < 2 ^ 38) ∧ k.2 < Y :=
      fun hv => ⟨(Y, X % Y), hv, ⟨by rw [← hg]; exact hstep hY0, hY, Nat.lt_of_le_of_lt (nl_mono (Nat.le_of_lt hlt)) hY⟩, hlt⟩
    refine ⟨fun hf => ⟨hf, fun s' hv => then_go ?_⟩, fun hf => ⟨hf, fun s' hv => then_go ?_⟩⟩
    · refine AWp.cond (b := .tmp 32) (t := fitsW Y) (x := fgX) (y := .skip) (look_slot hv rfl rfl) (fun hf2 => ?_) (fun _ => AWp.skip ?_)
      · rw [if_pos hf, if_pos hf2] at hv
        have hX64 : X < 2 ^ 64 := by unfold fitsW at hf; simpa using hf
        have hY64 : Y < 2 ^ 64 := by unfold fitsW at hf2; simpa using hf2
        have hv := view_drop (l := [0, 1]) (us := [.mag X, .mag Y]) (view_take (ls := [0, 1, 5, 7]) (vs := [.mag X, .mag Y, .int .u64 (X : Nat), .int .u64 (Y : Nat)]) hv rfl rfl) rfl rfl
        refine AWp.hole [0] (by kernel_rfl) ?_
        show AWp P c fn_ref01_Gcd.ntmps (part fgX [0]) s' _
        refine AWp.whileV (i := 2) (y := fgY) (by kernel_rfl) [5, 7] 0 (h0 0) (fun p : Nat × Nat => [.int .u64 (p.1 : Nat), .int .u64 (p.2 : Nat)]) (fun _ => []) (fun _ => rfl) (fun _ => trivial)
          (fun p => Nat.gcd p.1 p.2 = Nat.gcd A B ∧ p.1 < 2 ^ 64 ∧ p.2 < 2 ^ 64) (fun p => p.2) (X, Y) hv ⟨hg, hX64, hY64⟩ ?_
        rintro ⟨x, y⟩ ⟨hg, hx, hy⟩
        simp only at hg hx hy
        refine AWp.see hT GFG_ok hm 60 [5, 7] fg_round (by kernel_rfl) ?_
        simp only [ATree.all, allP, bne_iff_ne, ne_eq, bne_eq_false_iff_eq]
        refine ⟨fun hb => ⟨hb, fun s' hv => then_go ?_⟩, fun hb s' hv => then_exit ?_⟩
        · have hy0 : y ≠ 0 := by omega
          have hlt := Nat.mod_lt x (show 0 < y by omega)
          exact ⟨(y, x % y), view_eq hv (by rw [← Int.ofNat_tmod]) rfl, ⟨by rw [← hg]; exact hstep hy0, hy, by simp only; omega⟩, hlt⟩
        · have hy0 : y = 0 := by omega
          show AWpL P c fn_ref01_Gcd.ntmps [part fgX [1]] s' _
          refine AWpL.seeV hT GFG_ok hm 60 hv (h0 0) rfl trivial [4] fg_of (by kernel_rfl) (by kernel_rfl) ?_
          simp only [ATree.all, allP, Int.toNat_natCast]
          refine ⟨by omega, fun s' hv => ?_⟩
          rw [show x = Nat.gcd A B by rw [← hg, hy0, Nat.gcd_zero_right]] at hv
          exact (.inl (fin_view (us := [.mag (Nat.gcd A B)]) (.inr rfl) hv (by kernel_rfl) (avLe0_of_eq rfl)))
      · exact then_go (fin (view_take (ls := [0, 1]) (vs := [.mag X, .mag Y]) hv rfl rfl) fun s' hv => good hv)
    · refine AWp.cond (b := .tmp 32) (t := false) (x := fgX) (y := .skip) (look_slot hv rfl rfl) (fun h => by simp at h) (fun _ => AWp.skip ?_)
      exact then_go (fin (view_take (ls := [0, 1]) (vs := [.mag X, .mag Y]) hv rfl rfl) fun s' hv => good hv)
  · have hY0 : Y = 0 := nl_zero_iff.1 (by omega)
    show AWpL P c fn_ref01_Gcd.ntmps (behind (codeOf fn_ref01_Gcd) [1,1,0]) s' _
    refine AWpL.finDV hT GFG_ok hm 60 hv (h0 0) rfl trivial fg_end (by kernel_rfl) (by kernel_rfl) (avLe0_of_eq ?_)
    rw [← hg, hY0, Nat.gcd_zero_right]
def s_fGcd : Spec := spec2m (fun A B => .mag (Nat.gcd A B)) fun A B => [nl A < 2 ^ 38, nl B < 2 ^ 38]
theorem s_fGcd_ok : ∀ K args pre r, s_fGcd K args pre = some r → FOK P ref01_Gcd K args pre r := spec2m_ok fun h => fGcd_ok h.1 h.2
end Go.Am.B
