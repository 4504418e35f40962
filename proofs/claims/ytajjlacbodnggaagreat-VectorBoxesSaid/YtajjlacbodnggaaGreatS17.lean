/- The statement VectorBoxes: whatever the input, the law returns true, and the input reads behind the call as it did. No condition. -/
import Derived.Test.YtajjlacbodnggaaGreatRows
import Derived.Test.YtajjlacbodnggaaGreatL17
import Derived.ProofKit
import Derived.ChangeSlices
set_option linter.unusedVariables false
namespace Go.Proofs.YtajjlacbodnggaaGreat
open Go.ChangeShapes Go.WideShapes Go.ChangeAt Go.RowKit

theorem law_own : ownKnob Tryz.prog.godebug = none := by kernel_rfl
theorem law_laidOut : laidOutB Tryz.prog = true := by kernel_rfl
theorem law_cells3 : Tryz.prog.cellsOf 3 = 1 := by kernel_rfl
/-- The call of a law of a list of integers, from its contract. -/
theorem law_walk {f : FuncId} {fn : Func} (hf : Tryz.prog.funcs[f]? = some fn) (hb : fn.body.isNone = false)
    {dv : Int} (hF : ∀ {n : Nat} {z : Nat → Int} (K : Nat), Go.Am.FOK Tryz.prog f K [.tab 1 n (fun i => .int .i64 (z i)), .int .u8 dv] [] (Go.Am.pres (.bool true) []))
    {H : Type} {enc : TypeId × Value → H} {W : World} {fuel len cap : Nat} {a0 : Option Addr} {x : DataW H × List MemPlace}
    (hf0 : DataW.trod enc Tryz.prog W 0 (fun _ => true) true fuel 22 [.slice a0 len cap] = some x) :
    Calls Tryz.prog f #[.slice a0 len cap, .int .u8 dv] W fun e W' => e = .returned (.bool true) ∧ Below W.heap.size W W' := by
  rcases open_ints Tryz.underlying22 Tryz.underlying3 law_cells3 hf0 with ⟨hcs, hx⟩ | ⟨a, len', cap', zs, hcs, _, hl, hm, hz, hx, hcell, hwz⟩
  · simp only [List.cons.injEq, Value.slice.injEq, and_true] at hcs
    obtain ⟨rfl, rfl, rfl⟩ := hcs
    exact Go.Am.law_calls (z := fun _ => 0) hf hb (.inl rfl) (Nat.le_refl _) [(.u8, dv)] (hF 0)
  · simp only [List.cons.injEq, Value.slice.injEq, and_true] at hcs
    obtain ⟨rfl, rfl, rfl⟩ := hcs
    simp only [if_true] at hz
    refine Go.Am.law_calls (z := fun i => zs.getD i 0) hf hb ?_ hl [(.u8, dv)] (hF 0)
    rcases Nat.eq_zero_or_pos len with h0 | h0
    · exact .inl h0
    · obtain ⟨b, o, m⟩ := a
      have h1 := hcell 0 (by omega)
      have : m = none := by
        cases m with
        | none => rfl
        | some y => exfalso; simp only [Addr.add, World.cell?] at h1; split at h1 <;> simp at h1
      subst this
      exact .inr ⟨b, o, rfl, fun i hi => by
        have h2 := hcell i (by omega)
        rcases Nat.eq_zero_or_pos i with hi | hi
        · subst hi; simpa [Addr.add] using h2
        · simpa [Addr.add, Nat.pos_iff_ne_zero.1 hi] using h2⟩

set_option maxRecDepth 100000 in
theorem vectorBoxes_lifted (os : Os) (started : os.Started) (H : Type) (enc : TypeId × Value → H) :
    ReturnsInHanded {} Tryz.checked os 4 .any (Rows.vectorBoxesSpec.pre6 enc Tryz.prog Tryz.f4 Rows.vectorBoxesRow.domain false) (Rows.vectorBoxesSpec.post enc Tryz.prog Tryz.f4 false true false false) := by
  refine returnsInHanded_of_change (C := Tryz.checked) law_own started (by kernel_rfl) Tryz.func4
    (ChangeSpec.witness6 (enc := enc) (C := Tryz.checked) false ⟨#[], #[.slice none 0 0, .int .u8 0], []⟩ 8 (by kernel_rfl) (by kernel_rfl) (by kernel_rfl) (by kernel_rfl)) ?_
  intro W base args ds gs before hval0 hW _ _
  have hval : ∀ (j : Nat) t v, Tryz.f4.params[j]? = some t → args[j]? = some v → Value.okWide Tryz.prog W .any base t v := hval0
  have hW' := hW
  obtain ⟨p, q, hA0, hV, rfl, _, _⟩ := hW
  have hA : DataW.TrodAll enc Tryz.prog W 0 (fun _ => true) true Tryz.f4.params.toList args.toList ds p := hA0
  rw [Tryz.params4] at hA hval
  obtain ⟨v0, v1, d0, d1, p0, p1, rfl, rfl, rfl, h0, h1⟩ := trodAll_two hA
  obtain ⟨rfl, rfl⟩ := trodVars_none hV
  have h0k := h0
  obtain ⟨fuel, hf⟩ := h0
  clear hA0 hval0
  simp only [List.append_nil] at hW'
  have hlt : ∀ x ∈ p0 ++ p1, x.block < W.heap.size := fun x hx => by simpa using hW'.lt x hx
  obtain ⟨a0, len, cap, rfl⟩ := okWide_slice Tryz.underlying22 (hval 0 22 v0 rfl rfl)
  obtain ⟨dv, rfl⟩ := okWide_int Tryz.underlying5 (hval 1 5 v1 rfl rfl)
  refine (law_walk Tryz.func4 (by kernel_rfl) Go.Am.B.L17_ok hf).mono fun e W' ⟨he, hw⟩ => ?_
  subst he
  exact ⟨_, rfl, ⟨_, _, _, [], _, [], hW', trodAll_mk1 (shut_bool Tryz.underlying4 _), trodAll_mk2 (Below.trod law_laidOut (by kernel_rfl) (of_decide_eq_true (by kernel_rfl)) h0k hw fun x hx => hlt x (List.mem_append_left _ hx)) (Below.trod law_laidOut (by kernel_rfl) (of_decide_eq_true (by kernel_rfl)) h1 hw fun x hx => hlt x (List.mem_append_right _ hx)), rfl, hw.frame _, fun h => by cases h⟩⟩

theorem vectorBoxes : Rows.VectorBoxesSaid :=
  OpenClaim.holds_of_wide 4 Tryz.f4 rfl rfl rfl rfl rfl rfl rfl ⟨rfl, rfl, rfl, rfl, rfl⟩ rfl rfl rfl rfl rfl (by kernel_rfl) Tryz.func4 (by kernel_rfl)
    (of_decide_eq_true (by kernel_rfl)) (by unfold Func.isWrapper; first | (rw [if_pos (by decide +kernel)]; kernel_rfl) | (rw [if_neg (by decide +kernel)]; exact ⟨rfl, rfl⟩))
    (fun os started H enc _ => vectorBoxes_lifted os started H enc)
end Go.Proofs.YtajjlacbodnggaaGreat
