/- The statement KnotsStay: whatever the input, the law returns true, and the input reads behind the call as it did. No condition. -/
import Derived.Test.YtnocdkaonpdmjaaRows
import Derived.Test.YtnocdkaonpdmjaaM16
import Derived.Test.YtnocdkaonpdmjaaZ2
import Derived.ProofKit
import Derived.ChangeSlices
set_option linter.unusedVariables false
namespace Go.Proofs.Ytnocdkaonpdmjaa
open Go.ChangeShapes Go.WideShapes Go.ChangeAt Go.RowKit
set_option maxRecDepth 100000 in
theorem knotsStay_lifted (os : Os) (started : os.Started) (H : Type) (enc : TypeId × Value → H) :
    ReturnsInHanded {} Try.checked os 5 .any (Rows.knotsStaySpec.pre6 enc Try.prog Try.f5 Rows.knotsStayRow.domain false) (Rows.knotsStaySpec.post enc Try.prog Try.f5 false true false false) := by
  have hl : laidOutB Try.prog = true := by kernel_rfl
  have hk : Go.Am.pkOKs Try.prog [.list, .int .i64] Try.f5.params.toList := by
    rw [Try.params5]
    exact ⟨⟨⟨_, Try.underlying22, Try.underlying3, by kernel_rfl⟩, by kernel_rfl, of_decide_eq_true (by kernel_rfl)⟩, ⟨Try.underlying3, by kernel_rfl, of_decide_eq_true (by kernel_rfl)⟩, trivial⟩
  refine returnsInHanded_of_change (C := Try.checked) (by kernel_rfl) started (by kernel_rfl) Try.func5
    (ChangeSpec.witness6 (enc := enc) (C := Try.checked) false ⟨#[], #[.slice none 0 0, .int .i64 0], []⟩ 8 (by kernel_rfl) (by kernel_rfl) (by kernel_rfl) (by kernel_rfl)) ?_
  intro W base args ds gs before hval0 hW _ _
  have hW' := hW
  obtain ⟨p, q, hA, hV, rfl, _, _⟩ := hW
  obtain ⟨rfl, rfl⟩ := trodVars_none hV
  obtain ⟨e0, e1, rfl⟩ : ∃ e0 e1, ds = [e0, e1] := by
    have h := Go.Am.trod_len hA
    rw [Try.params5] at h
    match ds, h with
    | [e0, e1], _ => exact ⟨e0, e1, rfl⟩
  simp only [List.append_nil] at hW'
  refine (Go.Am.law_all (base := base) hl Try.func5 (by kernel_rfl) hk hA (fun j t v h1 h2 => hval0 j t v (by simpa using h1) h2) (fun x hx => by simpa using hW'.lt x hx) ?_).mono fun e W' ⟨he, hw, ht⟩ => ?_
  · rintro l0 ⟨_, _, rfl, ⟨n0, z0, rfl⟩, ⟨_, _, rfl, ⟨d1, rfl⟩, rfl⟩⟩
    exact Go.Am.B.M16_ok 0
  subst he
  exact ⟨_, rfl, ⟨_, _, _, [], _, [], hW', trodAll_mk1 (shut_bool Try.underlying4 _), ht, rfl, hw.frame _, fun h => by cases h⟩⟩
theorem knotsStay : Rows.KnotsStaySaid :=
  OpenClaim.holds_of_wide 5 Try.f5 rfl rfl rfl rfl rfl rfl rfl ⟨rfl, rfl, rfl, rfl, rfl⟩ rfl rfl rfl rfl rfl (by kernel_rfl) Try.func5 (by kernel_rfl)
    (of_decide_eq_true (by kernel_rfl)) (by unfold Func.isWrapper; first | (rw [if_pos (by decide +kernel)]; kernel_rfl) | (rw [if_neg (by decide +kernel)]; exact ⟨rfl, rfl⟩))
    (fun os started H enc _ => knotsStay_lifted os started H enc)
end Go.Proofs.Ytnocdkaonpdmjaa
