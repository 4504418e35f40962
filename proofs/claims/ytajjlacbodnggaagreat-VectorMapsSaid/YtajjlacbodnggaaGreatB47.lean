/- Lists of contracts; signs. -/
import Derived.Test.YtajjlacbodnggaaGreatB39
set_option linter.unusedVariables false
namespace Go.Am.B
open Go Go.Am.N AV

abbrev objM (m : Mp) : AObj := ⟨false, true, 36, 1, fun j => if (j == (0 : Nat)) = true then mpA m 64 else mpA ⟨⟨v0, v0, v0⟩, v0⟩ 1⟩
abbrev objR (q : Rat) : AObj := ⟨false, true, 3, 1, fun j => if (j == (0 : Nat)) = true then rA q 64 else rA 0 1⟩
abbrev objV (u : V3) : AObj := ⟨false, true, 9, 1, fun j => if (j == (0 : Nat)) = true then vA u 64 else vA v0 1⟩
theorem look_append {α : Type} {k : Nat} {b : List (Nat × α)} : ∀ {a : List (Nat × α)}, look k (a ++ b) = match look k a with
    | some x => some x
    | none => look k b
  | [] => rfl
  | (j, x) :: a => by
    simp only [List.cons_append, look]
    split
    · rfl
    · exact look_append
theorem gok_append {a b : Contracts} (ha : GOK P a) (hb : GOK P b) : GOK P (a ++ b) := by
  intro f s hl
  have hl : look f (a ++ b) = some s := hl
  rw [look_append] at hl
  split at hl
  · rename_i h
    simp only [Option.some.injEq] at hl
    subst hl
    exact ha f _ h
  · exact hb f s hl
theorem sgnR_zero {x : Rat} : sgnR x = 0 ↔ x = 0 := by unfold sgnR; grind
theorem sgnR_neg {x : Rat} : sgnR (-x) = -sgnR x := by unfold sgnR; grind
theorem wneg {x : Rat} : IntKind.i64.wrap ((0 : Int) - sgnR x) = -sgnR x := by unfold sgnR; split <;> (try split) <;> rfl
theorem sg_ne {a b : Rat} (h : a = -b) : (sgnR a != IntKind.i64.wrap ((0 : Int) - sgnR b)) = false := by rw [wneg, h, sgnR_neg, bne_self_eq_false]
theorem sg_eq {a b : Rat} (h : a = b) : (sgnR a != sgnR b) = false := by rw [h, bne_self_eq_false]
theorem cmpR_sub {x y : Rat} : cmpR x y = sgnR (x - y) := by unfold cmpR sgnR; grind
theorem cmp_sg {x y z : Rat} (h : x - y = z) : (cmpR x y == sgnR z) = true := by rw [cmpR_sub, h, beq_self_eq_true]
theorem cmp_0 {x y : Rat} (h : x = y) : (cmpR x y == (0 : Int)) = true := by rw [cmpR_sub, h, beq_iff_eq, sgnR_zero]; grind
theorem thrE_ne {u v w : V3} (h : (thrE u v w != (0 : Int)) = true) : nrm u v w = v0 := by
  unfold thrE at h
  split at h
  · rename_i h'; exact vsame_iff.1 h'
  · simp at h
theorem thrE_eq {u v w : V3} (h : (thrE u v w != (0 : Int)) = false) : nrm u v w ≠ v0 := by
  unfold thrE at h
  split at h
  · simp at h
  · rename_i h'; exact fun e => h' (vsame_iff.2 e)
theorem res_true : resOK [.bool true] (.bool true) := avLe0.refl _
theorem keys_if {c : Prop} [Decidable c] {u v : AV} (hu : keys u = []) (hv : keys v = []) : keys (if c then u else v) = [] := by split <;> assumption
end Go.Am.B
