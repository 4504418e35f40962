/- Lists of numbers as arguments. -/
import Derived.Test.YtnocdkaonpdmjaaZ2
import Derived.Test.YtnocdkaonpdmjaaC3
set_option linter.unusedVariables false
namespace Go.Am.B
open AV
def ratV : AV → Rat
  | .rat q _ => q
  | _ => 0
def allRat (f : Nat → AV) (n s : Nat) : Prop := ∀ i, i < n → avLe0 (f i) (.rat (ratV (f i)) s)
abbrev lsA (k : Nat → Rat) (n s : Nat) : AV := .tab 3 n (fun i => .rat (k i) s)
theorem allRat_ls {k : Nat → Rat} {n s s' : Nat} (h : s ≤ s') : allRat (fun i => .rat (k i) s) n s' := fun _ _ => avLe0_rat_more h
theorem avLe0_ls {f : Nat → AV} {n s : Nat} (h : allRat f n s) : avLe0 (.tab 3 n f) (lsA (fun i => ratV (f i)) n s) := avLe0_tab h
def lsOf : AV → Option (Nat × (Nat → AV))
  | .tab 3 n f => some (n, f)
  | .nil => some (0, fun _ => .rat 0 1)
  | _ => none
theorem lsOf_ok {v : AV} {n s : Nat} {f : Nat → AV} (h : lsOf v = some (n, f)) (ha : allRat f n s) : avLe0 v (lsA (fun i => ratV (f i)) n s) := by
  unfold lsOf at h
  split at h
  · simp only [Option.some.injEq, Prod.mk.injEq] at h
    obtain ⟨rfl, rfl⟩ := h
    exact avLe0_ls ha
  · simp only [Option.some.injEq, Prod.mk.injEq] at h
    obtain ⟨rfl, rfl⟩ := h
    exact avLe0_nil_tab (by omega)
  · simp at h
end Go.Am.B
