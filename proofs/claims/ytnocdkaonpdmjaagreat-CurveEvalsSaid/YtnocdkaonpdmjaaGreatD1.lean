/- Lists of numbers as arguments. -/
import Derived.Test.YtnocdkaonpdmjaaGreatZ2
import Derived.Test.YtnocdkaonpdmjaaGreatC3
set_option linter.unusedVariables false
namespace Go.Am.B
open AV
def aT : AV → Rat
 | .rat q _ => q
 | _ => 0
def ck (f : Nat → AV) (n s : Nat) : Prop := ∀ i, i < n → bB (f i) (.rat (aT (f i)) s)
abbrev bH (k : Nat → Rat) (n s : Nat) : AV := .ak 3 n (fun i => .rat (k i) s)
theorem dj {k : Nat → Rat} {n s s' : Nat} (h : s ≤ s') : ck (fun i => .rat (k i) s) n s' := fun _ _ => dm h
theorem Co {f : Nat → AV} {n s : Nat} (h : ck f n s) : bB (.ak 3 n f) (bH (fun i => aT (f i)) n s) := lC h
def Ad : AV → Option (Nat × (Nat → AV))
 | .ak 3 n f => some (n, f)
 | .nil => some (0, fun _ => .rat 0 1)
 | _ => none
theorem abI {v : AV} {n s : Nat} {f : Nat → AV} (h : Ad v = some (n, f)) (ha : ck f n s) : bB v (bH (fun i => aT (f i)) n s) := by
 unfold Ad at h
 split at h
 ·simp only [Option.some.injEq, Prod.mk.injEq] at h
  obtain ⟨rfl, rfl⟩ := h
  exact Co ha
 ·simp only [Option.some.injEq, Prod.mk.injEq] at h
  obtain ⟨rfl, rfl⟩ := h
  exact jo (by omega)
 ·simp at h
end Go.Am.B
