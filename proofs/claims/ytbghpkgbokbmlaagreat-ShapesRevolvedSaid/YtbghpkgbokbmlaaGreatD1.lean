/- Lists of numbers as arguments. -/
import Derived.Test.YtbghpkgbokbmlaaGreatZ2
import Derived.Test.YtbghpkgbokbmlaaGreatC3
set_option linter.unusedVariables false
namespace Go.Am.B
open AV
def aM : AV → Rat
 | .rat q _ => q
 | _ => 0
def cq (f : Nat → AV) (n s : Nat) : Prop := ∀ i, i < n → bD (f i) (.rat (aM (f i)) s)
abbrev bV (k : Nat → Rat) (n s : Nat) : AV := .aj 3 n (fun i => .rat (k i) s)
theorem dr {k : Nat → Rat} {n s s' : Nat} (h : s ≤ s') : cq (fun i => .rat (k i) s) n s' := fun _ _ => dF h
theorem N4 {f : Nat → AV} {n s : Nat} (h : cq f n s) : bD (.aj 3 n f) (bV (fun i => aM (f i)) n s) := iP h
def zu : AV → Option (Nat × (Nat → AV))
 | .aj 3 n f => some (n, f)
 | .nil => some (0, fun _ => .rat 0 1)
 | _ => none
theorem We {v : AV} {n s : Nat} {f : Nat → AV} (h : zu v = some (n, f)) (ha : cq f n s) : bD v (bV (fun i => aM (f i)) n s) := by
 unfold zu at h
 split at h
 ·simp only [Option.some.injEq, Prod.mk.injEq] at h
  obtain ⟨rfl, rfl⟩ := h
  exact N4 ha
 ·simp only [Option.some.injEq, Prod.mk.injEq] at h
  obtain ⟨rfl, rfl⟩ := h
  exact jD (by omega)
 ·simp at h
end Go.Am.B
