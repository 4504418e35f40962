/- Lists of numbers as arguments. -/
import Derived.Test.YtppeigelbecpbaaGreatZ2
import Derived.Test.YtppeigelbecpbaaGreatC3
set_option linter.unusedVariables false
namespace Go.Am.B
open AV
def aZ:AV→Rat
 |.rat q _=>q
 |_=>0
def cj (f:Nat→AV) (n s:Nat):Prop:=∀i,i<n→bt (f i) (.rat (aZ (f i)) s)
abbrev bM (k:Nat→Rat) (n s:Nat):AV:=.aq 3 n (fun i=>.rat (k i) s)
theorem dc {k:Nat→Rat} {n s s':Nat} (h:s≤s'):cj (fun i=>.rat (k i) s) n s':=fun _ _=>en h
theorem AU {f:Nat→AV} {n s:Nat} (h:cj f n s):bt (.aq 3 n f) (bM (fun i=>aZ (f i)) n s):=kG h
def wW:AV→Option (Nat×(Nat→AV))
 |.aq 3 n f=>some (n,f)
 |.nil=>some (0,fun _=>.rat 0 1)
 |_=>none
theorem IY {v:AV} {n s:Nat} {f:Nat→AV} (h:wW v=some (n,f)) (ha:cj f n s):bt v (bM (fun i=>aZ (f i)) n s):=by
 unfold wW at h
 split at h
 ·simp only[Option.some.injEq,Prod.mk.injEq]at h
  obtain⟨rfl,rfl⟩:=h
  exact AU ha
 ·simp only[Option.some.injEq,Prod.mk.injEq]at h
  obtain⟨rfl,rfl⟩:=h
  exact iT (by omega)
 ·simp at h
end Go.Am.B
