/- Lists of numbers as arguments. -/
import Derived.Test.YtppeigelbecpbaaGreatZ2
import Derived.Test.YtppeigelbecpbaaGreatC3
set_option linter.unusedVariables false
namespace Go.Am.B
open AV
def aI:AV→Rat
 |.rat q _=>q
 |_=>0
def bB (f:Nat→AV) (n s:Nat):Prop:=∀i,i<n→bz (f i) (.rat (aI (f i)) s)
abbrev bM (k:Nat→Rat) (n s:Nat):AV:=.ag 3 n (fun i=>.rat (k i) s)
theorem cm {k:Nat→Rat} {n s s':Nat} (h:s≤s'):bB (fun i=>.rat (k i) s) n s':=fun _ _=>cN h
theorem xD {f:Nat→AV} {n s:Nat} (h:bB f n s):bz (.ag 3 n f) (bM (fun i=>aI (f i)) n s):=mu h
def zL:AV→Option (Nat×(Nat→AV))
 |.ag 3 n f=>some (n,f)
 |.nil=>some (0,fun _=>.rat 0 1)
 |_=>none
theorem af5 {v:AV} {n s:Nat} {f:Nat→AV} (h:zL v=some (n,f)) (ha:bB f n s):bz v (bM (fun i=>aI (f i)) n s):=by
 unfold zL at h
 split at h
 ·simp only[Option.some.injEq,Prod.mk.injEq]at h
  obtain⟨rfl,rfl⟩:=h
  exact xD ha
 ·simp only[Option.some.injEq,Prod.mk.injEq]at h
  obtain⟨rfl,rfl⟩:=h
  exact iO (by omega)
 ·simp at h
end Go.Am.B
