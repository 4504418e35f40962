/- brepkernellaw10.CurveHull. -/
import Derived.Test.YtfjlccdmhpdiiaaGreatY10
import Derived.Test.YtfjlccdmhpdiiaaGreatY11
set_option linter.unusedVariables false
namespace Go.Am.B
open Go Go.Am.N AV ag aq IntKind
theorem JX {x v:Nat->Rat}:∀{n:Nat},(∀j,j<n->0<=x j)->(∀j,j<n->0<=v j)->0<=cj n fun j=>x j*v j
 |0,_,_=>Rat.le_refl
 |n+1,hx,hv=>by
  have h1:=JX (n:=n) (fun j hj=>hx j aa) (fun j hj=>hv j aa)
  have h2:=Rat.mul_nonneg (hx n aa) (hv n aa)
  simp only[cj];grind
theorem LS {x v:Nat->Rat}:∀{n:Nat},(∀j,j<n->0<=x j)->(∀j,j<n->0<v j)->0<cj n x->0<cj n fun j=>x j*v j
 |0,_,_,h=>absurd h (by simp only[cj];decide)
 |n+1,hx,hv,h=>by
  have h2:=Rat.mul_nonneg (hx n aa) (Rat.le_of_lt (hv n aa))
  by_cases h3:0<cj n x
  ·have h1:=LS (n:=n) (fun j hj=>hx j aa) (fun j hj=>hv j aa) h3
   simp only[cj];grind
  ·have h1:=JX (n:=n) (x:=x) (v:=v) (fun j hj=>hx j aa) (fun j hj=>Rat.le_of_lt (hv j aa))
   simp only[cj]at h
   have h4:=Rat.mul_pos (a:=x n) (b:=v n) (by grind) (hv n aa)
   simp only[cj];grind
end Go.Am.B
